-- Written by a program of this session (wip/hp) out of the translation of seat Ytebbnjgaikppgaa.
import Derived.Test.YtebbnjgaikppgaaPAx0
import Derived.Test.YtebbnjgaikppgaaPAx16
import Derived.Test.YtebbnjgaikppgaaPAx18
namespace Go.Proofs.Ytebbnjgaikppgaa.PA
open Go.RowKit Go.Proofs.YtebbnjgaikppgaaW.PrintWords Go.Proofs.YtebbnjgaikppgaaW.PrintLast Go.Proofs.YtebbnjgaikppgaaW.PrintMore
attribute [local go_sem] max2_int min2_int max_two min_two max_three min_three max_four min_four   -- for this text's walks alone
attribute [local go_sem high] Flt.fold_eq Flt.fold_ne Flt.fold_lt Flt.fold_gt Flt.fold_le Flt.fold_ge Flt.run_bits Flt.run_frombits
set_option linter.unusedVariables false
set_option linter.unusedSimpArgs false

/-! ### hornbeamlaw18_NodeOne: function 11 -/
mutual
def hornbeamlaw18_NodeOne.j0 : Nat → List (S75) → Bool → Option (Bool)
  | 0, _, _ => none
  | k + 1, x0, x18 => if x18 = true then ((hornbeamlaw18_fixed.f k).bind fun t418 => (some t418)) else (if 0 ≤ (x0.length : Int) then (if ((x0.length : Int) : Int).toNat ≤ 35184372088832 then (hornbeamlaw18_NodeOne.l0 k x0 (List.replicate ((x0.length : Int) : Int).toNat 0) x0 (x0.length : Int) 0) else (none)) else (none))
def hornbeamlaw18_NodeOne.l0 : Nat → List (S75) → List Int → List (S75) → Int → Int → Option (Bool)
  | 0, _, _, _, _, _ => none
  | k + 1, x0, x5, x23, x24, x25 => if x25 < x24 then (if 0 ≤ x25 then (if x25 < (x23.length : Int) then (if ((rd_T75 x23 x25).f0) < 0 then (hornbeamlaw18_NodeOne.l0 k x0 x5 x23 x24 (wrap64 (x25 + 1))) else (if ((rd_T75 x23 x25).f2) ≤ x25 then (some false) else (if (wrap64 (((rd_T75 x23 x25).f2) + 1)) ≥ (x0.length : Int) then (some false) else (if 0 ≤ ((rd_T75 x23 x25).f2) then (if ((rd_T75 x23 x25).f2) < (x5.length : Int) then ((some (x5.set (((rd_T75 x23 x25).f2) : Int).toNat (wrap64 ((rd x5 ((rd_T75 x23 x25).f2)) + 1)) : List Int)).bind fun y425 => (if 0 ≤ (wrap64 (((rd_T75 x23 x25).f2) + 1)) then (if (wrap64 (((rd_T75 x23 x25).f2) + 1)) < (x5.length : Int) then (hornbeamlaw18_NodeOne.l0 k x0 (y425.set ((wrap64 (((rd_T75 x23 x25).f2) + 1)) : Int).toNat (wrap64 ((rd y425 (wrap64 (((rd_T75 x23 x25).f2) + 1))) + 1))) x23 x24 (wrap64 (x25 + 1))) else (none)) else (none))) else (none)) else (none))))) else (none)) else (none)) else (hornbeamlaw18_NodeOne.l1 k x5 (x5.length : Int) 0)
def hornbeamlaw18_NodeOne.l1 : Nat → List Int → Int → Int → Option (Bool)
  | 0, _, _, _ => none
  | k + 1, x61, x62, x63 => if x63 < x62 then (if 0 ≤ x63 then (if x63 < (x61.length : Int) then (if x63 = 0 then (if (rd x61 x63) = 0 then (if x63 > 0 then (if (rd x61 x63) = 1 then (hornbeamlaw18_NodeOne.l1 k x61 x62 (wrap64 (x63 + 1))) else (some false)) else (hornbeamlaw18_NodeOne.l1 k x61 x62 (wrap64 (x63 + 1)))) else (some false)) else (if x63 > 0 then (if (rd x61 x63) = 1 then (hornbeamlaw18_NodeOne.l1 k x61 x62 (wrap64 (x63 + 1))) else (some false)) else (hornbeamlaw18_NodeOne.l1 k x61 x62 (wrap64 (x63 + 1))))) else (none)) else (none)) else ((hornbeamlaw18_fixed.f k).bind fun t429 => (some t429))
end
def hornbeamlaw18_NodeOne.f (k : Nat) (l0 : List (S75)) (a1_0 : Int) (a1_1 : Int) (a1_2 : Int) (a1_3 : Int) : Option (Bool) := if (l0.length : Int) > 150 then (hornbeamlaw18_NodeOne.j0 k l0 true) else ((node_Right.f k l0 a1_0 a1_1 a1_2 a1_3).bind fun t417 => (hornbeamlaw18_NodeOne.j0 k l0 (!t417)))
theorem hornbeamlaw18_NodeOne.mono_l : ∀ k, (∀ y0 y1, LeO (hornbeamlaw18_NodeOne.j0 k y0 y1) (hornbeamlaw18_NodeOne.j0 (k + 1) y0 y1)) ∧ (∀ y0 y1 y2 y3 y4, LeO (hornbeamlaw18_NodeOne.l0 k y0 y1 y2 y3 y4) (hornbeamlaw18_NodeOne.l0 (k + 1) y0 y1 y2 y3 y4)) ∧ (∀ y0 y1 y2, LeO (hornbeamlaw18_NodeOne.l1 k y0 y1 y2) (hornbeamlaw18_NodeOne.l1 (k + 1) y0 y1 y2))
  | 0 => ⟨fun _ _ r h => by simp [hornbeamlaw18_NodeOne.j0] at h, fun _ _ _ _ _ r h => by simp [hornbeamlaw18_NodeOne.l0] at h, fun _ _ _ r h => by simp [hornbeamlaw18_NodeOne.l1] at h⟩
  | k + 1 => by
    obtain ⟨ih0, ih1, ih2⟩ := hornbeamlaw18_NodeOne.mono_l k
    refine ⟨?_, ?_, ?_⟩
    · intro y0 y1
      unfold hornbeamlaw18_NodeOne.j0
      repeat' first
      | (with_reducible exact ih0 _ _)
      | (with_reducible exact ih1 _ _ _ _ _)
      | (with_reducible exact ih2 _ _ _)
      | (with_reducible exact hornbeamlaw18_fixed.mono _)
      | (with_reducible exact node_Right.mono _ _ _ _ _ _)
      | (with_reducible exact LeO.refl _)
      | (with_reducible exact LeO.none _)
      | (with_reducible refine LeO.ite ?_ ?_)
      | (with_reducible refine LeO.bind ?_ (fun _ => ?_))
      | exact ih0 _ _
      | exact ih1 _ _ _ _ _
      | exact ih2 _ _ _
      | exact hornbeamlaw18_fixed.mono _
      | exact node_Right.mono _ _ _ _ _ _
      | exact LeO.none _
      | refine LeO.ite ?_ ?_
      | refine LeO.bind ?_ (fun _ => ?_)
    · intro y0 y1 y2 y3 y4
      unfold hornbeamlaw18_NodeOne.l0
      repeat' first
      | (with_reducible exact ih0 _ _)
      | (with_reducible exact ih1 _ _ _ _ _)
      | (with_reducible exact ih2 _ _ _)
      | (with_reducible exact hornbeamlaw18_fixed.mono _)
      | (with_reducible exact node_Right.mono _ _ _ _ _ _)
      | (with_reducible exact LeO.refl _)
      | (with_reducible exact LeO.none _)
      | (with_reducible refine LeO.ite ?_ ?_)
      | (with_reducible refine LeO.bind ?_ (fun _ => ?_))
      | exact ih0 _ _
      | exact ih1 _ _ _ _ _
      | exact ih2 _ _ _
      | exact hornbeamlaw18_fixed.mono _
      | exact node_Right.mono _ _ _ _ _ _
      | exact LeO.none _
      | refine LeO.ite ?_ ?_
      | refine LeO.bind ?_ (fun _ => ?_)
    · intro y0 y1 y2
      unfold hornbeamlaw18_NodeOne.l1
      repeat' first
      | (with_reducible exact ih0 _ _)
      | (with_reducible exact ih1 _ _ _ _ _)
      | (with_reducible exact ih2 _ _ _)
      | (with_reducible exact hornbeamlaw18_fixed.mono _)
      | (with_reducible exact node_Right.mono _ _ _ _ _ _)
      | (with_reducible exact LeO.refl _)
      | (with_reducible exact LeO.none _)
      | (with_reducible refine LeO.ite ?_ ?_)
      | (with_reducible refine LeO.bind ?_ (fun _ => ?_))
      | exact ih0 _ _
      | exact ih1 _ _ _ _ _
      | exact ih2 _ _ _
      | exact hornbeamlaw18_fixed.mono _
      | exact node_Right.mono _ _ _ _ _ _
      | exact LeO.none _
      | refine LeO.ite ?_ ?_
      | refine LeO.bind ?_ (fun _ => ?_)
theorem hornbeamlaw18_NodeOne.mono : ∀ a0 a1 a2 a3 a4 k, LeO (hornbeamlaw18_NodeOne.f k a0 a1 a2 a3 a4) (hornbeamlaw18_NodeOne.f (k + 1) a0 a1 a2 a3 a4) := by
  intro a0 a1 a2 a3 a4 k
  obtain ⟨ih0, ih1, ih2⟩ := hornbeamlaw18_NodeOne.mono_l k
  unfold hornbeamlaw18_NodeOne.f
  repeat' first
      | (with_reducible exact ih0 _ _)
      | (with_reducible exact ih1 _ _ _ _ _)
      | (with_reducible exact ih2 _ _ _)
      | (with_reducible exact hornbeamlaw18_fixed.mono _)
      | (with_reducible exact node_Right.mono _ _ _ _ _ _)
      | (with_reducible exact LeO.refl _)
      | (with_reducible exact LeO.none _)
      | (with_reducible refine LeO.ite ?_ ?_)
      | (with_reducible refine LeO.bind ?_ (fun _ => ?_))
      | exact ih0 _ _
      | exact ih1 _ _ _ _ _
      | exact ih2 _ _ _
      | exact hornbeamlaw18_fixed.mono _
      | exact node_Right.mono _ _ _ _ _ _
      | exact LeO.none _
      | refine LeO.ite ?_ ?_
      | refine LeO.bind ?_ (fun _ => ?_)
set_option maxHeartbeats 8000000 in
set_option maxRecDepth 100000 in
theorem hornbeamlaw18_NodeOne.calls (k : Nat) (A0 : Option Addr) (c0 : Nat) (l0 : List (S75)) (a1_0 : Int) (a1_1 : Int) (a1_2 : Int) (a1_3 : Int) (r : Bool) (w : World) (hr0 : Kd.C k75 w A0 l0.length l0) (hc0 : l0.length ≤ c0) (h : hornbeamlaw18_NodeOne.f k l0 a1_0 a1_1 a1_2 a1_3 = some r) :
    Calls Try.prog 11 #[.slice A0 l0.length c0, .agg #[.int .i64 a1_0, .int .i64 a1_1, .int .i64 a1_2, .int .i64 a1_3]] w fun e w' => e = .returned (.bool r) ∧ Below w.heap.size w w' := by
  have hu72 := Try.underlying72
  have hu75 := Try.underlying75
  have HR0 := Aside0.mk hr0
  have HC0 := Aside0.mk hc0
  clear hr0 hc0
  have HB := Aside0.mk (Below.refl w.heap.size w)
  have H : (if (l0.length : Int) > 150 then (hornbeamlaw18_NodeOne.j0 k l0 true) else ((node_Right.f k l0 a1_0 a1_1 a1_2 a1_3).bind fun t417 => (hornbeamlaw18_NodeOne.j0 k l0 (!t417)))) = some r := h
  clear h
  have HC3 := Aside0.mk H
  clear H
  go_enter Try.func11, Try.ntmps11
  go_upto_region 1 with (first | ((with_reducible refine gate_dst (N := 3) rfl ?_); (try (refine gate_guard (by rfl) ?_; dsimp only)); refine box_event ?hg (N := 3) ?hd (cs := #[.int .i64 a1_0, .int .i64 a1_1, .int .i64 a1_2, .int .i64 a1_3]) (t := 72) ?hr ?_; (case hd => rfl); (case hg => rfl); (case hr => first | (go_simp; done) | (go_simp; rfl)); intro gb416 hg w4 hbox hb; have n0_ := Aside0.mk (below_step (by repeat (first | (with_reducible first | exact HB.out | apply below_alloc | apply pw_below_drewN | apply below_drew1) | exact HB.out)) hb); have n1_ := Aside0.mk (hbox); have n2_ := Aside0.mk ((by rw [hg]; exact (below_size (by repeat (first | (with_reducible first | exact HB.out | apply below_alloc | apply pw_below_drewN | apply below_drew1) | exact HB.out))) : w.heap.size ≤ gb416)); have n3_ := Aside0.mk ((by rw [hg]; exact (below_size (by repeat (first | (with_reducible first | exact HB.out | apply below_alloc | apply pw_below_drewN | apply below_drew1) | exact HB.out))) : w.heap.size ≤ gb416)); clear HB; have HB := n0_; have BK416 := n1_; have GW416 := n2_; have GE416 := n3_; clear n0_ n1_ n2_ n3_; clear hb hbox hg))
  (try simp only [Act.put, List.setIfInBounds_toArray, List.set_cons_zero, List.set_cons_succ])
  go_cut [18] (fun v18 wc => ∃ (kq : Nat) (x18_2 : Bool), v18 = .bool x18_2 ∧ Aside0 (hornbeamlaw18_NodeOne.j0 kq l0 x18_2 = some r) ∧ Aside0 (kq ≤ k) ∧ Aside0 (wc.heap[gb416]? = some (.cells #[.int .i64 a1_0, .int .i64 a1_1, .int .i64 a1_2, .int .i64 a1_3] 72 (0, 0))) ∧ Aside0 (Below w.heap.size w wc))
  case first =>
    have H := HC3.out
    clear HC3
    by_cases c5 : (l0.length : Int) > 150
    · rw [if_pos c5] at H
      have c5b0 : decide (150 < (l0.length : Int)) = true := decide_eq_true c5
      have c5b1 : decide (150 < l0.length) = true := decide_eq_true (by omega)
      clear c5
      (first | rw [c5b0] | (simp only [i64_w, i32_w]; rw [c5b0]) | skip)
      have H' := Aside0.mk H
      clear H
      go_wp2
      go_meet
      case rel => exact ⟨_, (true), (by first | rfl | (simp; done) | (simp [*]; done)), H', ⟨by first | omega | exact Nat.le_refl _⟩, ⟨by (with_reducible repeat (first | refine blk_drewN ?_ _ | refine blk_drew ?_ | refine blk_alloc ?_ _)); exact BK416.out⟩, ⟨by repeat (first | (with_reducible first | exact HB.out | apply below_alloc | apply pw_below_drewN | apply below_drew1 | refine below_set ?_ GE416.out) | exact HB.out)⟩⟩
    · rw [if_neg c5] at H
      have c5b0 : decide (150 < (l0.length : Int)) = false := decide_eq_false c5
      have c5b1 : decide (150 < l0.length) = false := decide_eq_false (by omega)
      clear c5
      (first | rw [c5b0] | (simp only [i64_w, i32_w]; rw [c5b0]) | skip)
      replace H := Option.bind_eq_some_iff.mp H
      obtain ⟨t417, A60, H⟩ := H
      replace H : (hornbeamlaw18_NodeOne.j0 k l0 (!t417)) = some r := H
      have A6 := Aside0.mk A60
      clear A60
      have H' := Aside0.mk H
      clear H
      have hcz7_0 : w4.cell? ⟨gb416, 0, none⟩ = some (.int .i64 a1_0) := (blk_cell BK416.out 0).trans rfl
      have hcz7_1 : w4.cell? ⟨gb416, 1, none⟩ = some (.int .i64 a1_1) := (blk_cell BK416.out 1).trans rfl
      have hcz7_2 : w4.cell? ⟨gb416, 2, none⟩ = some (.int .i64 a1_2) := (blk_cell BK416.out 2).trans rfl
      have hcz7_3 : w4.cell? ⟨gb416, 3, none⟩ = some (.int .i64 a1_3) := (blk_cell BK416.out 3).trans rfl
      have hfz7_0 := blk_frozen BK416.out 0
      have hfz7_1 := blk_frozen BK416.out 1
      have hfz7_2 := blk_frozen BK416.out 2
      have hfz7_3 := blk_frozen BK416.out 3
      go_wp2_with (first | (go_at_call 41; (with_reducible refine (node_Right.calls k _ _ l0 a1_0 a1_1 a1_2 a1_3 t417 _ ?side1 ?side2 A6.out).mono ?_); (case side1 => repeat (first | exact (Kd.C_below HR0.out HB.out) | (with_reducible refine Kd.C_alloc ?_ _) | (with_reducible refine Kd.C_drewN ?_ _) | (with_reducible refine Kd.C_drew ?_))); (case side2 => exact HC0.out); rintro e w8 ⟨rfl, hb⟩; have n0_ := Aside0.mk (blk_below (g := gb416) (o := .cells #[.int .i64 a1_0, .int .i64 a1_1, .int .i64 a1_2, .int .i64 a1_3] 72 (0, 0)) (by (with_reducible repeat (first | refine blk_drewN ?_ _ | refine blk_drew ?_ | refine blk_alloc ?_ _)); exact BK416.out) hb); have n1_ := Aside0.mk (below_step (by repeat (first | (with_reducible first | exact HB.out | apply below_alloc | apply pw_below_drewN | apply below_drew1 | refine below_set ?_ GE416.out) | exact HB.out)) hb); clear BK416; clear HB; have BK416 := n0_; have HB := n1_; clear n0_ n1_; (try clear hb); (try clear hb2); (try clear hk); (try clear hi)))
      go_meet
      case rel => exact ⟨_, (!t417), (by first | rfl | (simp; done) | (simp [*]; done)), H', ⟨by first | omega | exact Nat.le_refl _⟩, ⟨by (with_reducible repeat (first | refine blk_drewN ?_ _ | refine blk_drew ?_ | refine blk_alloc ?_ _)); exact BK416.out⟩, ⟨by repeat (first | (with_reducible first | exact HB.out | apply below_alloc | apply pw_below_drewN | apply below_drew1 | refine below_set ?_ GE416.out) | exact HB.out)⟩⟩
  case rest =>
    clear HC3
    try clear c1
    try clear p2
    try clear c5
    try clear c5b0
    try clear c5b1
    try clear hcz7_0
    try clear hcz7_1
    try clear hcz7_2
    try clear hcz7_3
    try clear hfz7_0
    try clear hfz7_1
    try clear hfz7_2
    try clear hfz7_3
    obtain ⟨kq, x18_2, rfl, HA, HJ2, BK416, HB⟩ := hcut
    cases kq with
    | zero => exact absurd HA.out (by simp [hornbeamlaw18_NodeOne.j0])
    | succ kj2 =>
      have H := HA.out
      clear HA
      simp only [hornbeamlaw18_NodeOne.j0] at H
      by_cases c9 : x18_2 = true
      · subst c9
        have H1 : ((hornbeamlaw18_fixed.f kj2).bind fun t418 => (some t418)) = some r := by rw [if_pos rfl] at H; exact H
        clear H
        have H := H1
        clear H1
        replace H := Option.bind_eq_some_iff.mp H
        obtain ⟨t418, A100, H⟩ := H
        replace H : (some t418) = some r := H
        have A10 := Aside0.mk A100
        clear A100
        obtain rfl := Option.some.inj H
        go_wp2_with (first | ((with_reducible refine gate_callee (f := 42) rfl ?_); refine goesL_ (some 19) rfl rfl Try.func42 (by kernel_rfl) rfl #[] rfl (by (try simp only [List.map_toArray, List.map_cons, List.map_nil]); first | done | rfl | (simp only [List.length_drop, List.length_take]; rfl)) ?_; (with_reducible refine (hornbeamlaw18_fixed.calls kj2  t418 _ A10.out).mono ?_); rintro e w11 ⟨rfl, hb⟩; refine ⟨_, rfl, ?_⟩; have n0_ := Aside0.mk (blk_below (g := gb416) (o := .cells #[.int .i64 a1_0, .int .i64 a1_1, .int .i64 a1_2, .int .i64 a1_3] 72 (0, 0)) (by (with_reducible repeat (first | refine blk_drewN ?_ _ | refine blk_drew ?_ | refine blk_alloc ?_ _)); exact BK416.out) hb); have n1_ := Aside0.mk (below_step (by repeat (first | (with_reducible first | exact HB.out | apply below_alloc | apply pw_below_drewN | apply below_drew1 | refine below_set ?_ GE416.out) | exact HB.out)) hb); clear BK416; clear HB; have BK416 := n0_; have HB := n1_; clear n0_ n1_; (try clear hb); (try clear hb2); (try clear hk); (try clear hi)))
        go_ret
        exact ⟨by first | rfl | (simp [errW_none, errW_some] <;> rfl) | (simp [*, errW_none, errW_some] <;> rfl), by repeat (first | (with_reducible first | exact HB.out | apply below_alloc | apply pw_below_drewN | apply below_drew1 | refine below_set ?_ GE416.out) | exact HB.out)⟩
      · replace c9 := Bool.eq_false_iff.mpr c9
        subst c9
        have H1 : (if 0 ≤ (l0.length : Int) then (if ((l0.length : Int) : Int).toNat ≤ 35184372088832 then (hornbeamlaw18_NodeOne.l0 kj2 l0 (List.replicate ((l0.length : Int) : Int).toNat 0) l0 (l0.length : Int) 0) else (none)) else (none)) = some r := by rw [if_neg (show ¬ (false = true) by decide)] at H; exact H
        clear H
        have H := H1
        clear H1
        by_cases c12 : 0 ≤ (l0.length : Int)
        · rw [if_pos c12] at H
          have c12b0 := eq_true c12
          have c12b1 : decide (0 ≤ (l0.length : Int)) = true := decide_eq_true c12
          clear c12
          by_cases c13 : ((l0.length : Int) : Int).toNat ≤ 35184372088832
          · rw [if_pos c13] at H
            have c13b0 := eq_true c13
            have c13b1 : decide (((l0.length : Int) : Int).toNat ≤ 35184372088832) = true := decide_eq_true c13
            clear c13
            obtain ⟨y419, hy419⟩ : ∃ y_ : List Int, y_ = (List.replicate ((l0.length : Int) : Int).toNat 0) := ⟨_, rfl⟩
            replace H : (hornbeamlaw18_NodeOne.l0 kj2 l0 y419 l0 (l0.length : Int) 0) = some r := by first | (rw [hy419]; with_reducible exact H) | (have H2_ := (Option.bind_some _ _).symm.trans H; rw [hy419]; with_reducible exact H2_) | (have H2_ := (Option.bind_some _ _).symm.trans H; with_reducible exact H2_) | with_reducible exact H | (rw [hy419]; exact H) | exact H
            have Ny419 := Aside0.mk hy419
            clear hy419
            have H' := Aside0.mk H
            clear H
            go_wp2_with (first | ((with_reducible refine gate_dst (N := 22) rfl ?_); (try (refine gate_guard (by rfl) ?_; dsimp only)); refine Kd.R_make (Kd.int .i64) _ 3 rfl (N := 22) rfl 26 _ _ rfl (l0.length : Int) rfl rfl Try.underlying26 (.int .i64 0) 8 info3 rfl (by decide) (by omega) 0 (ok := fun _ => True) (okp := fun _ => True) rfl (fun _ hk => hk) trivial (of_decide_eq_true (by first | (with_reducible assumption) | assumption)) (Nat.le_trans (Nat.mul_le_mul_right _ (of_decide_eq_true (by first | (with_reducible assumption) | assumption) : (l0.length : Int).toNat ≤ 35184372088832)) (by omega)) (Below.refl _ _) (Nat.le_refl _) ?_; intro v420 w14 ho15 hb hg_ hnew_; clear hg_ hnew_; (first | rw [← Ny419.out] at ho15 | (simp only [Int.reduceToNat] at ho15; rw [← Ny419.out] at ho15)); have n0_ := Aside0.mk (Kd.R_lower ho15 (below_size (by repeat (first | (with_reducible first | exact HB.out | apply below_alloc | apply pw_below_drewN | apply below_drew1 | refine below_set ?_ GE416.out) | exact HB.out)))); have n1_ := Aside0.mk (blk_below (g := gb416) (o := .cells #[.int .i64 a1_0, .int .i64 a1_1, .int .i64 a1_2, .int .i64 a1_3] 72 (0, 0)) (by (with_reducible repeat (first | refine blk_drewN ?_ _ | refine blk_drew ?_ | refine blk_alloc ?_ _)); exact BK416.out) hb); have n2_ := Aside0.mk (below_step (by repeat (first | (with_reducible first | exact HB.out | apply below_alloc | apply pw_below_drewN | apply below_drew1 | refine below_set ?_ GE416.out) | exact HB.out)) hb); clear BK416; clear HB; have HO421 := n0_; have BK416 := n1_; have HB := n2_; clear n0_ n1_ n2_; clear hb ho15))
            go_loopg [25] kj2 (fun kq v25 w' => ∃ (x5_2 : List Int) (x25_2 : Int), v25 = .int .i64 x25_2 ∧ Aside0 (hornbeamlaw18_NodeOne.l0 kq l0 x5_2 l0 (l0.length : Int) x25_2 = some r) ∧ Aside0 (kq ≤ kj2) ∧ Aside0 (Kd.R (Kd.int .i64) 3 w' w.heap.size (fun _ => True) v420 x5_2) ∧ Aside0 (w'.heap[gb416]? = some (.cells #[.int .i64 a1_0, .int .i64 a1_1, .int .i64 a1_2, .int .i64 a1_3] 72 (0, 0))) ∧ Aside0 (Below w.heap.size w w'))
            case atStart => exact ⟨(y419), (0), (by first | rfl | (simp; done) | (simp [*]; done)), H', ⟨Nat.le_refl _⟩, ⟨by (with_reducible repeat (first | apply Kd.R_alloc | apply Kd.R_drewN | apply Kd.R_drew)); exact HO421.out⟩, ⟨by (with_reducible repeat (first | refine blk_drewN ?_ _ | refine blk_drew ?_ | refine blk_alloc ?_ _)); exact BK416.out⟩, ⟨by repeat (first | (with_reducible first | exact HB.out | apply below_alloc | apply pw_below_drewN | apply below_drew1 | refine below_set ?_ GE416.out) | exact HB.out)⟩⟩
            case round =>
              clear H'
              try clear c1
              try clear p2
              try clear c4
              try clear c5
              try clear c5b0
              try clear c5b1
              try clear c9
              try clear c11
              try clear c12
              try clear c12b0
              try clear c12b1
              try clear c13
              try clear c13b0
              try clear c13b1
              try clear hcz7_0
              try clear hcz7_1
              try clear hcz7_2
              try clear hcz7_3
              try clear hfz7_0
              try clear hfz7_1
              try clear hfz7_2
              try clear hfz7_3
              try clear p2
              obtain ⟨x5_2, x25_2, rfl, HA, HK2, HO_5, BK416, HB⟩ := hrel
              cases gk with
              | zero => exact absurd HA.out (by simp [hornbeamlaw18_NodeOne.l0])
              | succ k2 =>
                have H := HA.out
                clear HA
                simp only [hornbeamlaw18_NodeOne.l0] at H
                by_cases c16 : x25_2 < (l0.length : Int)
                · rw [if_pos c16] at H
                  have c16b0 : decide (x25_2 < (l0.length : Int)) = true := decide_eq_true c16
                  clear c16
                  by_cases c17 : 0 ≤ x25_2
                  · rw [if_pos c17] at H
                    have c17b0 : decide (0 ≤ x25_2) = true := decide_eq_true c17
                    clear c17
                    by_cases c18 : x25_2 < (l0.length : Int)
                    · rw [if_pos c18] at H
                      have c18b0 : decide (x25_2 < (l0.length : Int)) = true := decide_eq_true c18
                      clear c18
                      by_cases c19 : ((rd_T75 l0 x25_2).f0) < 0
                      · rw [if_pos c19] at H
                        have c19b0 : decide (((rd_T75 l0 x25_2).f0) < 0) = true := decide_eq_true c19
                        clear c19
                        have H' := Aside0.mk H
                        clear H
                        have p422 : 0 ≤ (x25_2 : Int) := of_decide_eq_true (by first | (with_reducible assumption) | assumption)
                        have q422 : x25_2 < (l0.length : Int) := of_decide_eq_true (by first | (with_reducible assumption) | assumption)
                        obtain ⟨ad422, e422, hx422_0, hx422_1, hx422_2, hx422_3, hx422_4, hx422_5⟩ := at_T75 HR0.out x25_2 p422 q422
                        cases e422
                        replace hx422_0 := (HB.out.cell (World.block_lt_of_cell? w _ hx422_0)).trans hx422_0
                        replace hx422_1 := (HB.out.cell (World.block_lt_of_cell? w _ hx422_1)).trans hx422_1
                        replace hx422_2 := (HB.out.cell (World.block_lt_of_cell? w _ hx422_2)).trans hx422_2
                        replace hx422_3 := (HB.out.cell (World.block_lt_of_cell? w _ hx422_3)).trans hx422_3
                        replace hx422_4 := (HB.out.cell (World.block_lt_of_cell? w _ hx422_4)).trans hx422_4
                        replace hx422_5 := (HB.out.cell (World.block_lt_of_cell? w _ hx422_5)).trans hx422_5
                        replace p422 := eq_true p422
                        replace q422 := eq_true q422
                        go_wp2_with (first | ((with_reducible refine gate_dst (N := 7) rfl ?_); (try (refine gate_guard (by rfl) ?_; dsimp only)); refine box_event ?hg (N := 7) ?hd (cs := #[.int .i64 0, .int .i64 0, .int .i64 0, .int .i64 0, .int .i64 0, .int .i64 0]) (t := 75) ?hr ?_; (case hd => rfl); (case hg => rfl); (case hr => first | (go_simp; done) | (go_simp; rfl)); intro gb423 hg w20 hbox hb; have n0_ := Aside0.mk (Kd.R_below (by (with_reducible repeat (first | apply Kd.R_alloc | apply Kd.R_drewN | apply Kd.R_drew)); exact HO_5.out) hb); have n1_ := Aside0.mk (blk_below (g := gb416) (o := .cells #[.int .i64 a1_0, .int .i64 a1_1, .int .i64 a1_2, .int .i64 a1_3] 72 (0, 0)) (by (with_reducible repeat (first | refine blk_drewN ?_ _ | refine blk_drew ?_ | refine blk_alloc ?_ _)); exact BK416.out) hb); have n2_ := Aside0.mk (below_step (by repeat (first | (with_reducible first | exact HB.out | apply below_alloc | apply pw_below_drewN | apply below_drew1 | refine below_set ?_ GE416.out) | exact HB.out)) hb); have n3_ := Aside0.mk (hbox); have n4_ := Aside0.mk ((by rw [hg]; exact (below_size (by repeat (first | (with_reducible first | exact HB.out | apply below_alloc | apply pw_below_drewN | apply below_drew1 | refine below_set ?_ GE416.out) | exact HB.out))) : w.heap.size ≤ gb423)); have n5_ := Aside0.mk ((by rw [hg]; exact (below_size (by repeat (first | (with_reducible first | exact HB.out | apply below_alloc | apply pw_below_drewN | apply below_drew1 | refine below_set ?_ GE416.out) | exact HB.out))) : w.heap.size ≤ gb423)); have n6_ := Aside0.mk ((by rw [hg]; exact Nat.ne_of_lt (blk_lt (g := gb416) (o := .cells #[.int .i64 a1_0, .int .i64 a1_1, .int .i64 a1_2, .int .i64 a1_3] 72 (0, 0)) (by (with_reducible repeat (first | refine blk_drewN ?_ _ | refine blk_drew ?_ | refine blk_alloc ?_ _)); exact BK416.out)) : gb416 ≠ gb423)); have n7_ := Aside0.mk ((by rw [hg]; exact Nat.ne_of_gt (blk_lt (g := gb416) (o := .cells #[.int .i64 a1_0, .int .i64 a1_1, .int .i64 a1_2, .int .i64 a1_3] 72 (0, 0)) (by (with_reducible repeat (first | refine blk_drewN ?_ _ | refine blk_drew ?_ | refine blk_alloc ?_ _)); exact BK416.out)) : gb423 ≠ gb416)); clear HO_5; clear BK416; clear HB; have HO_5 := n0_; have BK416 := n1_; have HB := n2_; have BK423 := n3_; have GW423 := n4_; have GE423 := n5_; have NB416_423 := n6_; have NB423_416 := n7_; clear n0_ n1_ n2_ n3_ n4_ n5_ n6_ n7_; clear hb hbox hg; have hnb21 := NB423_416.out; have hnc21 := NB416_423.out; have hcz22_0 : w20.cell? ⟨gb423, 0, none⟩ = some (.int .i64 0) := (blk_cell BK423.out 0).trans rfl; have hcz22_1 : w20.cell? ⟨gb423, 1, none⟩ = some (.int .i64 0) := (blk_cell BK423.out 1).trans rfl; have hcz22_2 : w20.cell? ⟨gb423, 2, none⟩ = some (.int .i64 0) := (blk_cell BK423.out 2).trans rfl; have hcz22_3 : w20.cell? ⟨gb423, 3, none⟩ = some (.int .i64 0) := (blk_cell BK423.out 3).trans rfl; have hcz22_4 : w20.cell? ⟨gb423, 4, none⟩ = some (.int .i64 0) := (blk_cell BK423.out 4).trans rfl; have hcz22_5 : w20.cell? ⟨gb423, 5, none⟩ = some (.int .i64 0) := (blk_cell BK423.out 5).trans rfl; have hfz22_0 := blk_frozen BK423.out 0; have hfz22_1 := blk_frozen BK423.out 1; have hfz22_2 := blk_frozen BK423.out 2; have hfz22_3 := blk_frozen BK423.out 3; have hfz22_4 := blk_frozen BK423.out 4; have hfz22_5 := blk_frozen BK423.out 5))
                        go_roundg k2
                        case measure => have := HJ2.out; have := HK2.out; omega
                        case rel => exact ⟨(x5_2), (wrap64 (x25_2 + 1)), (by first | rfl | (simp; done) | (simp [*]; done)), H', ⟨by have := HJ2.out; have := HK2.out; omega⟩, ⟨by (with_reducible repeat (first | apply Kd.R_alloc | apply Kd.R_drewN | apply Kd.R_drew)); exact Kd.R_mono (Kd.R_far (p := ⟨gb423, 5, none⟩) (Kd.R_far (p := ⟨gb423, 4, none⟩) (Kd.R_far (p := ⟨gb423, 3, none⟩) (Kd.R_far (p := ⟨gb423, 2, none⟩) (Kd.R_far (p := ⟨gb423, 1, none⟩) (Kd.R_far (p := ⟨gb423, 0, none⟩) (Kd.R_types HO_5.out BK423.out (by decide)) (fun _ hk => hk.2) (.int .i64 ((rd_T75 l0 x25_2).f0))) (fun _ hk => hk.2) (.int .i64 ((rd_T75 l0 x25_2).f1))) (fun _ hk => hk.2) (.int .i64 ((rd_T75 l0 x25_2).f2))) (fun _ hk => hk.2) (.int .i64 ((rd_T75 l0 x25_2).f3))) (fun _ hk => hk.2) (.int .i64 ((rd_T75 l0 x25_2).f4))) (fun _ hk => hk.2) (.int .i64 ((rd_T75 l0 x25_2).f5))) (fun _ hk => trivial)⟩, ⟨by (with_reducible repeat (first | refine blk_drewN ?_ _ | refine blk_drew ?_ | refine blk_alloc ?_ _)); refine blk_far ?_ NB416_423.out _; (with_reducible repeat (first | refine blk_drewN ?_ _ | refine blk_drew ?_ | refine blk_alloc ?_ _)); refine blk_far ?_ NB416_423.out _; (with_reducible repeat (first | refine blk_drewN ?_ _ | refine blk_drew ?_ | refine blk_alloc ?_ _)); refine blk_far ?_ NB416_423.out _; (with_reducible repeat (first | refine blk_drewN ?_ _ | refine blk_drew ?_ | refine blk_alloc ?_ _)); refine blk_far ?_ NB416_423.out _; (with_reducible repeat (first | refine blk_drewN ?_ _ | refine blk_drew ?_ | refine blk_alloc ?_ _)); refine blk_far ?_ NB416_423.out _; (with_reducible repeat (first | refine blk_drewN ?_ _ | refine blk_drew ?_ | refine blk_alloc ?_ _)); refine blk_far ?_ NB416_423.out _; (with_reducible repeat (first | refine blk_drewN ?_ _ | refine blk_drew ?_ | refine blk_alloc ?_ _)); exact BK416.out⟩, ⟨by repeat (first | (with_reducible first | exact HB.out | apply below_alloc | apply pw_below_drewN | apply below_drew1 | refine below_set ?_ GE416.out | refine below_set ?_ GE423.out) | exact HB.out)⟩⟩
                      · rw [if_neg c19] at H
                        have c19b0 : decide (((rd_T75 l0 x25_2).f0) < 0) = false := decide_eq_false c19
                        clear c19
                        by_cases c23 : ((rd_T75 l0 x25_2).f2) ≤ x25_2
                        · rw [if_pos c23] at H
                          have c23b0 : decide (((rd_T75 l0 x25_2).f2) ≤ x25_2) = true := decide_eq_true c23
                          clear c23
                          obtain rfl := Option.some.inj H
                          have p422 : 0 ≤ (x25_2 : Int) := of_decide_eq_true (by first | (with_reducible assumption) | assumption)
                          have q422 : x25_2 < (l0.length : Int) := of_decide_eq_true (by first | (with_reducible assumption) | assumption)
                          obtain ⟨ad422, e422, hx422_0, hx422_1, hx422_2, hx422_3, hx422_4, hx422_5⟩ := at_T75 HR0.out x25_2 p422 q422
                          cases e422
                          replace hx422_0 := (HB.out.cell (World.block_lt_of_cell? w _ hx422_0)).trans hx422_0
                          replace hx422_1 := (HB.out.cell (World.block_lt_of_cell? w _ hx422_1)).trans hx422_1
                          replace hx422_2 := (HB.out.cell (World.block_lt_of_cell? w _ hx422_2)).trans hx422_2
                          replace hx422_3 := (HB.out.cell (World.block_lt_of_cell? w _ hx422_3)).trans hx422_3
                          replace hx422_4 := (HB.out.cell (World.block_lt_of_cell? w _ hx422_4)).trans hx422_4
                          replace hx422_5 := (HB.out.cell (World.block_lt_of_cell? w _ hx422_5)).trans hx422_5
                          replace p422 := eq_true p422
                          replace q422 := eq_true q422
                          go_wp2_with (first | ((with_reducible refine gate_dst (N := 7) rfl ?_); (try (refine gate_guard (by rfl) ?_; dsimp only)); refine box_event ?hg (N := 7) ?hd (cs := #[.int .i64 0, .int .i64 0, .int .i64 0, .int .i64 0, .int .i64 0, .int .i64 0]) (t := 75) ?hr ?_; (case hd => rfl); (case hg => rfl); (case hr => first | (go_simp; done) | (go_simp; rfl)); intro gb423 hg w24 hbox hb; have n0_ := Aside0.mk (Kd.R_below (by (with_reducible repeat (first | apply Kd.R_alloc | apply Kd.R_drewN | apply Kd.R_drew)); exact HO_5.out) hb); have n1_ := Aside0.mk (blk_below (g := gb416) (o := .cells #[.int .i64 a1_0, .int .i64 a1_1, .int .i64 a1_2, .int .i64 a1_3] 72 (0, 0)) (by (with_reducible repeat (first | refine blk_drewN ?_ _ | refine blk_drew ?_ | refine blk_alloc ?_ _)); exact BK416.out) hb); have n2_ := Aside0.mk (below_step (by repeat (first | (with_reducible first | exact HB.out | apply below_alloc | apply pw_below_drewN | apply below_drew1 | refine below_set ?_ GE416.out) | exact HB.out)) hb); have n3_ := Aside0.mk (hbox); have n4_ := Aside0.mk ((by rw [hg]; exact (below_size (by repeat (first | (with_reducible first | exact HB.out | apply below_alloc | apply pw_below_drewN | apply below_drew1 | refine below_set ?_ GE416.out) | exact HB.out))) : w.heap.size ≤ gb423)); have n5_ := Aside0.mk ((by rw [hg]; exact (below_size (by repeat (first | (with_reducible first | exact HB.out | apply below_alloc | apply pw_below_drewN | apply below_drew1 | refine below_set ?_ GE416.out) | exact HB.out))) : w.heap.size ≤ gb423)); have n6_ := Aside0.mk ((by rw [hg]; exact Nat.ne_of_lt (blk_lt (g := gb416) (o := .cells #[.int .i64 a1_0, .int .i64 a1_1, .int .i64 a1_2, .int .i64 a1_3] 72 (0, 0)) (by (with_reducible repeat (first | refine blk_drewN ?_ _ | refine blk_drew ?_ | refine blk_alloc ?_ _)); exact BK416.out)) : gb416 ≠ gb423)); have n7_ := Aside0.mk ((by rw [hg]; exact Nat.ne_of_gt (blk_lt (g := gb416) (o := .cells #[.int .i64 a1_0, .int .i64 a1_1, .int .i64 a1_2, .int .i64 a1_3] 72 (0, 0)) (by (with_reducible repeat (first | refine blk_drewN ?_ _ | refine blk_drew ?_ | refine blk_alloc ?_ _)); exact BK416.out)) : gb423 ≠ gb416)); clear HO_5; clear BK416; clear HB; have HO_5 := n0_; have BK416 := n1_; have HB := n2_; have BK423 := n3_; have GW423 := n4_; have GE423 := n5_; have NB416_423 := n6_; have NB423_416 := n7_; clear n0_ n1_ n2_ n3_ n4_ n5_ n6_ n7_; clear hb hbox hg; have hnb25 := NB423_416.out; have hnc25 := NB416_423.out; have hcz26_0 : w24.cell? ⟨gb423, 0, none⟩ = some (.int .i64 0) := (blk_cell BK423.out 0).trans rfl; have hcz26_1 : w24.cell? ⟨gb423, 1, none⟩ = some (.int .i64 0) := (blk_cell BK423.out 1).trans rfl; have hcz26_2 : w24.cell? ⟨gb423, 2, none⟩ = some (.int .i64 0) := (blk_cell BK423.out 2).trans rfl; have hcz26_3 : w24.cell? ⟨gb423, 3, none⟩ = some (.int .i64 0) := (blk_cell BK423.out 3).trans rfl; have hcz26_4 : w24.cell? ⟨gb423, 4, none⟩ = some (.int .i64 0) := (blk_cell BK423.out 4).trans rfl; have hcz26_5 : w24.cell? ⟨gb423, 5, none⟩ = some (.int .i64 0) := (blk_cell BK423.out 5).trans rfl; have hfz26_0 := blk_frozen BK423.out 0; have hfz26_1 := blk_frozen BK423.out 1; have hfz26_2 := blk_frozen BK423.out 2; have hfz26_3 := blk_frozen BK423.out 3; have hfz26_4 := blk_frozen BK423.out 4; have hfz26_5 := blk_frozen BK423.out 5))
                          go_ret
                          exact ⟨by first | rfl | (simp [errW_none, errW_some] <;> rfl) | (simp [*, errW_none, errW_some] <;> rfl), by repeat (first | (with_reducible first | exact HB.out | apply below_alloc | apply pw_below_drewN | apply below_drew1 | refine below_set ?_ GE416.out | refine below_set ?_ GE423.out) | exact HB.out)⟩
                        · rw [if_neg c23] at H
                          have c23b0 : decide (((rd_T75 l0 x25_2).f2) ≤ x25_2) = false := decide_eq_false c23
                          clear c23
                          by_cases c27 : (wrap64 (((rd_T75 l0 x25_2).f2) + 1)) ≥ (l0.length : Int)
                          · rw [if_pos c27] at H
                            have c27b0 : decide ((l0.length : Int) ≤ (wrap64 (((rd_T75 l0 x25_2).f2) + 1))) = true := decide_eq_true c27
                            clear c27
                            obtain rfl := Option.some.inj H
                            have p422 : 0 ≤ (x25_2 : Int) := of_decide_eq_true (by first | (with_reducible assumption) | assumption)
                            have q422 : x25_2 < (l0.length : Int) := of_decide_eq_true (by first | (with_reducible assumption) | assumption)
                            obtain ⟨ad422, e422, hx422_0, hx422_1, hx422_2, hx422_3, hx422_4, hx422_5⟩ := at_T75 HR0.out x25_2 p422 q422
                            cases e422
                            replace hx422_0 := (HB.out.cell (World.block_lt_of_cell? w _ hx422_0)).trans hx422_0
                            replace hx422_1 := (HB.out.cell (World.block_lt_of_cell? w _ hx422_1)).trans hx422_1
                            replace hx422_2 := (HB.out.cell (World.block_lt_of_cell? w _ hx422_2)).trans hx422_2
                            replace hx422_3 := (HB.out.cell (World.block_lt_of_cell? w _ hx422_3)).trans hx422_3
                            replace hx422_4 := (HB.out.cell (World.block_lt_of_cell? w _ hx422_4)).trans hx422_4
                            replace hx422_5 := (HB.out.cell (World.block_lt_of_cell? w _ hx422_5)).trans hx422_5
                            replace p422 := eq_true p422
                            replace q422 := eq_true q422
                            go_wp2_with (first | ((with_reducible refine gate_dst (N := 7) rfl ?_); (try (refine gate_guard (by rfl) ?_; dsimp only)); refine box_event ?hg (N := 7) ?hd (cs := #[.int .i64 0, .int .i64 0, .int .i64 0, .int .i64 0, .int .i64 0, .int .i64 0]) (t := 75) ?hr ?_; (case hd => rfl); (case hg => rfl); (case hr => first | (go_simp; done) | (go_simp; rfl)); intro gb423 hg w28 hbox hb; have n0_ := Aside0.mk (Kd.R_below (by (with_reducible repeat (first | apply Kd.R_alloc | apply Kd.R_drewN | apply Kd.R_drew)); exact HO_5.out) hb); have n1_ := Aside0.mk (blk_below (g := gb416) (o := .cells #[.int .i64 a1_0, .int .i64 a1_1, .int .i64 a1_2, .int .i64 a1_3] 72 (0, 0)) (by (with_reducible repeat (first | refine blk_drewN ?_ _ | refine blk_drew ?_ | refine blk_alloc ?_ _)); exact BK416.out) hb); have n2_ := Aside0.mk (below_step (by repeat (first | (with_reducible first | exact HB.out | apply below_alloc | apply pw_below_drewN | apply below_drew1 | refine below_set ?_ GE416.out) | exact HB.out)) hb); have n3_ := Aside0.mk (hbox); have n4_ := Aside0.mk ((by rw [hg]; exact (below_size (by repeat (first | (with_reducible first | exact HB.out | apply below_alloc | apply pw_below_drewN | apply below_drew1 | refine below_set ?_ GE416.out) | exact HB.out))) : w.heap.size ≤ gb423)); have n5_ := Aside0.mk ((by rw [hg]; exact (below_size (by repeat (first | (with_reducible first | exact HB.out | apply below_alloc | apply pw_below_drewN | apply below_drew1 | refine below_set ?_ GE416.out) | exact HB.out))) : w.heap.size ≤ gb423)); have n6_ := Aside0.mk ((by rw [hg]; exact Nat.ne_of_lt (blk_lt (g := gb416) (o := .cells #[.int .i64 a1_0, .int .i64 a1_1, .int .i64 a1_2, .int .i64 a1_3] 72 (0, 0)) (by (with_reducible repeat (first | refine blk_drewN ?_ _ | refine blk_drew ?_ | refine blk_alloc ?_ _)); exact BK416.out)) : gb416 ≠ gb423)); have n7_ := Aside0.mk ((by rw [hg]; exact Nat.ne_of_gt (blk_lt (g := gb416) (o := .cells #[.int .i64 a1_0, .int .i64 a1_1, .int .i64 a1_2, .int .i64 a1_3] 72 (0, 0)) (by (with_reducible repeat (first | refine blk_drewN ?_ _ | refine blk_drew ?_ | refine blk_alloc ?_ _)); exact BK416.out)) : gb423 ≠ gb416)); clear HO_5; clear BK416; clear HB; have HO_5 := n0_; have BK416 := n1_; have HB := n2_; have BK423 := n3_; have GW423 := n4_; have GE423 := n5_; have NB416_423 := n6_; have NB423_416 := n7_; clear n0_ n1_ n2_ n3_ n4_ n5_ n6_ n7_; clear hb hbox hg; have hnb29 := NB423_416.out; have hnc29 := NB416_423.out; have hcz30_0 : w28.cell? ⟨gb423, 0, none⟩ = some (.int .i64 0) := (blk_cell BK423.out 0).trans rfl; have hcz30_1 : w28.cell? ⟨gb423, 1, none⟩ = some (.int .i64 0) := (blk_cell BK423.out 1).trans rfl; have hcz30_2 : w28.cell? ⟨gb423, 2, none⟩ = some (.int .i64 0) := (blk_cell BK423.out 2).trans rfl; have hcz30_3 : w28.cell? ⟨gb423, 3, none⟩ = some (.int .i64 0) := (blk_cell BK423.out 3).trans rfl; have hcz30_4 : w28.cell? ⟨gb423, 4, none⟩ = some (.int .i64 0) := (blk_cell BK423.out 4).trans rfl; have hcz30_5 : w28.cell? ⟨gb423, 5, none⟩ = some (.int .i64 0) := (blk_cell BK423.out 5).trans rfl; have hfz30_0 := blk_frozen BK423.out 0; have hfz30_1 := blk_frozen BK423.out 1; have hfz30_2 := blk_frozen BK423.out 2; have hfz30_3 := blk_frozen BK423.out 3; have hfz30_4 := blk_frozen BK423.out 4; have hfz30_5 := blk_frozen BK423.out 5))
                            go_ret
                            exact ⟨by first | rfl | (simp [errW_none, errW_some] <;> rfl) | (simp [*, errW_none, errW_some] <;> rfl), by repeat (first | (with_reducible first | exact HB.out | apply below_alloc | apply pw_below_drewN | apply below_drew1 | refine below_set ?_ GE416.out | refine below_set ?_ GE423.out) | exact HB.out)⟩
                          · rw [if_neg c27] at H
                            have c27b0 : decide ((l0.length : Int) ≤ (wrap64 (((rd_T75 l0 x25_2).f2) + 1))) = false := decide_eq_false c27
                            clear c27
                            by_cases c31 : 0 ≤ ((rd_T75 l0 x25_2).f2)
                            · rw [if_pos c31] at H
                              have c31b0 : decide (0 ≤ ((rd_T75 l0 x25_2).f2)) = true := decide_eq_true c31
                              clear c31
                              by_cases c32 : ((rd_T75 l0 x25_2).f2) < (x5_2.length : Int)
                              · rw [if_pos c32] at H
                                have c32b0 : decide (((rd_T75 l0 x25_2).f2) < (x5_2.length : Int)) = true := decide_eq_true c32
                                clear c32
                                obtain ⟨y425, hy425⟩ : ∃ y_ : List Int, y_ = (x5_2.set (((rd_T75 l0 x25_2).f2) : Int).toNat (wrap64 ((rd x5_2 ((rd_T75 l0 x25_2).f2)) + 1))) := ⟨_, rfl⟩
                                replace H : (if 0 ≤ (wrap64 (((rd_T75 l0 x25_2).f2) + 1)) then (if (wrap64 (((rd_T75 l0 x25_2).f2) + 1)) < (x5_2.length : Int) then (hornbeamlaw18_NodeOne.l0 k2 l0 (y425.set ((wrap64 (((rd_T75 l0 x25_2).f2) + 1)) : Int).toNat (wrap64 ((rd y425 (wrap64 (((rd_T75 l0 x25_2).f2) + 1))) + 1))) l0 (l0.length : Int) (wrap64 (x25_2 + 1))) else (none)) else (none)) = some r := by first | (rw [hy425]; with_reducible exact H) | (have H2_ := (Option.bind_some _ _).symm.trans H; rw [hy425]; with_reducible exact H2_) | (have H2_ := (Option.bind_some _ _).symm.trans H; with_reducible exact H2_) | with_reducible exact H | (rw [hy425]; exact H) | exact H
                                have Ny425 := Aside0.mk hy425
                                clear hy425
                                obtain ⟨ji34, hji34⟩ : ∃ j_ : Int, (wrap64 (((rd_T75 l0 x25_2).f2) + 1)) = j_ := ⟨_, rfl⟩
                                replace H : (if 0 ≤ (ji34) then (if (ji34) < (x5_2.length : Int) then (hornbeamlaw18_NodeOne.l0 k2 l0 (y425.set ((ji34) : Int).toNat (wrap64 ((rd y425 (ji34)) + 1))) l0 (l0.length : Int) (wrap64 (x25_2 + 1))) else (none)) else (none)) = some r := by first | (rw [hji34] at H; exact H) | (simp only [hji34] at H ⊢; exact H)
                                (try rw [hji34] at c27b0)
                                have hji34w : (IntKind.i64.wrap (((rd_T75 l0 x25_2).f2) + 1)) = ji34 := (i64_w _).trans hji34
                                by_cases c35 : 0 ≤ (ji34)
                                · rw [if_pos c35] at H
                                  have c35b0 : decide (0 ≤ (ji34)) = true := decide_eq_true c35
                                  clear c35
                                  by_cases c36 : (ji34) < (x5_2.length : Int)
                                  · rw [if_pos c36] at H
                                    have c36b0 : decide ((ji34) < (x5_2.length : Int)) = true := decide_eq_true c36
                                    clear c36
                                    obtain ⟨y427, hy427⟩ : ∃ y_ : List Int, y_ = (y425.set ((ji34) : Int).toNat (wrap64 ((rd y425 (ji34)) + 1))) := ⟨_, rfl⟩
                                    replace H : (hornbeamlaw18_NodeOne.l0 k2 l0 y427 l0 (l0.length : Int) (wrap64 (x25_2 + 1))) = some r := by first | (rw [hy427]; with_reducible exact H) | (have H2_ := (Option.bind_some _ _).symm.trans H; rw [hy427]; with_reducible exact H2_) | (have H2_ := (Option.bind_some _ _).symm.trans H; with_reducible exact H2_) | with_reducible exact H | (rw [hy427]; exact H) | exact H
                                    have Ny427 := Aside0.mk hy427
                                    clear hy427
                                    have H' := Aside0.mk H
                                    clear H
                                    have p422 : 0 ≤ (x25_2 : Int) := of_decide_eq_true (by first | (with_reducible assumption) | assumption)
                                    have q422 : x25_2 < (l0.length : Int) := of_decide_eq_true (by first | (with_reducible assumption) | assumption)
                                    obtain ⟨ad422, e422, hx422_0, hx422_1, hx422_2, hx422_3, hx422_4, hx422_5⟩ := at_T75 HR0.out x25_2 p422 q422
                                    cases e422
                                    replace hx422_0 := (HB.out.cell (World.block_lt_of_cell? w _ hx422_0)).trans hx422_0
                                    replace hx422_1 := (HB.out.cell (World.block_lt_of_cell? w _ hx422_1)).trans hx422_1
                                    replace hx422_2 := (HB.out.cell (World.block_lt_of_cell? w _ hx422_2)).trans hx422_2
                                    replace hx422_3 := (HB.out.cell (World.block_lt_of_cell? w _ hx422_3)).trans hx422_3
                                    replace hx422_4 := (HB.out.cell (World.block_lt_of_cell? w _ hx422_4)).trans hx422_4
                                    replace hx422_5 := (HB.out.cell (World.block_lt_of_cell? w _ hx422_5)).trans hx422_5
                                    replace p422 := eq_true p422
                                    replace q422 := eq_true q422
                                    go_wp2_with (first | ((with_reducible refine gate_dst (N := 7) rfl ?_); (try (refine gate_guard (by rfl) ?_; dsimp only)); refine box_event ?hg (N := 7) ?hd (cs := #[.int .i64 0, .int .i64 0, .int .i64 0, .int .i64 0, .int .i64 0, .int .i64 0]) (t := 75) ?hr ?_; (case hd => rfl); (case hg => rfl); (case hr => first | (go_simp; done) | (go_simp; rfl)); intro gb423 hg w38 hbox hb; have n0_ := Aside0.mk (Kd.R_below (by (with_reducible repeat (first | apply Kd.R_alloc | apply Kd.R_drewN | apply Kd.R_drew)); exact HO_5.out) hb); have n1_ := Aside0.mk (blk_below (g := gb416) (o := .cells #[.int .i64 a1_0, .int .i64 a1_1, .int .i64 a1_2, .int .i64 a1_3] 72 (0, 0)) (by (with_reducible repeat (first | refine blk_drewN ?_ _ | refine blk_drew ?_ | refine blk_alloc ?_ _)); exact BK416.out) hb); have n2_ := Aside0.mk (below_step (by repeat (first | (with_reducible first | exact HB.out | apply below_alloc | apply pw_below_drewN | apply below_drew1 | refine below_set ?_ GE416.out) | exact HB.out)) hb); have n3_ := Aside0.mk (hbox); have n4_ := Aside0.mk ((by rw [hg]; exact (below_size (by repeat (first | (with_reducible first | exact HB.out | apply below_alloc | apply pw_below_drewN | apply below_drew1 | refine below_set ?_ GE416.out) | exact HB.out))) : w.heap.size ≤ gb423)); have n5_ := Aside0.mk ((by rw [hg]; exact (below_size (by repeat (first | (with_reducible first | exact HB.out | apply below_alloc | apply pw_below_drewN | apply below_drew1 | refine below_set ?_ GE416.out) | exact HB.out))) : w.heap.size ≤ gb423)); have n6_ := Aside0.mk ((by rw [hg]; exact Nat.ne_of_lt (blk_lt (g := gb416) (o := .cells #[.int .i64 a1_0, .int .i64 a1_1, .int .i64 a1_2, .int .i64 a1_3] 72 (0, 0)) (by (with_reducible repeat (first | refine blk_drewN ?_ _ | refine blk_drew ?_ | refine blk_alloc ?_ _)); exact BK416.out)) : gb416 ≠ gb423)); have n7_ := Aside0.mk ((by rw [hg]; exact Nat.ne_of_gt (blk_lt (g := gb416) (o := .cells #[.int .i64 a1_0, .int .i64 a1_1, .int .i64 a1_2, .int .i64 a1_3] 72 (0, 0)) (by (with_reducible repeat (first | refine blk_drewN ?_ _ | refine blk_drew ?_ | refine blk_alloc ?_ _)); exact BK416.out)) : gb423 ≠ gb416)); clear HO_5; clear BK416; clear HB; have HO_5 := n0_; have BK416 := n1_; have HB := n2_; have BK423 := n3_; have GW423 := n4_; have GE423 := n5_; have NB416_423 := n6_; have NB423_416 := n7_; clear n0_ n1_ n2_ n3_ n4_ n5_ n6_ n7_; clear hb hbox hg; have hnb39 := NB423_416.out; have hnc39 := NB416_423.out; have hcz40_0 : w38.cell? ⟨gb423, 0, none⟩ = some (.int .i64 0) := (blk_cell BK423.out 0).trans rfl; have hcz40_1 : w38.cell? ⟨gb423, 1, none⟩ = some (.int .i64 0) := (blk_cell BK423.out 1).trans rfl; have hcz40_2 : w38.cell? ⟨gb423, 2, none⟩ = some (.int .i64 0) := (blk_cell BK423.out 2).trans rfl; have hcz40_3 : w38.cell? ⟨gb423, 3, none⟩ = some (.int .i64 0) := (blk_cell BK423.out 3).trans rfl; have hcz40_4 : w38.cell? ⟨gb423, 4, none⟩ = some (.int .i64 0) := (blk_cell BK423.out 4).trans rfl; have hcz40_5 : w38.cell? ⟨gb423, 5, none⟩ = some (.int .i64 0) := (blk_cell BK423.out 5).trans rfl; have hfz40_0 := blk_frozen BK423.out 0; have hfz40_1 := blk_frozen BK423.out 1; have hfz40_2 := blk_frozen BK423.out 2; have hfz40_3 := blk_frozen BK423.out 3; have hfz40_4 := blk_frozen BK423.out 4; have hfz40_5 := blk_frozen BK423.out 5) | ((with_reducible refine gate_store (t := 75) (p := 7) rfl ?_); refine store_event (t := 75) (p := 7) (v := ?vo_w41) (w1 := ((((((w38.setCell ⟨gb423, 0, none⟩ (.int .i64 ((rd_T75 l0 x25_2).f0))).setCell ⟨gb423, 1, none⟩ (.int .i64 ((rd_T75 l0 x25_2).f1))).setCell ⟨gb423, 2, none⟩ (.int .i64 ((rd_T75 l0 x25_2).f2))).setCell ⟨gb423, 3, none⟩ (.int .i64 ((rd_T75 l0 x25_2).f3))).setCell ⟨gb423, 4, none⟩ (.int .i64 ((rd_T75 l0 x25_2).f4))).setCell ⟨gb423, 5, none⟩ (.int .i64 ((rd_T75 l0 x25_2).f5)))) ?hg ?ho ?hn ?hr ?_; (case ho => rfl); (case hg => rfl); (case hn => rfl); (case hr => first | (go_simp; done) | (go_simp; rfl)); intro w41 hw; have n0_ : Aside0 (Kd.R (Kd.int .i64) 3 w41 w.heap.size (fun _ => True) v420 x5_2) := ⟨(by rw [hw]; exact (by (with_reducible repeat (first | apply Kd.R_alloc | apply Kd.R_drewN | apply Kd.R_drew)); exact Kd.R_mono (Kd.R_far (p := ⟨gb423, 5, none⟩) (Kd.R_far (p := ⟨gb423, 4, none⟩) (Kd.R_far (p := ⟨gb423, 3, none⟩) (Kd.R_far (p := ⟨gb423, 2, none⟩) (Kd.R_far (p := ⟨gb423, 1, none⟩) (Kd.R_far (p := ⟨gb423, 0, none⟩) (Kd.R_types HO_5.out BK423.out (by decide)) (fun _ hk => hk.2) (.int .i64 ((rd_T75 l0 x25_2).f0))) (fun _ hk => hk.2) (.int .i64 ((rd_T75 l0 x25_2).f1))) (fun _ hk => hk.2) (.int .i64 ((rd_T75 l0 x25_2).f2))) (fun _ hk => hk.2) (.int .i64 ((rd_T75 l0 x25_2).f3))) (fun _ hk => hk.2) (.int .i64 ((rd_T75 l0 x25_2).f4))) (fun _ hk => hk.2) (.int .i64 ((rd_T75 l0 x25_2).f5))) (fun _ hk => trivial)))⟩; have n1_ : Aside0 (w41.heap[gb416]? = some (.cells #[.int .i64 a1_0, .int .i64 a1_1, .int .i64 a1_2, .int .i64 a1_3] 72 (0, 0))) := ⟨(by rw [hw]; exact (by (with_reducible repeat (first | refine blk_drewN ?_ _ | refine blk_drew ?_ | refine blk_alloc ?_ _)); refine blk_far ?_ NB416_423.out _; (with_reducible repeat (first | refine blk_drewN ?_ _ | refine blk_drew ?_ | refine blk_alloc ?_ _)); refine blk_far ?_ NB416_423.out _; (with_reducible repeat (first | refine blk_drewN ?_ _ | refine blk_drew ?_ | refine blk_alloc ?_ _)); refine blk_far ?_ NB416_423.out _; (with_reducible repeat (first | refine blk_drewN ?_ _ | refine blk_drew ?_ | refine blk_alloc ?_ _)); refine blk_far ?_ NB416_423.out _; (with_reducible repeat (first | refine blk_drewN ?_ _ | refine blk_drew ?_ | refine blk_alloc ?_ _)); refine blk_far ?_ NB416_423.out _; (with_reducible repeat (first | refine blk_drewN ?_ _ | refine blk_drew ?_ | refine blk_alloc ?_ _)); refine blk_far ?_ NB416_423.out _; (with_reducible repeat (first | refine blk_drewN ?_ _ | refine blk_drew ?_ | refine blk_alloc ?_ _)); exact BK416.out))⟩; have n2_ : Aside0 (w41.heap[gb423]? = some (.cells #[.int .i64 ((rd_T75 l0 x25_2).f0), .int .i64 ((rd_T75 l0 x25_2).f1), .int .i64 ((rd_T75 l0 x25_2).f2), .int .i64 ((rd_T75 l0 x25_2).f3), .int .i64 ((rd_T75 l0 x25_2).f4), .int .i64 ((rd_T75 l0 x25_2).f5)] 75 (0, 0))) := ⟨(by rw [hw]; exact (by (with_reducible repeat (first | refine blk_drewN ?_ _ | refine blk_drew ?_ | refine blk_alloc ?_ _)); refine blk_put (cs := #[.int .i64 ((rd_T75 l0 x25_2).f0), .int .i64 ((rd_T75 l0 x25_2).f1), .int .i64 ((rd_T75 l0 x25_2).f2), .int .i64 ((rd_T75 l0 x25_2).f3), .int .i64 ((rd_T75 l0 x25_2).f4), .int .i64 0]) ?_ 5 _ rfl; (with_reducible repeat (first | refine blk_drewN ?_ _ | refine blk_drew ?_ | refine blk_alloc ?_ _)); refine blk_put (cs := #[.int .i64 ((rd_T75 l0 x25_2).f0), .int .i64 ((rd_T75 l0 x25_2).f1), .int .i64 ((rd_T75 l0 x25_2).f2), .int .i64 ((rd_T75 l0 x25_2).f3), .int .i64 0, .int .i64 0]) ?_ 4 _ rfl; (with_reducible repeat (first | refine blk_drewN ?_ _ | refine blk_drew ?_ | refine blk_alloc ?_ _)); refine blk_put (cs := #[.int .i64 ((rd_T75 l0 x25_2).f0), .int .i64 ((rd_T75 l0 x25_2).f1), .int .i64 ((rd_T75 l0 x25_2).f2), .int .i64 0, .int .i64 0, .int .i64 0]) ?_ 3 _ rfl; (with_reducible repeat (first | refine blk_drewN ?_ _ | refine blk_drew ?_ | refine blk_alloc ?_ _)); refine blk_put (cs := #[.int .i64 ((rd_T75 l0 x25_2).f0), .int .i64 ((rd_T75 l0 x25_2).f1), .int .i64 0, .int .i64 0, .int .i64 0, .int .i64 0]) ?_ 2 _ rfl; (with_reducible repeat (first | refine blk_drewN ?_ _ | refine blk_drew ?_ | refine blk_alloc ?_ _)); refine blk_put (cs := #[.int .i64 ((rd_T75 l0 x25_2).f0), .int .i64 0, .int .i64 0, .int .i64 0, .int .i64 0, .int .i64 0]) ?_ 1 _ rfl; (with_reducible repeat (first | refine blk_drewN ?_ _ | refine blk_drew ?_ | refine blk_alloc ?_ _)); refine blk_put (cs := #[.int .i64 0, .int .i64 0, .int .i64 0, .int .i64 0, .int .i64 0, .int .i64 0]) ?_ 0 _ rfl; (with_reducible repeat (first | refine blk_drewN ?_ _ | refine blk_drew ?_ | refine blk_alloc ?_ _)); exact BK423.out))⟩; have n3_ : Aside0 (Below w.heap.size w w41) := ⟨(by rw [hw]; exact (by repeat (first | (with_reducible first | exact HB.out | apply below_alloc | apply pw_below_drewN | apply below_drew1 | refine below_set ?_ GE416.out | refine below_set ?_ GE423.out) | exact HB.out)))⟩; clear hw; clear HO_5; clear BK416; clear BK423; clear HB; have HO_5 := n0_; have BK416 := n1_; have BK423 := n2_; have HB := n3_; clear n0_ n1_ n2_ n3_; have hcz42_0 : w41.cell? ⟨gb423, 0, none⟩ = some (.int .i64 ((rd_T75 l0 x25_2).f0)) := (blk_cell BK423.out 0).trans rfl; have hcz42_1 : w41.cell? ⟨gb423, 1, none⟩ = some (.int .i64 ((rd_T75 l0 x25_2).f1)) := (blk_cell BK423.out 1).trans rfl; have hcz42_2 : w41.cell? ⟨gb423, 2, none⟩ = some (.int .i64 ((rd_T75 l0 x25_2).f2)) := (blk_cell BK423.out 2).trans rfl; have hcz42_3 : w41.cell? ⟨gb423, 3, none⟩ = some (.int .i64 ((rd_T75 l0 x25_2).f3)) := (blk_cell BK423.out 3).trans rfl; have hcz42_4 : w41.cell? ⟨gb423, 4, none⟩ = some (.int .i64 ((rd_T75 l0 x25_2).f4)) := (blk_cell BK423.out 4).trans rfl; have hcz42_5 : w41.cell? ⟨gb423, 5, none⟩ = some (.int .i64 ((rd_T75 l0 x25_2).f5)) := (blk_cell BK423.out 5).trans rfl; have hfz42_0 := blk_frozen BK423.out 0; have hfz42_1 := blk_frozen BK423.out 1; have hfz42_2 := blk_frozen BK423.out 2; have hfz42_3 := blk_frozen BK423.out 3; have hfz42_4 := blk_frozen BK423.out 4; have hfz42_5 := blk_frozen BK423.out 5; obtain ⟨Ao43, co43, eo43⟩ := Kd.R_slice HO_5.out; subst eo43; have p424 : 0 ≤ (((rd_T75 l0 x25_2).f2) : Int) := of_decide_eq_true (by first | (with_reducible assumption) | assumption); have q424 : ((rd_T75 l0 x25_2).f2) < (x5_2.length : Int) := of_decide_eq_true (by first | (with_reducible assumption) | assumption); obtain ⟨ad424, e424, hx424_0⟩ := Kd.at_int (Kd.R_reads' HO_5.out).2.2 ((rd_T75 l0 x25_2).f2) p424 q424; cases e424; replace p424 := eq_true p424; replace q424 := eq_true q424; have p33 : 0 ≤ (((rd_T75 l0 x25_2).f2) : Int) := of_decide_eq_true (by first | (with_reducible assumption) | assumption); have q33 : (((rd_T75 l0 x25_2).f2) : Int) < ((x5_2.length : Int) : Int) := of_decide_eq_true (by first | (with_reducible assumption) | assumption); obtain ⟨go33, co33, eo33, gb33, gl33, cl33, HG33⟩ := Kd.R_form HO_5.out (by omega); (first | cases eo33 | (injection eo33 with ea_ en_ ec_; (first | subst ea_ | (injection ea_ with ea_; subst ea_)); subst ec_; clear en_)); have GB33 := Aside0.mk gb33; have GG33 := Aside0.mk HG33; clear gb33 gl33 HG33; (first | simp only [add_plain] at hx424_0 | skip); obtain ⟨hx33_0, hf33_0⟩ := Kd.R_celln 0 HO_5.out (((rd_T75 l0 x25_2).f2) : Int) p33 q33; replace p33 := eq_true p33; replace q33 := eq_true q33; obtain ⟨hy44_, hz44_⟩ := Kd.R_celln 0 HO_5.out (((rd_T75 l0 x25_2).f2) : Int) (of_decide_eq_true (by first | (with_reducible assumption) | assumption)) (of_decide_eq_true (by first | (with_reducible assumption) | assumption)); have HP44 := Kd.R_putg HO_5.out (((rd_T75 l0 x25_2).f2) : Int) (wrap64 ((rd x5_2 ((rd_T75 l0 x25_2).f2)) + 1))) | ((with_reducible refine gate_store (t := 3) (p := 51) rfl ?_); refine store_event (t := 3) (p := 51) (v := ?vo_w45) (w1 := (w41.setCell ⟨go33, (((rd_T75 l0 x25_2).f2) : Int).toNat, none⟩ (.int .i64 (wrap64 ((rd x5_2 ((rd_T75 l0 x25_2).f2)) + 1))))) ?hg ?ho ?hn ?hr ?_; (case ho => rfl); (case hg => rfl); (case hn => rfl); (case hr => first | (go_simp; done) | (go_simp; rfl)); intro w45 hw; have hg : w41.grownBy w45 (some go33) := (by rw [hw]; exact HP44.2); have hp_ : Kd.R (Kd.int .i64) 3 w45 w.heap.size (fun _ => True) (.slice (some ⟨go33, 0, none⟩) x5_2.length co43) y425 := (by rw [hw, Ny425.out]; exact HP44.1); clear HP44; have n0_ := Aside0.mk (hp_); have n1_ := Aside0.mk (blk_grown (g := gb416) (o := .cells #[.int .i64 a1_0, .int .i64 a1_1, .int .i64 a1_2, .int .i64 a1_3] 72 (0, 0)) (by (with_reducible repeat (first | refine blk_drewN ?_ _ | refine blk_drew ?_ | refine blk_alloc ?_ _)); exact BK416.out) hg (Kd.R_ne HO_5.out BK416.out (by decide))); have n2_ := Aside0.mk (blk_grown (g := gb423) (o := .cells #[.int .i64 ((rd_T75 l0 x25_2).f0), .int .i64 ((rd_T75 l0 x25_2).f1), .int .i64 ((rd_T75 l0 x25_2).f2), .int .i64 ((rd_T75 l0 x25_2).f3), .int .i64 ((rd_T75 l0 x25_2).f4), .int .i64 ((rd_T75 l0 x25_2).f5)] 75 (0, 0)) (by (with_reducible repeat (first | refine blk_drewN ?_ _ | refine blk_drew ?_ | refine blk_alloc ?_ _)); exact BK423.out) hg (Kd.R_ne HO_5.out BK423.out (by decide))); have n3_ := Aside0.mk ((by rw [hw]; exact below_set (HB.out) GB33.out : Below w.heap.size w w45)); clear HO_5; clear BK416; clear BK423; clear HB; have HO_5 := n0_; have BK416 := n1_; have BK423 := n2_; have HB := n3_; clear n0_ n1_ n2_ n3_; clear hg hw hp_; have hcz46_0 : w45.cell? ⟨gb423, 0, none⟩ = some (.int .i64 ((rd_T75 l0 x25_2).f0)) := (blk_cell BK423.out 0).trans rfl; have hcz46_1 : w45.cell? ⟨gb423, 1, none⟩ = some (.int .i64 ((rd_T75 l0 x25_2).f1)) := (blk_cell BK423.out 1).trans rfl; have hcz46_2 : w45.cell? ⟨gb423, 2, none⟩ = some (.int .i64 ((rd_T75 l0 x25_2).f2)) := (blk_cell BK423.out 2).trans rfl; have hcz46_3 : w45.cell? ⟨gb423, 3, none⟩ = some (.int .i64 ((rd_T75 l0 x25_2).f3)) := (blk_cell BK423.out 3).trans rfl; have hcz46_4 : w45.cell? ⟨gb423, 4, none⟩ = some (.int .i64 ((rd_T75 l0 x25_2).f4)) := (blk_cell BK423.out 4).trans rfl; have hcz46_5 : w45.cell? ⟨gb423, 5, none⟩ = some (.int .i64 ((rd_T75 l0 x25_2).f5)) := (blk_cell BK423.out 5).trans rfl; have hfz46_0 := blk_frozen BK423.out 0; have hfz46_1 := blk_frozen BK423.out 1; have hfz46_2 := blk_frozen BK423.out 2; have hfz46_3 := blk_frozen BK423.out 3; have hfz46_4 := blk_frozen BK423.out 4; have hfz46_5 := blk_frozen BK423.out 5; have p426 : 0 ≤ ((ji34) : Int) := of_decide_eq_true (by first | (with_reducible assumption) | assumption); have q426 : (ji34) < (y425.length : Int) := (by have h_ : ((ji34) : Int) < ((x5_2.length : Int) : Int) := of_decide_eq_true (by first | (with_reducible assumption) | assumption); first | (have e_ := (Kd.R_reads' HO_5.out).1; omega) | simpa only [Ny425.out, List.length_set] using h_); have ql426 : (((ji34) : Int) < ((x5_2.length : Int) : Int)) = True := eq_true (of_decide_eq_true (by first | (with_reducible assumption) | assumption)); obtain ⟨ad426, e426, hx426_0⟩ := Kd.at_int (Kd.R_reads' HO_5.out).2.2 (ji34) p426 q426; obtain rfl : (⟨go33, 0, none⟩ : Addr) = ad426 := (by injection e426); (first | simp only [add_plain] at hx426_0 | simp only [add_at] at hx426_0 | simp only [Addr.add, Nat.zero_add] at hx426_0 | skip); replace p426 := eq_true p426; replace q426 := eq_true q426; have p37 : 0 ≤ ((ji34) : Int) := of_decide_eq_true (by first | (with_reducible assumption) | assumption); have q37 : ((ji34) : Int) < ((x5_2.length : Int) : Int) := of_decide_eq_true (by first | (with_reducible assumption) | assumption); obtain ⟨hx37_0, hf37_0⟩ := Kd.R_celln 0 HO_5.out ((ji34) : Int) p37 q37; replace p37 := eq_true p37; replace q37 := eq_true q37; obtain ⟨hy47_, hz47_⟩ := Kd.R_celln 0 HO_5.out ((ji34) : Int) (of_decide_eq_true (by first | (with_reducible assumption) | assumption)) (of_decide_eq_true (by first | (with_reducible assumption) | assumption)); have HP47 := Kd.R_putg HO_5.out ((ji34) : Int) (wrap64 ((rd y425 (ji34)) + 1))) | ((with_reducible refine gate_store (t := 3) (p := 59) rfl ?_); refine store_event (t := 3) (p := 59) (v := ?vo_w48) (w1 := (w45.setCell ⟨go33, ((ji34) : Int).toNat, none⟩ (.int .i64 (wrap64 ((rd y425 (ji34)) + 1))))) ?hg ?ho ?hn ?hr ?_; (case ho => rfl); (case hg => rfl); (case hn => rfl); (case hr => first | (go_simp; done) | (go_simp; rfl)); intro w48 hw; have hg : w45.grownBy w48 (some go33) := (by rw [hw]; exact HP47.2); have hp_ : Kd.R (Kd.int .i64) 3 w48 w.heap.size (fun _ => True) (.slice (some ⟨go33, 0, none⟩) x5_2.length co43) y427 := (by rw [hw, Ny427.out]; exact HP47.1); clear HP47; have n0_ := Aside0.mk (hp_); have n1_ := Aside0.mk (blk_grown (g := gb416) (o := .cells #[.int .i64 a1_0, .int .i64 a1_1, .int .i64 a1_2, .int .i64 a1_3] 72 (0, 0)) (by (with_reducible repeat (first | refine blk_drewN ?_ _ | refine blk_drew ?_ | refine blk_alloc ?_ _)); exact BK416.out) hg (Kd.R_ne HO_5.out BK416.out (by decide))); have n2_ := Aside0.mk (blk_grown (g := gb423) (o := .cells #[.int .i64 ((rd_T75 l0 x25_2).f0), .int .i64 ((rd_T75 l0 x25_2).f1), .int .i64 ((rd_T75 l0 x25_2).f2), .int .i64 ((rd_T75 l0 x25_2).f3), .int .i64 ((rd_T75 l0 x25_2).f4), .int .i64 ((rd_T75 l0 x25_2).f5)] 75 (0, 0)) (by (with_reducible repeat (first | refine blk_drewN ?_ _ | refine blk_drew ?_ | refine blk_alloc ?_ _)); exact BK423.out) hg (Kd.R_ne HO_5.out BK423.out (by decide))); have n3_ := Aside0.mk ((by rw [hw]; exact below_set (HB.out) GB33.out : Below w.heap.size w w48)); clear HO_5; clear BK416; clear BK423; clear HB; have HO_5 := n0_; have BK416 := n1_; have BK423 := n2_; have HB := n3_; clear n0_ n1_ n2_ n3_; clear hg hw hp_))
                                    go_roundg k2
                                    case measure => have := HJ2.out; have := HK2.out; omega
                                    case rel => exact ⟨(y427), (wrap64 (x25_2 + 1)), (by first | rfl | (simp; done) | (simp [*]; done)), H', ⟨by have := HJ2.out; have := HK2.out; omega⟩, ⟨by (with_reducible repeat (first | apply Kd.R_alloc | apply Kd.R_drewN | apply Kd.R_drew)); exact HO_5.out⟩, ⟨by (with_reducible repeat (first | refine blk_drewN ?_ _ | refine blk_drew ?_ | refine blk_alloc ?_ _)); exact BK416.out⟩, ⟨by repeat (first | (with_reducible first | exact HB.out | apply below_alloc | apply pw_below_drewN | apply below_drew1 | refine below_set ?_ GE416.out | refine below_set ?_ GE423.out) | exact HB.out)⟩⟩
                                  · rw [if_neg c36] at H
                                    exact absurd H (by simp)
                                · rw [if_neg c35] at H
                                  exact absurd H (by simp)
                              · rw [if_neg c32] at H
                                exact absurd H (by simp)
                            · rw [if_neg c31] at H
                              exact absurd H (by simp)
                    · rw [if_neg c18] at H
                      exact absurd H (by simp)
                  · rw [if_neg c17] at H
                    exact absurd H (by simp)
                · rw [if_neg c16] at H
                  have c16b0 : decide (x25_2 < (l0.length : Int)) = false := decide_eq_false c16
                  clear c16
                  have H' := Aside0.mk H
                  clear H
                  obtain ⟨Ao49, co49, eo49⟩ := Kd.R_slice HO_5.out
                  subst eo49
                  go_wp2
                  go_loopg [63] k2 (fun kq v63 w' => ∃ (x63_3 : Int), v63 = .int .i64 x63_3 ∧ Aside0 (hornbeamlaw18_NodeOne.l1 kq x5_2 (x5_2.length : Int) x63_3 = some r) ∧ Aside0 (kq ≤ k2) ∧ Aside0 (Kd.R (Kd.int .i64) 3 w' w.heap.size (fun _ => True) (.slice Ao49 x5_2.length co49) x5_2) ∧ Aside0 (w'.heap[gb416]? = some (.cells #[.int .i64 a1_0, .int .i64 a1_1, .int .i64 a1_2, .int .i64 a1_3] 72 (0, 0))) ∧ Aside0 (Below w.heap.size w w'))
                  case atStart => exact ⟨(0), (by first | rfl | (simp; done) | (simp [*]; done)), H', ⟨Nat.le_refl _⟩, ⟨by (with_reducible repeat (first | apply Kd.R_alloc | apply Kd.R_drewN | apply Kd.R_drew)); exact HO_5.out⟩, ⟨by (with_reducible repeat (first | refine blk_drewN ?_ _ | refine blk_drew ?_ | refine blk_alloc ?_ _)); exact BK416.out⟩, ⟨by repeat (first | (with_reducible first | exact HB.out | apply below_alloc | apply pw_below_drewN | apply below_drew1 | refine below_set ?_ GE416.out) | exact HB.out)⟩⟩
                  case round =>
                    clear H'
                    try clear c1
                    try clear c2
                    try clear p2
                    try clear c3
                    try clear p3
                    try clear q3
                    try clear hx3
                    try clear hf3
                    try clear c4
                    try clear p4
                    try clear q4
                    try clear hx4
                    try clear c5
                    try clear c5b0
                    try clear c5b1
                    try clear p6
                    try clear c9
                    try clear c11
                    try clear c12
                    try clear c12b0
                    try clear c12b1
                    try clear c13
                    try clear c13b0
                    try clear c13b1
                    try clear c16
                    try clear c16b0
                    try clear c17
                    try clear c17b0
                    try clear c18
                    try clear c18b0
                    try clear c19
                    try clear c19b0
                    try clear c21
                    try clear c23
                    try clear c23b0
                    try clear c25
                    try clear c27
                    try clear c27b0
                    try clear c29
                    try clear c31
                    try clear c31b0
                    try clear c32
                    try clear c32b0
                    try clear p33
                    try clear q33
                    try clear hx33
                    try clear hf33
                    try clear c35
                    try clear c35b0
                    try clear c36
                    try clear c36b0
                    try clear p37
                    try clear q37
                    try clear hx37
                    try clear hf37
                    try clear c39
                    try clear c42
                    try clear p42
                    try clear q42
                    try clear hx42
                    try clear hcz22_0
                    try clear hcz22_1
                    try clear hcz22_2
                    try clear hcz22_3
                    try clear hcz22_4
                    try clear hcz22_5
                    try clear hcz26_0
                    try clear hcz26_1
                    try clear hcz26_2
                    try clear hcz26_3
                    try clear hcz26_4
                    try clear hcz26_5
                    try clear hcz30_0
                    try clear hcz30_1
                    try clear hcz30_2
                    try clear hcz30_3
                    try clear hcz30_4
                    try clear hcz30_5
                    try clear hcz40_0
                    try clear hcz40_1
                    try clear hcz40_2
                    try clear hcz40_3
                    try clear hcz40_4
                    try clear hcz40_5
                    try clear hcz42_0
                    try clear hcz42_1
                    try clear hcz42_2
                    try clear hcz42_3
                    try clear hcz42_4
                    try clear hcz42_5
                    try clear hcz46_0
                    try clear hcz46_1
                    try clear hcz46_2
                    try clear hcz46_3
                    try clear hcz46_4
                    try clear hcz46_5
                    try clear hcz7_0
                    try clear hcz7_1
                    try clear hcz7_2
                    try clear hcz7_3
                    try clear hfz22_0
                    try clear hfz22_1
                    try clear hfz22_2
                    try clear hfz22_3
                    try clear hfz22_4
                    try clear hfz22_5
                    try clear hfz26_0
                    try clear hfz26_1
                    try clear hfz26_2
                    try clear hfz26_3
                    try clear hfz26_4
                    try clear hfz26_5
                    try clear hfz30_0
                    try clear hfz30_1
                    try clear hfz30_2
                    try clear hfz30_3
                    try clear hfz30_4
                    try clear hfz30_5
                    try clear hfz40_0
                    try clear hfz40_1
                    try clear hfz40_2
                    try clear hfz40_3
                    try clear hfz40_4
                    try clear hfz40_5
                    try clear hfz42_0
                    try clear hfz42_1
                    try clear hfz42_2
                    try clear hfz42_3
                    try clear hfz42_4
                    try clear hfz42_5
                    try clear hfz46_0
                    try clear hfz46_1
                    try clear hfz46_2
                    try clear hfz46_3
                    try clear hfz46_4
                    try clear hfz46_5
                    try clear hfz7_0
                    try clear hfz7_1
                    try clear hfz7_2
                    try clear hfz7_3
                    try clear hx33_0
                    try clear hx37_0
                    try clear hx422_0
                    try clear hx422_1
                    try clear hx422_2
                    try clear hx422_3
                    try clear hx422_4
                    try clear hx422_5
                    try clear hx424_0
                    try clear hx426_0
                    try clear p2
                    try clear p33
                    try clear p37
                    try clear p422
                    try clear p424
                    try clear p426
                    try clear q33
                    try clear q37
                    try clear q422
                    try clear q424
                    try clear q426
                    obtain ⟨x63_3, rfl, HA, HK3, HO_61, BK416, HB⟩ := hrel
                    cases gk with
                    | zero => exact absurd HA.out (by simp [hornbeamlaw18_NodeOne.l1])
                    | succ k3 =>
                      have H := HA.out
                      clear HA
                      simp only [hornbeamlaw18_NodeOne.l1] at H
                      by_cases c50 : x63_3 < (x5_2.length : Int)
                      · rw [if_pos c50] at H
                        have c50b0 : decide (x63_3 < (x5_2.length : Int)) = true := decide_eq_true c50
                        clear c50
                        by_cases c51 : 0 ≤ x63_3
                        · rw [if_pos c51] at H
                          have c51b0 : decide (0 ≤ x63_3) = true := decide_eq_true c51
                          clear c51
                          by_cases c52 : x63_3 < (x5_2.length : Int)
                          · rw [if_pos c52] at H
                            have c52b0 : decide (x63_3 < (x5_2.length : Int)) = true := decide_eq_true c52
                            clear c52
                            by_cases c53 : x63_3 = 0
                            · rw [if_pos c53] at H
                              have c53b0 : (x63_3 == 0) = true := beq_iff_eq.mpr c53
                              have c53b1 : (x63_3 != 0) = false := bne_eq_false_iff_eq.mpr c53
                              clear c53
                              by_cases c54 : (rd x5_2 x63_3) = 0
                              · rw [if_pos c54] at H
                                have c54b0 : ((rd x5_2 x63_3) == 0) = true := beq_iff_eq.mpr c54
                                have c54b1 : ((rd x5_2 x63_3) != 0) = false := bne_eq_false_iff_eq.mpr c54
                                clear c54
                                by_cases c55 : x63_3 > 0
                                · rw [if_pos c55] at H
                                  have c55b0 : decide (0 < x63_3) = true := decide_eq_true c55
                                  clear c55
                                  by_cases c56 : (rd x5_2 x63_3) = 1
                                  · rw [if_pos c56] at H
                                    have c56b0 : ((rd x5_2 x63_3) == 1) = true := beq_iff_eq.mpr c56
                                    have c56b1 : ((rd x5_2 x63_3) != 1) = false := bne_eq_false_iff_eq.mpr c56
                                    clear c56
                                    have H' := Aside0.mk H
                                    clear H
                                    have p428 : 0 ≤ (x63_3 : Int) := of_decide_eq_true (by first | (with_reducible assumption) | assumption)
                                    have q428 : x63_3 < (x5_2.length : Int) := of_decide_eq_true (by first | (with_reducible assumption) | assumption)
                                    obtain ⟨ad428, e428, hx428_0⟩ := Kd.at_int (Kd.R_reads' HO_61.out).2.2 x63_3 p428 q428
                                    cases e428
                                    replace p428 := eq_true p428
                                    replace q428 := eq_true q428
                                    go_wp2
                                    go_roundg k3
                                    case measure => have := HJ2.out; have := HK2.out; have := HK3.out; omega
                                    case rel => exact ⟨(wrap64 (x63_3 + 1)), (by first | rfl | (simp; done) | (simp [*]; done)), H', ⟨by have := HJ2.out; have := HK2.out; have := HK3.out; omega⟩, ⟨by (with_reducible repeat (first | apply Kd.R_alloc | apply Kd.R_drewN | apply Kd.R_drew)); exact HO_61.out⟩, ⟨by (with_reducible repeat (first | refine blk_drewN ?_ _ | refine blk_drew ?_ | refine blk_alloc ?_ _)); exact BK416.out⟩, ⟨by repeat (first | (with_reducible first | exact HB.out | apply below_alloc | apply pw_below_drewN | apply below_drew1 | refine below_set ?_ GE416.out) | exact HB.out)⟩⟩
                                  · rw [if_neg c56] at H
                                    have c56b0 : ((rd x5_2 x63_3) == 1) = false := beq_eq_false_iff_ne.mpr c56
                                    have c56b1 : ((rd x5_2 x63_3) != 1) = true := bne_iff_ne.mpr c56
                                    obtain rfl := Option.some.inj H
                                    have p428 : 0 ≤ (x63_3 : Int) := of_decide_eq_true (by first | (with_reducible assumption) | assumption)
                                    have q428 : x63_3 < (x5_2.length : Int) := of_decide_eq_true (by first | (with_reducible assumption) | assumption)
                                    obtain ⟨ad428, e428, hx428_0⟩ := Kd.at_int (Kd.R_reads' HO_61.out).2.2 x63_3 p428 q428
                                    cases e428
                                    replace p428 := eq_true p428
                                    replace q428 := eq_true q428
                                    go_wp2
                                    go_ret
                                    exact ⟨by first | rfl | (simp [errW_none, errW_some] <;> rfl) | (simp [*, errW_none, errW_some] <;> rfl), by repeat (first | (with_reducible first | exact HB.out | apply below_alloc | apply pw_below_drewN | apply below_drew1 | refine below_set ?_ GE416.out) | exact HB.out)⟩
                                · rw [if_neg c55] at H
                                  have c55b0 : decide (0 < x63_3) = false := decide_eq_false c55
                                  clear c55
                                  have H' := Aside0.mk H
                                  clear H
                                  have p428 : 0 ≤ (x63_3 : Int) := of_decide_eq_true (by first | (with_reducible assumption) | assumption)
                                  have q428 : x63_3 < (x5_2.length : Int) := of_decide_eq_true (by first | (with_reducible assumption) | assumption)
                                  obtain ⟨ad428, e428, hx428_0⟩ := Kd.at_int (Kd.R_reads' HO_61.out).2.2 x63_3 p428 q428
                                  cases e428
                                  replace p428 := eq_true p428
                                  replace q428 := eq_true q428
                                  go_wp2
                                  go_roundg k3
                                  case measure => have := HJ2.out; have := HK2.out; have := HK3.out; omega
                                  case rel => exact ⟨(wrap64 (x63_3 + 1)), (by first | rfl | (simp; done) | (simp [*]; done)), H', ⟨by have := HJ2.out; have := HK2.out; have := HK3.out; omega⟩, ⟨by (with_reducible repeat (first | apply Kd.R_alloc | apply Kd.R_drewN | apply Kd.R_drew)); exact HO_61.out⟩, ⟨by (with_reducible repeat (first | refine blk_drewN ?_ _ | refine blk_drew ?_ | refine blk_alloc ?_ _)); exact BK416.out⟩, ⟨by repeat (first | (with_reducible first | exact HB.out | apply below_alloc | apply pw_below_drewN | apply below_drew1 | refine below_set ?_ GE416.out) | exact HB.out)⟩⟩
                              · rw [if_neg c54] at H
                                have c54b0 : ((rd x5_2 x63_3) == 0) = false := beq_eq_false_iff_ne.mpr c54
                                have c54b1 : ((rd x5_2 x63_3) != 0) = true := bne_iff_ne.mpr c54
                                obtain rfl := Option.some.inj H
                                have p428 : 0 ≤ (x63_3 : Int) := of_decide_eq_true (by first | (with_reducible assumption) | assumption)
                                have q428 : x63_3 < (x5_2.length : Int) := of_decide_eq_true (by first | (with_reducible assumption) | assumption)
                                obtain ⟨ad428, e428, hx428_0⟩ := Kd.at_int (Kd.R_reads' HO_61.out).2.2 x63_3 p428 q428
                                cases e428
                                replace p428 := eq_true p428
                                replace q428 := eq_true q428
                                go_wp2
                                go_ret
                                exact ⟨by first | rfl | (simp [errW_none, errW_some] <;> rfl) | (simp [*, errW_none, errW_some] <;> rfl), by repeat (first | (with_reducible first | exact HB.out | apply below_alloc | apply pw_below_drewN | apply below_drew1 | refine below_set ?_ GE416.out) | exact HB.out)⟩
                            · rw [if_neg c53] at H
                              have c53b0 : (x63_3 == 0) = false := beq_eq_false_iff_ne.mpr c53
                              have c53b1 : (x63_3 != 0) = true := bne_iff_ne.mpr c53
                              by_cases c57 : x63_3 > 0
                              · rw [if_pos c57] at H
                                have c57b0 : decide (0 < x63_3) = true := decide_eq_true c57
                                clear c57
                                by_cases c58 : (rd x5_2 x63_3) = 1
                                · rw [if_pos c58] at H
                                  have c58b0 : ((rd x5_2 x63_3) == 1) = true := beq_iff_eq.mpr c58
                                  have c58b1 : ((rd x5_2 x63_3) != 1) = false := bne_eq_false_iff_eq.mpr c58
                                  clear c58
                                  have H' := Aside0.mk H
                                  clear H
                                  have p428 : 0 ≤ (x63_3 : Int) := of_decide_eq_true (by first | (with_reducible assumption) | assumption)
                                  have q428 : x63_3 < (x5_2.length : Int) := of_decide_eq_true (by first | (with_reducible assumption) | assumption)
                                  obtain ⟨ad428, e428, hx428_0⟩ := Kd.at_int (Kd.R_reads' HO_61.out).2.2 x63_3 p428 q428
                                  cases e428
                                  replace p428 := eq_true p428
                                  replace q428 := eq_true q428
                                  go_wp2
                                  go_roundg k3
                                  case measure => have := HJ2.out; have := HK2.out; have := HK3.out; omega
                                  case rel => exact ⟨(wrap64 (x63_3 + 1)), (by first | rfl | (simp; done) | (simp [*]; done)), H', ⟨by have := HJ2.out; have := HK2.out; have := HK3.out; omega⟩, ⟨by (with_reducible repeat (first | apply Kd.R_alloc | apply Kd.R_drewN | apply Kd.R_drew)); exact HO_61.out⟩, ⟨by (with_reducible repeat (first | refine blk_drewN ?_ _ | refine blk_drew ?_ | refine blk_alloc ?_ _)); exact BK416.out⟩, ⟨by repeat (first | (with_reducible first | exact HB.out | apply below_alloc | apply pw_below_drewN | apply below_drew1 | refine below_set ?_ GE416.out) | exact HB.out)⟩⟩
                                · rw [if_neg c58] at H
                                  have c58b0 : ((rd x5_2 x63_3) == 1) = false := beq_eq_false_iff_ne.mpr c58
                                  have c58b1 : ((rd x5_2 x63_3) != 1) = true := bne_iff_ne.mpr c58
                                  obtain rfl := Option.some.inj H
                                  have p428 : 0 ≤ (x63_3 : Int) := of_decide_eq_true (by first | (with_reducible assumption) | assumption)
                                  have q428 : x63_3 < (x5_2.length : Int) := of_decide_eq_true (by first | (with_reducible assumption) | assumption)
                                  obtain ⟨ad428, e428, hx428_0⟩ := Kd.at_int (Kd.R_reads' HO_61.out).2.2 x63_3 p428 q428
                                  cases e428
                                  replace p428 := eq_true p428
                                  replace q428 := eq_true q428
                                  go_wp2
                                  go_ret
                                  exact ⟨by first | rfl | (simp [errW_none, errW_some] <;> rfl) | (simp [*, errW_none, errW_some] <;> rfl), by repeat (first | (with_reducible first | exact HB.out | apply below_alloc | apply pw_below_drewN | apply below_drew1 | refine below_set ?_ GE416.out) | exact HB.out)⟩
                              · rw [if_neg c57] at H
                                have c57b0 : decide (0 < x63_3) = false := decide_eq_false c57
                                clear c57
                                have H' := Aside0.mk H
                                clear H
                                have p428 : 0 ≤ (x63_3 : Int) := of_decide_eq_true (by first | (with_reducible assumption) | assumption)
                                have q428 : x63_3 < (x5_2.length : Int) := of_decide_eq_true (by first | (with_reducible assumption) | assumption)
                                obtain ⟨ad428, e428, hx428_0⟩ := Kd.at_int (Kd.R_reads' HO_61.out).2.2 x63_3 p428 q428
                                cases e428
                                replace p428 := eq_true p428
                                replace q428 := eq_true q428
                                go_wp2
                                go_roundg k3
                                case measure => have := HJ2.out; have := HK2.out; have := HK3.out; omega
                                case rel => exact ⟨(wrap64 (x63_3 + 1)), (by first | rfl | (simp; done) | (simp [*]; done)), H', ⟨by have := HJ2.out; have := HK2.out; have := HK3.out; omega⟩, ⟨by (with_reducible repeat (first | apply Kd.R_alloc | apply Kd.R_drewN | apply Kd.R_drew)); exact HO_61.out⟩, ⟨by (with_reducible repeat (first | refine blk_drewN ?_ _ | refine blk_drew ?_ | refine blk_alloc ?_ _)); exact BK416.out⟩, ⟨by repeat (first | (with_reducible first | exact HB.out | apply below_alloc | apply pw_below_drewN | apply below_drew1 | refine below_set ?_ GE416.out) | exact HB.out)⟩⟩
                          · rw [if_neg c52] at H
                            exact absurd H (by simp)
                        · rw [if_neg c51] at H
                          exact absurd H (by simp)
                      · rw [if_neg c50] at H
                        have c50b0 : decide (x63_3 < (x5_2.length : Int)) = false := decide_eq_false c50
                        clear c50
                        replace H := Option.bind_eq_some_iff.mp H
                        obtain ⟨t429, A590, H⟩ := H
                        replace H : (some t429) = some r := H
                        have A59 := Aside0.mk A590
                        clear A590
                        obtain rfl := Option.some.inj H
                        go_wp2_with (first | ((with_reducible refine gate_callee (f := 42) rfl ?_); refine goesL_ (some 83) rfl rfl Try.func42 (by kernel_rfl) rfl #[] rfl (by (try simp only [List.map_toArray, List.map_cons, List.map_nil]); first | done | rfl | (simp only [List.length_drop, List.length_take]; rfl)) ?_; (with_reducible refine (hornbeamlaw18_fixed.calls k3  t429 _ A59.out).mono ?_); rintro e w60 ⟨rfl, hb⟩; refine ⟨_, rfl, ?_⟩; have n0_ := Aside0.mk (Kd.R_below (by (with_reducible repeat (first | apply Kd.R_alloc | apply Kd.R_drewN | apply Kd.R_drew)); exact HO_61.out) hb); have n1_ := Aside0.mk (blk_below (g := gb416) (o := .cells #[.int .i64 a1_0, .int .i64 a1_1, .int .i64 a1_2, .int .i64 a1_3] 72 (0, 0)) (by (with_reducible repeat (first | refine blk_drewN ?_ _ | refine blk_drew ?_ | refine blk_alloc ?_ _)); exact BK416.out) hb); have n2_ := Aside0.mk (below_step (by repeat (first | (with_reducible first | exact HB.out | apply below_alloc | apply pw_below_drewN | apply below_drew1 | refine below_set ?_ GE416.out) | exact HB.out)) hb); clear HO_61; clear BK416; clear HB; have HO_61 := n0_; have BK416 := n1_; have HB := n2_; clear n0_ n1_ n2_; (try clear hb); (try clear hb2); (try clear hk); (try clear hi)))
                        go_ret
                        exact ⟨by first | rfl | (simp [errW_none, errW_some] <;> rfl) | (simp [*, errW_none, errW_some] <;> rfl), by repeat (first | (with_reducible first | exact HB.out | apply below_alloc | apply pw_below_drewN | apply below_drew1 | refine below_set ?_ GE416.out) | exact HB.out)⟩
          · rw [if_neg c13] at H
            exact absurd H (by simp)
        · rw [if_neg c12] at H
          exact absurd H (by simp)

/-- What is left to prove of hornbeamlaw18_NodeOne. -/
def hornbeamlaw18_NodeOne.Pure : Prop := ∀ (l0 : List (S75)) (a1_0 : Int) (a1_1 : Int) (a1_2 : Int) (a1_3 : Int), ((l0.length ≤ 9223372036854775807 ∧ l0.length * 48 ≤ 140737488351232 ∧ ∀ x ∈ l0, (((Lit.int .i64 x.f0).wf = true) ∧ (((Lit.int .i64 x.f1).wf = true) ∧ (((Lit.int .i64 x.f2).wf = true) ∧ (((Lit.int .i64 x.f3).wf = true) ∧ (((Lit.int .i64 x.f4).wf = true) ∧ ((Lit.int .i64 x.f5).wf = true)))))))) → ((((Lit.int .i64 a1_0).wf = true) ∧ (((Lit.int .i64 a1_1).wf = true) ∧ (((Lit.int .i64 a1_2).wf = true) ∧ ((Lit.int .i64 a1_3).wf = true))))) → ∃ k, hornbeamlaw18_NodeOne.f k l0 a1_0 a1_1 a1_2 a1_3 = some true

end Go.Proofs.Ytebbnjgaikppgaa.PA
