-- Written by a program of this session (wip/hp) out of the translation of seat Ytebbnjgaikppgaa.
import Derived.Test.YtebbnjgaikppgaaPAx0
import Derived.Test.YtebbnjgaikppgaaPAx1
import Derived.Test.YtebbnjgaikppgaaPAx26
namespace Go.Proofs.Ytebbnjgaikppgaa.PA
open Go.RowKit Go.Proofs.YtebbnjgaikppgaaW.PrintWords Go.Proofs.YtebbnjgaikppgaaW.PrintLast Go.Proofs.YtebbnjgaikppgaaW.PrintMore
attribute [local go_sem] max2_int min2_int max_two min_two max_three min_three max_four min_four   -- for this text's walks alone
attribute [local go_sem high] Flt.fold_eq Flt.fold_ne Flt.fold_lt Flt.fold_gt Flt.fold_le Flt.fold_ge Flt.run_bits Flt.run_frombits
set_option linter.unusedVariables false
set_option linter.unusedSimpArgs false

attribute [local go_sem high] eqA75
/-! ### node_Shape_right: function 67 -/
def node_Shape_right.j0 : Nat → Bool → Int → Int → Int → Int → Int → Int → Int → Int → Int → Int → Int → Int → Int → Int → Int → Int → Option (Bool)
  | 0, _, _, _, _, _, _, _, _, _, _, _, _, _, _, _, _, _ => none
  | k + 1, x8, x336000, x336001, x336002, x336003, x337000, x337001, x337002, x337003, x337004, x337005, x338000, x338001, x338002, x338003, x338004, x338005 => if x8 = true then (if (x338001 == 0 && (x338002 == 0 && (x338004 == 0 && (x338005 == 0)))) = true then (if x337003 ≥ 0 then (some (decide (x337003 < x336003))) else (some false)) else (some false)) else ((node_leaf.f x337000 x337001 x337002 x337003 x337004 x337005).bind fun t339 => (if t339 = true then (if (x338001 == 0 && (x338002 == 0 && (x338003 == 0))) = true then (if x337005 ≥ 1 then (if x337005 ≤ 1048576 then (if x337004 ≥ (wrap64 (-(wrap64 (1048576 * x337005)))) then (some (decide (x337004 ≤ (wrap64 (1048576 * x337005))))) else (some false)) else (some false)) else (some false)) else (some false)) else (if (x338003 == 0 && (x338004 == 0 && (x338005 == 0))) = true then (if x337000 ≥ 0 then (if x337000 < x336000 then (if x337001 ≥ 0 then (some (decide (x337001 < x336001))) else (some false)) else (some false)) else (some false)) else (some false))))
def node_Shape_right.f (k : Nat) (a0_0 : Int) (a0_1 : Int) (a0_2 : Int) (a0_3 : Int) (a1_0 : Int) (a1_1 : Int) (a1_2 : Int) (a1_3 : Int) (a1_4 : Int) (a1_5 : Int) : Option (Bool) := (node_leaf.f a1_0 a1_1 a1_2 a1_3 a1_4 a1_5).bind fun t338 => (if t338 = true then (node_Shape_right.j0 k (a0_2 == 0) a0_0 a0_1 a0_2 a0_3 a1_0 a1_1 a1_2 a1_3 a1_4 a1_5 a1_0 a1_1 a1_2 a1_3 a1_4 a1_5) else (node_Shape_right.j0 k false a0_0 a0_1 a0_2 a0_3 a1_0 a1_1 a1_2 a1_3 a1_4 a1_5 a1_0 a1_1 a1_2 a1_3 a1_4 a1_5))
theorem node_Shape_right.mono_l : ∀ k, (∀ y0 y1 y2 y3 y4 y5 y6 y7 y8 y9 y10 y11 y12 y13 y14 y15 y16, LeO (node_Shape_right.j0 k y0 y1 y2 y3 y4 y5 y6 y7 y8 y9 y10 y11 y12 y13 y14 y15 y16) (node_Shape_right.j0 (k + 1) y0 y1 y2 y3 y4 y5 y6 y7 y8 y9 y10 y11 y12 y13 y14 y15 y16))
  | 0 => fun _ _ _ _ _ _ _ _ _ _ _ _ _ _ _ _ _ r h => by simp [node_Shape_right.j0] at h
  | k + 1 => by
    have ih0 := node_Shape_right.mono_l k
    · intro y0 y1 y2 y3 y4 y5 y6 y7 y8 y9 y10 y11 y12 y13 y14 y15 y16
      unfold node_Shape_right.j0
      repeat' first
      | (with_reducible exact ih0 _ _ _ _ _ _ _ _ _ _ _ _ _ _ _ _ _)
      | (with_reducible exact LeO.refl _)
      | (with_reducible exact LeO.none _)
      | (with_reducible refine LeO.ite ?_ ?_)
      | (with_reducible refine LeO.bind ?_ (fun _ => ?_))
      | exact ih0 _ _ _ _ _ _ _ _ _ _ _ _ _ _ _ _ _
      | exact LeO.none _
      | refine LeO.ite ?_ ?_
      | refine LeO.bind ?_ (fun _ => ?_)
theorem node_Shape_right.mono : ∀ a0 a1 a2 a3 a4 a5 a6 a7 a8 a9 k, LeO (node_Shape_right.f k a0 a1 a2 a3 a4 a5 a6 a7 a8 a9) (node_Shape_right.f (k + 1) a0 a1 a2 a3 a4 a5 a6 a7 a8 a9) := by
  intro a0 a1 a2 a3 a4 a5 a6 a7 a8 a9 k
  have ih0 := node_Shape_right.mono_l k
  unfold node_Shape_right.f
  repeat' first
      | (with_reducible exact ih0 _ _ _ _ _ _ _ _ _ _ _ _ _ _ _ _ _)
      | (with_reducible exact LeO.refl _)
      | (with_reducible exact LeO.none _)
      | (with_reducible refine LeO.ite ?_ ?_)
      | (with_reducible refine LeO.bind ?_ (fun _ => ?_))
      | exact ih0 _ _ _ _ _ _ _ _ _ _ _ _ _ _ _ _ _
      | exact LeO.none _
      | refine LeO.ite ?_ ?_
      | refine LeO.bind ?_ (fun _ => ?_)
set_option maxHeartbeats 8000000 in
set_option maxRecDepth 100000 in
theorem node_Shape_right.calls (k : Nat) (a0_0 : Int) (a0_1 : Int) (a0_2 : Int) (a0_3 : Int) (a1_0 : Int) (a1_1 : Int) (a1_2 : Int) (a1_3 : Int) (a1_4 : Int) (a1_5 : Int) (r : Bool) (w : World) (h : node_Shape_right.f k a0_0 a0_1 a0_2 a0_3 a1_0 a1_1 a1_2 a1_3 a1_4 a1_5 = some r) :
    Calls Try.prog 67 #[.agg #[.int .i64 a0_0, .int .i64 a0_1, .int .i64 a0_2, .int .i64 a0_3], .agg #[.int .i64 a1_0, .int .i64 a1_1, .int .i64 a1_2, .int .i64 a1_3, .int .i64 a1_4, .int .i64 a1_5]] w fun e w' => e = .returned (.bool r) ∧ Below w.heap.size w w' := by
  have hu72 := Try.underlying72
  have hu75 := Try.underlying75
  have HB := Aside0.mk (Below.refl w.heap.size w)
  have H : ((node_leaf.f a1_0 a1_1 a1_2 a1_3 a1_4 a1_5).bind fun t338 => (if t338 = true then (node_Shape_right.j0 k (a0_2 == 0) a0_0 a0_1 a0_2 a0_3 a1_0 a1_1 a1_2 a1_3 a1_4 a1_5 a1_0 a1_1 a1_2 a1_3 a1_4 a1_5) else (node_Shape_right.j0 k false a0_0 a0_1 a0_2 a0_3 a1_0 a1_1 a1_2 a1_3 a1_4 a1_5 a1_0 a1_1 a1_2 a1_3 a1_4 a1_5))) = some r := h
  clear h
  have HC3 := Aside0.mk H
  clear H
  go_enter Try.func67, Try.ntmps67
  go_upto_region 2 with (first | ((with_reducible refine gate_dst (N := 2) rfl ?_); refine box_event ?hg (N := 2) ?hd (cs := #[.int .i64 a0_0, .int .i64 a0_1, .int .i64 a0_2, .int .i64 a0_3]) (t := 72) ?hr ?_; (case hd => rfl); (case hg => rfl); (case hr => first | (go_simp; done) | (go_simp; rfl)); intro gb335 hg w4 hbox hb; have n0_ := Aside0.mk (below_step (by repeat (first | (with_reducible first | exact HB.out | apply below_alloc | apply pw_below_drewN | apply below_drew1) | exact HB.out)) hb); have n1_ := Aside0.mk (hbox); have n2_ := Aside0.mk ((by rw [hg]; exact (below_size (by repeat (first | (with_reducible first | exact HB.out | apply below_alloc | apply pw_below_drewN | apply below_drew1) | exact HB.out))) : w.heap.size ≤ gb335)); have n3_ := Aside0.mk ((by rw [hg]; exact (below_size (by repeat (first | (with_reducible first | exact HB.out | apply below_alloc | apply pw_below_drewN | apply below_drew1) | exact HB.out))) : w.heap.size ≤ gb335)); clear HB; have HB := n0_; have BK335 := n1_; have GW335 := n2_; have GE335 := n3_; clear n0_ n1_ n2_ n3_; clear hb hbox hg) | ((with_reducible refine gate_dst (N := 3) rfl ?_); refine box_event ?hg (N := 3) ?hd (cs := #[.int .i64 a1_0, .int .i64 a1_1, .int .i64 a1_2, .int .i64 a1_3, .int .i64 a1_4, .int .i64 a1_5]) (t := 75) ?hr ?_; (case hd => rfl); (case hg => rfl); (case hr => first | (go_simp; done) | (go_simp; rfl)); intro gb336 hg w5 hbox hb; have n0_ := Aside0.mk (blk_below (g := gb335) (o := .cells #[.int .i64 a0_0, .int .i64 a0_1, .int .i64 a0_2, .int .i64 a0_3] 72 (0, 0)) (by (with_reducible repeat (first | refine blk_drewN ?_ _ | refine blk_drew ?_ | refine blk_alloc ?_ _)); exact BK335.out) hb); have n1_ := Aside0.mk (below_step (by repeat (first | (with_reducible first | exact HB.out | apply below_alloc | apply pw_below_drewN | apply below_drew1 | refine below_set ?_ GE335.out) | exact HB.out)) hb); have n2_ := Aside0.mk (hbox); have n3_ := Aside0.mk ((by rw [hg]; exact (below_size (by repeat (first | (with_reducible first | exact HB.out | apply below_alloc | apply pw_below_drewN | apply below_drew1 | refine below_set ?_ GE335.out) | exact HB.out))) : w.heap.size ≤ gb336)); have n4_ := Aside0.mk ((by rw [hg]; exact (below_size (by repeat (first | (with_reducible first | exact HB.out | apply below_alloc | apply pw_below_drewN | apply below_drew1 | refine below_set ?_ GE335.out) | exact HB.out))) : w.heap.size ≤ gb336)); have n5_ := Aside0.mk ((by rw [hg]; exact Nat.ne_of_lt (blk_lt (g := gb335) (o := .cells #[.int .i64 a0_0, .int .i64 a0_1, .int .i64 a0_2, .int .i64 a0_3] 72 (0, 0)) (by (with_reducible repeat (first | refine blk_drewN ?_ _ | refine blk_drew ?_ | refine blk_alloc ?_ _)); exact BK335.out)) : gb335 ≠ gb336)); have n6_ := Aside0.mk ((by rw [hg]; exact Nat.ne_of_gt (blk_lt (g := gb335) (o := .cells #[.int .i64 a0_0, .int .i64 a0_1, .int .i64 a0_2, .int .i64 a0_3] 72 (0, 0)) (by (with_reducible repeat (first | refine blk_drewN ?_ _ | refine blk_drew ?_ | refine blk_alloc ?_ _)); exact BK335.out)) : gb336 ≠ gb335)); clear BK335; clear HB; have BK335 := n0_; have HB := n1_; have BK336 := n2_; have GW336 := n3_; have GE336 := n4_; have NB335_336 := n5_; have NB336_335 := n6_; clear n0_ n1_ n2_ n3_ n4_ n5_ n6_; clear hb hbox hg; have hnb6 := NB336_335.out; have hnc6 := NB335_336.out; have hcz7_0 : w5.cell? ⟨gb336, 0, none⟩ = some (.int .i64 a1_0) := (blk_cell BK336.out 0).trans rfl; have hcz7_1 : w5.cell? ⟨gb336, 1, none⟩ = some (.int .i64 a1_1) := (blk_cell BK336.out 1).trans rfl; have hcz7_2 : w5.cell? ⟨gb336, 2, none⟩ = some (.int .i64 a1_2) := (blk_cell BK336.out 2).trans rfl; have hcz7_3 : w5.cell? ⟨gb336, 3, none⟩ = some (.int .i64 a1_3) := (blk_cell BK336.out 3).trans rfl; have hcz7_4 : w5.cell? ⟨gb336, 4, none⟩ = some (.int .i64 a1_4) := (blk_cell BK336.out 4).trans rfl; have hcz7_5 : w5.cell? ⟨gb336, 5, none⟩ = some (.int .i64 a1_5) := (blk_cell BK336.out 5).trans rfl; have hfz7_0 := blk_frozen BK336.out 0; have hfz7_1 := blk_frozen BK336.out 1; have hfz7_2 := blk_frozen BK336.out 2; have hfz7_3 := blk_frozen BK336.out 3; have hfz7_4 := blk_frozen BK336.out 4; have hfz7_5 := blk_frozen BK336.out 5) | ((with_reducible refine gate_dst (N := 5) rfl ?_); refine box_event ?hg (N := 5) ?hd (cs := #[.int .i64 0, .int .i64 0, .int .i64 0, .int .i64 0, .int .i64 0, .int .i64 0]) (t := 75) ?hr ?_; (case hd => rfl); (case hg => rfl); (case hr => first | (go_simp; done) | (go_simp; rfl)); intro gb337 hg w8 hbox hb; have n0_ := Aside0.mk (blk_below (g := gb335) (o := .cells #[.int .i64 a0_0, .int .i64 a0_1, .int .i64 a0_2, .int .i64 a0_3] 72 (0, 0)) (by (with_reducible repeat (first | refine blk_drewN ?_ _ | refine blk_drew ?_ | refine blk_alloc ?_ _)); exact BK335.out) hb); have n1_ := Aside0.mk (blk_below (g := gb336) (o := .cells #[.int .i64 a1_0, .int .i64 a1_1, .int .i64 a1_2, .int .i64 a1_3, .int .i64 a1_4, .int .i64 a1_5] 75 (0, 0)) (by (with_reducible repeat (first | refine blk_drewN ?_ _ | refine blk_drew ?_ | refine blk_alloc ?_ _)); exact BK336.out) hb); have n2_ := Aside0.mk (below_step (by repeat (first | (with_reducible first | exact HB.out | apply below_alloc | apply pw_below_drewN | apply below_drew1 | refine below_set ?_ GE335.out | refine below_set ?_ GE336.out) | exact HB.out)) hb); have n3_ := Aside0.mk (hbox); have n4_ := Aside0.mk ((by rw [hg]; exact (below_size (by repeat (first | (with_reducible first | exact HB.out | apply below_alloc | apply pw_below_drewN | apply below_drew1 | refine below_set ?_ GE335.out | refine below_set ?_ GE336.out) | exact HB.out))) : w.heap.size ≤ gb337)); have n5_ := Aside0.mk ((by rw [hg]; exact (below_size (by repeat (first | (with_reducible first | exact HB.out | apply below_alloc | apply pw_below_drewN | apply below_drew1 | refine below_set ?_ GE335.out | refine below_set ?_ GE336.out) | exact HB.out))) : w.heap.size ≤ gb337)); have n6_ := Aside0.mk ((by rw [hg]; exact Nat.ne_of_lt (blk_lt (g := gb335) (o := .cells #[.int .i64 a0_0, .int .i64 a0_1, .int .i64 a0_2, .int .i64 a0_3] 72 (0, 0)) (by (with_reducible repeat (first | refine blk_drewN ?_ _ | refine blk_drew ?_ | refine blk_alloc ?_ _)); exact BK335.out)) : gb335 ≠ gb337)); have n7_ := Aside0.mk ((by rw [hg]; exact Nat.ne_of_gt (blk_lt (g := gb335) (o := .cells #[.int .i64 a0_0, .int .i64 a0_1, .int .i64 a0_2, .int .i64 a0_3] 72 (0, 0)) (by (with_reducible repeat (first | refine blk_drewN ?_ _ | refine blk_drew ?_ | refine blk_alloc ?_ _)); exact BK335.out)) : gb337 ≠ gb335)); have n8_ := Aside0.mk ((by rw [hg]; exact Nat.ne_of_lt (blk_lt (g := gb336) (o := .cells #[.int .i64 a1_0, .int .i64 a1_1, .int .i64 a1_2, .int .i64 a1_3, .int .i64 a1_4, .int .i64 a1_5] 75 (0, 0)) (by (with_reducible repeat (first | refine blk_drewN ?_ _ | refine blk_drew ?_ | refine blk_alloc ?_ _)); exact BK336.out)) : gb336 ≠ gb337)); have n9_ := Aside0.mk ((by rw [hg]; exact Nat.ne_of_gt (blk_lt (g := gb336) (o := .cells #[.int .i64 a1_0, .int .i64 a1_1, .int .i64 a1_2, .int .i64 a1_3, .int .i64 a1_4, .int .i64 a1_5] 75 (0, 0)) (by (with_reducible repeat (first | refine blk_drewN ?_ _ | refine blk_drew ?_ | refine blk_alloc ?_ _)); exact BK336.out)) : gb337 ≠ gb336)); clear BK335; clear BK336; clear HB; have BK335 := n0_; have BK336 := n1_; have HB := n2_; have BK337 := n3_; have GW337 := n4_; have GE337 := n5_; have NB335_337 := n6_; have NB337_335 := n7_; have NB336_337 := n8_; have NB337_336 := n9_; clear n0_ n1_ n2_ n3_ n4_ n5_ n6_ n7_ n8_ n9_; clear hb hbox hg; have hnb9 := NB337_335.out; have hnc9 := NB335_337.out; have hnb10 := NB337_336.out; have hnc10 := NB336_337.out; have hcz11_0 : w8.cell? ⟨gb337, 0, none⟩ = some (.int .i64 0) := (blk_cell BK337.out 0).trans rfl; have hcz11_1 : w8.cell? ⟨gb337, 1, none⟩ = some (.int .i64 0) := (blk_cell BK337.out 1).trans rfl; have hcz11_2 : w8.cell? ⟨gb337, 2, none⟩ = some (.int .i64 0) := (blk_cell BK337.out 2).trans rfl; have hcz11_3 : w8.cell? ⟨gb337, 3, none⟩ = some (.int .i64 0) := (blk_cell BK337.out 3).trans rfl; have hcz11_4 : w8.cell? ⟨gb337, 4, none⟩ = some (.int .i64 0) := (blk_cell BK337.out 4).trans rfl; have hcz11_5 : w8.cell? ⟨gb337, 5, none⟩ = some (.int .i64 0) := (blk_cell BK337.out 5).trans rfl; have hfz11_0 := blk_frozen BK337.out 0; have hfz11_1 := blk_frozen BK337.out 1; have hfz11_2 := blk_frozen BK337.out 2; have hfz11_3 := blk_frozen BK337.out 3; have hfz11_4 := blk_frozen BK337.out 4; have hfz11_5 := blk_frozen BK337.out 5))
  (try simp only [Act.put, List.setIfInBounds_toArray, List.set_cons_zero, List.set_cons_succ])
  go_cut [8] (fun v8 wc => ∃ (kq : Nat) (x8_2 : Bool), v8 = .bool x8_2 ∧ Aside0 (node_Shape_right.j0 kq x8_2 a0_0 a0_1 a0_2 a0_3 a1_0 a1_1 a1_2 a1_3 a1_4 a1_5 a1_0 a1_1 a1_2 a1_3 a1_4 a1_5 = some r) ∧ Aside0 (kq ≤ k) ∧ Aside0 (wc.heap[gb335]? = some (.cells #[.int .i64 a0_0, .int .i64 a0_1, .int .i64 a0_2, .int .i64 a0_3] 72 (0, 0))) ∧ Aside0 (wc.heap[gb336]? = some (.cells #[.int .i64 a1_0, .int .i64 a1_1, .int .i64 a1_2, .int .i64 a1_3, .int .i64 a1_4, .int .i64 a1_5] 75 (0, 0))) ∧ Aside0 (wc.heap[gb337]? = some (.cells #[.int .i64 a1_0, .int .i64 a1_1, .int .i64 a1_2, .int .i64 a1_3, .int .i64 a1_4, .int .i64 a1_5] 75 (0, 0))) ∧ Aside0 (Below w.heap.size w wc))
  case first =>
    have H := HC3.out
    clear HC3
    replace H := Option.bind_eq_some_iff.mp H
    obtain ⟨t338, A120, H⟩ := H
    replace H : (if t338 = true then (node_Shape_right.j0 k (a0_2 == 0) a0_0 a0_1 a0_2 a0_3 a1_0 a1_1 a1_2 a1_3 a1_4 a1_5 a1_0 a1_1 a1_2 a1_3 a1_4 a1_5) else (node_Shape_right.j0 k false a0_0 a0_1 a0_2 a0_3 a1_0 a1_1 a1_2 a1_3 a1_4 a1_5 a1_0 a1_1 a1_2 a1_3 a1_4 a1_5)) = some r := H
    have A12 := Aside0.mk A120
    clear A120
    by_cases c13 : t338 = true
    · subst c13
      have H1 : (node_Shape_right.j0 k (a0_2 == 0) a0_0 a0_1 a0_2 a0_3 a1_0 a1_1 a1_2 a1_3 a1_4 a1_5 a1_0 a1_1 a1_2 a1_3 a1_4 a1_5) = some r := by rw [if_pos rfl] at H; exact H
      clear H
      have H := H1
      clear H1
      have H' := Aside0.mk H
      clear H
      have hnb14 := NB336_335.out
      have hnc14 := NB335_336.out
      have hnb15 := NB336_337.out
      have hnc15 := NB337_336.out
      have hcz16_0 : w8.cell? ⟨gb336, 0, none⟩ = some (.int .i64 a1_0) := (blk_cell BK336.out 0).trans rfl
      have hcz16_1 : w8.cell? ⟨gb336, 1, none⟩ = some (.int .i64 a1_1) := (blk_cell BK336.out 1).trans rfl
      have hcz16_2 : w8.cell? ⟨gb336, 2, none⟩ = some (.int .i64 a1_2) := (blk_cell BK336.out 2).trans rfl
      have hcz16_3 : w8.cell? ⟨gb336, 3, none⟩ = some (.int .i64 a1_3) := (blk_cell BK336.out 3).trans rfl
      have hcz16_4 : w8.cell? ⟨gb336, 4, none⟩ = some (.int .i64 a1_4) := (blk_cell BK336.out 4).trans rfl
      have hcz16_5 : w8.cell? ⟨gb336, 5, none⟩ = some (.int .i64 a1_5) := (blk_cell BK336.out 5).trans rfl
      have hfz16_0 := blk_frozen BK336.out 0
      have hfz16_1 := blk_frozen BK336.out 1
      have hfz16_2 := blk_frozen BK336.out 2
      have hfz16_3 := blk_frozen BK336.out 3
      have hfz16_4 := blk_frozen BK336.out 4
      have hfz16_5 := blk_frozen BK336.out 5
      go_wp2_with (first | ((with_reducible refine gate_callee (f := 70) rfl ?_); refine goesL_ (some 10) rfl rfl Try.func70 (by kernel_rfl) rfl #[.agg #[.int .i64 a1_0, .int .i64 a1_1, .int .i64 a1_2, .int .i64 a1_3, .int .i64 a1_4, .int .i64 a1_5]] rfl (by (try simp only [List.map_toArray, List.map_cons, List.map_nil]); first | done | rfl | (simp only [List.length_drop, List.length_take]; rfl)) ?_; (with_reducible refine (node_leaf.calls a1_0 a1_1 a1_2 a1_3 a1_4 a1_5 true _ A12.out).mono ?_); rintro e w17 ⟨rfl, hb⟩; refine ⟨_, rfl, ?_⟩; have n0_ := Aside0.mk (blk_below (g := gb335) (o := .cells #[.int .i64 a0_0, .int .i64 a0_1, .int .i64 a0_2, .int .i64 a0_3] 72 (0, 0)) (by (with_reducible repeat (first | refine blk_drewN ?_ _ | refine blk_drew ?_ | refine blk_alloc ?_ _)); refine blk_far ?_ NB335_337.out _; (with_reducible repeat (first | refine blk_drewN ?_ _ | refine blk_drew ?_ | refine blk_alloc ?_ _)); refine blk_far ?_ NB335_337.out _; (with_reducible repeat (first | refine blk_drewN ?_ _ | refine blk_drew ?_ | refine blk_alloc ?_ _)); refine blk_far ?_ NB335_337.out _; (with_reducible repeat (first | refine blk_drewN ?_ _ | refine blk_drew ?_ | refine blk_alloc ?_ _)); refine blk_far ?_ NB335_337.out _; (with_reducible repeat (first | refine blk_drewN ?_ _ | refine blk_drew ?_ | refine blk_alloc ?_ _)); refine blk_far ?_ NB335_337.out _; (with_reducible repeat (first | refine blk_drewN ?_ _ | refine blk_drew ?_ | refine blk_alloc ?_ _)); refine blk_far ?_ NB335_337.out _; (with_reducible repeat (first | refine blk_drewN ?_ _ | refine blk_drew ?_ | refine blk_alloc ?_ _)); exact BK335.out) hb); have n1_ := Aside0.mk (blk_below (g := gb336) (o := .cells #[.int .i64 a1_0, .int .i64 a1_1, .int .i64 a1_2, .int .i64 a1_3, .int .i64 a1_4, .int .i64 a1_5] 75 (0, 0)) (by (with_reducible repeat (first | refine blk_drewN ?_ _ | refine blk_drew ?_ | refine blk_alloc ?_ _)); refine blk_far ?_ NB336_337.out _; (with_reducible repeat (first | refine blk_drewN ?_ _ | refine blk_drew ?_ | refine blk_alloc ?_ _)); refine blk_far ?_ NB336_337.out _; (with_reducible repeat (first | refine blk_drewN ?_ _ | refine blk_drew ?_ | refine blk_alloc ?_ _)); refine blk_far ?_ NB336_337.out _; (with_reducible repeat (first | refine blk_drewN ?_ _ | refine blk_drew ?_ | refine blk_alloc ?_ _)); refine blk_far ?_ NB336_337.out _; (with_reducible repeat (first | refine blk_drewN ?_ _ | refine blk_drew ?_ | refine blk_alloc ?_ _)); refine blk_far ?_ NB336_337.out _; (with_reducible repeat (first | refine blk_drewN ?_ _ | refine blk_drew ?_ | refine blk_alloc ?_ _)); refine blk_far ?_ NB336_337.out _; (with_reducible repeat (first | refine blk_drewN ?_ _ | refine blk_drew ?_ | refine blk_alloc ?_ _)); exact BK336.out) hb); have n2_ := Aside0.mk (blk_below (g := gb337) (o := .cells #[.int .i64 a1_0, .int .i64 a1_1, .int .i64 a1_2, .int .i64 a1_3, .int .i64 a1_4, .int .i64 a1_5] 75 (0, 0)) (by (with_reducible repeat (first | refine blk_drewN ?_ _ | refine blk_drew ?_ | refine blk_alloc ?_ _)); refine blk_put (cs := #[.int .i64 a1_0, .int .i64 a1_1, .int .i64 a1_2, .int .i64 a1_3, .int .i64 a1_4, .int .i64 0]) ?_ 5 _ rfl; (with_reducible repeat (first | refine blk_drewN ?_ _ | refine blk_drew ?_ | refine blk_alloc ?_ _)); refine blk_put (cs := #[.int .i64 a1_0, .int .i64 a1_1, .int .i64 a1_2, .int .i64 a1_3, .int .i64 0, .int .i64 0]) ?_ 4 _ rfl; (with_reducible repeat (first | refine blk_drewN ?_ _ | refine blk_drew ?_ | refine blk_alloc ?_ _)); refine blk_put (cs := #[.int .i64 a1_0, .int .i64 a1_1, .int .i64 a1_2, .int .i64 0, .int .i64 0, .int .i64 0]) ?_ 3 _ rfl; (with_reducible repeat (first | refine blk_drewN ?_ _ | refine blk_drew ?_ | refine blk_alloc ?_ _)); refine blk_put (cs := #[.int .i64 a1_0, .int .i64 a1_1, .int .i64 0, .int .i64 0, .int .i64 0, .int .i64 0]) ?_ 2 _ rfl; (with_reducible repeat (first | refine blk_drewN ?_ _ | refine blk_drew ?_ | refine blk_alloc ?_ _)); refine blk_put (cs := #[.int .i64 a1_0, .int .i64 0, .int .i64 0, .int .i64 0, .int .i64 0, .int .i64 0]) ?_ 1 _ rfl; (with_reducible repeat (first | refine blk_drewN ?_ _ | refine blk_drew ?_ | refine blk_alloc ?_ _)); refine blk_put (cs := #[.int .i64 0, .int .i64 0, .int .i64 0, .int .i64 0, .int .i64 0, .int .i64 0]) ?_ 0 _ rfl; (with_reducible repeat (first | refine blk_drewN ?_ _ | refine blk_drew ?_ | refine blk_alloc ?_ _)); exact BK337.out) hb); have n3_ := Aside0.mk (below_step (by repeat (first | (with_reducible first | exact HB.out | apply below_alloc | apply pw_below_drewN | apply below_drew1 | refine below_set ?_ GE335.out | refine below_set ?_ GE336.out | refine below_set ?_ GE337.out) | exact HB.out)) hb); clear BK335; clear BK336; clear BK337; clear HB; have BK335 := n0_; have BK336 := n1_; have BK337 := n2_; have HB := n3_; clear n0_ n1_ n2_ n3_; (try clear hb); (try clear hb2); (try clear hk); (try clear hi); have hnb18 := NB335_337.out; have hnc18 := NB337_335.out; have hcz19_0 : w17.cell? ⟨gb335, 0, none⟩ = some (.int .i64 a0_0) := (blk_cell BK335.out 0).trans rfl; have hcz19_1 : w17.cell? ⟨gb335, 1, none⟩ = some (.int .i64 a0_1) := (blk_cell BK335.out 1).trans rfl; have hcz19_2 : w17.cell? ⟨gb335, 2, none⟩ = some (.int .i64 a0_2) := (blk_cell BK335.out 2).trans rfl; have hcz19_3 : w17.cell? ⟨gb335, 3, none⟩ = some (.int .i64 a0_3) := (blk_cell BK335.out 3).trans rfl; have hfz19_0 := blk_frozen BK335.out 0; have hfz19_1 := blk_frozen BK335.out 1; have hfz19_2 := blk_frozen BK335.out 2; have hfz19_3 := blk_frozen BK335.out 3))
      go_meet
      case rel => exact ⟨_, ((a0_2 == 0)), (by first | rfl | (simp; done) | (simp [*]; done)), H', ⟨by first | omega | exact Nat.le_refl _⟩, ⟨by (with_reducible repeat (first | refine blk_drewN ?_ _ | refine blk_drew ?_ | refine blk_alloc ?_ _)); exact BK335.out⟩, ⟨by (with_reducible repeat (first | refine blk_drewN ?_ _ | refine blk_drew ?_ | refine blk_alloc ?_ _)); exact BK336.out⟩, ⟨by (with_reducible repeat (first | refine blk_drewN ?_ _ | refine blk_drew ?_ | refine blk_alloc ?_ _)); exact BK337.out⟩, ⟨by repeat (first | (with_reducible first | exact HB.out | apply below_alloc | apply pw_below_drewN | apply below_drew1 | refine below_set ?_ GE335.out | refine below_set ?_ GE336.out | refine below_set ?_ GE337.out) | exact HB.out)⟩⟩
    · replace c13 := Bool.eq_false_iff.mpr c13
      subst c13
      have H1 : (node_Shape_right.j0 k false a0_0 a0_1 a0_2 a0_3 a1_0 a1_1 a1_2 a1_3 a1_4 a1_5 a1_0 a1_1 a1_2 a1_3 a1_4 a1_5) = some r := by rw [if_neg (show ¬ (false = true) by decide)] at H; exact H
      clear H
      have H := H1
      clear H1
      have H' := Aside0.mk H
      clear H
      have hnb20 := NB336_335.out
      have hnc20 := NB335_336.out
      have hnb21 := NB336_337.out
      have hnc21 := NB337_336.out
      have hcz22_0 : w8.cell? ⟨gb336, 0, none⟩ = some (.int .i64 a1_0) := (blk_cell BK336.out 0).trans rfl
      have hcz22_1 : w8.cell? ⟨gb336, 1, none⟩ = some (.int .i64 a1_1) := (blk_cell BK336.out 1).trans rfl
      have hcz22_2 : w8.cell? ⟨gb336, 2, none⟩ = some (.int .i64 a1_2) := (blk_cell BK336.out 2).trans rfl
      have hcz22_3 : w8.cell? ⟨gb336, 3, none⟩ = some (.int .i64 a1_3) := (blk_cell BK336.out 3).trans rfl
      have hcz22_4 : w8.cell? ⟨gb336, 4, none⟩ = some (.int .i64 a1_4) := (blk_cell BK336.out 4).trans rfl
      have hcz22_5 : w8.cell? ⟨gb336, 5, none⟩ = some (.int .i64 a1_5) := (blk_cell BK336.out 5).trans rfl
      have hfz22_0 := blk_frozen BK336.out 0
      have hfz22_1 := blk_frozen BK336.out 1
      have hfz22_2 := blk_frozen BK336.out 2
      have hfz22_3 := blk_frozen BK336.out 3
      have hfz22_4 := blk_frozen BK336.out 4
      have hfz22_5 := blk_frozen BK336.out 5
      go_wp2_with (first | ((with_reducible refine gate_callee (f := 70) rfl ?_); refine goesL_ (some 10) rfl rfl Try.func70 (by kernel_rfl) rfl #[.agg #[.int .i64 a1_0, .int .i64 a1_1, .int .i64 a1_2, .int .i64 a1_3, .int .i64 a1_4, .int .i64 a1_5]] rfl (by (try simp only [List.map_toArray, List.map_cons, List.map_nil]); first | done | rfl | (simp only [List.length_drop, List.length_take]; rfl)) ?_; (with_reducible refine (node_leaf.calls a1_0 a1_1 a1_2 a1_3 a1_4 a1_5 false _ A12.out).mono ?_); rintro e w23 ⟨rfl, hb⟩; refine ⟨_, rfl, ?_⟩; have n0_ := Aside0.mk (blk_below (g := gb335) (o := .cells #[.int .i64 a0_0, .int .i64 a0_1, .int .i64 a0_2, .int .i64 a0_3] 72 (0, 0)) (by (with_reducible repeat (first | refine blk_drewN ?_ _ | refine blk_drew ?_ | refine blk_alloc ?_ _)); refine blk_far ?_ NB335_337.out _; (with_reducible repeat (first | refine blk_drewN ?_ _ | refine blk_drew ?_ | refine blk_alloc ?_ _)); refine blk_far ?_ NB335_337.out _; (with_reducible repeat (first | refine blk_drewN ?_ _ | refine blk_drew ?_ | refine blk_alloc ?_ _)); refine blk_far ?_ NB335_337.out _; (with_reducible repeat (first | refine blk_drewN ?_ _ | refine blk_drew ?_ | refine blk_alloc ?_ _)); refine blk_far ?_ NB335_337.out _; (with_reducible repeat (first | refine blk_drewN ?_ _ | refine blk_drew ?_ | refine blk_alloc ?_ _)); refine blk_far ?_ NB335_337.out _; (with_reducible repeat (first | refine blk_drewN ?_ _ | refine blk_drew ?_ | refine blk_alloc ?_ _)); refine blk_far ?_ NB335_337.out _; (with_reducible repeat (first | refine blk_drewN ?_ _ | refine blk_drew ?_ | refine blk_alloc ?_ _)); exact BK335.out) hb); have n1_ := Aside0.mk (blk_below (g := gb336) (o := .cells #[.int .i64 a1_0, .int .i64 a1_1, .int .i64 a1_2, .int .i64 a1_3, .int .i64 a1_4, .int .i64 a1_5] 75 (0, 0)) (by (with_reducible repeat (first | refine blk_drewN ?_ _ | refine blk_drew ?_ | refine blk_alloc ?_ _)); refine blk_far ?_ NB336_337.out _; (with_reducible repeat (first | refine blk_drewN ?_ _ | refine blk_drew ?_ | refine blk_alloc ?_ _)); refine blk_far ?_ NB336_337.out _; (with_reducible repeat (first | refine blk_drewN ?_ _ | refine blk_drew ?_ | refine blk_alloc ?_ _)); refine blk_far ?_ NB336_337.out _; (with_reducible repeat (first | refine blk_drewN ?_ _ | refine blk_drew ?_ | refine blk_alloc ?_ _)); refine blk_far ?_ NB336_337.out _; (with_reducible repeat (first | refine blk_drewN ?_ _ | refine blk_drew ?_ | refine blk_alloc ?_ _)); refine blk_far ?_ NB336_337.out _; (with_reducible repeat (first | refine blk_drewN ?_ _ | refine blk_drew ?_ | refine blk_alloc ?_ _)); refine blk_far ?_ NB336_337.out _; (with_reducible repeat (first | refine blk_drewN ?_ _ | refine blk_drew ?_ | refine blk_alloc ?_ _)); exact BK336.out) hb); have n2_ := Aside0.mk (blk_below (g := gb337) (o := .cells #[.int .i64 a1_0, .int .i64 a1_1, .int .i64 a1_2, .int .i64 a1_3, .int .i64 a1_4, .int .i64 a1_5] 75 (0, 0)) (by (with_reducible repeat (first | refine blk_drewN ?_ _ | refine blk_drew ?_ | refine blk_alloc ?_ _)); refine blk_put (cs := #[.int .i64 a1_0, .int .i64 a1_1, .int .i64 a1_2, .int .i64 a1_3, .int .i64 a1_4, .int .i64 0]) ?_ 5 _ rfl; (with_reducible repeat (first | refine blk_drewN ?_ _ | refine blk_drew ?_ | refine blk_alloc ?_ _)); refine blk_put (cs := #[.int .i64 a1_0, .int .i64 a1_1, .int .i64 a1_2, .int .i64 a1_3, .int .i64 0, .int .i64 0]) ?_ 4 _ rfl; (with_reducible repeat (first | refine blk_drewN ?_ _ | refine blk_drew ?_ | refine blk_alloc ?_ _)); refine blk_put (cs := #[.int .i64 a1_0, .int .i64 a1_1, .int .i64 a1_2, .int .i64 0, .int .i64 0, .int .i64 0]) ?_ 3 _ rfl; (with_reducible repeat (first | refine blk_drewN ?_ _ | refine blk_drew ?_ | refine blk_alloc ?_ _)); refine blk_put (cs := #[.int .i64 a1_0, .int .i64 a1_1, .int .i64 0, .int .i64 0, .int .i64 0, .int .i64 0]) ?_ 2 _ rfl; (with_reducible repeat (first | refine blk_drewN ?_ _ | refine blk_drew ?_ | refine blk_alloc ?_ _)); refine blk_put (cs := #[.int .i64 a1_0, .int .i64 0, .int .i64 0, .int .i64 0, .int .i64 0, .int .i64 0]) ?_ 1 _ rfl; (with_reducible repeat (first | refine blk_drewN ?_ _ | refine blk_drew ?_ | refine blk_alloc ?_ _)); refine blk_put (cs := #[.int .i64 0, .int .i64 0, .int .i64 0, .int .i64 0, .int .i64 0, .int .i64 0]) ?_ 0 _ rfl; (with_reducible repeat (first | refine blk_drewN ?_ _ | refine blk_drew ?_ | refine blk_alloc ?_ _)); exact BK337.out) hb); have n3_ := Aside0.mk (below_step (by repeat (first | (with_reducible first | exact HB.out | apply below_alloc | apply pw_below_drewN | apply below_drew1 | refine below_set ?_ GE335.out | refine below_set ?_ GE336.out | refine below_set ?_ GE337.out) | exact HB.out)) hb); clear BK335; clear BK336; clear BK337; clear HB; have BK335 := n0_; have BK336 := n1_; have BK337 := n2_; have HB := n3_; clear n0_ n1_ n2_ n3_; (try clear hb); (try clear hb2); (try clear hk); (try clear hi)))
      go_meet
      case rel => exact ⟨_, (false), (by first | rfl | (simp; done) | (simp [*]; done)), H', ⟨by first | omega | exact Nat.le_refl _⟩, ⟨by (with_reducible repeat (first | refine blk_drewN ?_ _ | refine blk_drew ?_ | refine blk_alloc ?_ _)); exact BK335.out⟩, ⟨by (with_reducible repeat (first | refine blk_drewN ?_ _ | refine blk_drew ?_ | refine blk_alloc ?_ _)); exact BK336.out⟩, ⟨by (with_reducible repeat (first | refine blk_drewN ?_ _ | refine blk_drew ?_ | refine blk_alloc ?_ _)); exact BK337.out⟩, ⟨by repeat (first | (with_reducible first | exact HB.out | apply below_alloc | apply pw_below_drewN | apply below_drew1 | refine below_set ?_ GE335.out | refine below_set ?_ GE336.out | refine below_set ?_ GE337.out) | exact HB.out)⟩⟩
  case rest =>
    clear HC3
    try clear c1
    try clear c2
    try clear p2
    try clear c6
    try clear c7
    try clear c9
    try clear c10
    try clear c13
    try clear c14
    try clear c15
    try clear c18
    try clear c20
    try clear c21
    try clear hcz11_0
    try clear hcz11_1
    try clear hcz11_2
    try clear hcz11_3
    try clear hcz11_4
    try clear hcz11_5
    try clear hcz16_0
    try clear hcz16_1
    try clear hcz16_2
    try clear hcz16_3
    try clear hcz16_4
    try clear hcz16_5
    try clear hcz19_0
    try clear hcz19_1
    try clear hcz19_2
    try clear hcz19_3
    try clear hcz22_0
    try clear hcz22_1
    try clear hcz22_2
    try clear hcz22_3
    try clear hcz22_4
    try clear hcz22_5
    try clear hcz7_0
    try clear hcz7_1
    try clear hcz7_2
    try clear hcz7_3
    try clear hcz7_4
    try clear hcz7_5
    try clear hfz11_0
    try clear hfz11_1
    try clear hfz11_2
    try clear hfz11_3
    try clear hfz11_4
    try clear hfz11_5
    try clear hfz16_0
    try clear hfz16_1
    try clear hfz16_2
    try clear hfz16_3
    try clear hfz16_4
    try clear hfz16_5
    try clear hfz19_0
    try clear hfz19_1
    try clear hfz19_2
    try clear hfz19_3
    try clear hfz22_0
    try clear hfz22_1
    try clear hfz22_2
    try clear hfz22_3
    try clear hfz22_4
    try clear hfz22_5
    try clear hfz7_0
    try clear hfz7_1
    try clear hfz7_2
    try clear hfz7_3
    try clear hfz7_4
    try clear hfz7_5
    obtain ⟨kq, x8_2, rfl, HA, HJ2, BK335, BK336, BK337, HB⟩ := hcut
    cases kq with
    | zero => exact absurd HA.out (by simp [node_Shape_right.j0])
    | succ kj2 =>
      have H := HA.out
      clear HA
      simp only [node_Shape_right.j0] at H
      by_cases c24 : x8_2 = true
      · subst c24
        have H1 : (if (a1_1 == 0 && (a1_2 == 0 && (a1_4 == 0 && (a1_5 == 0)))) = true then (if a1_3 ≥ 0 then (some (decide (a1_3 < a0_3))) else (some false)) else (some false)) = some r := by rw [if_pos rfl] at H; exact H
        clear H
        have H := H1
        clear H1
        by_cases c25 : (a1_1 == 0 && (a1_2 == 0 && (a1_4 == 0 && (a1_5 == 0)))) = true
        · rw [if_pos c25] at H
          have c25b0 : (a1_1 == 0 && (a1_2 == 0 && (a1_4 == 0 && (a1_5 == 0)))) = true := c25
          (try (have c25b1 : decide (a1_1 = 0 && (a1_2 == 0 && (a1_4 == 0 && (a1_5 == 0)))) = true := by simpa using c25))
          (try (have c25b2 : (a1_1 == 0 && (a1_2 == 0 && (a1_4 == 0 && (a1_5 == 0)))) = true := by simpa using c25))
          clear c25
          by_cases c26 : a1_3 ≥ 0
          · rw [if_pos c26] at H
            have c26b0 : decide (0 ≤ a1_3) = true := decide_eq_true c26
            clear c26
            obtain rfl := Option.some.inj H
            have hnb27 := NB337_335.out
            have hnc27 := NB335_337.out
            have hnb28 := NB337_336.out
            have hnc28 := NB336_337.out
            have hcz29_0 : wc.cell? ⟨gb337, 0, none⟩ = some (.int .i64 a1_0) := (blk_cell BK337.out 0).trans rfl
            have hcz29_1 : wc.cell? ⟨gb337, 1, none⟩ = some (.int .i64 a1_1) := (blk_cell BK337.out 1).trans rfl
            have hcz29_2 : wc.cell? ⟨gb337, 2, none⟩ = some (.int .i64 a1_2) := (blk_cell BK337.out 2).trans rfl
            have hcz29_3 : wc.cell? ⟨gb337, 3, none⟩ = some (.int .i64 a1_3) := (blk_cell BK337.out 3).trans rfl
            have hcz29_4 : wc.cell? ⟨gb337, 4, none⟩ = some (.int .i64 a1_4) := (blk_cell BK337.out 4).trans rfl
            have hcz29_5 : wc.cell? ⟨gb337, 5, none⟩ = some (.int .i64 a1_5) := (blk_cell BK337.out 5).trans rfl
            have hfz29_0 := blk_frozen BK337.out 0
            have hfz29_1 := blk_frozen BK337.out 1
            have hfz29_2 := blk_frozen BK337.out 2
            have hfz29_3 := blk_frozen BK337.out 3
            have hfz29_4 := blk_frozen BK337.out 4
            have hfz29_5 := blk_frozen BK337.out 5
            have hnb30 := NB336_335.out
            have hnc30 := NB335_336.out
            have hcz31_0 : wc.cell? ⟨gb336, 0, none⟩ = some (.int .i64 a1_0) := (blk_cell BK336.out 0).trans rfl
            have hcz31_1 : wc.cell? ⟨gb336, 1, none⟩ = some (.int .i64 a1_1) := (blk_cell BK336.out 1).trans rfl
            have hcz31_2 : wc.cell? ⟨gb336, 2, none⟩ = some (.int .i64 a1_2) := (blk_cell BK336.out 2).trans rfl
            have hcz31_3 : wc.cell? ⟨gb336, 3, none⟩ = some (.int .i64 a1_3) := (blk_cell BK336.out 3).trans rfl
            have hcz31_4 : wc.cell? ⟨gb336, 4, none⟩ = some (.int .i64 a1_4) := (blk_cell BK336.out 4).trans rfl
            have hcz31_5 : wc.cell? ⟨gb336, 5, none⟩ = some (.int .i64 a1_5) := (blk_cell BK336.out 5).trans rfl
            have hfz31_0 := blk_frozen BK336.out 0
            have hfz31_1 := blk_frozen BK336.out 1
            have hfz31_2 := blk_frozen BK336.out 2
            have hfz31_3 := blk_frozen BK336.out 3
            have hfz31_4 := blk_frozen BK336.out 4
            have hfz31_5 := blk_frozen BK336.out 5
            have hcz32_0 : wc.cell? ⟨gb335, 0, none⟩ = some (.int .i64 a0_0) := (blk_cell BK335.out 0).trans rfl
            have hcz32_1 : wc.cell? ⟨gb335, 1, none⟩ = some (.int .i64 a0_1) := (blk_cell BK335.out 1).trans rfl
            have hcz32_2 : wc.cell? ⟨gb335, 2, none⟩ = some (.int .i64 a0_2) := (blk_cell BK335.out 2).trans rfl
            have hcz32_3 : wc.cell? ⟨gb335, 3, none⟩ = some (.int .i64 a0_3) := (blk_cell BK335.out 3).trans rfl
            have hfz32_0 := blk_frozen BK335.out 0
            have hfz32_1 := blk_frozen BK335.out 1
            have hfz32_2 := blk_frozen BK335.out 2
            have hfz32_3 := blk_frozen BK335.out 3
            go_wp2
            go_ret
            exact ⟨by first | rfl | (simp [errW_none, errW_some] <;> rfl) | (simp [*, errW_none, errW_some] <;> rfl), by repeat (first | (with_reducible first | exact HB.out | apply below_alloc | apply pw_below_drewN | apply below_drew1 | refine below_set ?_ GE335.out | refine below_set ?_ GE336.out | refine below_set ?_ GE337.out) | exact HB.out)⟩
          · rw [if_neg c26] at H
            have c26b0 : decide (0 ≤ a1_3) = false := decide_eq_false c26
            clear c26
            obtain rfl := Option.some.inj H
            have hnb33 := NB337_335.out
            have hnc33 := NB335_337.out
            have hnb34 := NB337_336.out
            have hnc34 := NB336_337.out
            have hcz35_0 : wc.cell? ⟨gb337, 0, none⟩ = some (.int .i64 a1_0) := (blk_cell BK337.out 0).trans rfl
            have hcz35_1 : wc.cell? ⟨gb337, 1, none⟩ = some (.int .i64 a1_1) := (blk_cell BK337.out 1).trans rfl
            have hcz35_2 : wc.cell? ⟨gb337, 2, none⟩ = some (.int .i64 a1_2) := (blk_cell BK337.out 2).trans rfl
            have hcz35_3 : wc.cell? ⟨gb337, 3, none⟩ = some (.int .i64 a1_3) := (blk_cell BK337.out 3).trans rfl
            have hcz35_4 : wc.cell? ⟨gb337, 4, none⟩ = some (.int .i64 a1_4) := (blk_cell BK337.out 4).trans rfl
            have hcz35_5 : wc.cell? ⟨gb337, 5, none⟩ = some (.int .i64 a1_5) := (blk_cell BK337.out 5).trans rfl
            have hfz35_0 := blk_frozen BK337.out 0
            have hfz35_1 := blk_frozen BK337.out 1
            have hfz35_2 := blk_frozen BK337.out 2
            have hfz35_3 := blk_frozen BK337.out 3
            have hfz35_4 := blk_frozen BK337.out 4
            have hfz35_5 := blk_frozen BK337.out 5
            have hnb36 := NB336_335.out
            have hnc36 := NB335_336.out
            have hcz37_0 : wc.cell? ⟨gb336, 0, none⟩ = some (.int .i64 a1_0) := (blk_cell BK336.out 0).trans rfl
            have hcz37_1 : wc.cell? ⟨gb336, 1, none⟩ = some (.int .i64 a1_1) := (blk_cell BK336.out 1).trans rfl
            have hcz37_2 : wc.cell? ⟨gb336, 2, none⟩ = some (.int .i64 a1_2) := (blk_cell BK336.out 2).trans rfl
            have hcz37_3 : wc.cell? ⟨gb336, 3, none⟩ = some (.int .i64 a1_3) := (blk_cell BK336.out 3).trans rfl
            have hcz37_4 : wc.cell? ⟨gb336, 4, none⟩ = some (.int .i64 a1_4) := (blk_cell BK336.out 4).trans rfl
            have hcz37_5 : wc.cell? ⟨gb336, 5, none⟩ = some (.int .i64 a1_5) := (blk_cell BK336.out 5).trans rfl
            have hfz37_0 := blk_frozen BK336.out 0
            have hfz37_1 := blk_frozen BK336.out 1
            have hfz37_2 := blk_frozen BK336.out 2
            have hfz37_3 := blk_frozen BK336.out 3
            have hfz37_4 := blk_frozen BK336.out 4
            have hfz37_5 := blk_frozen BK336.out 5
            go_wp2
            go_ret
            exact ⟨by first | rfl | (simp [errW_none, errW_some] <;> rfl) | (simp [*, errW_none, errW_some] <;> rfl), by repeat (first | (with_reducible first | exact HB.out | apply below_alloc | apply pw_below_drewN | apply below_drew1 | refine below_set ?_ GE335.out | refine below_set ?_ GE336.out | refine below_set ?_ GE337.out) | exact HB.out)⟩
        · rw [if_neg c25] at H
          have c25b0 : (a1_1 == 0 && (a1_2 == 0 && (a1_4 == 0 && (a1_5 == 0)))) = false := by simpa using c25
          (try (have c25b1 : decide (a1_1 = 0 && (a1_2 == 0 && (a1_4 == 0 && (a1_5 == 0)))) = false := by simpa using c25))
          (try (have c25b2 : (a1_1 == 0 && (a1_2 == 0 && (a1_4 == 0 && (a1_5 == 0)))) = false := by simpa using c25))
          (try (have c25b3 : ¬ (a1_1 = 0 && (a1_2 == 0 && (a1_4 == 0 && (a1_5 == 0)))) := by simpa using c25))
          clear c25
          obtain rfl := Option.some.inj H
          have hnb38 := NB337_335.out
          have hnc38 := NB335_337.out
          have hnb39 := NB337_336.out
          have hnc39 := NB336_337.out
          have hcz40_0 : wc.cell? ⟨gb337, 0, none⟩ = some (.int .i64 a1_0) := (blk_cell BK337.out 0).trans rfl
          have hcz40_1 : wc.cell? ⟨gb337, 1, none⟩ = some (.int .i64 a1_1) := (blk_cell BK337.out 1).trans rfl
          have hcz40_2 : wc.cell? ⟨gb337, 2, none⟩ = some (.int .i64 a1_2) := (blk_cell BK337.out 2).trans rfl
          have hcz40_3 : wc.cell? ⟨gb337, 3, none⟩ = some (.int .i64 a1_3) := (blk_cell BK337.out 3).trans rfl
          have hcz40_4 : wc.cell? ⟨gb337, 4, none⟩ = some (.int .i64 a1_4) := (blk_cell BK337.out 4).trans rfl
          have hcz40_5 : wc.cell? ⟨gb337, 5, none⟩ = some (.int .i64 a1_5) := (blk_cell BK337.out 5).trans rfl
          have hfz40_0 := blk_frozen BK337.out 0
          have hfz40_1 := blk_frozen BK337.out 1
          have hfz40_2 := blk_frozen BK337.out 2
          have hfz40_3 := blk_frozen BK337.out 3
          have hfz40_4 := blk_frozen BK337.out 4
          have hfz40_5 := blk_frozen BK337.out 5
          go_wp2
          go_ret
          exact ⟨by first | rfl | (simp [errW_none, errW_some] <;> rfl) | (simp [*, errW_none, errW_some] <;> rfl), by repeat (first | (with_reducible first | exact HB.out | apply below_alloc | apply pw_below_drewN | apply below_drew1 | refine below_set ?_ GE335.out | refine below_set ?_ GE336.out | refine below_set ?_ GE337.out) | exact HB.out)⟩
      · replace c24 := Bool.eq_false_iff.mpr c24
        subst c24
        have H1 : ((node_leaf.f a1_0 a1_1 a1_2 a1_3 a1_4 a1_5).bind fun t339 => (if t339 = true then (if (a1_1 == 0 && (a1_2 == 0 && (a1_3 == 0))) = true then (if a1_5 ≥ 1 then (if a1_5 ≤ 1048576 then (if a1_4 ≥ (wrap64 (-(wrap64 (1048576 * a1_5)))) then (some (decide (a1_4 ≤ (wrap64 (1048576 * a1_5))))) else (some false)) else (some false)) else (some false)) else (some false)) else (if (a1_3 == 0 && (a1_4 == 0 && (a1_5 == 0))) = true then (if a1_0 ≥ 0 then (if a1_0 < a0_0 then (if a1_1 ≥ 0 then (some (decide (a1_1 < a0_1))) else (some false)) else (some false)) else (some false)) else (some false)))) = some r := by rw [if_neg (show ¬ (false = true) by decide)] at H; exact H
        clear H
        have H := H1
        clear H1
        replace H := Option.bind_eq_some_iff.mp H
        obtain ⟨t339, A410, H⟩ := H
        replace H : (if t339 = true then (if (a1_1 == 0 && (a1_2 == 0 && (a1_3 == 0))) = true then (if a1_5 ≥ 1 then (if a1_5 ≤ 1048576 then (if a1_4 ≥ (wrap64 (-(wrap64 (1048576 * a1_5)))) then (some (decide (a1_4 ≤ (wrap64 (1048576 * a1_5))))) else (some false)) else (some false)) else (some false)) else (some false)) else (if (a1_3 == 0 && (a1_4 == 0 && (a1_5 == 0))) = true then (if a1_0 ≥ 0 then (if a1_0 < a0_0 then (if a1_1 ≥ 0 then (some (decide (a1_1 < a0_1))) else (some false)) else (some false)) else (some false)) else (some false))) = some r := H
        have A41 := Aside0.mk A410
        clear A410
        by_cases c42 : t339 = true
        · subst c42
          have H1 : (if (a1_1 == 0 && (a1_2 == 0 && (a1_3 == 0))) = true then (if a1_5 ≥ 1 then (if a1_5 ≤ 1048576 then (if a1_4 ≥ (wrap64 (-(wrap64 (1048576 * a1_5)))) then (some (decide (a1_4 ≤ (wrap64 (1048576 * a1_5))))) else (some false)) else (some false)) else (some false)) else (some false)) = some r := by rw [if_pos rfl] at H; exact H
          clear H
          have H := H1
          clear H1
          by_cases c43 : (a1_1 == 0 && (a1_2 == 0 && (a1_3 == 0))) = true
          · rw [if_pos c43] at H
            have c43b0 : (a1_1 == 0 && (a1_2 == 0 && (a1_3 == 0))) = true := c43
            (try (have c43b1 : decide (a1_1 = 0 && (a1_2 == 0 && (a1_3 == 0))) = true := by simpa using c43))
            (try (have c43b2 : (a1_1 == 0 && (a1_2 == 0 && (a1_3 == 0))) = true := by simpa using c43))
            clear c43
            by_cases c44 : a1_5 ≥ 1
            · rw [if_pos c44] at H
              have c44b0 : decide (1 ≤ a1_5) = true := decide_eq_true c44
              clear c44
              by_cases c45 : a1_5 ≤ 1048576
              · rw [if_pos c45] at H
                have c45b0 : decide (a1_5 ≤ 1048576) = true := decide_eq_true c45
                clear c45
                by_cases c46 : a1_4 ≥ (wrap64 (-(wrap64 (1048576 * a1_5))))
                · rw [if_pos c46] at H
                  have c46b0 : decide ((wrap64 (-(wrap64 (1048576 * a1_5)))) ≤ a1_4) = true := decide_eq_true c46
                  clear c46
                  obtain rfl := Option.some.inj H
                  have hnb47 := NB336_335.out
                  have hnc47 := NB335_336.out
                  have hnb48 := NB336_337.out
                  have hnc48 := NB337_336.out
                  have hcz49_0 : wc.cell? ⟨gb336, 0, none⟩ = some (.int .i64 a1_0) := (blk_cell BK336.out 0).trans rfl
                  have hcz49_1 : wc.cell? ⟨gb336, 1, none⟩ = some (.int .i64 a1_1) := (blk_cell BK336.out 1).trans rfl
                  have hcz49_2 : wc.cell? ⟨gb336, 2, none⟩ = some (.int .i64 a1_2) := (blk_cell BK336.out 2).trans rfl
                  have hcz49_3 : wc.cell? ⟨gb336, 3, none⟩ = some (.int .i64 a1_3) := (blk_cell BK336.out 3).trans rfl
                  have hcz49_4 : wc.cell? ⟨gb336, 4, none⟩ = some (.int .i64 a1_4) := (blk_cell BK336.out 4).trans rfl
                  have hcz49_5 : wc.cell? ⟨gb336, 5, none⟩ = some (.int .i64 a1_5) := (blk_cell BK336.out 5).trans rfl
                  have hfz49_0 := blk_frozen BK336.out 0
                  have hfz49_1 := blk_frozen BK336.out 1
                  have hfz49_2 := blk_frozen BK336.out 2
                  have hfz49_3 := blk_frozen BK336.out 3
                  have hfz49_4 := blk_frozen BK336.out 4
                  have hfz49_5 := blk_frozen BK336.out 5
                  go_wp2_with (first | ((with_reducible refine gate_callee (f := 70) rfl ?_); refine goesL_ (some 35) rfl rfl Try.func70 (by kernel_rfl) rfl #[.agg #[.int .i64 a1_0, .int .i64 a1_1, .int .i64 a1_2, .int .i64 a1_3, .int .i64 a1_4, .int .i64 a1_5]] rfl (by (try simp only [List.map_toArray, List.map_cons, List.map_nil]); first | done | rfl | (simp only [List.length_drop, List.length_take]; rfl)) ?_; (with_reducible refine (node_leaf.calls a1_0 a1_1 a1_2 a1_3 a1_4 a1_5 true _ A41.out).mono ?_); rintro e w50 ⟨rfl, hb⟩; refine ⟨_, rfl, ?_⟩; have n0_ := Aside0.mk (blk_below (g := gb335) (o := .cells #[.int .i64 a0_0, .int .i64 a0_1, .int .i64 a0_2, .int .i64 a0_3] 72 (0, 0)) (by (with_reducible repeat (first | refine blk_drewN ?_ _ | refine blk_drew ?_ | refine blk_alloc ?_ _)); exact BK335.out) hb); have n1_ := Aside0.mk (blk_below (g := gb336) (o := .cells #[.int .i64 a1_0, .int .i64 a1_1, .int .i64 a1_2, .int .i64 a1_3, .int .i64 a1_4, .int .i64 a1_5] 75 (0, 0)) (by (with_reducible repeat (first | refine blk_drewN ?_ _ | refine blk_drew ?_ | refine blk_alloc ?_ _)); exact BK336.out) hb); have n2_ := Aside0.mk (blk_below (g := gb337) (o := .cells #[.int .i64 a1_0, .int .i64 a1_1, .int .i64 a1_2, .int .i64 a1_3, .int .i64 a1_4, .int .i64 a1_5] 75 (0, 0)) (by (with_reducible repeat (first | refine blk_drewN ?_ _ | refine blk_drew ?_ | refine blk_alloc ?_ _)); exact BK337.out) hb); have n3_ := Aside0.mk (below_step (by repeat (first | (with_reducible first | exact HB.out | apply below_alloc | apply pw_below_drewN | apply below_drew1 | refine below_set ?_ GE335.out | refine below_set ?_ GE336.out | refine below_set ?_ GE337.out) | exact HB.out)) hb); clear BK335; clear BK336; clear BK337; clear HB; have BK335 := n0_; have BK336 := n1_; have BK337 := n2_; have HB := n3_; clear n0_ n1_ n2_ n3_; (try clear hb); (try clear hb2); (try clear hk); (try clear hi); have hnb51 := NB337_335.out; have hnc51 := NB335_337.out; have hcz52_0 : w50.cell? ⟨gb337, 0, none⟩ = some (.int .i64 a1_0) := (blk_cell BK337.out 0).trans rfl; have hcz52_1 : w50.cell? ⟨gb337, 1, none⟩ = some (.int .i64 a1_1) := (blk_cell BK337.out 1).trans rfl; have hcz52_2 : w50.cell? ⟨gb337, 2, none⟩ = some (.int .i64 a1_2) := (blk_cell BK337.out 2).trans rfl; have hcz52_3 : w50.cell? ⟨gb337, 3, none⟩ = some (.int .i64 a1_3) := (blk_cell BK337.out 3).trans rfl; have hcz52_4 : w50.cell? ⟨gb337, 4, none⟩ = some (.int .i64 a1_4) := (blk_cell BK337.out 4).trans rfl; have hcz52_5 : w50.cell? ⟨gb337, 5, none⟩ = some (.int .i64 a1_5) := (blk_cell BK337.out 5).trans rfl; have hfz52_0 := blk_frozen BK337.out 0; have hfz52_1 := blk_frozen BK337.out 1; have hfz52_2 := blk_frozen BK337.out 2; have hfz52_3 := blk_frozen BK337.out 3; have hfz52_4 := blk_frozen BK337.out 4; have hfz52_5 := blk_frozen BK337.out 5; have hcz53_0 : w50.cell? ⟨gb336, 0, none⟩ = some (.int .i64 a1_0) := (blk_cell BK336.out 0).trans rfl; have hcz53_1 : w50.cell? ⟨gb336, 1, none⟩ = some (.int .i64 a1_1) := (blk_cell BK336.out 1).trans rfl; have hcz53_2 : w50.cell? ⟨gb336, 2, none⟩ = some (.int .i64 a1_2) := (blk_cell BK336.out 2).trans rfl; have hcz53_3 : w50.cell? ⟨gb336, 3, none⟩ = some (.int .i64 a1_3) := (blk_cell BK336.out 3).trans rfl; have hcz53_4 : w50.cell? ⟨gb336, 4, none⟩ = some (.int .i64 a1_4) := (blk_cell BK336.out 4).trans rfl; have hcz53_5 : w50.cell? ⟨gb336, 5, none⟩ = some (.int .i64 a1_5) := (blk_cell BK336.out 5).trans rfl; have hfz53_0 := blk_frozen BK336.out 0; have hfz53_1 := blk_frozen BK336.out 1; have hfz53_2 := blk_frozen BK336.out 2; have hfz53_3 := blk_frozen BK336.out 3; have hfz53_4 := blk_frozen BK336.out 4; have hfz53_5 := blk_frozen BK336.out 5))
                  go_ret
                  exact ⟨by first | rfl | (simp [errW_none, errW_some] <;> rfl) | (simp [*, errW_none, errW_some] <;> rfl), by repeat (first | (with_reducible first | exact HB.out | apply below_alloc | apply pw_below_drewN | apply below_drew1 | refine below_set ?_ GE335.out | refine below_set ?_ GE336.out | refine below_set ?_ GE337.out) | exact HB.out)⟩
                · rw [if_neg c46] at H
                  have c46b0 : decide ((wrap64 (-(wrap64 (1048576 * a1_5)))) ≤ a1_4) = false := decide_eq_false c46
                  clear c46
                  obtain rfl := Option.some.inj H
                  have hnb54 := NB336_335.out
                  have hnc54 := NB335_336.out
                  have hnb55 := NB336_337.out
                  have hnc55 := NB337_336.out
                  have hcz56_0 : wc.cell? ⟨gb336, 0, none⟩ = some (.int .i64 a1_0) := (blk_cell BK336.out 0).trans rfl
                  have hcz56_1 : wc.cell? ⟨gb336, 1, none⟩ = some (.int .i64 a1_1) := (blk_cell BK336.out 1).trans rfl
                  have hcz56_2 : wc.cell? ⟨gb336, 2, none⟩ = some (.int .i64 a1_2) := (blk_cell BK336.out 2).trans rfl
                  have hcz56_3 : wc.cell? ⟨gb336, 3, none⟩ = some (.int .i64 a1_3) := (blk_cell BK336.out 3).trans rfl
                  have hcz56_4 : wc.cell? ⟨gb336, 4, none⟩ = some (.int .i64 a1_4) := (blk_cell BK336.out 4).trans rfl
                  have hcz56_5 : wc.cell? ⟨gb336, 5, none⟩ = some (.int .i64 a1_5) := (blk_cell BK336.out 5).trans rfl
                  have hfz56_0 := blk_frozen BK336.out 0
                  have hfz56_1 := blk_frozen BK336.out 1
                  have hfz56_2 := blk_frozen BK336.out 2
                  have hfz56_3 := blk_frozen BK336.out 3
                  have hfz56_4 := blk_frozen BK336.out 4
                  have hfz56_5 := blk_frozen BK336.out 5
                  go_wp2_with (first | ((with_reducible refine gate_callee (f := 70) rfl ?_); refine goesL_ (some 35) rfl rfl Try.func70 (by kernel_rfl) rfl #[.agg #[.int .i64 a1_0, .int .i64 a1_1, .int .i64 a1_2, .int .i64 a1_3, .int .i64 a1_4, .int .i64 a1_5]] rfl (by (try simp only [List.map_toArray, List.map_cons, List.map_nil]); first | done | rfl | (simp only [List.length_drop, List.length_take]; rfl)) ?_; (with_reducible refine (node_leaf.calls a1_0 a1_1 a1_2 a1_3 a1_4 a1_5 true _ A41.out).mono ?_); rintro e w57 ⟨rfl, hb⟩; refine ⟨_, rfl, ?_⟩; have n0_ := Aside0.mk (blk_below (g := gb335) (o := .cells #[.int .i64 a0_0, .int .i64 a0_1, .int .i64 a0_2, .int .i64 a0_3] 72 (0, 0)) (by (with_reducible repeat (first | refine blk_drewN ?_ _ | refine blk_drew ?_ | refine blk_alloc ?_ _)); exact BK335.out) hb); have n1_ := Aside0.mk (blk_below (g := gb336) (o := .cells #[.int .i64 a1_0, .int .i64 a1_1, .int .i64 a1_2, .int .i64 a1_3, .int .i64 a1_4, .int .i64 a1_5] 75 (0, 0)) (by (with_reducible repeat (first | refine blk_drewN ?_ _ | refine blk_drew ?_ | refine blk_alloc ?_ _)); exact BK336.out) hb); have n2_ := Aside0.mk (blk_below (g := gb337) (o := .cells #[.int .i64 a1_0, .int .i64 a1_1, .int .i64 a1_2, .int .i64 a1_3, .int .i64 a1_4, .int .i64 a1_5] 75 (0, 0)) (by (with_reducible repeat (first | refine blk_drewN ?_ _ | refine blk_drew ?_ | refine blk_alloc ?_ _)); exact BK337.out) hb); have n3_ := Aside0.mk (below_step (by repeat (first | (with_reducible first | exact HB.out | apply below_alloc | apply pw_below_drewN | apply below_drew1 | refine below_set ?_ GE335.out | refine below_set ?_ GE336.out | refine below_set ?_ GE337.out) | exact HB.out)) hb); clear BK335; clear BK336; clear BK337; clear HB; have BK335 := n0_; have BK336 := n1_; have BK337 := n2_; have HB := n3_; clear n0_ n1_ n2_ n3_; (try clear hb); (try clear hb2); (try clear hk); (try clear hi); have hnb58 := NB337_335.out; have hnc58 := NB335_337.out; have hcz59_0 : w57.cell? ⟨gb337, 0, none⟩ = some (.int .i64 a1_0) := (blk_cell BK337.out 0).trans rfl; have hcz59_1 : w57.cell? ⟨gb337, 1, none⟩ = some (.int .i64 a1_1) := (blk_cell BK337.out 1).trans rfl; have hcz59_2 : w57.cell? ⟨gb337, 2, none⟩ = some (.int .i64 a1_2) := (blk_cell BK337.out 2).trans rfl; have hcz59_3 : w57.cell? ⟨gb337, 3, none⟩ = some (.int .i64 a1_3) := (blk_cell BK337.out 3).trans rfl; have hcz59_4 : w57.cell? ⟨gb337, 4, none⟩ = some (.int .i64 a1_4) := (blk_cell BK337.out 4).trans rfl; have hcz59_5 : w57.cell? ⟨gb337, 5, none⟩ = some (.int .i64 a1_5) := (blk_cell BK337.out 5).trans rfl; have hfz59_0 := blk_frozen BK337.out 0; have hfz59_1 := blk_frozen BK337.out 1; have hfz59_2 := blk_frozen BK337.out 2; have hfz59_3 := blk_frozen BK337.out 3; have hfz59_4 := blk_frozen BK337.out 4; have hfz59_5 := blk_frozen BK337.out 5; have hcz60_0 : w57.cell? ⟨gb336, 0, none⟩ = some (.int .i64 a1_0) := (blk_cell BK336.out 0).trans rfl; have hcz60_1 : w57.cell? ⟨gb336, 1, none⟩ = some (.int .i64 a1_1) := (blk_cell BK336.out 1).trans rfl; have hcz60_2 : w57.cell? ⟨gb336, 2, none⟩ = some (.int .i64 a1_2) := (blk_cell BK336.out 2).trans rfl; have hcz60_3 : w57.cell? ⟨gb336, 3, none⟩ = some (.int .i64 a1_3) := (blk_cell BK336.out 3).trans rfl; have hcz60_4 : w57.cell? ⟨gb336, 4, none⟩ = some (.int .i64 a1_4) := (blk_cell BK336.out 4).trans rfl; have hcz60_5 : w57.cell? ⟨gb336, 5, none⟩ = some (.int .i64 a1_5) := (blk_cell BK336.out 5).trans rfl; have hfz60_0 := blk_frozen BK336.out 0; have hfz60_1 := blk_frozen BK336.out 1; have hfz60_2 := blk_frozen BK336.out 2; have hfz60_3 := blk_frozen BK336.out 3; have hfz60_4 := blk_frozen BK336.out 4; have hfz60_5 := blk_frozen BK336.out 5))
                  go_ret
                  exact ⟨by first | rfl | (simp [errW_none, errW_some] <;> rfl) | (simp [*, errW_none, errW_some] <;> rfl), by repeat (first | (with_reducible first | exact HB.out | apply below_alloc | apply pw_below_drewN | apply below_drew1 | refine below_set ?_ GE335.out | refine below_set ?_ GE336.out | refine below_set ?_ GE337.out) | exact HB.out)⟩
              · rw [if_neg c45] at H
                have c45b0 : decide (a1_5 ≤ 1048576) = false := decide_eq_false c45
                clear c45
                obtain rfl := Option.some.inj H
                have hnb61 := NB336_335.out
                have hnc61 := NB335_336.out
                have hnb62 := NB336_337.out
                have hnc62 := NB337_336.out
                have hcz63_0 : wc.cell? ⟨gb336, 0, none⟩ = some (.int .i64 a1_0) := (blk_cell BK336.out 0).trans rfl
                have hcz63_1 : wc.cell? ⟨gb336, 1, none⟩ = some (.int .i64 a1_1) := (blk_cell BK336.out 1).trans rfl
                have hcz63_2 : wc.cell? ⟨gb336, 2, none⟩ = some (.int .i64 a1_2) := (blk_cell BK336.out 2).trans rfl
                have hcz63_3 : wc.cell? ⟨gb336, 3, none⟩ = some (.int .i64 a1_3) := (blk_cell BK336.out 3).trans rfl
                have hcz63_4 : wc.cell? ⟨gb336, 4, none⟩ = some (.int .i64 a1_4) := (blk_cell BK336.out 4).trans rfl
                have hcz63_5 : wc.cell? ⟨gb336, 5, none⟩ = some (.int .i64 a1_5) := (blk_cell BK336.out 5).trans rfl
                have hfz63_0 := blk_frozen BK336.out 0
                have hfz63_1 := blk_frozen BK336.out 1
                have hfz63_2 := blk_frozen BK336.out 2
                have hfz63_3 := blk_frozen BK336.out 3
                have hfz63_4 := blk_frozen BK336.out 4
                have hfz63_5 := blk_frozen BK336.out 5
                go_wp2_with (first | ((with_reducible refine gate_callee (f := 70) rfl ?_); refine goesL_ (some 35) rfl rfl Try.func70 (by kernel_rfl) rfl #[.agg #[.int .i64 a1_0, .int .i64 a1_1, .int .i64 a1_2, .int .i64 a1_3, .int .i64 a1_4, .int .i64 a1_5]] rfl (by (try simp only [List.map_toArray, List.map_cons, List.map_nil]); first | done | rfl | (simp only [List.length_drop, List.length_take]; rfl)) ?_; (with_reducible refine (node_leaf.calls a1_0 a1_1 a1_2 a1_3 a1_4 a1_5 true _ A41.out).mono ?_); rintro e w64 ⟨rfl, hb⟩; refine ⟨_, rfl, ?_⟩; have n0_ := Aside0.mk (blk_below (g := gb335) (o := .cells #[.int .i64 a0_0, .int .i64 a0_1, .int .i64 a0_2, .int .i64 a0_3] 72 (0, 0)) (by (with_reducible repeat (first | refine blk_drewN ?_ _ | refine blk_drew ?_ | refine blk_alloc ?_ _)); exact BK335.out) hb); have n1_ := Aside0.mk (blk_below (g := gb336) (o := .cells #[.int .i64 a1_0, .int .i64 a1_1, .int .i64 a1_2, .int .i64 a1_3, .int .i64 a1_4, .int .i64 a1_5] 75 (0, 0)) (by (with_reducible repeat (first | refine blk_drewN ?_ _ | refine blk_drew ?_ | refine blk_alloc ?_ _)); exact BK336.out) hb); have n2_ := Aside0.mk (blk_below (g := gb337) (o := .cells #[.int .i64 a1_0, .int .i64 a1_1, .int .i64 a1_2, .int .i64 a1_3, .int .i64 a1_4, .int .i64 a1_5] 75 (0, 0)) (by (with_reducible repeat (first | refine blk_drewN ?_ _ | refine blk_drew ?_ | refine blk_alloc ?_ _)); exact BK337.out) hb); have n3_ := Aside0.mk (below_step (by repeat (first | (with_reducible first | exact HB.out | apply below_alloc | apply pw_below_drewN | apply below_drew1 | refine below_set ?_ GE335.out | refine below_set ?_ GE336.out | refine below_set ?_ GE337.out) | exact HB.out)) hb); clear BK335; clear BK336; clear BK337; clear HB; have BK335 := n0_; have BK336 := n1_; have BK337 := n2_; have HB := n3_; clear n0_ n1_ n2_ n3_; (try clear hb); (try clear hb2); (try clear hk); (try clear hi); have hnb65 := NB337_335.out; have hnc65 := NB335_337.out; have hcz66_0 : w64.cell? ⟨gb337, 0, none⟩ = some (.int .i64 a1_0) := (blk_cell BK337.out 0).trans rfl; have hcz66_1 : w64.cell? ⟨gb337, 1, none⟩ = some (.int .i64 a1_1) := (blk_cell BK337.out 1).trans rfl; have hcz66_2 : w64.cell? ⟨gb337, 2, none⟩ = some (.int .i64 a1_2) := (blk_cell BK337.out 2).trans rfl; have hcz66_3 : w64.cell? ⟨gb337, 3, none⟩ = some (.int .i64 a1_3) := (blk_cell BK337.out 3).trans rfl; have hcz66_4 : w64.cell? ⟨gb337, 4, none⟩ = some (.int .i64 a1_4) := (blk_cell BK337.out 4).trans rfl; have hcz66_5 : w64.cell? ⟨gb337, 5, none⟩ = some (.int .i64 a1_5) := (blk_cell BK337.out 5).trans rfl; have hfz66_0 := blk_frozen BK337.out 0; have hfz66_1 := blk_frozen BK337.out 1; have hfz66_2 := blk_frozen BK337.out 2; have hfz66_3 := blk_frozen BK337.out 3; have hfz66_4 := blk_frozen BK337.out 4; have hfz66_5 := blk_frozen BK337.out 5; have hcz67_0 : w64.cell? ⟨gb336, 0, none⟩ = some (.int .i64 a1_0) := (blk_cell BK336.out 0).trans rfl; have hcz67_1 : w64.cell? ⟨gb336, 1, none⟩ = some (.int .i64 a1_1) := (blk_cell BK336.out 1).trans rfl; have hcz67_2 : w64.cell? ⟨gb336, 2, none⟩ = some (.int .i64 a1_2) := (blk_cell BK336.out 2).trans rfl; have hcz67_3 : w64.cell? ⟨gb336, 3, none⟩ = some (.int .i64 a1_3) := (blk_cell BK336.out 3).trans rfl; have hcz67_4 : w64.cell? ⟨gb336, 4, none⟩ = some (.int .i64 a1_4) := (blk_cell BK336.out 4).trans rfl; have hcz67_5 : w64.cell? ⟨gb336, 5, none⟩ = some (.int .i64 a1_5) := (blk_cell BK336.out 5).trans rfl; have hfz67_0 := blk_frozen BK336.out 0; have hfz67_1 := blk_frozen BK336.out 1; have hfz67_2 := blk_frozen BK336.out 2; have hfz67_3 := blk_frozen BK336.out 3; have hfz67_4 := blk_frozen BK336.out 4; have hfz67_5 := blk_frozen BK336.out 5))
                go_ret
                exact ⟨by first | rfl | (simp [errW_none, errW_some] <;> rfl) | (simp [*, errW_none, errW_some] <;> rfl), by repeat (first | (with_reducible first | exact HB.out | apply below_alloc | apply pw_below_drewN | apply below_drew1 | refine below_set ?_ GE335.out | refine below_set ?_ GE336.out | refine below_set ?_ GE337.out) | exact HB.out)⟩
            · rw [if_neg c44] at H
              have c44b0 : decide (1 ≤ a1_5) = false := decide_eq_false c44
              clear c44
              obtain rfl := Option.some.inj H
              have hnb68 := NB336_335.out
              have hnc68 := NB335_336.out
              have hnb69 := NB336_337.out
              have hnc69 := NB337_336.out
              have hcz70_0 : wc.cell? ⟨gb336, 0, none⟩ = some (.int .i64 a1_0) := (blk_cell BK336.out 0).trans rfl
              have hcz70_1 : wc.cell? ⟨gb336, 1, none⟩ = some (.int .i64 a1_1) := (blk_cell BK336.out 1).trans rfl
              have hcz70_2 : wc.cell? ⟨gb336, 2, none⟩ = some (.int .i64 a1_2) := (blk_cell BK336.out 2).trans rfl
              have hcz70_3 : wc.cell? ⟨gb336, 3, none⟩ = some (.int .i64 a1_3) := (blk_cell BK336.out 3).trans rfl
              have hcz70_4 : wc.cell? ⟨gb336, 4, none⟩ = some (.int .i64 a1_4) := (blk_cell BK336.out 4).trans rfl
              have hcz70_5 : wc.cell? ⟨gb336, 5, none⟩ = some (.int .i64 a1_5) := (blk_cell BK336.out 5).trans rfl
              have hfz70_0 := blk_frozen BK336.out 0
              have hfz70_1 := blk_frozen BK336.out 1
              have hfz70_2 := blk_frozen BK336.out 2
              have hfz70_3 := blk_frozen BK336.out 3
              have hfz70_4 := blk_frozen BK336.out 4
              have hfz70_5 := blk_frozen BK336.out 5
              go_wp2_with (first | ((with_reducible refine gate_callee (f := 70) rfl ?_); refine goesL_ (some 35) rfl rfl Try.func70 (by kernel_rfl) rfl #[.agg #[.int .i64 a1_0, .int .i64 a1_1, .int .i64 a1_2, .int .i64 a1_3, .int .i64 a1_4, .int .i64 a1_5]] rfl (by (try simp only [List.map_toArray, List.map_cons, List.map_nil]); first | done | rfl | (simp only [List.length_drop, List.length_take]; rfl)) ?_; (with_reducible refine (node_leaf.calls a1_0 a1_1 a1_2 a1_3 a1_4 a1_5 true _ A41.out).mono ?_); rintro e w71 ⟨rfl, hb⟩; refine ⟨_, rfl, ?_⟩; have n0_ := Aside0.mk (blk_below (g := gb335) (o := .cells #[.int .i64 a0_0, .int .i64 a0_1, .int .i64 a0_2, .int .i64 a0_3] 72 (0, 0)) (by (with_reducible repeat (first | refine blk_drewN ?_ _ | refine blk_drew ?_ | refine blk_alloc ?_ _)); exact BK335.out) hb); have n1_ := Aside0.mk (blk_below (g := gb336) (o := .cells #[.int .i64 a1_0, .int .i64 a1_1, .int .i64 a1_2, .int .i64 a1_3, .int .i64 a1_4, .int .i64 a1_5] 75 (0, 0)) (by (with_reducible repeat (first | refine blk_drewN ?_ _ | refine blk_drew ?_ | refine blk_alloc ?_ _)); exact BK336.out) hb); have n2_ := Aside0.mk (blk_below (g := gb337) (o := .cells #[.int .i64 a1_0, .int .i64 a1_1, .int .i64 a1_2, .int .i64 a1_3, .int .i64 a1_4, .int .i64 a1_5] 75 (0, 0)) (by (with_reducible repeat (first | refine blk_drewN ?_ _ | refine blk_drew ?_ | refine blk_alloc ?_ _)); exact BK337.out) hb); have n3_ := Aside0.mk (below_step (by repeat (first | (with_reducible first | exact HB.out | apply below_alloc | apply pw_below_drewN | apply below_drew1 | refine below_set ?_ GE335.out | refine below_set ?_ GE336.out | refine below_set ?_ GE337.out) | exact HB.out)) hb); clear BK335; clear BK336; clear BK337; clear HB; have BK335 := n0_; have BK336 := n1_; have BK337 := n2_; have HB := n3_; clear n0_ n1_ n2_ n3_; (try clear hb); (try clear hb2); (try clear hk); (try clear hi); have hnb72 := NB337_335.out; have hnc72 := NB335_337.out; have hcz73_0 : w71.cell? ⟨gb337, 0, none⟩ = some (.int .i64 a1_0) := (blk_cell BK337.out 0).trans rfl; have hcz73_1 : w71.cell? ⟨gb337, 1, none⟩ = some (.int .i64 a1_1) := (blk_cell BK337.out 1).trans rfl; have hcz73_2 : w71.cell? ⟨gb337, 2, none⟩ = some (.int .i64 a1_2) := (blk_cell BK337.out 2).trans rfl; have hcz73_3 : w71.cell? ⟨gb337, 3, none⟩ = some (.int .i64 a1_3) := (blk_cell BK337.out 3).trans rfl; have hcz73_4 : w71.cell? ⟨gb337, 4, none⟩ = some (.int .i64 a1_4) := (blk_cell BK337.out 4).trans rfl; have hcz73_5 : w71.cell? ⟨gb337, 5, none⟩ = some (.int .i64 a1_5) := (blk_cell BK337.out 5).trans rfl; have hfz73_0 := blk_frozen BK337.out 0; have hfz73_1 := blk_frozen BK337.out 1; have hfz73_2 := blk_frozen BK337.out 2; have hfz73_3 := blk_frozen BK337.out 3; have hfz73_4 := blk_frozen BK337.out 4; have hfz73_5 := blk_frozen BK337.out 5; have hcz74_0 : w71.cell? ⟨gb336, 0, none⟩ = some (.int .i64 a1_0) := (blk_cell BK336.out 0).trans rfl; have hcz74_1 : w71.cell? ⟨gb336, 1, none⟩ = some (.int .i64 a1_1) := (blk_cell BK336.out 1).trans rfl; have hcz74_2 : w71.cell? ⟨gb336, 2, none⟩ = some (.int .i64 a1_2) := (blk_cell BK336.out 2).trans rfl; have hcz74_3 : w71.cell? ⟨gb336, 3, none⟩ = some (.int .i64 a1_3) := (blk_cell BK336.out 3).trans rfl; have hcz74_4 : w71.cell? ⟨gb336, 4, none⟩ = some (.int .i64 a1_4) := (blk_cell BK336.out 4).trans rfl; have hcz74_5 : w71.cell? ⟨gb336, 5, none⟩ = some (.int .i64 a1_5) := (blk_cell BK336.out 5).trans rfl; have hfz74_0 := blk_frozen BK336.out 0; have hfz74_1 := blk_frozen BK336.out 1; have hfz74_2 := blk_frozen BK336.out 2; have hfz74_3 := blk_frozen BK336.out 3; have hfz74_4 := blk_frozen BK336.out 4; have hfz74_5 := blk_frozen BK336.out 5))
              go_ret
              exact ⟨by first | rfl | (simp [errW_none, errW_some] <;> rfl) | (simp [*, errW_none, errW_some] <;> rfl), by repeat (first | (with_reducible first | exact HB.out | apply below_alloc | apply pw_below_drewN | apply below_drew1 | refine below_set ?_ GE335.out | refine below_set ?_ GE336.out | refine below_set ?_ GE337.out) | exact HB.out)⟩
          · rw [if_neg c43] at H
            have c43b0 : (a1_1 == 0 && (a1_2 == 0 && (a1_3 == 0))) = false := by simpa using c43
            (try (have c43b1 : decide (a1_1 = 0 && (a1_2 == 0 && (a1_3 == 0))) = false := by simpa using c43))
            (try (have c43b2 : (a1_1 == 0 && (a1_2 == 0 && (a1_3 == 0))) = false := by simpa using c43))
            (try (have c43b3 : ¬ (a1_1 = 0 && (a1_2 == 0 && (a1_3 == 0))) := by simpa using c43))
            clear c43
            obtain rfl := Option.some.inj H
            have hnb75 := NB336_335.out
            have hnc75 := NB335_336.out
            have hnb76 := NB336_337.out
            have hnc76 := NB337_336.out
            have hcz77_0 : wc.cell? ⟨gb336, 0, none⟩ = some (.int .i64 a1_0) := (blk_cell BK336.out 0).trans rfl
            have hcz77_1 : wc.cell? ⟨gb336, 1, none⟩ = some (.int .i64 a1_1) := (blk_cell BK336.out 1).trans rfl
            have hcz77_2 : wc.cell? ⟨gb336, 2, none⟩ = some (.int .i64 a1_2) := (blk_cell BK336.out 2).trans rfl
            have hcz77_3 : wc.cell? ⟨gb336, 3, none⟩ = some (.int .i64 a1_3) := (blk_cell BK336.out 3).trans rfl
            have hcz77_4 : wc.cell? ⟨gb336, 4, none⟩ = some (.int .i64 a1_4) := (blk_cell BK336.out 4).trans rfl
            have hcz77_5 : wc.cell? ⟨gb336, 5, none⟩ = some (.int .i64 a1_5) := (blk_cell BK336.out 5).trans rfl
            have hfz77_0 := blk_frozen BK336.out 0
            have hfz77_1 := blk_frozen BK336.out 1
            have hfz77_2 := blk_frozen BK336.out 2
            have hfz77_3 := blk_frozen BK336.out 3
            have hfz77_4 := blk_frozen BK336.out 4
            have hfz77_5 := blk_frozen BK336.out 5
            go_wp2_with (first | ((with_reducible refine gate_callee (f := 70) rfl ?_); refine goesL_ (some 35) rfl rfl Try.func70 (by kernel_rfl) rfl #[.agg #[.int .i64 a1_0, .int .i64 a1_1, .int .i64 a1_2, .int .i64 a1_3, .int .i64 a1_4, .int .i64 a1_5]] rfl (by (try simp only [List.map_toArray, List.map_cons, List.map_nil]); first | done | rfl | (simp only [List.length_drop, List.length_take]; rfl)) ?_; (with_reducible refine (node_leaf.calls a1_0 a1_1 a1_2 a1_3 a1_4 a1_5 true _ A41.out).mono ?_); rintro e w78 ⟨rfl, hb⟩; refine ⟨_, rfl, ?_⟩; have n0_ := Aside0.mk (blk_below (g := gb335) (o := .cells #[.int .i64 a0_0, .int .i64 a0_1, .int .i64 a0_2, .int .i64 a0_3] 72 (0, 0)) (by (with_reducible repeat (first | refine blk_drewN ?_ _ | refine blk_drew ?_ | refine blk_alloc ?_ _)); exact BK335.out) hb); have n1_ := Aside0.mk (blk_below (g := gb336) (o := .cells #[.int .i64 a1_0, .int .i64 a1_1, .int .i64 a1_2, .int .i64 a1_3, .int .i64 a1_4, .int .i64 a1_5] 75 (0, 0)) (by (with_reducible repeat (first | refine blk_drewN ?_ _ | refine blk_drew ?_ | refine blk_alloc ?_ _)); exact BK336.out) hb); have n2_ := Aside0.mk (blk_below (g := gb337) (o := .cells #[.int .i64 a1_0, .int .i64 a1_1, .int .i64 a1_2, .int .i64 a1_3, .int .i64 a1_4, .int .i64 a1_5] 75 (0, 0)) (by (with_reducible repeat (first | refine blk_drewN ?_ _ | refine blk_drew ?_ | refine blk_alloc ?_ _)); exact BK337.out) hb); have n3_ := Aside0.mk (below_step (by repeat (first | (with_reducible first | exact HB.out | apply below_alloc | apply pw_below_drewN | apply below_drew1 | refine below_set ?_ GE335.out | refine below_set ?_ GE336.out | refine below_set ?_ GE337.out) | exact HB.out)) hb); clear BK335; clear BK336; clear BK337; clear HB; have BK335 := n0_; have BK336 := n1_; have BK337 := n2_; have HB := n3_; clear n0_ n1_ n2_ n3_; (try clear hb); (try clear hb2); (try clear hk); (try clear hi); have hnb79 := NB337_335.out; have hnc79 := NB335_337.out; have hcz80_0 : w78.cell? ⟨gb337, 0, none⟩ = some (.int .i64 a1_0) := (blk_cell BK337.out 0).trans rfl; have hcz80_1 : w78.cell? ⟨gb337, 1, none⟩ = some (.int .i64 a1_1) := (blk_cell BK337.out 1).trans rfl; have hcz80_2 : w78.cell? ⟨gb337, 2, none⟩ = some (.int .i64 a1_2) := (blk_cell BK337.out 2).trans rfl; have hcz80_3 : w78.cell? ⟨gb337, 3, none⟩ = some (.int .i64 a1_3) := (blk_cell BK337.out 3).trans rfl; have hcz80_4 : w78.cell? ⟨gb337, 4, none⟩ = some (.int .i64 a1_4) := (blk_cell BK337.out 4).trans rfl; have hcz80_5 : w78.cell? ⟨gb337, 5, none⟩ = some (.int .i64 a1_5) := (blk_cell BK337.out 5).trans rfl; have hfz80_0 := blk_frozen BK337.out 0; have hfz80_1 := blk_frozen BK337.out 1; have hfz80_2 := blk_frozen BK337.out 2; have hfz80_3 := blk_frozen BK337.out 3; have hfz80_4 := blk_frozen BK337.out 4; have hfz80_5 := blk_frozen BK337.out 5; have hcz81_0 : w78.cell? ⟨gb336, 0, none⟩ = some (.int .i64 a1_0) := (blk_cell BK336.out 0).trans rfl; have hcz81_1 : w78.cell? ⟨gb336, 1, none⟩ = some (.int .i64 a1_1) := (blk_cell BK336.out 1).trans rfl; have hcz81_2 : w78.cell? ⟨gb336, 2, none⟩ = some (.int .i64 a1_2) := (blk_cell BK336.out 2).trans rfl; have hcz81_3 : w78.cell? ⟨gb336, 3, none⟩ = some (.int .i64 a1_3) := (blk_cell BK336.out 3).trans rfl; have hcz81_4 : w78.cell? ⟨gb336, 4, none⟩ = some (.int .i64 a1_4) := (blk_cell BK336.out 4).trans rfl; have hcz81_5 : w78.cell? ⟨gb336, 5, none⟩ = some (.int .i64 a1_5) := (blk_cell BK336.out 5).trans rfl; have hfz81_0 := blk_frozen BK336.out 0; have hfz81_1 := blk_frozen BK336.out 1; have hfz81_2 := blk_frozen BK336.out 2; have hfz81_3 := blk_frozen BK336.out 3; have hfz81_4 := blk_frozen BK336.out 4; have hfz81_5 := blk_frozen BK336.out 5))
            go_ret
            exact ⟨by first | rfl | (simp [errW_none, errW_some] <;> rfl) | (simp [*, errW_none, errW_some] <;> rfl), by repeat (first | (with_reducible first | exact HB.out | apply below_alloc | apply pw_below_drewN | apply below_drew1 | refine below_set ?_ GE335.out | refine below_set ?_ GE336.out | refine below_set ?_ GE337.out) | exact HB.out)⟩
        · replace c42 := Bool.eq_false_iff.mpr c42
          subst c42
          have H1 : (if (a1_3 == 0 && (a1_4 == 0 && (a1_5 == 0))) = true then (if a1_0 ≥ 0 then (if a1_0 < a0_0 then (if a1_1 ≥ 0 then (some (decide (a1_1 < a0_1))) else (some false)) else (some false)) else (some false)) else (some false)) = some r := by rw [if_neg (show ¬ (false = true) by decide)] at H; exact H
          clear H
          have H := H1
          clear H1
          by_cases c82 : (a1_3 == 0 && (a1_4 == 0 && (a1_5 == 0))) = true
          · rw [if_pos c82] at H
            have c82b0 : (a1_3 == 0 && (a1_4 == 0 && (a1_5 == 0))) = true := c82
            (try (have c82b1 : decide (a1_3 = 0 && (a1_4 == 0 && (a1_5 == 0))) = true := by simpa using c82))
            (try (have c82b2 : (a1_3 == 0 && (a1_4 == 0 && (a1_5 == 0))) = true := by simpa using c82))
            clear c82
            by_cases c83 : a1_0 ≥ 0
            · rw [if_pos c83] at H
              have c83b0 : decide (0 ≤ a1_0) = true := decide_eq_true c83
              clear c83
              by_cases c84 : a1_0 < a0_0
              · rw [if_pos c84] at H
                have c84b0 : decide (a1_0 < a0_0) = true := decide_eq_true c84
                clear c84
                by_cases c85 : a1_1 ≥ 0
                · rw [if_pos c85] at H
                  have c85b0 : decide (0 ≤ a1_1) = true := decide_eq_true c85
                  clear c85
                  obtain rfl := Option.some.inj H
                  have hnb86 := NB336_335.out
                  have hnc86 := NB335_336.out
                  have hnb87 := NB336_337.out
                  have hnc87 := NB337_336.out
                  have hcz88_0 : wc.cell? ⟨gb336, 0, none⟩ = some (.int .i64 a1_0) := (blk_cell BK336.out 0).trans rfl
                  have hcz88_1 : wc.cell? ⟨gb336, 1, none⟩ = some (.int .i64 a1_1) := (blk_cell BK336.out 1).trans rfl
                  have hcz88_2 : wc.cell? ⟨gb336, 2, none⟩ = some (.int .i64 a1_2) := (blk_cell BK336.out 2).trans rfl
                  have hcz88_3 : wc.cell? ⟨gb336, 3, none⟩ = some (.int .i64 a1_3) := (blk_cell BK336.out 3).trans rfl
                  have hcz88_4 : wc.cell? ⟨gb336, 4, none⟩ = some (.int .i64 a1_4) := (blk_cell BK336.out 4).trans rfl
                  have hcz88_5 : wc.cell? ⟨gb336, 5, none⟩ = some (.int .i64 a1_5) := (blk_cell BK336.out 5).trans rfl
                  have hfz88_0 := blk_frozen BK336.out 0
                  have hfz88_1 := blk_frozen BK336.out 1
                  have hfz88_2 := blk_frozen BK336.out 2
                  have hfz88_3 := blk_frozen BK336.out 3
                  have hfz88_4 := blk_frozen BK336.out 4
                  have hfz88_5 := blk_frozen BK336.out 5
                  go_wp2_with (first | ((with_reducible refine gate_callee (f := 70) rfl ?_); refine goesL_ (some 35) rfl rfl Try.func70 (by kernel_rfl) rfl #[.agg #[.int .i64 a1_0, .int .i64 a1_1, .int .i64 a1_2, .int .i64 a1_3, .int .i64 a1_4, .int .i64 a1_5]] rfl (by (try simp only [List.map_toArray, List.map_cons, List.map_nil]); first | done | rfl | (simp only [List.length_drop, List.length_take]; rfl)) ?_; (with_reducible refine (node_leaf.calls a1_0 a1_1 a1_2 a1_3 a1_4 a1_5 false _ A41.out).mono ?_); rintro e w89 ⟨rfl, hb⟩; refine ⟨_, rfl, ?_⟩; have n0_ := Aside0.mk (blk_below (g := gb335) (o := .cells #[.int .i64 a0_0, .int .i64 a0_1, .int .i64 a0_2, .int .i64 a0_3] 72 (0, 0)) (by (with_reducible repeat (first | refine blk_drewN ?_ _ | refine blk_drew ?_ | refine blk_alloc ?_ _)); exact BK335.out) hb); have n1_ := Aside0.mk (blk_below (g := gb336) (o := .cells #[.int .i64 a1_0, .int .i64 a1_1, .int .i64 a1_2, .int .i64 a1_3, .int .i64 a1_4, .int .i64 a1_5] 75 (0, 0)) (by (with_reducible repeat (first | refine blk_drewN ?_ _ | refine blk_drew ?_ | refine blk_alloc ?_ _)); exact BK336.out) hb); have n2_ := Aside0.mk (blk_below (g := gb337) (o := .cells #[.int .i64 a1_0, .int .i64 a1_1, .int .i64 a1_2, .int .i64 a1_3, .int .i64 a1_4, .int .i64 a1_5] 75 (0, 0)) (by (with_reducible repeat (first | refine blk_drewN ?_ _ | refine blk_drew ?_ | refine blk_alloc ?_ _)); exact BK337.out) hb); have n3_ := Aside0.mk (below_step (by repeat (first | (with_reducible first | exact HB.out | apply below_alloc | apply pw_below_drewN | apply below_drew1 | refine below_set ?_ GE335.out | refine below_set ?_ GE336.out | refine below_set ?_ GE337.out) | exact HB.out)) hb); clear BK335; clear BK336; clear BK337; clear HB; have BK335 := n0_; have BK336 := n1_; have BK337 := n2_; have HB := n3_; clear n0_ n1_ n2_ n3_; (try clear hb); (try clear hb2); (try clear hk); (try clear hi); have hnb90 := NB337_335.out; have hnc90 := NB335_337.out; have hcz91_0 : w89.cell? ⟨gb337, 0, none⟩ = some (.int .i64 a1_0) := (blk_cell BK337.out 0).trans rfl; have hcz91_1 : w89.cell? ⟨gb337, 1, none⟩ = some (.int .i64 a1_1) := (blk_cell BK337.out 1).trans rfl; have hcz91_2 : w89.cell? ⟨gb337, 2, none⟩ = some (.int .i64 a1_2) := (blk_cell BK337.out 2).trans rfl; have hcz91_3 : w89.cell? ⟨gb337, 3, none⟩ = some (.int .i64 a1_3) := (blk_cell BK337.out 3).trans rfl; have hcz91_4 : w89.cell? ⟨gb337, 4, none⟩ = some (.int .i64 a1_4) := (blk_cell BK337.out 4).trans rfl; have hcz91_5 : w89.cell? ⟨gb337, 5, none⟩ = some (.int .i64 a1_5) := (blk_cell BK337.out 5).trans rfl; have hfz91_0 := blk_frozen BK337.out 0; have hfz91_1 := blk_frozen BK337.out 1; have hfz91_2 := blk_frozen BK337.out 2; have hfz91_3 := blk_frozen BK337.out 3; have hfz91_4 := blk_frozen BK337.out 4; have hfz91_5 := blk_frozen BK337.out 5; have hcz92_0 : w89.cell? ⟨gb336, 0, none⟩ = some (.int .i64 a1_0) := (blk_cell BK336.out 0).trans rfl; have hcz92_1 : w89.cell? ⟨gb336, 1, none⟩ = some (.int .i64 a1_1) := (blk_cell BK336.out 1).trans rfl; have hcz92_2 : w89.cell? ⟨gb336, 2, none⟩ = some (.int .i64 a1_2) := (blk_cell BK336.out 2).trans rfl; have hcz92_3 : w89.cell? ⟨gb336, 3, none⟩ = some (.int .i64 a1_3) := (blk_cell BK336.out 3).trans rfl; have hcz92_4 : w89.cell? ⟨gb336, 4, none⟩ = some (.int .i64 a1_4) := (blk_cell BK336.out 4).trans rfl; have hcz92_5 : w89.cell? ⟨gb336, 5, none⟩ = some (.int .i64 a1_5) := (blk_cell BK336.out 5).trans rfl; have hfz92_0 := blk_frozen BK336.out 0; have hfz92_1 := blk_frozen BK336.out 1; have hfz92_2 := blk_frozen BK336.out 2; have hfz92_3 := blk_frozen BK336.out 3; have hfz92_4 := blk_frozen BK336.out 4; have hfz92_5 := blk_frozen BK336.out 5; have hcz93_0 : w89.cell? ⟨gb335, 0, none⟩ = some (.int .i64 a0_0) := (blk_cell BK335.out 0).trans rfl; have hcz93_1 : w89.cell? ⟨gb335, 1, none⟩ = some (.int .i64 a0_1) := (blk_cell BK335.out 1).trans rfl; have hcz93_2 : w89.cell? ⟨gb335, 2, none⟩ = some (.int .i64 a0_2) := (blk_cell BK335.out 2).trans rfl; have hcz93_3 : w89.cell? ⟨gb335, 3, none⟩ = some (.int .i64 a0_3) := (blk_cell BK335.out 3).trans rfl; have hfz93_0 := blk_frozen BK335.out 0; have hfz93_1 := blk_frozen BK335.out 1; have hfz93_2 := blk_frozen BK335.out 2; have hfz93_3 := blk_frozen BK335.out 3))
                  go_ret
                  exact ⟨by first | rfl | (simp [errW_none, errW_some] <;> rfl) | (simp [*, errW_none, errW_some] <;> rfl), by repeat (first | (with_reducible first | exact HB.out | apply below_alloc | apply pw_below_drewN | apply below_drew1 | refine below_set ?_ GE335.out | refine below_set ?_ GE336.out | refine below_set ?_ GE337.out) | exact HB.out)⟩
                · rw [if_neg c85] at H
                  have c85b0 : decide (0 ≤ a1_1) = false := decide_eq_false c85
                  clear c85
                  obtain rfl := Option.some.inj H
                  have hnb94 := NB336_335.out
                  have hnc94 := NB335_336.out
                  have hnb95 := NB336_337.out
                  have hnc95 := NB337_336.out
                  have hcz96_0 : wc.cell? ⟨gb336, 0, none⟩ = some (.int .i64 a1_0) := (blk_cell BK336.out 0).trans rfl
                  have hcz96_1 : wc.cell? ⟨gb336, 1, none⟩ = some (.int .i64 a1_1) := (blk_cell BK336.out 1).trans rfl
                  have hcz96_2 : wc.cell? ⟨gb336, 2, none⟩ = some (.int .i64 a1_2) := (blk_cell BK336.out 2).trans rfl
                  have hcz96_3 : wc.cell? ⟨gb336, 3, none⟩ = some (.int .i64 a1_3) := (blk_cell BK336.out 3).trans rfl
                  have hcz96_4 : wc.cell? ⟨gb336, 4, none⟩ = some (.int .i64 a1_4) := (blk_cell BK336.out 4).trans rfl
                  have hcz96_5 : wc.cell? ⟨gb336, 5, none⟩ = some (.int .i64 a1_5) := (blk_cell BK336.out 5).trans rfl
                  have hfz96_0 := blk_frozen BK336.out 0
                  have hfz96_1 := blk_frozen BK336.out 1
                  have hfz96_2 := blk_frozen BK336.out 2
                  have hfz96_3 := blk_frozen BK336.out 3
                  have hfz96_4 := blk_frozen BK336.out 4
                  have hfz96_5 := blk_frozen BK336.out 5
                  go_wp2_with (first | ((with_reducible refine gate_callee (f := 70) rfl ?_); refine goesL_ (some 35) rfl rfl Try.func70 (by kernel_rfl) rfl #[.agg #[.int .i64 a1_0, .int .i64 a1_1, .int .i64 a1_2, .int .i64 a1_3, .int .i64 a1_4, .int .i64 a1_5]] rfl (by (try simp only [List.map_toArray, List.map_cons, List.map_nil]); first | done | rfl | (simp only [List.length_drop, List.length_take]; rfl)) ?_; (with_reducible refine (node_leaf.calls a1_0 a1_1 a1_2 a1_3 a1_4 a1_5 false _ A41.out).mono ?_); rintro e w97 ⟨rfl, hb⟩; refine ⟨_, rfl, ?_⟩; have n0_ := Aside0.mk (blk_below (g := gb335) (o := .cells #[.int .i64 a0_0, .int .i64 a0_1, .int .i64 a0_2, .int .i64 a0_3] 72 (0, 0)) (by (with_reducible repeat (first | refine blk_drewN ?_ _ | refine blk_drew ?_ | refine blk_alloc ?_ _)); exact BK335.out) hb); have n1_ := Aside0.mk (blk_below (g := gb336) (o := .cells #[.int .i64 a1_0, .int .i64 a1_1, .int .i64 a1_2, .int .i64 a1_3, .int .i64 a1_4, .int .i64 a1_5] 75 (0, 0)) (by (with_reducible repeat (first | refine blk_drewN ?_ _ | refine blk_drew ?_ | refine blk_alloc ?_ _)); exact BK336.out) hb); have n2_ := Aside0.mk (blk_below (g := gb337) (o := .cells #[.int .i64 a1_0, .int .i64 a1_1, .int .i64 a1_2, .int .i64 a1_3, .int .i64 a1_4, .int .i64 a1_5] 75 (0, 0)) (by (with_reducible repeat (first | refine blk_drewN ?_ _ | refine blk_drew ?_ | refine blk_alloc ?_ _)); exact BK337.out) hb); have n3_ := Aside0.mk (below_step (by repeat (first | (with_reducible first | exact HB.out | apply below_alloc | apply pw_below_drewN | apply below_drew1 | refine below_set ?_ GE335.out | refine below_set ?_ GE336.out | refine below_set ?_ GE337.out) | exact HB.out)) hb); clear BK335; clear BK336; clear BK337; clear HB; have BK335 := n0_; have BK336 := n1_; have BK337 := n2_; have HB := n3_; clear n0_ n1_ n2_ n3_; (try clear hb); (try clear hb2); (try clear hk); (try clear hi); have hnb98 := NB337_335.out; have hnc98 := NB335_337.out; have hcz99_0 : w97.cell? ⟨gb337, 0, none⟩ = some (.int .i64 a1_0) := (blk_cell BK337.out 0).trans rfl; have hcz99_1 : w97.cell? ⟨gb337, 1, none⟩ = some (.int .i64 a1_1) := (blk_cell BK337.out 1).trans rfl; have hcz99_2 : w97.cell? ⟨gb337, 2, none⟩ = some (.int .i64 a1_2) := (blk_cell BK337.out 2).trans rfl; have hcz99_3 : w97.cell? ⟨gb337, 3, none⟩ = some (.int .i64 a1_3) := (blk_cell BK337.out 3).trans rfl; have hcz99_4 : w97.cell? ⟨gb337, 4, none⟩ = some (.int .i64 a1_4) := (blk_cell BK337.out 4).trans rfl; have hcz99_5 : w97.cell? ⟨gb337, 5, none⟩ = some (.int .i64 a1_5) := (blk_cell BK337.out 5).trans rfl; have hfz99_0 := blk_frozen BK337.out 0; have hfz99_1 := blk_frozen BK337.out 1; have hfz99_2 := blk_frozen BK337.out 2; have hfz99_3 := blk_frozen BK337.out 3; have hfz99_4 := blk_frozen BK337.out 4; have hfz99_5 := blk_frozen BK337.out 5; have hcz100_0 : w97.cell? ⟨gb336, 0, none⟩ = some (.int .i64 a1_0) := (blk_cell BK336.out 0).trans rfl; have hcz100_1 : w97.cell? ⟨gb336, 1, none⟩ = some (.int .i64 a1_1) := (blk_cell BK336.out 1).trans rfl; have hcz100_2 : w97.cell? ⟨gb336, 2, none⟩ = some (.int .i64 a1_2) := (blk_cell BK336.out 2).trans rfl; have hcz100_3 : w97.cell? ⟨gb336, 3, none⟩ = some (.int .i64 a1_3) := (blk_cell BK336.out 3).trans rfl; have hcz100_4 : w97.cell? ⟨gb336, 4, none⟩ = some (.int .i64 a1_4) := (blk_cell BK336.out 4).trans rfl; have hcz100_5 : w97.cell? ⟨gb336, 5, none⟩ = some (.int .i64 a1_5) := (blk_cell BK336.out 5).trans rfl; have hfz100_0 := blk_frozen BK336.out 0; have hfz100_1 := blk_frozen BK336.out 1; have hfz100_2 := blk_frozen BK336.out 2; have hfz100_3 := blk_frozen BK336.out 3; have hfz100_4 := blk_frozen BK336.out 4; have hfz100_5 := blk_frozen BK336.out 5; have hcz101_0 : w97.cell? ⟨gb335, 0, none⟩ = some (.int .i64 a0_0) := (blk_cell BK335.out 0).trans rfl; have hcz101_1 : w97.cell? ⟨gb335, 1, none⟩ = some (.int .i64 a0_1) := (blk_cell BK335.out 1).trans rfl; have hcz101_2 : w97.cell? ⟨gb335, 2, none⟩ = some (.int .i64 a0_2) := (blk_cell BK335.out 2).trans rfl; have hcz101_3 : w97.cell? ⟨gb335, 3, none⟩ = some (.int .i64 a0_3) := (blk_cell BK335.out 3).trans rfl; have hfz101_0 := blk_frozen BK335.out 0; have hfz101_1 := blk_frozen BK335.out 1; have hfz101_2 := blk_frozen BK335.out 2; have hfz101_3 := blk_frozen BK335.out 3))
                  go_ret
                  exact ⟨by first | rfl | (simp [errW_none, errW_some] <;> rfl) | (simp [*, errW_none, errW_some] <;> rfl), by repeat (first | (with_reducible first | exact HB.out | apply below_alloc | apply pw_below_drewN | apply below_drew1 | refine below_set ?_ GE335.out | refine below_set ?_ GE336.out | refine below_set ?_ GE337.out) | exact HB.out)⟩
              · rw [if_neg c84] at H
                have c84b0 : decide (a1_0 < a0_0) = false := decide_eq_false c84
                clear c84
                obtain rfl := Option.some.inj H
                have hnb102 := NB336_335.out
                have hnc102 := NB335_336.out
                have hnb103 := NB336_337.out
                have hnc103 := NB337_336.out
                have hcz104_0 : wc.cell? ⟨gb336, 0, none⟩ = some (.int .i64 a1_0) := (blk_cell BK336.out 0).trans rfl
                have hcz104_1 : wc.cell? ⟨gb336, 1, none⟩ = some (.int .i64 a1_1) := (blk_cell BK336.out 1).trans rfl
                have hcz104_2 : wc.cell? ⟨gb336, 2, none⟩ = some (.int .i64 a1_2) := (blk_cell BK336.out 2).trans rfl
                have hcz104_3 : wc.cell? ⟨gb336, 3, none⟩ = some (.int .i64 a1_3) := (blk_cell BK336.out 3).trans rfl
                have hcz104_4 : wc.cell? ⟨gb336, 4, none⟩ = some (.int .i64 a1_4) := (blk_cell BK336.out 4).trans rfl
                have hcz104_5 : wc.cell? ⟨gb336, 5, none⟩ = some (.int .i64 a1_5) := (blk_cell BK336.out 5).trans rfl
                have hfz104_0 := blk_frozen BK336.out 0
                have hfz104_1 := blk_frozen BK336.out 1
                have hfz104_2 := blk_frozen BK336.out 2
                have hfz104_3 := blk_frozen BK336.out 3
                have hfz104_4 := blk_frozen BK336.out 4
                have hfz104_5 := blk_frozen BK336.out 5
                go_wp2_with (first | ((with_reducible refine gate_callee (f := 70) rfl ?_); refine goesL_ (some 35) rfl rfl Try.func70 (by kernel_rfl) rfl #[.agg #[.int .i64 a1_0, .int .i64 a1_1, .int .i64 a1_2, .int .i64 a1_3, .int .i64 a1_4, .int .i64 a1_5]] rfl (by (try simp only [List.map_toArray, List.map_cons, List.map_nil]); first | done | rfl | (simp only [List.length_drop, List.length_take]; rfl)) ?_; (with_reducible refine (node_leaf.calls a1_0 a1_1 a1_2 a1_3 a1_4 a1_5 false _ A41.out).mono ?_); rintro e w105 ⟨rfl, hb⟩; refine ⟨_, rfl, ?_⟩; have n0_ := Aside0.mk (blk_below (g := gb335) (o := .cells #[.int .i64 a0_0, .int .i64 a0_1, .int .i64 a0_2, .int .i64 a0_3] 72 (0, 0)) (by (with_reducible repeat (first | refine blk_drewN ?_ _ | refine blk_drew ?_ | refine blk_alloc ?_ _)); exact BK335.out) hb); have n1_ := Aside0.mk (blk_below (g := gb336) (o := .cells #[.int .i64 a1_0, .int .i64 a1_1, .int .i64 a1_2, .int .i64 a1_3, .int .i64 a1_4, .int .i64 a1_5] 75 (0, 0)) (by (with_reducible repeat (first | refine blk_drewN ?_ _ | refine blk_drew ?_ | refine blk_alloc ?_ _)); exact BK336.out) hb); have n2_ := Aside0.mk (blk_below (g := gb337) (o := .cells #[.int .i64 a1_0, .int .i64 a1_1, .int .i64 a1_2, .int .i64 a1_3, .int .i64 a1_4, .int .i64 a1_5] 75 (0, 0)) (by (with_reducible repeat (first | refine blk_drewN ?_ _ | refine blk_drew ?_ | refine blk_alloc ?_ _)); exact BK337.out) hb); have n3_ := Aside0.mk (below_step (by repeat (first | (with_reducible first | exact HB.out | apply below_alloc | apply pw_below_drewN | apply below_drew1 | refine below_set ?_ GE335.out | refine below_set ?_ GE336.out | refine below_set ?_ GE337.out) | exact HB.out)) hb); clear BK335; clear BK336; clear BK337; clear HB; have BK335 := n0_; have BK336 := n1_; have BK337 := n2_; have HB := n3_; clear n0_ n1_ n2_ n3_; (try clear hb); (try clear hb2); (try clear hk); (try clear hi); have hnb106 := NB337_335.out; have hnc106 := NB335_337.out; have hcz107_0 : w105.cell? ⟨gb337, 0, none⟩ = some (.int .i64 a1_0) := (blk_cell BK337.out 0).trans rfl; have hcz107_1 : w105.cell? ⟨gb337, 1, none⟩ = some (.int .i64 a1_1) := (blk_cell BK337.out 1).trans rfl; have hcz107_2 : w105.cell? ⟨gb337, 2, none⟩ = some (.int .i64 a1_2) := (blk_cell BK337.out 2).trans rfl; have hcz107_3 : w105.cell? ⟨gb337, 3, none⟩ = some (.int .i64 a1_3) := (blk_cell BK337.out 3).trans rfl; have hcz107_4 : w105.cell? ⟨gb337, 4, none⟩ = some (.int .i64 a1_4) := (blk_cell BK337.out 4).trans rfl; have hcz107_5 : w105.cell? ⟨gb337, 5, none⟩ = some (.int .i64 a1_5) := (blk_cell BK337.out 5).trans rfl; have hfz107_0 := blk_frozen BK337.out 0; have hfz107_1 := blk_frozen BK337.out 1; have hfz107_2 := blk_frozen BK337.out 2; have hfz107_3 := blk_frozen BK337.out 3; have hfz107_4 := blk_frozen BK337.out 4; have hfz107_5 := blk_frozen BK337.out 5; have hcz108_0 : w105.cell? ⟨gb336, 0, none⟩ = some (.int .i64 a1_0) := (blk_cell BK336.out 0).trans rfl; have hcz108_1 : w105.cell? ⟨gb336, 1, none⟩ = some (.int .i64 a1_1) := (blk_cell BK336.out 1).trans rfl; have hcz108_2 : w105.cell? ⟨gb336, 2, none⟩ = some (.int .i64 a1_2) := (blk_cell BK336.out 2).trans rfl; have hcz108_3 : w105.cell? ⟨gb336, 3, none⟩ = some (.int .i64 a1_3) := (blk_cell BK336.out 3).trans rfl; have hcz108_4 : w105.cell? ⟨gb336, 4, none⟩ = some (.int .i64 a1_4) := (blk_cell BK336.out 4).trans rfl; have hcz108_5 : w105.cell? ⟨gb336, 5, none⟩ = some (.int .i64 a1_5) := (blk_cell BK336.out 5).trans rfl; have hfz108_0 := blk_frozen BK336.out 0; have hfz108_1 := blk_frozen BK336.out 1; have hfz108_2 := blk_frozen BK336.out 2; have hfz108_3 := blk_frozen BK336.out 3; have hfz108_4 := blk_frozen BK336.out 4; have hfz108_5 := blk_frozen BK336.out 5; have hcz109_0 : w105.cell? ⟨gb335, 0, none⟩ = some (.int .i64 a0_0) := (blk_cell BK335.out 0).trans rfl; have hcz109_1 : w105.cell? ⟨gb335, 1, none⟩ = some (.int .i64 a0_1) := (blk_cell BK335.out 1).trans rfl; have hcz109_2 : w105.cell? ⟨gb335, 2, none⟩ = some (.int .i64 a0_2) := (blk_cell BK335.out 2).trans rfl; have hcz109_3 : w105.cell? ⟨gb335, 3, none⟩ = some (.int .i64 a0_3) := (blk_cell BK335.out 3).trans rfl; have hfz109_0 := blk_frozen BK335.out 0; have hfz109_1 := blk_frozen BK335.out 1; have hfz109_2 := blk_frozen BK335.out 2; have hfz109_3 := blk_frozen BK335.out 3))
                go_ret
                exact ⟨by first | rfl | (simp [errW_none, errW_some] <;> rfl) | (simp [*, errW_none, errW_some] <;> rfl), by repeat (first | (with_reducible first | exact HB.out | apply below_alloc | apply pw_below_drewN | apply below_drew1 | refine below_set ?_ GE335.out | refine below_set ?_ GE336.out | refine below_set ?_ GE337.out) | exact HB.out)⟩
            · rw [if_neg c83] at H
              have c83b0 : decide (0 ≤ a1_0) = false := decide_eq_false c83
              clear c83
              obtain rfl := Option.some.inj H
              have hnb110 := NB336_335.out
              have hnc110 := NB335_336.out
              have hnb111 := NB336_337.out
              have hnc111 := NB337_336.out
              have hcz112_0 : wc.cell? ⟨gb336, 0, none⟩ = some (.int .i64 a1_0) := (blk_cell BK336.out 0).trans rfl
              have hcz112_1 : wc.cell? ⟨gb336, 1, none⟩ = some (.int .i64 a1_1) := (blk_cell BK336.out 1).trans rfl
              have hcz112_2 : wc.cell? ⟨gb336, 2, none⟩ = some (.int .i64 a1_2) := (blk_cell BK336.out 2).trans rfl
              have hcz112_3 : wc.cell? ⟨gb336, 3, none⟩ = some (.int .i64 a1_3) := (blk_cell BK336.out 3).trans rfl
              have hcz112_4 : wc.cell? ⟨gb336, 4, none⟩ = some (.int .i64 a1_4) := (blk_cell BK336.out 4).trans rfl
              have hcz112_5 : wc.cell? ⟨gb336, 5, none⟩ = some (.int .i64 a1_5) := (blk_cell BK336.out 5).trans rfl
              have hfz112_0 := blk_frozen BK336.out 0
              have hfz112_1 := blk_frozen BK336.out 1
              have hfz112_2 := blk_frozen BK336.out 2
              have hfz112_3 := blk_frozen BK336.out 3
              have hfz112_4 := blk_frozen BK336.out 4
              have hfz112_5 := blk_frozen BK336.out 5
              go_wp2_with (first | ((with_reducible refine gate_callee (f := 70) rfl ?_); refine goesL_ (some 35) rfl rfl Try.func70 (by kernel_rfl) rfl #[.agg #[.int .i64 a1_0, .int .i64 a1_1, .int .i64 a1_2, .int .i64 a1_3, .int .i64 a1_4, .int .i64 a1_5]] rfl (by (try simp only [List.map_toArray, List.map_cons, List.map_nil]); first | done | rfl | (simp only [List.length_drop, List.length_take]; rfl)) ?_; (with_reducible refine (node_leaf.calls a1_0 a1_1 a1_2 a1_3 a1_4 a1_5 false _ A41.out).mono ?_); rintro e w113 ⟨rfl, hb⟩; refine ⟨_, rfl, ?_⟩; have n0_ := Aside0.mk (blk_below (g := gb335) (o := .cells #[.int .i64 a0_0, .int .i64 a0_1, .int .i64 a0_2, .int .i64 a0_3] 72 (0, 0)) (by (with_reducible repeat (first | refine blk_drewN ?_ _ | refine blk_drew ?_ | refine blk_alloc ?_ _)); exact BK335.out) hb); have n1_ := Aside0.mk (blk_below (g := gb336) (o := .cells #[.int .i64 a1_0, .int .i64 a1_1, .int .i64 a1_2, .int .i64 a1_3, .int .i64 a1_4, .int .i64 a1_5] 75 (0, 0)) (by (with_reducible repeat (first | refine blk_drewN ?_ _ | refine blk_drew ?_ | refine blk_alloc ?_ _)); exact BK336.out) hb); have n2_ := Aside0.mk (blk_below (g := gb337) (o := .cells #[.int .i64 a1_0, .int .i64 a1_1, .int .i64 a1_2, .int .i64 a1_3, .int .i64 a1_4, .int .i64 a1_5] 75 (0, 0)) (by (with_reducible repeat (first | refine blk_drewN ?_ _ | refine blk_drew ?_ | refine blk_alloc ?_ _)); exact BK337.out) hb); have n3_ := Aside0.mk (below_step (by repeat (first | (with_reducible first | exact HB.out | apply below_alloc | apply pw_below_drewN | apply below_drew1 | refine below_set ?_ GE335.out | refine below_set ?_ GE336.out | refine below_set ?_ GE337.out) | exact HB.out)) hb); clear BK335; clear BK336; clear BK337; clear HB; have BK335 := n0_; have BK336 := n1_; have BK337 := n2_; have HB := n3_; clear n0_ n1_ n2_ n3_; (try clear hb); (try clear hb2); (try clear hk); (try clear hi); have hnb114 := NB337_335.out; have hnc114 := NB335_337.out; have hcz115_0 : w113.cell? ⟨gb337, 0, none⟩ = some (.int .i64 a1_0) := (blk_cell BK337.out 0).trans rfl; have hcz115_1 : w113.cell? ⟨gb337, 1, none⟩ = some (.int .i64 a1_1) := (blk_cell BK337.out 1).trans rfl; have hcz115_2 : w113.cell? ⟨gb337, 2, none⟩ = some (.int .i64 a1_2) := (blk_cell BK337.out 2).trans rfl; have hcz115_3 : w113.cell? ⟨gb337, 3, none⟩ = some (.int .i64 a1_3) := (blk_cell BK337.out 3).trans rfl; have hcz115_4 : w113.cell? ⟨gb337, 4, none⟩ = some (.int .i64 a1_4) := (blk_cell BK337.out 4).trans rfl; have hcz115_5 : w113.cell? ⟨gb337, 5, none⟩ = some (.int .i64 a1_5) := (blk_cell BK337.out 5).trans rfl; have hfz115_0 := blk_frozen BK337.out 0; have hfz115_1 := blk_frozen BK337.out 1; have hfz115_2 := blk_frozen BK337.out 2; have hfz115_3 := blk_frozen BK337.out 3; have hfz115_4 := blk_frozen BK337.out 4; have hfz115_5 := blk_frozen BK337.out 5; have hcz116_0 : w113.cell? ⟨gb336, 0, none⟩ = some (.int .i64 a1_0) := (blk_cell BK336.out 0).trans rfl; have hcz116_1 : w113.cell? ⟨gb336, 1, none⟩ = some (.int .i64 a1_1) := (blk_cell BK336.out 1).trans rfl; have hcz116_2 : w113.cell? ⟨gb336, 2, none⟩ = some (.int .i64 a1_2) := (blk_cell BK336.out 2).trans rfl; have hcz116_3 : w113.cell? ⟨gb336, 3, none⟩ = some (.int .i64 a1_3) := (blk_cell BK336.out 3).trans rfl; have hcz116_4 : w113.cell? ⟨gb336, 4, none⟩ = some (.int .i64 a1_4) := (blk_cell BK336.out 4).trans rfl; have hcz116_5 : w113.cell? ⟨gb336, 5, none⟩ = some (.int .i64 a1_5) := (blk_cell BK336.out 5).trans rfl; have hfz116_0 := blk_frozen BK336.out 0; have hfz116_1 := blk_frozen BK336.out 1; have hfz116_2 := blk_frozen BK336.out 2; have hfz116_3 := blk_frozen BK336.out 3; have hfz116_4 := blk_frozen BK336.out 4; have hfz116_5 := blk_frozen BK336.out 5))
              go_ret
              exact ⟨by first | rfl | (simp [errW_none, errW_some] <;> rfl) | (simp [*, errW_none, errW_some] <;> rfl), by repeat (first | (with_reducible first | exact HB.out | apply below_alloc | apply pw_below_drewN | apply below_drew1 | refine below_set ?_ GE335.out | refine below_set ?_ GE336.out | refine below_set ?_ GE337.out) | exact HB.out)⟩
          · rw [if_neg c82] at H
            have c82b0 : (a1_3 == 0 && (a1_4 == 0 && (a1_5 == 0))) = false := by simpa using c82
            (try (have c82b1 : decide (a1_3 = 0 && (a1_4 == 0 && (a1_5 == 0))) = false := by simpa using c82))
            (try (have c82b2 : (a1_3 == 0 && (a1_4 == 0 && (a1_5 == 0))) = false := by simpa using c82))
            (try (have c82b3 : ¬ (a1_3 = 0 && (a1_4 == 0 && (a1_5 == 0))) := by simpa using c82))
            clear c82
            obtain rfl := Option.some.inj H
            have hnb117 := NB336_335.out
            have hnc117 := NB335_336.out
            have hnb118 := NB336_337.out
            have hnc118 := NB337_336.out
            have hcz119_0 : wc.cell? ⟨gb336, 0, none⟩ = some (.int .i64 a1_0) := (blk_cell BK336.out 0).trans rfl
            have hcz119_1 : wc.cell? ⟨gb336, 1, none⟩ = some (.int .i64 a1_1) := (blk_cell BK336.out 1).trans rfl
            have hcz119_2 : wc.cell? ⟨gb336, 2, none⟩ = some (.int .i64 a1_2) := (blk_cell BK336.out 2).trans rfl
            have hcz119_3 : wc.cell? ⟨gb336, 3, none⟩ = some (.int .i64 a1_3) := (blk_cell BK336.out 3).trans rfl
            have hcz119_4 : wc.cell? ⟨gb336, 4, none⟩ = some (.int .i64 a1_4) := (blk_cell BK336.out 4).trans rfl
            have hcz119_5 : wc.cell? ⟨gb336, 5, none⟩ = some (.int .i64 a1_5) := (blk_cell BK336.out 5).trans rfl
            have hfz119_0 := blk_frozen BK336.out 0
            have hfz119_1 := blk_frozen BK336.out 1
            have hfz119_2 := blk_frozen BK336.out 2
            have hfz119_3 := blk_frozen BK336.out 3
            have hfz119_4 := blk_frozen BK336.out 4
            have hfz119_5 := blk_frozen BK336.out 5
            go_wp2_with (first | ((with_reducible refine gate_callee (f := 70) rfl ?_); refine goesL_ (some 35) rfl rfl Try.func70 (by kernel_rfl) rfl #[.agg #[.int .i64 a1_0, .int .i64 a1_1, .int .i64 a1_2, .int .i64 a1_3, .int .i64 a1_4, .int .i64 a1_5]] rfl (by (try simp only [List.map_toArray, List.map_cons, List.map_nil]); first | done | rfl | (simp only [List.length_drop, List.length_take]; rfl)) ?_; (with_reducible refine (node_leaf.calls a1_0 a1_1 a1_2 a1_3 a1_4 a1_5 false _ A41.out).mono ?_); rintro e w120 ⟨rfl, hb⟩; refine ⟨_, rfl, ?_⟩; have n0_ := Aside0.mk (blk_below (g := gb335) (o := .cells #[.int .i64 a0_0, .int .i64 a0_1, .int .i64 a0_2, .int .i64 a0_3] 72 (0, 0)) (by (with_reducible repeat (first | refine blk_drewN ?_ _ | refine blk_drew ?_ | refine blk_alloc ?_ _)); exact BK335.out) hb); have n1_ := Aside0.mk (blk_below (g := gb336) (o := .cells #[.int .i64 a1_0, .int .i64 a1_1, .int .i64 a1_2, .int .i64 a1_3, .int .i64 a1_4, .int .i64 a1_5] 75 (0, 0)) (by (with_reducible repeat (first | refine blk_drewN ?_ _ | refine blk_drew ?_ | refine blk_alloc ?_ _)); exact BK336.out) hb); have n2_ := Aside0.mk (blk_below (g := gb337) (o := .cells #[.int .i64 a1_0, .int .i64 a1_1, .int .i64 a1_2, .int .i64 a1_3, .int .i64 a1_4, .int .i64 a1_5] 75 (0, 0)) (by (with_reducible repeat (first | refine blk_drewN ?_ _ | refine blk_drew ?_ | refine blk_alloc ?_ _)); exact BK337.out) hb); have n3_ := Aside0.mk (below_step (by repeat (first | (with_reducible first | exact HB.out | apply below_alloc | apply pw_below_drewN | apply below_drew1 | refine below_set ?_ GE335.out | refine below_set ?_ GE336.out | refine below_set ?_ GE337.out) | exact HB.out)) hb); clear BK335; clear BK336; clear BK337; clear HB; have BK335 := n0_; have BK336 := n1_; have BK337 := n2_; have HB := n3_; clear n0_ n1_ n2_ n3_; (try clear hb); (try clear hb2); (try clear hk); (try clear hi); have hnb121 := NB337_335.out; have hnc121 := NB335_337.out; have hcz122_0 : w120.cell? ⟨gb337, 0, none⟩ = some (.int .i64 a1_0) := (blk_cell BK337.out 0).trans rfl; have hcz122_1 : w120.cell? ⟨gb337, 1, none⟩ = some (.int .i64 a1_1) := (blk_cell BK337.out 1).trans rfl; have hcz122_2 : w120.cell? ⟨gb337, 2, none⟩ = some (.int .i64 a1_2) := (blk_cell BK337.out 2).trans rfl; have hcz122_3 : w120.cell? ⟨gb337, 3, none⟩ = some (.int .i64 a1_3) := (blk_cell BK337.out 3).trans rfl; have hcz122_4 : w120.cell? ⟨gb337, 4, none⟩ = some (.int .i64 a1_4) := (blk_cell BK337.out 4).trans rfl; have hcz122_5 : w120.cell? ⟨gb337, 5, none⟩ = some (.int .i64 a1_5) := (blk_cell BK337.out 5).trans rfl; have hfz122_0 := blk_frozen BK337.out 0; have hfz122_1 := blk_frozen BK337.out 1; have hfz122_2 := blk_frozen BK337.out 2; have hfz122_3 := blk_frozen BK337.out 3; have hfz122_4 := blk_frozen BK337.out 4; have hfz122_5 := blk_frozen BK337.out 5))
            go_ret
            exact ⟨by first | rfl | (simp [errW_none, errW_some] <;> rfl) | (simp [*, errW_none, errW_some] <;> rfl), by repeat (first | (with_reducible first | exact HB.out | apply below_alloc | apply pw_below_drewN | apply below_drew1 | refine below_set ?_ GE335.out | refine below_set ?_ GE336.out | refine below_set ?_ GE337.out) | exact HB.out)⟩

end Go.Proofs.Ytebbnjgaikppgaa.PA
