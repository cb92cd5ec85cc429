import Derived.Test.YtebbnjgaikppgaaPAx0
import Derived.Test.YtebbnjgaikppgaaPAx2
import Derived.Test.YtebbnjgaikppgaaPAx32
namespace Go.Proofs.Ytebbnjgaikppgaa.PA
open Go.RowKit Go.Proofs.YtebbnjgaikppgaaW.PrintWords Go.Proofs.YtebbnjgaikppgaaW.PrintLast Go.Proofs.YtebbnjgaikppgaaW.PrintMore
attribute [local go_sem] max2_int min2_int max_two min_two max_three min_three max_four min_four   -- for this text's walks alone
attribute [local go_sem high] Flt.fold_eq Flt.fold_ne Flt.fold_lt Flt.fold_gt Flt.fold_le Flt.fold_ge Flt.run_bits Flt.run_frombits
set_option linter.unusedVariables false
set_option linter.unusedSimpArgs false

attribute [local go_sem high] eqA75
/-! ### node_Shape_right: function 67 -/
def node_Shape_right.j0 : Nat → Bool → Int → Int → Int → Int → Int → Int → Int → Int → Int → Int → Int → Int → Int → Int → Int → Int → Option (Bool)
 | 0,_,_,_,_,_,_,_,_,_,_,_,_,_,_,_,_,_=>none
 | k + 1,x8,x362000,x362001,x362002,x362003,x363000,x363001,x363002,x363003,x363004,x363005,x364000,x364001,x364002,x364003,x364004,x364005=>if x8 = true then (if (x364001 == 0 && (x364002 == 0 && (x364004 == 0 && (x364005 == 0)))) = true then (if x363003 ≥ 0 then (some (decide (x363003 < x362003))) else (some false)) else (some false)) else ((node_leaf.f x363000 x363001 x363002 x363003 x363004 x363005).bind fun t365=>(if t365 = true then (if (x364001 == 0 && (x364002 == 0 && (x364003 == 0))) = true then (if x363005 ≥ 1 then (if x363005 ≤ 1048576 then (if x363004 ≥ (wrap64 (-(wrap64 (1048576 * x363005)))) then (some (decide (x363004 ≤ (wrap64 (1048576 * x363005))))) else (some false)) else (some false)) else (some false)) else (some false)) else (if (x364003 == 0 && (x364004 == 0 && (x364005 == 0))) = true then (if x363000 ≥ 0 then (if x363000 < x362000 then (if x363001 ≥ 0 then (some (decide (x363001 < x362001))) else (some false)) else (some false)) else (some false)) else (some false))))
def node_Shape_right.f (k : Nat) (a0_0 : Int) (a0_1 : Int) (a0_2 : Int) (a0_3 : Int) (a1_0 : Int) (a1_1 : Int) (a1_2 : Int) (a1_3 : Int) (a1_4 : Int) (a1_5 : Int) : Option (Bool):=(node_leaf.f a1_0 a1_1 a1_2 a1_3 a1_4 a1_5).bind fun t364=>(if t364 = true then (node_Shape_right.j0 k (a0_2 == 0) a0_0 a0_1 a0_2 a0_3 a1_0 a1_1 a1_2 a1_3 a1_4 a1_5 a1_0 a1_1 a1_2 a1_3 a1_4 a1_5) else (node_Shape_right.j0 k false a0_0 a0_1 a0_2 a0_3 a1_0 a1_1 a1_2 a1_3 a1_4 a1_5 a1_0 a1_1 a1_2 a1_3 a1_4 a1_5))
theorem node_Shape_right.mono_l : ∀ k,(∀ y0 y1 y2 y3 y4 y5 y6 y7 y8 y9 y10 y11 y12 y13 y14 y15 y16,LeO (node_Shape_right.j0 k y0 y1 y2 y3 y4 y5 y6 y7 y8 y9 y10 y11 y12 y13 y14 y15 y16) (node_Shape_right.j0 (k + 1) y0 y1 y2 y3 y4 y5 y6 y7 y8 y9 y10 y11 y12 y13 y14 y15 y16))
 | 0=>fun _ _ _ _ _ _ _ _ _ _ _ _ _ _ _ _ _ r h=>by simp [node_Shape_right.j0] at h
 | k + 1=>by
  have ih0:=node_Shape_right.mono_l k
  ·intro y0 y1 y2 y3 y4 y5 y6 y7 y8 y9 y10 y11 y12 y13 y14 y15 y16
   unfold node_Shape_right.j0
   repeat' first
   | (with_reducible exact ih0 _ _ _ _ _ _ _ _ _ _ _ _ _ _ _ _ _)
   | (with_reducible exact LeO.refl _)
   | (with_reducible exact LeO.none _)
   | (with_reducible refine LeO.ite ?_ ?_)
   | (with_reducible refine LeO.bind ?_ (fun _=>?_))
   | exact ih0 _ _ _ _ _ _ _ _ _ _ _ _ _ _ _ _ _
   | exact LeO.none _
   | refine LeO.ite ?_ ?_
   | refine LeO.bind ?_ (fun _=>?_)
theorem node_Shape_right.mono : ∀ a0 a1 a2 a3 a4 a5 a6 a7 a8 a9 k,LeO (node_Shape_right.f k a0 a1 a2 a3 a4 a5 a6 a7 a8 a9) (node_Shape_right.f (k + 1) a0 a1 a2 a3 a4 a5 a6 a7 a8 a9):=by
 intro a0 a1 a2 a3 a4 a5 a6 a7 a8 a9 k
 have ih0:=node_Shape_right.mono_l k
 unfold node_Shape_right.f
 repeat' first
   | (with_reducible exact ih0 _ _ _ _ _ _ _ _ _ _ _ _ _ _ _ _ _)
   | (with_reducible exact LeO.refl _)
   | (with_reducible exact LeO.none _)
   | (with_reducible refine LeO.ite ?_ ?_)
   | (with_reducible refine LeO.bind ?_ (fun _=>?_))
   | exact ih0 _ _ _ _ _ _ _ _ _ _ _ _ _ _ _ _ _
   | exact LeO.none _
   | refine LeO.ite ?_ ?_
   | refine LeO.bind ?_ (fun _=>?_)
set_option maxHeartbeats 8000000 in
set_option maxRecDepth 100000 in
theorem node_Shape_right.calls (k : Nat) (a0_0 : Int) (a0_1 : Int) (a0_2 : Int) (a0_3 : Int) (a1_0 : Int) (a1_1 : Int) (a1_2 : Int) (a1_3 : Int) (a1_4 : Int) (a1_5 : Int) (r : Bool) (w : World) (h : node_Shape_right.f k a0_0 a0_1 a0_2 a0_3 a1_0 a1_1 a1_2 a1_3 a1_4 a1_5 = some r) :
  Calls Try.prog 67 #[.agg #[.int .i64 a0_0,.int .i64 a0_1,.int .i64 a0_2,.int .i64 a0_3],.agg #[.int .i64 a1_0,.int .i64 a1_1,.int .i64 a1_2,.int .i64 a1_3,.int .i64 a1_4,.int .i64 a1_5]] w fun e w'=>e = .returned (.bool r) ∧ Below w.heap.size w w':=by
 have hu72:=Try.underlying72
 have hu75:=Try.underlying75
 have HB:=Aside0.mk (Below.refl w.heap.size w)
 have H : ((node_leaf.f a1_0 a1_1 a1_2 a1_3 a1_4 a1_5).bind fun t364=>(if t364 = true then (node_Shape_right.j0 k (a0_2 == 0) a0_0 a0_1 a0_2 a0_3 a1_0 a1_1 a1_2 a1_3 a1_4 a1_5 a1_0 a1_1 a1_2 a1_3 a1_4 a1_5) else (node_Shape_right.j0 k false a0_0 a0_1 a0_2 a0_3 a1_0 a1_1 a1_2 a1_3 a1_4 a1_5 a1_0 a1_1 a1_2 a1_3 a1_4 a1_5))) = some r:=h
 clear h
 have HC3:=Aside0.mk H
 clear H
 go_enter Try.func67,Try.ntmps67
 go_upto_region 2 with (first|((with_reducible refine gate_dst (N:=2) rfl ?_);refine box_event ?hg (N:=2) ?hd (cs:=#[.int .i64 a0_0,.int .i64 a0_1,.int .i64 a0_2,.int .i64 a0_3]) (t:=72) ?hr ?_;(case hd=>rfl);(case hg=>rfl);(case hr=>first|(go_simp;done)|(go_simp;rfl));intro gb361 hg w4 hbox hb;have n0_:=Aside0.mk (below_step (by repeat(first|(with_reducible first|exact HB.out|apply below_alloc|apply pw_below_drewN|apply below_drew1)|exact HB.out)) hb);have n1_:=Aside0.mk (hbox);have n2_:=Aside0.mk ((by rw [hg];exact (below_size (by repeat(first|(with_reducible first|exact HB.out|apply below_alloc|apply pw_below_drewN|apply below_drew1)|exact HB.out))) : w.heap.size ≤ gb361));have n3_:=Aside0.mk ((by rw [hg];exact (below_size (by repeat(first|(with_reducible first|exact HB.out|apply below_alloc|apply pw_below_drewN|apply below_drew1)|exact HB.out))) : w.heap.size ≤ gb361));clear HB;have HB:=n0_;have BK361:=n1_;have GW361:=n2_;have GE361:=n3_;clear n0_ n1_ n2_ n3_;clear hb hbox hg)|((with_reducible refine gate_dst (N:=3) rfl ?_);refine box_event ?hg (N:=3) ?hd (cs:=#[.int .i64 a1_0,.int .i64 a1_1,.int .i64 a1_2,.int .i64 a1_3,.int .i64 a1_4,.int .i64 a1_5]) (t:=75) ?hr ?_;(case hd=>rfl);(case hg=>rfl);(case hr=>first|(go_simp;done)|(go_simp;rfl));intro gb362 hg w5 hbox hb;have n0_:=Aside0.mk (blk_below (g:=gb361) (o:=.cells #[.int .i64 a0_0,.int .i64 a0_1,.int .i64 a0_2,.int .i64 a0_3] 72 (0,0)) (by (with_reducible repeat(first|refine blk_drewN ?_ _|refine blk_drew ?_|refine blk_alloc ?_ _));exact BK361.out) hb);have n1_:=Aside0.mk (below_step (by repeat(first|(with_reducible first|exact HB.out|apply below_alloc|apply pw_below_drewN|apply below_drew1|refine below_set ?_ GE361.out)|exact HB.out)) hb);have n2_:=Aside0.mk (hbox);have n3_:=Aside0.mk ((by rw [hg];exact (below_size (by repeat(first|(with_reducible first|exact HB.out|apply below_alloc|apply pw_below_drewN|apply below_drew1|refine below_set ?_ GE361.out)|exact HB.out))) : w.heap.size ≤ gb362));have n4_:=Aside0.mk ((by rw [hg];exact (below_size (by repeat(first|(with_reducible first|exact HB.out|apply below_alloc|apply pw_below_drewN|apply below_drew1|refine below_set ?_ GE361.out)|exact HB.out))) : w.heap.size ≤ gb362));have n5_:=Aside0.mk ((by rw [hg];exact Nat.ne_of_lt (blk_lt (g:=gb361) (o:=.cells #[.int .i64 a0_0,.int .i64 a0_1,.int .i64 a0_2,.int .i64 a0_3] 72 (0,0)) (by (with_reducible repeat(first|refine blk_drewN ?_ _|refine blk_drew ?_|refine blk_alloc ?_ _));exact BK361.out)) : gb361 ≠ gb362));have n6_:=Aside0.mk ((by rw [hg];exact Nat.ne_of_gt (blk_lt (g:=gb361) (o:=.cells #[.int .i64 a0_0,.int .i64 a0_1,.int .i64 a0_2,.int .i64 a0_3] 72 (0,0)) (by (with_reducible repeat(first|refine blk_drewN ?_ _|refine blk_drew ?_|refine blk_alloc ?_ _));exact BK361.out)) : gb362 ≠ gb361));clear BK361;clear HB;have BK361:=n0_;have HB:=n1_;have BK362:=n2_;have GW362:=n3_;have GE362:=n4_;have NB361_362:=n5_;have NB362_361:=n6_;clear n0_ n1_ n2_ n3_ n4_ n5_ n6_;clear hb hbox hg;have hnb6:=NB362_361.out;have hnc6:=NB361_362.out;have hcz7_0 : w5.cell? ⟨gb362,0,none⟩ = some (.int .i64 a1_0):=(blk_cell BK362.out 0).trans rfl;have hcz7_1 : w5.cell? ⟨gb362,1,none⟩ = some (.int .i64 a1_1):=(blk_cell BK362.out 1).trans rfl;have hcz7_2 : w5.cell? ⟨gb362,2,none⟩ = some (.int .i64 a1_2):=(blk_cell BK362.out 2).trans rfl;have hcz7_3 : w5.cell? ⟨gb362,3,none⟩ = some (.int .i64 a1_3):=(blk_cell BK362.out 3).trans rfl;have hcz7_4 : w5.cell? ⟨gb362,4,none⟩ = some (.int .i64 a1_4):=(blk_cell BK362.out 4).trans rfl;have hcz7_5 : w5.cell? ⟨gb362,5,none⟩ = some (.int .i64 a1_5):=(blk_cell BK362.out 5).trans rfl;have hfz7_0:=blk_frozen BK362.out 0;have hfz7_1:=blk_frozen BK362.out 1;have hfz7_2:=blk_frozen BK362.out 2;have hfz7_3:=blk_frozen BK362.out 3;have hfz7_4:=blk_frozen BK362.out 4;have hfz7_5:=blk_frozen BK362.out 5)|((with_reducible refine gate_dst (N:=5) rfl ?_);refine box_event ?hg (N:=5) ?hd (cs:=#[.int .i64 0,.int .i64 0,.int .i64 0,.int .i64 0,.int .i64 0,.int .i64 0]) (t:=75) ?hr ?_;(case hd=>rfl);(case hg=>rfl);(case hr=>first|(go_simp;done)|(go_simp;rfl));intro gb363 hg w8 hbox hb;have n0_:=Aside0.mk (blk_below (g:=gb361) (o:=.cells #[.int .i64 a0_0,.int .i64 a0_1,.int .i64 a0_2,.int .i64 a0_3] 72 (0,0)) (by (with_reducible repeat(first|refine blk_drewN ?_ _|refine blk_drew ?_|refine blk_alloc ?_ _));exact BK361.out) hb);have n1_:=Aside0.mk (blk_below (g:=gb362) (o:=.cells #[.int .i64 a1_0,.int .i64 a1_1,.int .i64 a1_2,.int .i64 a1_3,.int .i64 a1_4,.int .i64 a1_5] 75 (0,0)) (by (with_reducible repeat(first|refine blk_drewN ?_ _|refine blk_drew ?_|refine blk_alloc ?_ _));exact BK362.out) hb);have n2_:=Aside0.mk (below_step (by repeat(first|(with_reducible first|exact HB.out|apply below_alloc|apply pw_below_drewN|apply below_drew1|refine below_set ?_ GE361.out|refine below_set ?_ GE362.out)|exact HB.out)) hb);have n3_:=Aside0.mk (hbox);have n4_:=Aside0.mk ((by rw [hg];exact (below_size (by repeat(first|(with_reducible first|exact HB.out|apply below_alloc|apply pw_below_drewN|apply below_drew1|refine below_set ?_ GE361.out|refine below_set ?_ GE362.out)|exact HB.out))) : w.heap.size ≤ gb363));have n5_:=Aside0.mk ((by rw [hg];exact (below_size (by repeat(first|(with_reducible first|exact HB.out|apply below_alloc|apply pw_below_drewN|apply below_drew1|refine below_set ?_ GE361.out|refine below_set ?_ GE362.out)|exact HB.out))) : w.heap.size ≤ gb363));have n6_:=Aside0.mk ((by rw [hg];exact Nat.ne_of_lt (blk_lt (g:=gb361) (o:=.cells #[.int .i64 a0_0,.int .i64 a0_1,.int .i64 a0_2,.int .i64 a0_3] 72 (0,0)) (by (with_reducible repeat(first|refine blk_drewN ?_ _|refine blk_drew ?_|refine blk_alloc ?_ _));exact BK361.out)) : gb361 ≠ gb363));have n7_:=Aside0.mk ((by rw [hg];exact Nat.ne_of_gt (blk_lt (g:=gb361) (o:=.cells #[.int .i64 a0_0,.int .i64 a0_1,.int .i64 a0_2,.int .i64 a0_3] 72 (0,0)) (by (with_reducible repeat(first|refine blk_drewN ?_ _|refine blk_drew ?_|refine blk_alloc ?_ _));exact BK361.out)) : gb363 ≠ gb361));have n8_:=Aside0.mk ((by rw [hg];exact Nat.ne_of_lt (blk_lt (g:=gb362) (o:=.cells #[.int .i64 a1_0,.int .i64 a1_1,.int .i64 a1_2,.int .i64 a1_3,.int .i64 a1_4,.int .i64 a1_5] 75 (0,0)) (by (with_reducible repeat(first|refine blk_drewN ?_ _|refine blk_drew ?_|refine blk_alloc ?_ _));exact BK362.out)) : gb362 ≠ gb363));have n9_:=Aside0.mk ((by rw [hg];exact Nat.ne_of_gt (blk_lt (g:=gb362) (o:=.cells #[.int .i64 a1_0,.int .i64 a1_1,.int .i64 a1_2,.int .i64 a1_3,.int .i64 a1_4,.int .i64 a1_5] 75 (0,0)) (by (with_reducible repeat(first|refine blk_drewN ?_ _|refine blk_drew ?_|refine blk_alloc ?_ _));exact BK362.out)) : gb363 ≠ gb362));clear BK361;clear BK362;clear HB;have BK361:=n0_;have BK362:=n1_;have HB:=n2_;have BK363:=n3_;have GW363:=n4_;have GE363:=n5_;have NB361_363:=n6_;have NB363_361:=n7_;have NB362_363:=n8_;have NB363_362:=n9_;clear n0_ n1_ n2_ n3_ n4_ n5_ n6_ n7_ n8_ n9_;clear hb hbox hg;have hnb9:=NB363_361.out;have hnc9:=NB361_363.out;have hnb10:=NB363_362.out;have hnc10:=NB362_363.out;have hcz11_0 : w8.cell? ⟨gb363,0,none⟩ = some (.int .i64 0):=(blk_cell BK363.out 0).trans rfl;have hcz11_1 : w8.cell? ⟨gb363,1,none⟩ = some (.int .i64 0):=(blk_cell BK363.out 1).trans rfl;have hcz11_2 : w8.cell? ⟨gb363,2,none⟩ = some (.int .i64 0):=(blk_cell BK363.out 2).trans rfl;have hcz11_3 : w8.cell? ⟨gb363,3,none⟩ = some (.int .i64 0):=(blk_cell BK363.out 3).trans rfl;have hcz11_4 : w8.cell? ⟨gb363,4,none⟩ = some (.int .i64 0):=(blk_cell BK363.out 4).trans rfl;have hcz11_5 : w8.cell? ⟨gb363,5,none⟩ = some (.int .i64 0):=(blk_cell BK363.out 5).trans rfl;have hfz11_0:=blk_frozen BK363.out 0;have hfz11_1:=blk_frozen BK363.out 1;have hfz11_2:=blk_frozen BK363.out 2;have hfz11_3:=blk_frozen BK363.out 3;have hfz11_4:=blk_frozen BK363.out 4;have hfz11_5:=blk_frozen BK363.out 5))
 (try simp only [Act.put,List.setIfInBounds_toArray,List.set_cons_zero,List.set_cons_succ])
 go_cut [8] (fun v8 wc=>∃ (kq : Nat) (x8_2 : Bool),v8 = .bool x8_2 ∧ Aside0 (node_Shape_right.j0 kq x8_2 a0_0 a0_1 a0_2 a0_3 a1_0 a1_1 a1_2 a1_3 a1_4 a1_5 a1_0 a1_1 a1_2 a1_3 a1_4 a1_5 = some r) ∧ Aside0 (kq ≤ k) ∧ Aside0 (wc.heap[gb361]? = some (.cells #[.int .i64 a0_0,.int .i64 a0_1,.int .i64 a0_2,.int .i64 a0_3] 72 (0,0))) ∧ Aside0 (wc.heap[gb362]? = some (.cells #[.int .i64 a1_0,.int .i64 a1_1,.int .i64 a1_2,.int .i64 a1_3,.int .i64 a1_4,.int .i64 a1_5] 75 (0,0))) ∧ Aside0 (wc.heap[gb363]? = some (.cells #[.int .i64 a1_0,.int .i64 a1_1,.int .i64 a1_2,.int .i64 a1_3,.int .i64 a1_4,.int .i64 a1_5] 75 (0,0))) ∧ Aside0 (Below w.heap.size w wc))
 case first =>
  have H:=HC3.out
  clear HC3
  replace H:=Option.bind_eq_some_iff.mp H
  obtain ⟨t364,A120,H⟩:=H
  replace H : (if t364 = true then (node_Shape_right.j0 k (a0_2 == 0) a0_0 a0_1 a0_2 a0_3 a1_0 a1_1 a1_2 a1_3 a1_4 a1_5 a1_0 a1_1 a1_2 a1_3 a1_4 a1_5) else (node_Shape_right.j0 k false a0_0 a0_1 a0_2 a0_3 a1_0 a1_1 a1_2 a1_3 a1_4 a1_5 a1_0 a1_1 a1_2 a1_3 a1_4 a1_5)) = some r:=H
  have A12:=Aside0.mk A120
  clear A120
  by_cases c13 : t364 = true
  ·subst c13
   have H1 : (node_Shape_right.j0 k (a0_2 == 0) a0_0 a0_1 a0_2 a0_3 a1_0 a1_1 a1_2 a1_3 a1_4 a1_5 a1_0 a1_1 a1_2 a1_3 a1_4 a1_5) = some r:=by rw [if_pos rfl] at H;exact H
   clear H
   have H:=H1
   clear H1
   have H':=Aside0.mk H
   clear H
   have hnb14:=NB362_361.out
   have hnc14:=NB361_362.out
   have hnb15:=NB362_363.out
   have hnc15:=NB363_362.out
   have hcz16_0 : w8.cell? ⟨gb362,0,none⟩ = some (.int .i64 a1_0):=(blk_cell BK362.out 0).trans rfl
   have hcz16_1 : w8.cell? ⟨gb362,1,none⟩ = some (.int .i64 a1_1):=(blk_cell BK362.out 1).trans rfl
   have hcz16_2 : w8.cell? ⟨gb362,2,none⟩ = some (.int .i64 a1_2):=(blk_cell BK362.out 2).trans rfl
   have hcz16_3 : w8.cell? ⟨gb362,3,none⟩ = some (.int .i64 a1_3):=(blk_cell BK362.out 3).trans rfl
   have hcz16_4 : w8.cell? ⟨gb362,4,none⟩ = some (.int .i64 a1_4):=(blk_cell BK362.out 4).trans rfl
   have hcz16_5 : w8.cell? ⟨gb362,5,none⟩ = some (.int .i64 a1_5):=(blk_cell BK362.out 5).trans rfl
   have hfz16_0:=blk_frozen BK362.out 0
   have hfz16_1:=blk_frozen BK362.out 1
   have hfz16_2:=blk_frozen BK362.out 2
   have hfz16_3:=blk_frozen BK362.out 3
   have hfz16_4:=blk_frozen BK362.out 4
   have hfz16_5:=blk_frozen BK362.out 5
   go_wp2_with (first|((with_reducible refine gate_callee (f:=70) rfl ?_);refine goesL_ (some 10) rfl rfl Try.func70 (by kernel_rfl) rfl #[.agg #[.int .i64 a1_0,.int .i64 a1_1,.int .i64 a1_2,.int .i64 a1_3,.int .i64 a1_4,.int .i64 a1_5]] rfl (by (try simp only [List.map_toArray,List.map_cons,List.map_nil]);first|done|rfl|(simp only [List.length_drop,List.length_take];rfl)) ?_;(with_reducible refine (node_leaf.calls a1_0 a1_1 a1_2 a1_3 a1_4 a1_5 true _ A12.out).mono ?_);rintro e w17 ⟨rfl,hb⟩;refine ⟨_,rfl,?_⟩;have n0_:=Aside0.mk (blk_below (g:=gb361) (o:=.cells #[.int .i64 a0_0,.int .i64 a0_1,.int .i64 a0_2,.int .i64 a0_3] 72 (0,0)) (by (with_reducible repeat(first|refine blk_drewN ?_ _|refine blk_drew ?_|refine blk_alloc ?_ _));refine blk_far ?_ NB361_363.out _;(with_reducible repeat(first|refine blk_drewN ?_ _|refine blk_drew ?_|refine blk_alloc ?_ _));refine blk_far ?_ NB361_363.out _;(with_reducible repeat(first|refine blk_drewN ?_ _|refine blk_drew ?_|refine blk_alloc ?_ _));refine blk_far ?_ NB361_363.out _;(with_reducible repeat(first|refine blk_drewN ?_ _|refine blk_drew ?_|refine blk_alloc ?_ _));refine blk_far ?_ NB361_363.out _;(with_reducible repeat(first|refine blk_drewN ?_ _|refine blk_drew ?_|refine blk_alloc ?_ _));refine blk_far ?_ NB361_363.out _;(with_reducible repeat(first|refine blk_drewN ?_ _|refine blk_drew ?_|refine blk_alloc ?_ _));refine blk_far ?_ NB361_363.out _;(with_reducible repeat(first|refine blk_drewN ?_ _|refine blk_drew ?_|refine blk_alloc ?_ _));exact BK361.out) hb);have n1_:=Aside0.mk (blk_below (g:=gb362) (o:=.cells #[.int .i64 a1_0,.int .i64 a1_1,.int .i64 a1_2,.int .i64 a1_3,.int .i64 a1_4,.int .i64 a1_5] 75 (0,0)) (by (with_reducible repeat(first|refine blk_drewN ?_ _|refine blk_drew ?_|refine blk_alloc ?_ _));refine blk_far ?_ NB362_363.out _;(with_reducible repeat(first|refine blk_drewN ?_ _|refine blk_drew ?_|refine blk_alloc ?_ _));refine blk_far ?_ NB362_363.out _;(with_reducible repeat(first|refine blk_drewN ?_ _|refine blk_drew ?_|refine blk_alloc ?_ _));refine blk_far ?_ NB362_363.out _;(with_reducible repeat(first|refine blk_drewN ?_ _|refine blk_drew ?_|refine blk_alloc ?_ _));refine blk_far ?_ NB362_363.out _;(with_reducible repeat(first|refine blk_drewN ?_ _|refine blk_drew ?_|refine blk_alloc ?_ _));refine blk_far ?_ NB362_363.out _;(with_reducible repeat(first|refine blk_drewN ?_ _|refine blk_drew ?_|refine blk_alloc ?_ _));refine blk_far ?_ NB362_363.out _;(with_reducible repeat(first|refine blk_drewN ?_ _|refine blk_drew ?_|refine blk_alloc ?_ _));exact BK362.out) hb);have n2_:=Aside0.mk (blk_below (g:=gb363) (o:=.cells #[.int .i64 a1_0,.int .i64 a1_1,.int .i64 a1_2,.int .i64 a1_3,.int .i64 a1_4,.int .i64 a1_5] 75 (0,0)) (by (with_reducible repeat(first|refine blk_drewN ?_ _|refine blk_drew ?_|refine blk_alloc ?_ _));refine blk_put (cs:=#[.int .i64 a1_0,.int .i64 a1_1,.int .i64 a1_2,.int .i64 a1_3,.int .i64 a1_4,.int .i64 0]) ?_ 5 _ rfl;(with_reducible repeat(first|refine blk_drewN ?_ _|refine blk_drew ?_|refine blk_alloc ?_ _));refine blk_put (cs:=#[.int .i64 a1_0,.int .i64 a1_1,.int .i64 a1_2,.int .i64 a1_3,.int .i64 0,.int .i64 0]) ?_ 4 _ rfl;(with_reducible repeat(first|refine blk_drewN ?_ _|refine blk_drew ?_|refine blk_alloc ?_ _));refine blk_put (cs:=#[.int .i64 a1_0,.int .i64 a1_1,.int .i64 a1_2,.int .i64 0,.int .i64 0,.int .i64 0]) ?_ 3 _ rfl;(with_reducible repeat(first|refine blk_drewN ?_ _|refine blk_drew ?_|refine blk_alloc ?_ _));refine blk_put (cs:=#[.int .i64 a1_0,.int .i64 a1_1,.int .i64 0,.int .i64 0,.int .i64 0,.int .i64 0]) ?_ 2 _ rfl;(with_reducible repeat(first|refine blk_drewN ?_ _|refine blk_drew ?_|refine blk_alloc ?_ _));refine blk_put (cs:=#[.int .i64 a1_0,.int .i64 0,.int .i64 0,.int .i64 0,.int .i64 0,.int .i64 0]) ?_ 1 _ rfl;(with_reducible repeat(first|refine blk_drewN ?_ _|refine blk_drew ?_|refine blk_alloc ?_ _));refine blk_put (cs:=#[.int .i64 0,.int .i64 0,.int .i64 0,.int .i64 0,.int .i64 0,.int .i64 0]) ?_ 0 _ rfl;(with_reducible repeat(first|refine blk_drewN ?_ _|refine blk_drew ?_|refine blk_alloc ?_ _));exact BK363.out) hb);have n3_:=Aside0.mk (below_step (by repeat(first|(with_reducible first|exact HB.out|apply below_alloc|apply pw_below_drewN|apply below_drew1|refine below_set ?_ GE361.out|refine below_set ?_ GE362.out|refine below_set ?_ GE363.out)|exact HB.out)) hb);clear BK361;clear BK362;clear BK363;clear HB;have BK361:=n0_;have BK362:=n1_;have BK363:=n2_;have HB:=n3_;clear n0_ n1_ n2_ n3_;(try clear hb);(try clear hb2);(try clear hk);(try clear hi);have hnb18:=NB361_363.out;have hnc18:=NB363_361.out;have hcz19_0 : w17.cell? ⟨gb361,0,none⟩ = some (.int .i64 a0_0):=(blk_cell BK361.out 0).trans rfl;have hcz19_1 : w17.cell? ⟨gb361,1,none⟩ = some (.int .i64 a0_1):=(blk_cell BK361.out 1).trans rfl;have hcz19_2 : w17.cell? ⟨gb361,2,none⟩ = some (.int .i64 a0_2):=(blk_cell BK361.out 2).trans rfl;have hcz19_3 : w17.cell? ⟨gb361,3,none⟩ = some (.int .i64 a0_3):=(blk_cell BK361.out 3).trans rfl;have hfz19_0:=blk_frozen BK361.out 0;have hfz19_1:=blk_frozen BK361.out 1;have hfz19_2:=blk_frozen BK361.out 2;have hfz19_3:=blk_frozen BK361.out 3))
   go_meet
   case rel=>exact ⟨_,((a0_2 == 0)),(by first|rfl|(simp;done)|(simp [*];done)),H',⟨by first|omega|exact Nat.le_refl _⟩,⟨by (with_reducible repeat(first|refine blk_drewN ?_ _|refine blk_drew ?_|refine blk_alloc ?_ _));exact BK361.out⟩,⟨by (with_reducible repeat(first|refine blk_drewN ?_ _|refine blk_drew ?_|refine blk_alloc ?_ _));exact BK362.out⟩,⟨by (with_reducible repeat(first|refine blk_drewN ?_ _|refine blk_drew ?_|refine blk_alloc ?_ _));exact BK363.out⟩,⟨by repeat(first|(with_reducible first|exact HB.out|apply below_alloc|apply pw_below_drewN|apply below_drew1|refine below_set ?_ GE361.out|refine below_set ?_ GE362.out|refine below_set ?_ GE363.out)|exact HB.out)⟩⟩
  ·replace c13:=Bool.eq_false_iff.mpr c13
   subst c13
   have H1 : (node_Shape_right.j0 k false a0_0 a0_1 a0_2 a0_3 a1_0 a1_1 a1_2 a1_3 a1_4 a1_5 a1_0 a1_1 a1_2 a1_3 a1_4 a1_5) = some r:=by rw [if_neg (show ¬ (false = true) by decide)] at H;exact H
   clear H
   have H:=H1
   clear H1
   have H':=Aside0.mk H
   clear H
   have hnb20:=NB362_361.out
   have hnc20:=NB361_362.out
   have hnb21:=NB362_363.out
   have hnc21:=NB363_362.out
   have hcz22_0 : w8.cell? ⟨gb362,0,none⟩ = some (.int .i64 a1_0):=(blk_cell BK362.out 0).trans rfl
   have hcz22_1 : w8.cell? ⟨gb362,1,none⟩ = some (.int .i64 a1_1):=(blk_cell BK362.out 1).trans rfl
   have hcz22_2 : w8.cell? ⟨gb362,2,none⟩ = some (.int .i64 a1_2):=(blk_cell BK362.out 2).trans rfl
   have hcz22_3 : w8.cell? ⟨gb362,3,none⟩ = some (.int .i64 a1_3):=(blk_cell BK362.out 3).trans rfl
   have hcz22_4 : w8.cell? ⟨gb362,4,none⟩ = some (.int .i64 a1_4):=(blk_cell BK362.out 4).trans rfl
   have hcz22_5 : w8.cell? ⟨gb362,5,none⟩ = some (.int .i64 a1_5):=(blk_cell BK362.out 5).trans rfl
   have hfz22_0:=blk_frozen BK362.out 0
   have hfz22_1:=blk_frozen BK362.out 1
   have hfz22_2:=blk_frozen BK362.out 2
   have hfz22_3:=blk_frozen BK362.out 3
   have hfz22_4:=blk_frozen BK362.out 4
   have hfz22_5:=blk_frozen BK362.out 5
   go_wp2_with (first|((with_reducible refine gate_callee (f:=70) rfl ?_);refine goesL_ (some 10) rfl rfl Try.func70 (by kernel_rfl) rfl #[.agg #[.int .i64 a1_0,.int .i64 a1_1,.int .i64 a1_2,.int .i64 a1_3,.int .i64 a1_4,.int .i64 a1_5]] rfl (by (try simp only [List.map_toArray,List.map_cons,List.map_nil]);first|done|rfl|(simp only [List.length_drop,List.length_take];rfl)) ?_;(with_reducible refine (node_leaf.calls a1_0 a1_1 a1_2 a1_3 a1_4 a1_5 false _ A12.out).mono ?_);rintro e w23 ⟨rfl,hb⟩;refine ⟨_,rfl,?_⟩;have n0_:=Aside0.mk (blk_below (g:=gb361) (o:=.cells #[.int .i64 a0_0,.int .i64 a0_1,.int .i64 a0_2,.int .i64 a0_3] 72 (0,0)) (by (with_reducible repeat(first|refine blk_drewN ?_ _|refine blk_drew ?_|refine blk_alloc ?_ _));refine blk_far ?_ NB361_363.out _;(with_reducible repeat(first|refine blk_drewN ?_ _|refine blk_drew ?_|refine blk_alloc ?_ _));refine blk_far ?_ NB361_363.out _;(with_reducible repeat(first|refine blk_drewN ?_ _|refine blk_drew ?_|refine blk_alloc ?_ _));refine blk_far ?_ NB361_363.out _;(with_reducible repeat(first|refine blk_drewN ?_ _|refine blk_drew ?_|refine blk_alloc ?_ _));refine blk_far ?_ NB361_363.out _;(with_reducible repeat(first|refine blk_drewN ?_ _|refine blk_drew ?_|refine blk_alloc ?_ _));refine blk_far ?_ NB361_363.out _;(with_reducible repeat(first|refine blk_drewN ?_ _|refine blk_drew ?_|refine blk_alloc ?_ _));refine blk_far ?_ NB361_363.out _;(with_reducible repeat(first|refine blk_drewN ?_ _|refine blk_drew ?_|refine blk_alloc ?_ _));exact BK361.out) hb);have n1_:=Aside0.mk (blk_below (g:=gb362) (o:=.cells #[.int .i64 a1_0,.int .i64 a1_1,.int .i64 a1_2,.int .i64 a1_3,.int .i64 a1_4,.int .i64 a1_5] 75 (0,0)) (by (with_reducible repeat(first|refine blk_drewN ?_ _|refine blk_drew ?_|refine blk_alloc ?_ _));refine blk_far ?_ NB362_363.out _;(with_reducible repeat(first|refine blk_drewN ?_ _|refine blk_drew ?_|refine blk_alloc ?_ _));refine blk_far ?_ NB362_363.out _;(with_reducible repeat(first|refine blk_drewN ?_ _|refine blk_drew ?_|refine blk_alloc ?_ _));refine blk_far ?_ NB362_363.out _;(with_reducible repeat(first|refine blk_drewN ?_ _|refine blk_drew ?_|refine blk_alloc ?_ _));refine blk_far ?_ NB362_363.out _;(with_reducible repeat(first|refine blk_drewN ?_ _|refine blk_drew ?_|refine blk_alloc ?_ _));refine blk_far ?_ NB362_363.out _;(with_reducible repeat(first|refine blk_drewN ?_ _|refine blk_drew ?_|refine blk_alloc ?_ _));refine blk_far ?_ NB362_363.out _;(with_reducible repeat(first|refine blk_drewN ?_ _|refine blk_drew ?_|refine blk_alloc ?_ _));exact BK362.out) hb);have n2_:=Aside0.mk (blk_below (g:=gb363) (o:=.cells #[.int .i64 a1_0,.int .i64 a1_1,.int .i64 a1_2,.int .i64 a1_3,.int .i64 a1_4,.int .i64 a1_5] 75 (0,0)) (by (with_reducible repeat(first|refine blk_drewN ?_ _|refine blk_drew ?_|refine blk_alloc ?_ _));refine blk_put (cs:=#[.int .i64 a1_0,.int .i64 a1_1,.int .i64 a1_2,.int .i64 a1_3,.int .i64 a1_4,.int .i64 0]) ?_ 5 _ rfl;(with_reducible repeat(first|refine blk_drewN ?_ _|refine blk_drew ?_|refine blk_alloc ?_ _));refine blk_put (cs:=#[.int .i64 a1_0,.int .i64 a1_1,.int .i64 a1_2,.int .i64 a1_3,.int .i64 0,.int .i64 0]) ?_ 4 _ rfl;(with_reducible repeat(first|refine blk_drewN ?_ _|refine blk_drew ?_|refine blk_alloc ?_ _));refine blk_put (cs:=#[.int .i64 a1_0,.int .i64 a1_1,.int .i64 a1_2,.int .i64 0,.int .i64 0,.int .i64 0]) ?_ 3 _ rfl;(with_reducible repeat(first|refine blk_drewN ?_ _|refine blk_drew ?_|refine blk_alloc ?_ _));refine blk_put (cs:=#[.int .i64 a1_0,.int .i64 a1_1,.int .i64 0,.int .i64 0,.int .i64 0,.int .i64 0]) ?_ 2 _ rfl;(with_reducible repeat(first|refine blk_drewN ?_ _|refine blk_drew ?_|refine blk_alloc ?_ _));refine blk_put (cs:=#[.int .i64 a1_0,.int .i64 0,.int .i64 0,.int .i64 0,.int .i64 0,.int .i64 0]) ?_ 1 _ rfl;(with_reducible repeat(first|refine blk_drewN ?_ _|refine blk_drew ?_|refine blk_alloc ?_ _));refine blk_put (cs:=#[.int .i64 0,.int .i64 0,.int .i64 0,.int .i64 0,.int .i64 0,.int .i64 0]) ?_ 0 _ rfl;(with_reducible repeat(first|refine blk_drewN ?_ _|refine blk_drew ?_|refine blk_alloc ?_ _));exact BK363.out) hb);have n3_:=Aside0.mk (below_step (by repeat(first|(with_reducible first|exact HB.out|apply below_alloc|apply pw_below_drewN|apply below_drew1|refine below_set ?_ GE361.out|refine below_set ?_ GE362.out|refine below_set ?_ GE363.out)|exact HB.out)) hb);clear BK361;clear BK362;clear BK363;clear HB;have BK361:=n0_;have BK362:=n1_;have BK363:=n2_;have HB:=n3_;clear n0_ n1_ n2_ n3_;(try clear hb);(try clear hb2);(try clear hk);(try clear hi)))
   go_meet
   case rel=>exact ⟨_,(false),(by first|rfl|(simp;done)|(simp [*];done)),H',⟨by first|omega|exact Nat.le_refl _⟩,⟨by (with_reducible repeat(first|refine blk_drewN ?_ _|refine blk_drew ?_|refine blk_alloc ?_ _));exact BK361.out⟩,⟨by (with_reducible repeat(first|refine blk_drewN ?_ _|refine blk_drew ?_|refine blk_alloc ?_ _));exact BK362.out⟩,⟨by (with_reducible repeat(first|refine blk_drewN ?_ _|refine blk_drew ?_|refine blk_alloc ?_ _));exact BK363.out⟩,⟨by repeat(first|(with_reducible first|exact HB.out|apply below_alloc|apply pw_below_drewN|apply below_drew1|refine below_set ?_ GE361.out|refine below_set ?_ GE362.out|refine below_set ?_ GE363.out)|exact HB.out)⟩⟩
 case rest =>
  clear HC3
  try clear c1
  try clear c2
  try clear p2
  try clear c6
  try clear c7
  try clear c9
  try clear c10
  try clear c13
  try clear c14
  try clear c15
  try clear c18
  try clear c20
  try clear c21
  try clear hcz11_0
  try clear hcz11_1
  try clear hcz11_2
  try clear hcz11_3
  try clear hcz11_4
  try clear hcz11_5
  try clear hcz16_0
  try clear hcz16_1
  try clear hcz16_2
  try clear hcz16_3
  try clear hcz16_4
  try clear hcz16_5
  try clear hcz19_0
  try clear hcz19_1
  try clear hcz19_2
  try clear hcz19_3
  try clear hcz22_0
  try clear hcz22_1
  try clear hcz22_2
  try clear hcz22_3
  try clear hcz22_4
  try clear hcz22_5
  try clear hcz7_0
  try clear hcz7_1
  try clear hcz7_2
  try clear hcz7_3
  try clear hcz7_4
  try clear hcz7_5
  try clear hfz11_0
  try clear hfz11_1
  try clear hfz11_2
  try clear hfz11_3
  try clear hfz11_4
  try clear hfz11_5
  try clear hfz16_0
  try clear hfz16_1
  try clear hfz16_2
  try clear hfz16_3
  try clear hfz16_4
  try clear hfz16_5
  try clear hfz19_0
  try clear hfz19_1
  try clear hfz19_2
  try clear hfz19_3
  try clear hfz22_0
  try clear hfz22_1
  try clear hfz22_2
  try clear hfz22_3
  try clear hfz22_4
  try clear hfz22_5
  try clear hfz7_0
  try clear hfz7_1
  try clear hfz7_2
  try clear hfz7_3
  try clear hfz7_4
  try clear hfz7_5
  obtain ⟨kq,x8_2,rfl,HA,HJ2,BK361,BK362,BK363,HB⟩:=hcut
  cases kq with
  | zero=>exact absurd HA.out (by simp [node_Shape_right.j0])
  | succ kj2 =>
   have H:=HA.out
   clear HA
   simp only [node_Shape_right.j0] at H
   by_cases c24 : x8_2 = true
   ·subst c24
    have H1 : (if (a1_1 == 0 && (a1_2 == 0 && (a1_4 == 0 && (a1_5 == 0)))) = true then (if a1_3 ≥ 0 then (some (decide (a1_3 < a0_3))) else (some false)) else (some false)) = some r:=by rw [if_pos rfl] at H;exact H
    clear H
    have H:=H1
    clear H1
    by_cases c25 : (a1_1 == 0 && (a1_2 == 0 && (a1_4 == 0 && (a1_5 == 0)))) = true
    ·rw [if_pos c25] at H
     have c25b0 : (a1_1 == 0 && (a1_2 == 0 && (a1_4 == 0 && (a1_5 == 0)))) = true:=c25
     (try (have c25b1 : decide (a1_1 = 0 && (a1_2 == 0 && (a1_4 == 0 && (a1_5 == 0)))) = true:=by simpa using c25))
     (try (have c25b2 : (a1_1 == 0 && (a1_2 == 0 && (a1_4 == 0 && (a1_5 == 0)))) = true:=by simpa using c25))
     clear c25
     by_cases c26 : a1_3 ≥ 0
     ·rw [if_pos c26] at H
      have c26b0 : decide (0 ≤ a1_3) = true:=decide_eq_true c26
      clear c26
      obtain rfl:=Option.some.inj H
      have hnb27:=NB363_361.out
      have hnc27:=NB361_363.out
      have hnb28:=NB363_362.out
      have hnc28:=NB362_363.out
      have hcz29_0 : wc.cell? ⟨gb363,0,none⟩ = some (.int .i64 a1_0):=(blk_cell BK363.out 0).trans rfl
      have hcz29_1 : wc.cell? ⟨gb363,1,none⟩ = some (.int .i64 a1_1):=(blk_cell BK363.out 1).trans rfl
      have hcz29_2 : wc.cell? ⟨gb363,2,none⟩ = some (.int .i64 a1_2):=(blk_cell BK363.out 2).trans rfl
      have hcz29_3 : wc.cell? ⟨gb363,3,none⟩ = some (.int .i64 a1_3):=(blk_cell BK363.out 3).trans rfl
      have hcz29_4 : wc.cell? ⟨gb363,4,none⟩ = some (.int .i64 a1_4):=(blk_cell BK363.out 4).trans rfl
      have hcz29_5 : wc.cell? ⟨gb363,5,none⟩ = some (.int .i64 a1_5):=(blk_cell BK363.out 5).trans rfl
      have hfz29_0:=blk_frozen BK363.out 0
      have hfz29_1:=blk_frozen BK363.out 1
      have hfz29_2:=blk_frozen BK363.out 2
      have hfz29_3:=blk_frozen BK363.out 3
      have hfz29_4:=blk_frozen BK363.out 4
      have hfz29_5:=blk_frozen BK363.out 5
      have hnb30:=NB362_361.out
      have hnc30:=NB361_362.out
      have hcz31_0 : wc.cell? ⟨gb362,0,none⟩ = some (.int .i64 a1_0):=(blk_cell BK362.out 0).trans rfl
      have hcz31_1 : wc.cell? ⟨gb362,1,none⟩ = some (.int .i64 a1_1):=(blk_cell BK362.out 1).trans rfl
      have hcz31_2 : wc.cell? ⟨gb362,2,none⟩ = some (.int .i64 a1_2):=(blk_cell BK362.out 2).trans rfl
      have hcz31_3 : wc.cell? ⟨gb362,3,none⟩ = some (.int .i64 a1_3):=(blk_cell BK362.out 3).trans rfl
      have hcz31_4 : wc.cell? ⟨gb362,4,none⟩ = some (.int .i64 a1_4):=(blk_cell BK362.out 4).trans rfl
      have hcz31_5 : wc.cell? ⟨gb362,5,none⟩ = some (.int .i64 a1_5):=(blk_cell BK362.out 5).trans rfl
      have hfz31_0:=blk_frozen BK362.out 0
      have hfz31_1:=blk_frozen BK362.out 1
      have hfz31_2:=blk_frozen BK362.out 2
      have hfz31_3:=blk_frozen BK362.out 3
      have hfz31_4:=blk_frozen BK362.out 4
      have hfz31_5:=blk_frozen BK362.out 5
      have hcz32_0 : wc.cell? ⟨gb361,0,none⟩ = some (.int .i64 a0_0):=(blk_cell BK361.out 0).trans rfl
      have hcz32_1 : wc.cell? ⟨gb361,1,none⟩ = some (.int .i64 a0_1):=(blk_cell BK361.out 1).trans rfl
      have hcz32_2 : wc.cell? ⟨gb361,2,none⟩ = some (.int .i64 a0_2):=(blk_cell BK361.out 2).trans rfl
      have hcz32_3 : wc.cell? ⟨gb361,3,none⟩ = some (.int .i64 a0_3):=(blk_cell BK361.out 3).trans rfl
      have hfz32_0:=blk_frozen BK361.out 0
      have hfz32_1:=blk_frozen BK361.out 1
      have hfz32_2:=blk_frozen BK361.out 2
      have hfz32_3:=blk_frozen BK361.out 3
      go_wp2
      go_ret
      exact ⟨by first|rfl|(simp [errW_none,errW_some] <;> rfl)|(simp [*,errW_none,errW_some] <;> rfl),by repeat(first|(with_reducible first|exact HB.out|apply below_alloc|apply pw_below_drewN|apply below_drew1|refine below_set ?_ GE361.out|refine below_set ?_ GE362.out|refine below_set ?_ GE363.out)|exact HB.out)⟩
     ·rw [if_neg c26] at H
      have c26b0 : decide (0 ≤ a1_3) = false:=decide_eq_false c26
      clear c26
      obtain rfl:=Option.some.inj H
      have hnb33:=NB363_361.out
      have hnc33:=NB361_363.out
      have hnb34:=NB363_362.out
      have hnc34:=NB362_363.out
      have hcz35_0 : wc.cell? ⟨gb363,0,none⟩ = some (.int .i64 a1_0):=(blk_cell BK363.out 0).trans rfl
      have hcz35_1 : wc.cell? ⟨gb363,1,none⟩ = some (.int .i64 a1_1):=(blk_cell BK363.out 1).trans rfl
      have hcz35_2 : wc.cell? ⟨gb363,2,none⟩ = some (.int .i64 a1_2):=(blk_cell BK363.out 2).trans rfl
      have hcz35_3 : wc.cell? ⟨gb363,3,none⟩ = some (.int .i64 a1_3):=(blk_cell BK363.out 3).trans rfl
      have hcz35_4 : wc.cell? ⟨gb363,4,none⟩ = some (.int .i64 a1_4):=(blk_cell BK363.out 4).trans rfl
      have hcz35_5 : wc.cell? ⟨gb363,5,none⟩ = some (.int .i64 a1_5):=(blk_cell BK363.out 5).trans rfl
      have hfz35_0:=blk_frozen BK363.out 0
      have hfz35_1:=blk_frozen BK363.out 1
      have hfz35_2:=blk_frozen BK363.out 2
      have hfz35_3:=blk_frozen BK363.out 3
      have hfz35_4:=blk_frozen BK363.out 4
      have hfz35_5:=blk_frozen BK363.out 5
      have hnb36:=NB362_361.out
      have hnc36:=NB361_362.out
      have hcz37_0 : wc.cell? ⟨gb362,0,none⟩ = some (.int .i64 a1_0):=(blk_cell BK362.out 0).trans rfl
      have hcz37_1 : wc.cell? ⟨gb362,1,none⟩ = some (.int .i64 a1_1):=(blk_cell BK362.out 1).trans rfl
      have hcz37_2 : wc.cell? ⟨gb362,2,none⟩ = some (.int .i64 a1_2):=(blk_cell BK362.out 2).trans rfl
      have hcz37_3 : wc.cell? ⟨gb362,3,none⟩ = some (.int .i64 a1_3):=(blk_cell BK362.out 3).trans rfl
      have hcz37_4 : wc.cell? ⟨gb362,4,none⟩ = some (.int .i64 a1_4):=(blk_cell BK362.out 4).trans rfl
      have hcz37_5 : wc.cell? ⟨gb362,5,none⟩ = some (.int .i64 a1_5):=(blk_cell BK362.out 5).trans rfl
      have hfz37_0:=blk_frozen BK362.out 0
      have hfz37_1:=blk_frozen BK362.out 1
      have hfz37_2:=blk_frozen BK362.out 2
      have hfz37_3:=blk_frozen BK362.out 3
      have hfz37_4:=blk_frozen BK362.out 4
      have hfz37_5:=blk_frozen BK362.out 5
      go_wp2
      go_ret
      exact ⟨by first|rfl|(simp [errW_none,errW_some] <;> rfl)|(simp [*,errW_none,errW_some] <;> rfl),by repeat(first|(with_reducible first|exact HB.out|apply below_alloc|apply pw_below_drewN|apply below_drew1|refine below_set ?_ GE361.out|refine below_set ?_ GE362.out|refine below_set ?_ GE363.out)|exact HB.out)⟩
    ·rw [if_neg c25] at H
     have c25b0 : (a1_1 == 0 && (a1_2 == 0 && (a1_4 == 0 && (a1_5 == 0)))) = false:=by simpa using c25
     (try (have c25b1 : decide (a1_1 = 0 && (a1_2 == 0 && (a1_4 == 0 && (a1_5 == 0)))) = false:=by simpa using c25))
     (try (have c25b2 : (a1_1 == 0 && (a1_2 == 0 && (a1_4 == 0 && (a1_5 == 0)))) = false:=by simpa using c25))
     (try (have c25b3 : ¬ (a1_1 = 0 && (a1_2 == 0 && (a1_4 == 0 && (a1_5 == 0)))):=by simpa using c25))
     clear c25
     obtain rfl:=Option.some.inj H
     have hnb38:=NB363_361.out
     have hnc38:=NB361_363.out
     have hnb39:=NB363_362.out
     have hnc39:=NB362_363.out
     have hcz40_0 : wc.cell? ⟨gb363,0,none⟩ = some (.int .i64 a1_0):=(blk_cell BK363.out 0).trans rfl
     have hcz40_1 : wc.cell? ⟨gb363,1,none⟩ = some (.int .i64 a1_1):=(blk_cell BK363.out 1).trans rfl
     have hcz40_2 : wc.cell? ⟨gb363,2,none⟩ = some (.int .i64 a1_2):=(blk_cell BK363.out 2).trans rfl
     have hcz40_3 : wc.cell? ⟨gb363,3,none⟩ = some (.int .i64 a1_3):=(blk_cell BK363.out 3).trans rfl
     have hcz40_4 : wc.cell? ⟨gb363,4,none⟩ = some (.int .i64 a1_4):=(blk_cell BK363.out 4).trans rfl
     have hcz40_5 : wc.cell? ⟨gb363,5,none⟩ = some (.int .i64 a1_5):=(blk_cell BK363.out 5).trans rfl
     have hfz40_0:=blk_frozen BK363.out 0
     have hfz40_1:=blk_frozen BK363.out 1
     have hfz40_2:=blk_frozen BK363.out 2
     have hfz40_3:=blk_frozen BK363.out 3
     have hfz40_4:=blk_frozen BK363.out 4
     have hfz40_5:=blk_frozen BK363.out 5
     go_wp2
     go_ret
     exact ⟨by first|rfl|(simp [errW_none,errW_some] <;> rfl)|(simp [*,errW_none,errW_some] <;> rfl),by repeat(first|(with_reducible first|exact HB.out|apply below_alloc|apply pw_below_drewN|apply below_drew1|refine below_set ?_ GE361.out|refine below_set ?_ GE362.out|refine below_set ?_ GE363.out)|exact HB.out)⟩
   ·replace c24:=Bool.eq_false_iff.mpr c24
    subst c24
    have H1 : ((node_leaf.f a1_0 a1_1 a1_2 a1_3 a1_4 a1_5).bind fun t365=>(if t365 = true then (if (a1_1 == 0 && (a1_2 == 0 && (a1_3 == 0))) = true then (if a1_5 ≥ 1 then (if a1_5 ≤ 1048576 then (if a1_4 ≥ (wrap64 (-(wrap64 (1048576 * a1_5)))) then (some (decide (a1_4 ≤ (wrap64 (1048576 * a1_5))))) else (some false)) else (some false)) else (some false)) else (some false)) else (if (a1_3 == 0 && (a1_4 == 0 && (a1_5 == 0))) = true then (if a1_0 ≥ 0 then (if a1_0 < a0_0 then (if a1_1 ≥ 0 then (some (decide (a1_1 < a0_1))) else (some false)) else (some false)) else (some false)) else (some false)))) = some r:=by rw [if_neg (show ¬ (false = true) by decide)] at H;exact H
    clear H
    have H:=H1
    clear H1
    replace H:=Option.bind_eq_some_iff.mp H
    obtain ⟨t365,A410,H⟩:=H
    replace H : (if t365 = true then (if (a1_1 == 0 && (a1_2 == 0 && (a1_3 == 0))) = true then (if a1_5 ≥ 1 then (if a1_5 ≤ 1048576 then (if a1_4 ≥ (wrap64 (-(wrap64 (1048576 * a1_5)))) then (some (decide (a1_4 ≤ (wrap64 (1048576 * a1_5))))) else (some false)) else (some false)) else (some false)) else (some false)) else (if (a1_3 == 0 && (a1_4 == 0 && (a1_5 == 0))) = true then (if a1_0 ≥ 0 then (if a1_0 < a0_0 then (if a1_1 ≥ 0 then (some (decide (a1_1 < a0_1))) else (some false)) else (some false)) else (some false)) else (some false))) = some r:=H
    have A41:=Aside0.mk A410
    clear A410
    by_cases c42 : t365 = true
    ·subst c42
     have H1 : (if (a1_1 == 0 && (a1_2 == 0 && (a1_3 == 0))) = true then (if a1_5 ≥ 1 then (if a1_5 ≤ 1048576 then (if a1_4 ≥ (wrap64 (-(wrap64 (1048576 * a1_5)))) then (some (decide (a1_4 ≤ (wrap64 (1048576 * a1_5))))) else (some false)) else (some false)) else (some false)) else (some false)) = some r:=by rw [if_pos rfl] at H;exact H
     clear H
     have H:=H1
     clear H1
     by_cases c43 : (a1_1 == 0 && (a1_2 == 0 && (a1_3 == 0))) = true
     ·rw [if_pos c43] at H
      have c43b0 : (a1_1 == 0 && (a1_2 == 0 && (a1_3 == 0))) = true:=c43
      (try (have c43b1 : decide (a1_1 = 0 && (a1_2 == 0 && (a1_3 == 0))) = true:=by simpa using c43))
      (try (have c43b2 : (a1_1 == 0 && (a1_2 == 0 && (a1_3 == 0))) = true:=by simpa using c43))
      clear c43
      by_cases c44 : a1_5 ≥ 1
      ·rw [if_pos c44] at H
       have c44b0 : decide (1 ≤ a1_5) = true:=decide_eq_true c44
       clear c44
       by_cases c45 : a1_5 ≤ 1048576
       ·rw [if_pos c45] at H
        have c45b0 : decide (a1_5 ≤ 1048576) = true:=decide_eq_true c45
        clear c45
        by_cases c46 : a1_4 ≥ (wrap64 (-(wrap64 (1048576 * a1_5))))
        ·rw [if_pos c46] at H
         have c46b0 : decide ((wrap64 (-(wrap64 (1048576 * a1_5)))) ≤ a1_4) = true:=decide_eq_true c46
         clear c46
         obtain rfl:=Option.some.inj H
         have hnb47:=NB362_361.out
         have hnc47:=NB361_362.out
         have hnb48:=NB362_363.out
         have hnc48:=NB363_362.out
         have hcz49_0 : wc.cell? ⟨gb362,0,none⟩ = some (.int .i64 a1_0):=(blk_cell BK362.out 0).trans rfl
         have hcz49_1 : wc.cell? ⟨gb362,1,none⟩ = some (.int .i64 a1_1):=(blk_cell BK362.out 1).trans rfl
         have hcz49_2 : wc.cell? ⟨gb362,2,none⟩ = some (.int .i64 a1_2):=(blk_cell BK362.out 2).trans rfl
         have hcz49_3 : wc.cell? ⟨gb362,3,none⟩ = some (.int .i64 a1_3):=(blk_cell BK362.out 3).trans rfl
         have hcz49_4 : wc.cell? ⟨gb362,4,none⟩ = some (.int .i64 a1_4):=(blk_cell BK362.out 4).trans rfl
         have hcz49_5 : wc.cell? ⟨gb362,5,none⟩ = some (.int .i64 a1_5):=(blk_cell BK362.out 5).trans rfl
         have hfz49_0:=blk_frozen BK362.out 0
         have hfz49_1:=blk_frozen BK362.out 1
         have hfz49_2:=blk_frozen BK362.out 2
         have hfz49_3:=blk_frozen BK362.out 3
         have hfz49_4:=blk_frozen BK362.out 4
         have hfz49_5:=blk_frozen BK362.out 5
         go_wp2_with (first|((with_reducible refine gate_callee (f:=70) rfl ?_);refine goesL_ (some 35) rfl rfl Try.func70 (by kernel_rfl) rfl #[.agg #[.int .i64 a1_0,.int .i64 a1_1,.int .i64 a1_2,.int .i64 a1_3,.int .i64 a1_4,.int .i64 a1_5]] rfl (by (try simp only [List.map_toArray,List.map_cons,List.map_nil]);first|done|rfl|(simp only [List.length_drop,List.length_take];rfl)) ?_;(with_reducible refine (node_leaf.calls a1_0 a1_1 a1_2 a1_3 a1_4 a1_5 true _ A41.out).mono ?_);rintro e w50 ⟨rfl,hb⟩;refine ⟨_,rfl,?_⟩;have n0_:=Aside0.mk (blk_below (g:=gb361) (o:=.cells #[.int .i64 a0_0,.int .i64 a0_1,.int .i64 a0_2,.int .i64 a0_3] 72 (0,0)) (by (with_reducible repeat(first|refine blk_drewN ?_ _|refine blk_drew ?_|refine blk_alloc ?_ _));exact BK361.out) hb);have n1_:=Aside0.mk (blk_below (g:=gb362) (o:=.cells #[.int .i64 a1_0,.int .i64 a1_1,.int .i64 a1_2,.int .i64 a1_3,.int .i64 a1_4,.int .i64 a1_5] 75 (0,0)) (by (with_reducible repeat(first|refine blk_drewN ?_ _|refine blk_drew ?_|refine blk_alloc ?_ _));exact BK362.out) hb);have n2_:=Aside0.mk (blk_below (g:=gb363) (o:=.cells #[.int .i64 a1_0,.int .i64 a1_1,.int .i64 a1_2,.int .i64 a1_3,.int .i64 a1_4,.int .i64 a1_5] 75 (0,0)) (by (with_reducible repeat(first|refine blk_drewN ?_ _|refine blk_drew ?_|refine blk_alloc ?_ _));exact BK363.out) hb);have n3_:=Aside0.mk (below_step (by repeat(first|(with_reducible first|exact HB.out|apply below_alloc|apply pw_below_drewN|apply below_drew1|refine below_set ?_ GE361.out|refine below_set ?_ GE362.out|refine below_set ?_ GE363.out)|exact HB.out)) hb);clear BK361;clear BK362;clear BK363;clear HB;have BK361:=n0_;have BK362:=n1_;have BK363:=n2_;have HB:=n3_;clear n0_ n1_ n2_ n3_;(try clear hb);(try clear hb2);(try clear hk);(try clear hi);have hnb51:=NB363_361.out;have hnc51:=NB361_363.out;have hcz52_0 : w50.cell? ⟨gb363,0,none⟩ = some (.int .i64 a1_0):=(blk_cell BK363.out 0).trans rfl;have hcz52_1 : w50.cell? ⟨gb363,1,none⟩ = some (.int .i64 a1_1):=(blk_cell BK363.out 1).trans rfl;have hcz52_2 : w50.cell? ⟨gb363,2,none⟩ = some (.int .i64 a1_2):=(blk_cell BK363.out 2).trans rfl;have hcz52_3 : w50.cell? ⟨gb363,3,none⟩ = some (.int .i64 a1_3):=(blk_cell BK363.out 3).trans rfl;have hcz52_4 : w50.cell? ⟨gb363,4,none⟩ = some (.int .i64 a1_4):=(blk_cell BK363.out 4).trans rfl;have hcz52_5 : w50.cell? ⟨gb363,5,none⟩ = some (.int .i64 a1_5):=(blk_cell BK363.out 5).trans rfl;have hfz52_0:=blk_frozen BK363.out 0;have hfz52_1:=blk_frozen BK363.out 1;have hfz52_2:=blk_frozen BK363.out 2;have hfz52_3:=blk_frozen BK363.out 3;have hfz52_4:=blk_frozen BK363.out 4;have hfz52_5:=blk_frozen BK363.out 5;have hcz53_0 : w50.cell? ⟨gb362,0,none⟩ = some (.int .i64 a1_0):=(blk_cell BK362.out 0).trans rfl;have hcz53_1 : w50.cell? ⟨gb362,1,none⟩ = some (.int .i64 a1_1):=(blk_cell BK362.out 1).trans rfl;have hcz53_2 : w50.cell? ⟨gb362,2,none⟩ = some (.int .i64 a1_2):=(blk_cell BK362.out 2).trans rfl;have hcz53_3 : w50.cell? ⟨gb362,3,none⟩ = some (.int .i64 a1_3):=(blk_cell BK362.out 3).trans rfl;have hcz53_4 : w50.cell? ⟨gb362,4,none⟩ = some (.int .i64 a1_4):=(blk_cell BK362.out 4).trans rfl;have hcz53_5 : w50.cell? ⟨gb362,5,none⟩ = some (.int .i64 a1_5):=(blk_cell BK362.out 5).trans rfl;have hfz53_0:=blk_frozen BK362.out 0;have hfz53_1:=blk_frozen BK362.out 1;have hfz53_2:=blk_frozen BK362.out 2;have hfz53_3:=blk_frozen BK362.out 3;have hfz53_4:=blk_frozen BK362.out 4;have hfz53_5:=blk_frozen BK362.out 5))
         go_ret
         exact ⟨by first|rfl|(simp [errW_none,errW_some] <;> rfl)|(simp [*,errW_none,errW_some] <;> rfl),by repeat(first|(with_reducible first|exact HB.out|apply below_alloc|apply pw_below_drewN|apply below_drew1|refine below_set ?_ GE361.out|refine below_set ?_ GE362.out|refine below_set ?_ GE363.out)|exact HB.out)⟩
        ·rw [if_neg c46] at H
         have c46b0 : decide ((wrap64 (-(wrap64 (1048576 * a1_5)))) ≤ a1_4) = false:=decide_eq_false c46
         clear c46
         obtain rfl:=Option.some.inj H
         have hnb54:=NB362_361.out
         have hnc54:=NB361_362.out
         have hnb55:=NB362_363.out
         have hnc55:=NB363_362.out
         have hcz56_0 : wc.cell? ⟨gb362,0,none⟩ = some (.int .i64 a1_0):=(blk_cell BK362.out 0).trans rfl
         have hcz56_1 : wc.cell? ⟨gb362,1,none⟩ = some (.int .i64 a1_1):=(blk_cell BK362.out 1).trans rfl
         have hcz56_2 : wc.cell? ⟨gb362,2,none⟩ = some (.int .i64 a1_2):=(blk_cell BK362.out 2).trans rfl
         have hcz56_3 : wc.cell? ⟨gb362,3,none⟩ = some (.int .i64 a1_3):=(blk_cell BK362.out 3).trans rfl
         have hcz56_4 : wc.cell? ⟨gb362,4,none⟩ = some (.int .i64 a1_4):=(blk_cell BK362.out 4).trans rfl
         have hcz56_5 : wc.cell? ⟨gb362,5,none⟩ = some (.int .i64 a1_5):=(blk_cell BK362.out 5).trans rfl
         have hfz56_0:=blk_frozen BK362.out 0
         have hfz56_1:=blk_frozen BK362.out 1
         have hfz56_2:=blk_frozen BK362.out 2
         have hfz56_3:=blk_frozen BK362.out 3
         have hfz56_4:=blk_frozen BK362.out 4
         have hfz56_5:=blk_frozen BK362.out 5
         go_wp2_with (first|((with_reducible refine gate_callee (f:=70) rfl ?_);refine goesL_ (some 35) rfl rfl Try.func70 (by kernel_rfl) rfl #[.agg #[.int .i64 a1_0,.int .i64 a1_1,.int .i64 a1_2,.int .i64 a1_3,.int .i64 a1_4,.int .i64 a1_5]] rfl (by (try simp only [List.map_toArray,List.map_cons,List.map_nil]);first|done|rfl|(simp only [List.length_drop,List.length_take];rfl)) ?_;(with_reducible refine (node_leaf.calls a1_0 a1_1 a1_2 a1_3 a1_4 a1_5 true _ A41.out).mono ?_);rintro e w57 ⟨rfl,hb⟩;refine ⟨_,rfl,?_⟩;have n0_:=Aside0.mk (blk_below (g:=gb361) (o:=.cells #[.int .i64 a0_0,.int .i64 a0_1,.int .i64 a0_2,.int .i64 a0_3] 72 (0,0)) (by (with_reducible repeat(first|refine blk_drewN ?_ _|refine blk_drew ?_|refine blk_alloc ?_ _));exact BK361.out) hb);have n1_:=Aside0.mk (blk_below (g:=gb362) (o:=.cells #[.int .i64 a1_0,.int .i64 a1_1,.int .i64 a1_2,.int .i64 a1_3,.int .i64 a1_4,.int .i64 a1_5] 75 (0,0)) (by (with_reducible repeat(first|refine blk_drewN ?_ _|refine blk_drew ?_|refine blk_alloc ?_ _));exact BK362.out) hb);have n2_:=Aside0.mk (blk_below (g:=gb363) (o:=.cells #[.int .i64 a1_0,.int .i64 a1_1,.int .i64 a1_2,.int .i64 a1_3,.int .i64 a1_4,.int .i64 a1_5] 75 (0,0)) (by (with_reducible repeat(first|refine blk_drewN ?_ _|refine blk_drew ?_|refine blk_alloc ?_ _));exact BK363.out) hb);have n3_:=Aside0.mk (below_step (by repeat(first|(with_reducible first|exact HB.out|apply below_alloc|apply pw_below_drewN|apply below_drew1|refine below_set ?_ GE361.out|refine below_set ?_ GE362.out|refine below_set ?_ GE363.out)|exact HB.out)) hb);clear BK361;clear BK362;clear BK363;clear HB;have BK361:=n0_;have BK362:=n1_;have BK363:=n2_;have HB:=n3_;clear n0_ n1_ n2_ n3_;(try clear hb);(try clear hb2);(try clear hk);(try clear hi);have hnb58:=NB363_361.out;have hnc58:=NB361_363.out;have hcz59_0 : w57.cell? ⟨gb363,0,none⟩ = some (.int .i64 a1_0):=(blk_cell BK363.out 0).trans rfl;have hcz59_1 : w57.cell? ⟨gb363,1,none⟩ = some (.int .i64 a1_1):=(blk_cell BK363.out 1).trans rfl;have hcz59_2 : w57.cell? ⟨gb363,2,none⟩ = some (.int .i64 a1_2):=(blk_cell BK363.out 2).trans rfl;have hcz59_3 : w57.cell? ⟨gb363,3,none⟩ = some (.int .i64 a1_3):=(blk_cell BK363.out 3).trans rfl;have hcz59_4 : w57.cell? ⟨gb363,4,none⟩ = some (.int .i64 a1_4):=(blk_cell BK363.out 4).trans rfl;have hcz59_5 : w57.cell? ⟨gb363,5,none⟩ = some (.int .i64 a1_5):=(blk_cell BK363.out 5).trans rfl;have hfz59_0:=blk_frozen BK363.out 0;have hfz59_1:=blk_frozen BK363.out 1;have hfz59_2:=blk_frozen BK363.out 2;have hfz59_3:=blk_frozen BK363.out 3;have hfz59_4:=blk_frozen BK363.out 4;have hfz59_5:=blk_frozen BK363.out 5;have hcz60_0 : w57.cell? ⟨gb362,0,none⟩ = some (.int .i64 a1_0):=(blk_cell BK362.out 0).trans rfl;have hcz60_1 : w57.cell? ⟨gb362,1,none⟩ = some (.int .i64 a1_1):=(blk_cell BK362.out 1).trans rfl;have hcz60_2 : w57.cell? ⟨gb362,2,none⟩ = some (.int .i64 a1_2):=(blk_cell BK362.out 2).trans rfl;have hcz60_3 : w57.cell? ⟨gb362,3,none⟩ = some (.int .i64 a1_3):=(blk_cell BK362.out 3).trans rfl;have hcz60_4 : w57.cell? ⟨gb362,4,none⟩ = some (.int .i64 a1_4):=(blk_cell BK362.out 4).trans rfl;have hcz60_5 : w57.cell? ⟨gb362,5,none⟩ = some (.int .i64 a1_5):=(blk_cell BK362.out 5).trans rfl;have hfz60_0:=blk_frozen BK362.out 0;have hfz60_1:=blk_frozen BK362.out 1;have hfz60_2:=blk_frozen BK362.out 2;have hfz60_3:=blk_frozen BK362.out 3;have hfz60_4:=blk_frozen BK362.out 4;have hfz60_5:=blk_frozen BK362.out 5))
         go_ret
         exact ⟨by first|rfl|(simp [errW_none,errW_some] <;> rfl)|(simp [*,errW_none,errW_some] <;> rfl),by repeat(first|(with_reducible first|exact HB.out|apply below_alloc|apply pw_below_drewN|apply below_drew1|refine below_set ?_ GE361.out|refine below_set ?_ GE362.out|refine below_set ?_ GE363.out)|exact HB.out)⟩
       ·rw [if_neg c45] at H
        have c45b0 : decide (a1_5 ≤ 1048576) = false:=decide_eq_false c45
        clear c45
        obtain rfl:=Option.some.inj H
        have hnb61:=NB362_361.out
        have hnc61:=NB361_362.out
        have hnb62:=NB362_363.out
        have hnc62:=NB363_362.out
        have hcz63_0 : wc.cell? ⟨gb362,0,none⟩ = some (.int .i64 a1_0):=(blk_cell BK362.out 0).trans rfl
        have hcz63_1 : wc.cell? ⟨gb362,1,none⟩ = some (.int .i64 a1_1):=(blk_cell BK362.out 1).trans rfl
        have hcz63_2 : wc.cell? ⟨gb362,2,none⟩ = some (.int .i64 a1_2):=(blk_cell BK362.out 2).trans rfl
        have hcz63_3 : wc.cell? ⟨gb362,3,none⟩ = some (.int .i64 a1_3):=(blk_cell BK362.out 3).trans rfl
        have hcz63_4 : wc.cell? ⟨gb362,4,none⟩ = some (.int .i64 a1_4):=(blk_cell BK362.out 4).trans rfl
        have hcz63_5 : wc.cell? ⟨gb362,5,none⟩ = some (.int .i64 a1_5):=(blk_cell BK362.out 5).trans rfl
        have hfz63_0:=blk_frozen BK362.out 0
        have hfz63_1:=blk_frozen BK362.out 1
        have hfz63_2:=blk_frozen BK362.out 2
        have hfz63_3:=blk_frozen BK362.out 3
        have hfz63_4:=blk_frozen BK362.out 4
        have hfz63_5:=blk_frozen BK362.out 5
        go_wp2_with (first|((with_reducible refine gate_callee (f:=70) rfl ?_);refine goesL_ (some 35) rfl rfl Try.func70 (by kernel_rfl) rfl #[.agg #[.int .i64 a1_0,.int .i64 a1_1,.int .i64 a1_2,.int .i64 a1_3,.int .i64 a1_4,.int .i64 a1_5]] rfl (by (try simp only [List.map_toArray,List.map_cons,List.map_nil]);first|done|rfl|(simp only [List.length_drop,List.length_take];rfl)) ?_;(with_reducible refine (node_leaf.calls a1_0 a1_1 a1_2 a1_3 a1_4 a1_5 true _ A41.out).mono ?_);rintro e w64 ⟨rfl,hb⟩;refine ⟨_,rfl,?_⟩;have n0_:=Aside0.mk (blk_below (g:=gb361) (o:=.cells #[.int .i64 a0_0,.int .i64 a0_1,.int .i64 a0_2,.int .i64 a0_3] 72 (0,0)) (by (with_reducible repeat(first|refine blk_drewN ?_ _|refine blk_drew ?_|refine blk_alloc ?_ _));exact BK361.out) hb);have n1_:=Aside0.mk (blk_below (g:=gb362) (o:=.cells #[.int .i64 a1_0,.int .i64 a1_1,.int .i64 a1_2,.int .i64 a1_3,.int .i64 a1_4,.int .i64 a1_5] 75 (0,0)) (by (with_reducible repeat(first|refine blk_drewN ?_ _|refine blk_drew ?_|refine blk_alloc ?_ _));exact BK362.out) hb);have n2_:=Aside0.mk (blk_below (g:=gb363) (o:=.cells #[.int .i64 a1_0,.int .i64 a1_1,.int .i64 a1_2,.int .i64 a1_3,.int .i64 a1_4,.int .i64 a1_5] 75 (0,0)) (by (with_reducible repeat(first|refine blk_drewN ?_ _|refine blk_drew ?_|refine blk_alloc ?_ _));exact BK363.out) hb);have n3_:=Aside0.mk (below_step (by repeat(first|(with_reducible first|exact HB.out|apply below_alloc|apply pw_below_drewN|apply below_drew1|refine below_set ?_ GE361.out|refine below_set ?_ GE362.out|refine below_set ?_ GE363.out)|exact HB.out)) hb);clear BK361;clear BK362;clear BK363;clear HB;have BK361:=n0_;have BK362:=n1_;have BK363:=n2_;have HB:=n3_;clear n0_ n1_ n2_ n3_;(try clear hb);(try clear hb2);(try clear hk);(try clear hi);have hnb65:=NB363_361.out;have hnc65:=NB361_363.out;have hcz66_0 : w64.cell? ⟨gb363,0,none⟩ = some (.int .i64 a1_0):=(blk_cell BK363.out 0).trans rfl;have hcz66_1 : w64.cell? ⟨gb363,1,none⟩ = some (.int .i64 a1_1):=(blk_cell BK363.out 1).trans rfl;have hcz66_2 : w64.cell? ⟨gb363,2,none⟩ = some (.int .i64 a1_2):=(blk_cell BK363.out 2).trans rfl;have hcz66_3 : w64.cell? ⟨gb363,3,none⟩ = some (.int .i64 a1_3):=(blk_cell BK363.out 3).trans rfl;have hcz66_4 : w64.cell? ⟨gb363,4,none⟩ = some (.int .i64 a1_4):=(blk_cell BK363.out 4).trans rfl;have hcz66_5 : w64.cell? ⟨gb363,5,none⟩ = some (.int .i64 a1_5):=(blk_cell BK363.out 5).trans rfl;have hfz66_0:=blk_frozen BK363.out 0;have hfz66_1:=blk_frozen BK363.out 1;have hfz66_2:=blk_frozen BK363.out 2;have hfz66_3:=blk_frozen BK363.out 3;have hfz66_4:=blk_frozen BK363.out 4;have hfz66_5:=blk_frozen BK363.out 5;have hcz67_0 : w64.cell? ⟨gb362,0,none⟩ = some (.int .i64 a1_0):=(blk_cell BK362.out 0).trans rfl;have hcz67_1 : w64.cell? ⟨gb362,1,none⟩ = some (.int .i64 a1_1):=(blk_cell BK362.out 1).trans rfl;have hcz67_2 : w64.cell? ⟨gb362,2,none⟩ = some (.int .i64 a1_2):=(blk_cell BK362.out 2).trans rfl;have hcz67_3 : w64.cell? ⟨gb362,3,none⟩ = some (.int .i64 a1_3):=(blk_cell BK362.out 3).trans rfl;have hcz67_4 : w64.cell? ⟨gb362,4,none⟩ = some (.int .i64 a1_4):=(blk_cell BK362.out 4).trans rfl;have hcz67_5 : w64.cell? ⟨gb362,5,none⟩ = some (.int .i64 a1_5):=(blk_cell BK362.out 5).trans rfl;have hfz67_0:=blk_frozen BK362.out 0;have hfz67_1:=blk_frozen BK362.out 1;have hfz67_2:=blk_frozen BK362.out 2;have hfz67_3:=blk_frozen BK362.out 3;have hfz67_4:=blk_frozen BK362.out 4;have hfz67_5:=blk_frozen BK362.out 5))
        go_ret
        exact ⟨by first|rfl|(simp [errW_none,errW_some] <;> rfl)|(simp [*,errW_none,errW_some] <;> rfl),by repeat(first|(with_reducible first|exact HB.out|apply below_alloc|apply pw_below_drewN|apply below_drew1|refine below_set ?_ GE361.out|refine below_set ?_ GE362.out|refine below_set ?_ GE363.out)|exact HB.out)⟩
      ·rw [if_neg c44] at H
       have c44b0 : decide (1 ≤ a1_5) = false:=decide_eq_false c44
       clear c44
       obtain rfl:=Option.some.inj H
       have hnb68:=NB362_361.out
       have hnc68:=NB361_362.out
       have hnb69:=NB362_363.out
       have hnc69:=NB363_362.out
       have hcz70_0 : wc.cell? ⟨gb362,0,none⟩ = some (.int .i64 a1_0):=(blk_cell BK362.out 0).trans rfl
       have hcz70_1 : wc.cell? ⟨gb362,1,none⟩ = some (.int .i64 a1_1):=(blk_cell BK362.out 1).trans rfl
       have hcz70_2 : wc.cell? ⟨gb362,2,none⟩ = some (.int .i64 a1_2):=(blk_cell BK362.out 2).trans rfl
       have hcz70_3 : wc.cell? ⟨gb362,3,none⟩ = some (.int .i64 a1_3):=(blk_cell BK362.out 3).trans rfl
       have hcz70_4 : wc.cell? ⟨gb362,4,none⟩ = some (.int .i64 a1_4):=(blk_cell BK362.out 4).trans rfl
       have hcz70_5 : wc.cell? ⟨gb362,5,none⟩ = some (.int .i64 a1_5):=(blk_cell BK362.out 5).trans rfl
       have hfz70_0:=blk_frozen BK362.out 0
       have hfz70_1:=blk_frozen BK362.out 1
       have hfz70_2:=blk_frozen BK362.out 2
       have hfz70_3:=blk_frozen BK362.out 3
       have hfz70_4:=blk_frozen BK362.out 4
       have hfz70_5:=blk_frozen BK362.out 5
       go_wp2_with (first|((with_reducible refine gate_callee (f:=70) rfl ?_);refine goesL_ (some 35) rfl rfl Try.func70 (by kernel_rfl) rfl #[.agg #[.int .i64 a1_0,.int .i64 a1_1,.int .i64 a1_2,.int .i64 a1_3,.int .i64 a1_4,.int .i64 a1_5]] rfl (by (try simp only [List.map_toArray,List.map_cons,List.map_nil]);first|done|rfl|(simp only [List.length_drop,List.length_take];rfl)) ?_;(with_reducible refine (node_leaf.calls a1_0 a1_1 a1_2 a1_3 a1_4 a1_5 true _ A41.out).mono ?_);rintro e w71 ⟨rfl,hb⟩;refine ⟨_,rfl,?_⟩;have n0_:=Aside0.mk (blk_below (g:=gb361) (o:=.cells #[.int .i64 a0_0,.int .i64 a0_1,.int .i64 a0_2,.int .i64 a0_3] 72 (0,0)) (by (with_reducible repeat(first|refine blk_drewN ?_ _|refine blk_drew ?_|refine blk_alloc ?_ _));exact BK361.out) hb);have n1_:=Aside0.mk (blk_below (g:=gb362) (o:=.cells #[.int .i64 a1_0,.int .i64 a1_1,.int .i64 a1_2,.int .i64 a1_3,.int .i64 a1_4,.int .i64 a1_5] 75 (0,0)) (by (with_reducible repeat(first|refine blk_drewN ?_ _|refine blk_drew ?_|refine blk_alloc ?_ _));exact BK362.out) hb);have n2_:=Aside0.mk (blk_below (g:=gb363) (o:=.cells #[.int .i64 a1_0,.int .i64 a1_1,.int .i64 a1_2,.int .i64 a1_3,.int .i64 a1_4,.int .i64 a1_5] 75 (0,0)) (by (with_reducible repeat(first|refine blk_drewN ?_ _|refine blk_drew ?_|refine blk_alloc ?_ _));exact BK363.out) hb);have n3_:=Aside0.mk (below_step (by repeat(first|(with_reducible first|exact HB.out|apply below_alloc|apply pw_below_drewN|apply below_drew1|refine below_set ?_ GE361.out|refine below_set ?_ GE362.out|refine below_set ?_ GE363.out)|exact HB.out)) hb);clear BK361;clear BK362;clear BK363;clear HB;have BK361:=n0_;have BK362:=n1_;have BK363:=n2_;have HB:=n3_;clear n0_ n1_ n2_ n3_;(try clear hb);(try clear hb2);(try clear hk);(try clear hi);have hnb72:=NB363_361.out;have hnc72:=NB361_363.out;have hcz73_0 : w71.cell? ⟨gb363,0,none⟩ = some (.int .i64 a1_0):=(blk_cell BK363.out 0).trans rfl;have hcz73_1 : w71.cell? ⟨gb363,1,none⟩ = some (.int .i64 a1_1):=(blk_cell BK363.out 1).trans rfl;have hcz73_2 : w71.cell? ⟨gb363,2,none⟩ = some (.int .i64 a1_2):=(blk_cell BK363.out 2).trans rfl;have hcz73_3 : w71.cell? ⟨gb363,3,none⟩ = some (.int .i64 a1_3):=(blk_cell BK363.out 3).trans rfl;have hcz73_4 : w71.cell? ⟨gb363,4,none⟩ = some (.int .i64 a1_4):=(blk_cell BK363.out 4).trans rfl;have hcz73_5 : w71.cell? ⟨gb363,5,none⟩ = some (.int .i64 a1_5):=(blk_cell BK363.out 5).trans rfl;have hfz73_0:=blk_frozen BK363.out 0;have hfz73_1:=blk_frozen BK363.out 1;have hfz73_2:=blk_frozen BK363.out 2;have hfz73_3:=blk_frozen BK363.out 3;have hfz73_4:=blk_frozen BK363.out 4;have hfz73_5:=blk_frozen BK363.out 5;have hcz74_0 : w71.cell? ⟨gb362,0,none⟩ = some (.int .i64 a1_0):=(blk_cell BK362.out 0).trans rfl;have hcz74_1 : w71.cell? ⟨gb362,1,none⟩ = some (.int .i64 a1_1):=(blk_cell BK362.out 1).trans rfl;have hcz74_2 : w71.cell? ⟨gb362,2,none⟩ = some (.int .i64 a1_2):=(blk_cell BK362.out 2).trans rfl;have hcz74_3 : w71.cell? ⟨gb362,3,none⟩ = some (.int .i64 a1_3):=(blk_cell BK362.out 3).trans rfl;have hcz74_4 : w71.cell? ⟨gb362,4,none⟩ = some (.int .i64 a1_4):=(blk_cell BK362.out 4).trans rfl;have hcz74_5 : w71.cell? ⟨gb362,5,none⟩ = some (.int .i64 a1_5):=(blk_cell BK362.out 5).trans rfl;have hfz74_0:=blk_frozen BK362.out 0;have hfz74_1:=blk_frozen BK362.out 1;have hfz74_2:=blk_frozen BK362.out 2;have hfz74_3:=blk_frozen BK362.out 3;have hfz74_4:=blk_frozen BK362.out 4;have hfz74_5:=blk_frozen BK362.out 5))
       go_ret
       exact ⟨by first|rfl|(simp [errW_none,errW_some] <;> rfl)|(simp [*,errW_none,errW_some] <;> rfl),by repeat(first|(with_reducible first|exact HB.out|apply below_alloc|apply pw_below_drewN|apply below_drew1|refine below_set ?_ GE361.out|refine below_set ?_ GE362.out|refine below_set ?_ GE363.out)|exact HB.out)⟩
     ·rw [if_neg c43] at H
      have c43b0 : (a1_1 == 0 && (a1_2 == 0 && (a1_3 == 0))) = false:=by simpa using c43
      (try (have c43b1 : decide (a1_1 = 0 && (a1_2 == 0 && (a1_3 == 0))) = false:=by simpa using c43))
      (try (have c43b2 : (a1_1 == 0 && (a1_2 == 0 && (a1_3 == 0))) = false:=by simpa using c43))
      (try (have c43b3 : ¬ (a1_1 = 0 && (a1_2 == 0 && (a1_3 == 0))):=by simpa using c43))
      clear c43
      obtain rfl:=Option.some.inj H
      have hnb75:=NB362_361.out
      have hnc75:=NB361_362.out
      have hnb76:=NB362_363.out
      have hnc76:=NB363_362.out
      have hcz77_0 : wc.cell? ⟨gb362,0,none⟩ = some (.int .i64 a1_0):=(blk_cell BK362.out 0).trans rfl
      have hcz77_1 : wc.cell? ⟨gb362,1,none⟩ = some (.int .i64 a1_1):=(blk_cell BK362.out 1).trans rfl
      have hcz77_2 : wc.cell? ⟨gb362,2,none⟩ = some (.int .i64 a1_2):=(blk_cell BK362.out 2).trans rfl
      have hcz77_3 : wc.cell? ⟨gb362,3,none⟩ = some (.int .i64 a1_3):=(blk_cell BK362.out 3).trans rfl
      have hcz77_4 : wc.cell? ⟨gb362,4,none⟩ = some (.int .i64 a1_4):=(blk_cell BK362.out 4).trans rfl
      have hcz77_5 : wc.cell? ⟨gb362,5,none⟩ = some (.int .i64 a1_5):=(blk_cell BK362.out 5).trans rfl
      have hfz77_0:=blk_frozen BK362.out 0
      have hfz77_1:=blk_frozen BK362.out 1
      have hfz77_2:=blk_frozen BK362.out 2
      have hfz77_3:=blk_frozen BK362.out 3
      have hfz77_4:=blk_frozen BK362.out 4
      have hfz77_5:=blk_frozen BK362.out 5
      go_wp2_with (first|((with_reducible refine gate_callee (f:=70) rfl ?_);refine goesL_ (some 35) rfl rfl Try.func70 (by kernel_rfl) rfl #[.agg #[.int .i64 a1_0,.int .i64 a1_1,.int .i64 a1_2,.int .i64 a1_3,.int .i64 a1_4,.int .i64 a1_5]] rfl (by (try simp only [List.map_toArray,List.map_cons,List.map_nil]);first|done|rfl|(simp only [List.length_drop,List.length_take];rfl)) ?_;(with_reducible refine (node_leaf.calls a1_0 a1_1 a1_2 a1_3 a1_4 a1_5 true _ A41.out).mono ?_);rintro e w78 ⟨rfl,hb⟩;refine ⟨_,rfl,?_⟩;have n0_:=Aside0.mk (blk_below (g:=gb361) (o:=.cells #[.int .i64 a0_0,.int .i64 a0_1,.int .i64 a0_2,.int .i64 a0_3] 72 (0,0)) (by (with_reducible repeat(first|refine blk_drewN ?_ _|refine blk_drew ?_|refine blk_alloc ?_ _));exact BK361.out) hb);have n1_:=Aside0.mk (blk_below (g:=gb362) (o:=.cells #[.int .i64 a1_0,.int .i64 a1_1,.int .i64 a1_2,.int .i64 a1_3,.int .i64 a1_4,.int .i64 a1_5] 75 (0,0)) (by (with_reducible repeat(first|refine blk_drewN ?_ _|refine blk_drew ?_|refine blk_alloc ?_ _));exact BK362.out) hb);have n2_:=Aside0.mk (blk_below (g:=gb363) (o:=.cells #[.int .i64 a1_0,.int .i64 a1_1,.int .i64 a1_2,.int .i64 a1_3,.int .i64 a1_4,.int .i64 a1_5] 75 (0,0)) (by (with_reducible repeat(first|refine blk_drewN ?_ _|refine blk_drew ?_|refine blk_alloc ?_ _));exact BK363.out) hb);have n3_:=Aside0.mk (below_step (by repeat(first|(with_reducible first|exact HB.out|apply below_alloc|apply pw_below_drewN|apply below_drew1|refine below_set ?_ GE361.out|refine below_set ?_ GE362.out|refine below_set ?_ GE363.out)|exact HB.out)) hb);clear BK361;clear BK362;clear BK363;clear HB;have BK361:=n0_;have BK362:=n1_;have BK363:=n2_;have HB:=n3_;clear n0_ n1_ n2_ n3_;(try clear hb);(try clear hb2);(try clear hk);(try clear hi);have hnb79:=NB363_361.out;have hnc79:=NB361_363.out;have hcz80_0 : w78.cell? ⟨gb363,0,none⟩ = some (.int .i64 a1_0):=(blk_cell BK363.out 0).trans rfl;have hcz80_1 : w78.cell? ⟨gb363,1,none⟩ = some (.int .i64 a1_1):=(blk_cell BK363.out 1).trans rfl;have hcz80_2 : w78.cell? ⟨gb363,2,none⟩ = some (.int .i64 a1_2):=(blk_cell BK363.out 2).trans rfl;have hcz80_3 : w78.cell? ⟨gb363,3,none⟩ = some (.int .i64 a1_3):=(blk_cell BK363.out 3).trans rfl;have hcz80_4 : w78.cell? ⟨gb363,4,none⟩ = some (.int .i64 a1_4):=(blk_cell BK363.out 4).trans rfl;have hcz80_5 : w78.cell? ⟨gb363,5,none⟩ = some (.int .i64 a1_5):=(blk_cell BK363.out 5).trans rfl;have hfz80_0:=blk_frozen BK363.out 0;have hfz80_1:=blk_frozen BK363.out 1;have hfz80_2:=blk_frozen BK363.out 2;have hfz80_3:=blk_frozen BK363.out 3;have hfz80_4:=blk_frozen BK363.out 4;have hfz80_5:=blk_frozen BK363.out 5;have hcz81_0 : w78.cell? ⟨gb362,0,none⟩ = some (.int .i64 a1_0):=(blk_cell BK362.out 0).trans rfl;have hcz81_1 : w78.cell? ⟨gb362,1,none⟩ = some (.int .i64 a1_1):=(blk_cell BK362.out 1).trans rfl;have hcz81_2 : w78.cell? ⟨gb362,2,none⟩ = some (.int .i64 a1_2):=(blk_cell BK362.out 2).trans rfl;have hcz81_3 : w78.cell? ⟨gb362,3,none⟩ = some (.int .i64 a1_3):=(blk_cell BK362.out 3).trans rfl;have hcz81_4 : w78.cell? ⟨gb362,4,none⟩ = some (.int .i64 a1_4):=(blk_cell BK362.out 4).trans rfl;have hcz81_5 : w78.cell? ⟨gb362,5,none⟩ = some (.int .i64 a1_5):=(blk_cell BK362.out 5).trans rfl;have hfz81_0:=blk_frozen BK362.out 0;have hfz81_1:=blk_frozen BK362.out 1;have hfz81_2:=blk_frozen BK362.out 2;have hfz81_3:=blk_frozen BK362.out 3;have hfz81_4:=blk_frozen BK362.out 4;have hfz81_5:=blk_frozen BK362.out 5))
      go_ret
      exact ⟨by first|rfl|(simp [errW_none,errW_some] <;> rfl)|(simp [*,errW_none,errW_some] <;> rfl),by repeat(first|(with_reducible first|exact HB.out|apply below_alloc|apply pw_below_drewN|apply below_drew1|refine below_set ?_ GE361.out|refine below_set ?_ GE362.out|refine below_set ?_ GE363.out)|exact HB.out)⟩
    ·replace c42:=Bool.eq_false_iff.mpr c42
     subst c42
     have H1 : (if (a1_3 == 0 && (a1_4 == 0 && (a1_5 == 0))) = true then (if a1_0 ≥ 0 then (if a1_0 < a0_0 then (if a1_1 ≥ 0 then (some (decide (a1_1 < a0_1))) else (some false)) else (some false)) else (some false)) else (some false)) = some r:=by rw [if_neg (show ¬ (false = true) by decide)] at H;exact H
     clear H
     have H:=H1
     clear H1
     by_cases c82 : (a1_3 == 0 && (a1_4 == 0 && (a1_5 == 0))) = true
     ·rw [if_pos c82] at H
      have c82b0 : (a1_3 == 0 && (a1_4 == 0 && (a1_5 == 0))) = true:=c82
      (try (have c82b1 : decide (a1_3 = 0 && (a1_4 == 0 && (a1_5 == 0))) = true:=by simpa using c82))
      (try (have c82b2 : (a1_3 == 0 && (a1_4 == 0 && (a1_5 == 0))) = true:=by simpa using c82))
      clear c82
      by_cases c83 : a1_0 ≥ 0
      ·rw [if_pos c83] at H
       have c83b0 : decide (0 ≤ a1_0) = true:=decide_eq_true c83
       clear c83
       by_cases c84 : a1_0 < a0_0
       ·rw [if_pos c84] at H
        have c84b0 : decide (a1_0 < a0_0) = true:=decide_eq_true c84
        clear c84
        by_cases c85 : a1_1 ≥ 0
        ·rw [if_pos c85] at H
         have c85b0 : decide (0 ≤ a1_1) = true:=decide_eq_true c85
         clear c85
         obtain rfl:=Option.some.inj H
         have hnb86:=NB362_361.out
         have hnc86:=NB361_362.out
         have hnb87:=NB362_363.out
         have hnc87:=NB363_362.out
         have hcz88_0 : wc.cell? ⟨gb362,0,none⟩ = some (.int .i64 a1_0):=(blk_cell BK362.out 0).trans rfl
         have hcz88_1 : wc.cell? ⟨gb362,1,none⟩ = some (.int .i64 a1_1):=(blk_cell BK362.out 1).trans rfl
         have hcz88_2 : wc.cell? ⟨gb362,2,none⟩ = some (.int .i64 a1_2):=(blk_cell BK362.out 2).trans rfl
         have hcz88_3 : wc.cell? ⟨gb362,3,none⟩ = some (.int .i64 a1_3):=(blk_cell BK362.out 3).trans rfl
         have hcz88_4 : wc.cell? ⟨gb362,4,none⟩ = some (.int .i64 a1_4):=(blk_cell BK362.out 4).trans rfl
         have hcz88_5 : wc.cell? ⟨gb362,5,none⟩ = some (.int .i64 a1_5):=(blk_cell BK362.out 5).trans rfl
         have hfz88_0:=blk_frozen BK362.out 0
         have hfz88_1:=blk_frozen BK362.out 1
         have hfz88_2:=blk_frozen BK362.out 2
         have hfz88_3:=blk_frozen BK362.out 3
         have hfz88_4:=blk_frozen BK362.out 4
         have hfz88_5:=blk_frozen BK362.out 5
         go_wp2_with (first|((with_reducible refine gate_callee (f:=70) rfl ?_);refine goesL_ (some 35) rfl rfl Try.func70 (by kernel_rfl) rfl #[.agg #[.int .i64 a1_0,.int .i64 a1_1,.int .i64 a1_2,.int .i64 a1_3,.int .i64 a1_4,.int .i64 a1_5]] rfl (by (try simp only [List.map_toArray,List.map_cons,List.map_nil]);first|done|rfl|(simp only [List.length_drop,List.length_take];rfl)) ?_;(with_reducible refine (node_leaf.calls a1_0 a1_1 a1_2 a1_3 a1_4 a1_5 false _ A41.out).mono ?_);rintro e w89 ⟨rfl,hb⟩;refine ⟨_,rfl,?_⟩;have n0_:=Aside0.mk (blk_below (g:=gb361) (o:=.cells #[.int .i64 a0_0,.int .i64 a0_1,.int .i64 a0_2,.int .i64 a0_3] 72 (0,0)) (by (with_reducible repeat(first|refine blk_drewN ?_ _|refine blk_drew ?_|refine blk_alloc ?_ _));exact BK361.out) hb);have n1_:=Aside0.mk (blk_below (g:=gb362) (o:=.cells #[.int .i64 a1_0,.int .i64 a1_1,.int .i64 a1_2,.int .i64 a1_3,.int .i64 a1_4,.int .i64 a1_5] 75 (0,0)) (by (with_reducible repeat(first|refine blk_drewN ?_ _|refine blk_drew ?_|refine blk_alloc ?_ _));exact BK362.out) hb);have n2_:=Aside0.mk (blk_below (g:=gb363) (o:=.cells #[.int .i64 a1_0,.int .i64 a1_1,.int .i64 a1_2,.int .i64 a1_3,.int .i64 a1_4,.int .i64 a1_5] 75 (0,0)) (by (with_reducible repeat(first|refine blk_drewN ?_ _|refine blk_drew ?_|refine blk_alloc ?_ _));exact BK363.out) hb);have n3_:=Aside0.mk (below_step (by repeat(first|(with_reducible first|exact HB.out|apply below_alloc|apply pw_below_drewN|apply below_drew1|refine below_set ?_ GE361.out|refine below_set ?_ GE362.out|refine below_set ?_ GE363.out)|exact HB.out)) hb);clear BK361;clear BK362;clear BK363;clear HB;have BK361:=n0_;have BK362:=n1_;have BK363:=n2_;have HB:=n3_;clear n0_ n1_ n2_ n3_;(try clear hb);(try clear hb2);(try clear hk);(try clear hi);have hnb90:=NB363_361.out;have hnc90:=NB361_363.out;have hcz91_0 : w89.cell? ⟨gb363,0,none⟩ = some (.int .i64 a1_0):=(blk_cell BK363.out 0).trans rfl;have hcz91_1 : w89.cell? ⟨gb363,1,none⟩ = some (.int .i64 a1_1):=(blk_cell BK363.out 1).trans rfl;have hcz91_2 : w89.cell? ⟨gb363,2,none⟩ = some (.int .i64 a1_2):=(blk_cell BK363.out 2).trans rfl;have hcz91_3 : w89.cell? ⟨gb363,3,none⟩ = some (.int .i64 a1_3):=(blk_cell BK363.out 3).trans rfl;have hcz91_4 : w89.cell? ⟨gb363,4,none⟩ = some (.int .i64 a1_4):=(blk_cell BK363.out 4).trans rfl;have hcz91_5 : w89.cell? ⟨gb363,5,none⟩ = some (.int .i64 a1_5):=(blk_cell BK363.out 5).trans rfl;have hfz91_0:=blk_frozen BK363.out 0;have hfz91_1:=blk_frozen BK363.out 1;have hfz91_2:=blk_frozen BK363.out 2;have hfz91_3:=blk_frozen BK363.out 3;have hfz91_4:=blk_frozen BK363.out 4;have hfz91_5:=blk_frozen BK363.out 5;have hcz92_0 : w89.cell? ⟨gb362,0,none⟩ = some (.int .i64 a1_0):=(blk_cell BK362.out 0).trans rfl;have hcz92_1 : w89.cell? ⟨gb362,1,none⟩ = some (.int .i64 a1_1):=(blk_cell BK362.out 1).trans rfl;have hcz92_2 : w89.cell? ⟨gb362,2,none⟩ = some (.int .i64 a1_2):=(blk_cell BK362.out 2).trans rfl;have hcz92_3 : w89.cell? ⟨gb362,3,none⟩ = some (.int .i64 a1_3):=(blk_cell BK362.out 3).trans rfl;have hcz92_4 : w89.cell? ⟨gb362,4,none⟩ = some (.int .i64 a1_4):=(blk_cell BK362.out 4).trans rfl;have hcz92_5 : w89.cell? ⟨gb362,5,none⟩ = some (.int .i64 a1_5):=(blk_cell BK362.out 5).trans rfl;have hfz92_0:=blk_frozen BK362.out 0;have hfz92_1:=blk_frozen BK362.out 1;have hfz92_2:=blk_frozen BK362.out 2;have hfz92_3:=blk_frozen BK362.out 3;have hfz92_4:=blk_frozen BK362.out 4;have hfz92_5:=blk_frozen BK362.out 5;have hcz93_0 : w89.cell? ⟨gb361,0,none⟩ = some (.int .i64 a0_0):=(blk_cell BK361.out 0).trans rfl;have hcz93_1 : w89.cell? ⟨gb361,1,none⟩ = some (.int .i64 a0_1):=(blk_cell BK361.out 1).trans rfl;have hcz93_2 : w89.cell? ⟨gb361,2,none⟩ = some (.int .i64 a0_2):=(blk_cell BK361.out 2).trans rfl;have hcz93_3 : w89.cell? ⟨gb361,3,none⟩ = some (.int .i64 a0_3):=(blk_cell BK361.out 3).trans rfl;have hfz93_0:=blk_frozen BK361.out 0;have hfz93_1:=blk_frozen BK361.out 1;have hfz93_2:=blk_frozen BK361.out 2;have hfz93_3:=blk_frozen BK361.out 3))
         go_ret
         exact ⟨by first|rfl|(simp [errW_none,errW_some] <;> rfl)|(simp [*,errW_none,errW_some] <;> rfl),by repeat(first|(with_reducible first|exact HB.out|apply below_alloc|apply pw_below_drewN|apply below_drew1|refine below_set ?_ GE361.out|refine below_set ?_ GE362.out|refine below_set ?_ GE363.out)|exact HB.out)⟩
        ·rw [if_neg c85] at H
         have c85b0 : decide (0 ≤ a1_1) = false:=decide_eq_false c85
         clear c85
         obtain rfl:=Option.some.inj H
         have hnb94:=NB362_361.out
         have hnc94:=NB361_362.out
         have hnb95:=NB362_363.out
         have hnc95:=NB363_362.out
         have hcz96_0 : wc.cell? ⟨gb362,0,none⟩ = some (.int .i64 a1_0):=(blk_cell BK362.out 0).trans rfl
         have hcz96_1 : wc.cell? ⟨gb362,1,none⟩ = some (.int .i64 a1_1):=(blk_cell BK362.out 1).trans rfl
         have hcz96_2 : wc.cell? ⟨gb362,2,none⟩ = some (.int .i64 a1_2):=(blk_cell BK362.out 2).trans rfl
         have hcz96_3 : wc.cell? ⟨gb362,3,none⟩ = some (.int .i64 a1_3):=(blk_cell BK362.out 3).trans rfl
         have hcz96_4 : wc.cell? ⟨gb362,4,none⟩ = some (.int .i64 a1_4):=(blk_cell BK362.out 4).trans rfl
         have hcz96_5 : wc.cell? ⟨gb362,5,none⟩ = some (.int .i64 a1_5):=(blk_cell BK362.out 5).trans rfl
         have hfz96_0:=blk_frozen BK362.out 0
         have hfz96_1:=blk_frozen BK362.out 1
         have hfz96_2:=blk_frozen BK362.out 2
         have hfz96_3:=blk_frozen BK362.out 3
         have hfz96_4:=blk_frozen BK362.out 4
         have hfz96_5:=blk_frozen BK362.out 5
         go_wp2_with (first|((with_reducible refine gate_callee (f:=70) rfl ?_);refine goesL_ (some 35) rfl rfl Try.func70 (by kernel_rfl) rfl #[.agg #[.int .i64 a1_0,.int .i64 a1_1,.int .i64 a1_2,.int .i64 a1_3,.int .i64 a1_4,.int .i64 a1_5]] rfl (by (try simp only [List.map_toArray,List.map_cons,List.map_nil]);first|done|rfl|(simp only [List.length_drop,List.length_take];rfl)) ?_;(with_reducible refine (node_leaf.calls a1_0 a1_1 a1_2 a1_3 a1_4 a1_5 false _ A41.out).mono ?_);rintro e w97 ⟨rfl,hb⟩;refine ⟨_,rfl,?_⟩;have n0_:=Aside0.mk (blk_below (g:=gb361) (o:=.cells #[.int .i64 a0_0,.int .i64 a0_1,.int .i64 a0_2,.int .i64 a0_3] 72 (0,0)) (by (with_reducible repeat(first|refine blk_drewN ?_ _|refine blk_drew ?_|refine blk_alloc ?_ _));exact BK361.out) hb);have n1_:=Aside0.mk (blk_below (g:=gb362) (o:=.cells #[.int .i64 a1_0,.int .i64 a1_1,.int .i64 a1_2,.int .i64 a1_3,.int .i64 a1_4,.int .i64 a1_5] 75 (0,0)) (by (with_reducible repeat(first|refine blk_drewN ?_ _|refine blk_drew ?_|refine blk_alloc ?_ _));exact BK362.out) hb);have n2_:=Aside0.mk (blk_below (g:=gb363) (o:=.cells #[.int .i64 a1_0,.int .i64 a1_1,.int .i64 a1_2,.int .i64 a1_3,.int .i64 a1_4,.int .i64 a1_5] 75 (0,0)) (by (with_reducible repeat(first|refine blk_drewN ?_ _|refine blk_drew ?_|refine blk_alloc ?_ _));exact BK363.out) hb);have n3_:=Aside0.mk (below_step (by repeat(first|(with_reducible first|exact HB.out|apply below_alloc|apply pw_below_drewN|apply below_drew1|refine below_set ?_ GE361.out|refine below_set ?_ GE362.out|refine below_set ?_ GE363.out)|exact HB.out)) hb);clear BK361;clear BK362;clear BK363;clear HB;have BK361:=n0_;have BK362:=n1_;have BK363:=n2_;have HB:=n3_;clear n0_ n1_ n2_ n3_;(try clear hb);(try clear hb2);(try clear hk);(try clear hi);have hnb98:=NB363_361.out;have hnc98:=NB361_363.out;have hcz99_0 : w97.cell? ⟨gb363,0,none⟩ = some (.int .i64 a1_0):=(blk_cell BK363.out 0).trans rfl;have hcz99_1 : w97.cell? ⟨gb363,1,none⟩ = some (.int .i64 a1_1):=(blk_cell BK363.out 1).trans rfl;have hcz99_2 : w97.cell? ⟨gb363,2,none⟩ = some (.int .i64 a1_2):=(blk_cell BK363.out 2).trans rfl;have hcz99_3 : w97.cell? ⟨gb363,3,none⟩ = some (.int .i64 a1_3):=(blk_cell BK363.out 3).trans rfl;have hcz99_4 : w97.cell? ⟨gb363,4,none⟩ = some (.int .i64 a1_4):=(blk_cell BK363.out 4).trans rfl;have hcz99_5 : w97.cell? ⟨gb363,5,none⟩ = some (.int .i64 a1_5):=(blk_cell BK363.out 5).trans rfl;have hfz99_0:=blk_frozen BK363.out 0;have hfz99_1:=blk_frozen BK363.out 1;have hfz99_2:=blk_frozen BK363.out 2;have hfz99_3:=blk_frozen BK363.out 3;have hfz99_4:=blk_frozen BK363.out 4;have hfz99_5:=blk_frozen BK363.out 5;have hcz100_0 : w97.cell? ⟨gb362,0,none⟩ = some (.int .i64 a1_0):=(blk_cell BK362.out 0).trans rfl;have hcz100_1 : w97.cell? ⟨gb362,1,none⟩ = some (.int .i64 a1_1):=(blk_cell BK362.out 1).trans rfl;have hcz100_2 : w97.cell? ⟨gb362,2,none⟩ = some (.int .i64 a1_2):=(blk_cell BK362.out 2).trans rfl;have hcz100_3 : w97.cell? ⟨gb362,3,none⟩ = some (.int .i64 a1_3):=(blk_cell BK362.out 3).trans rfl;have hcz100_4 : w97.cell? ⟨gb362,4,none⟩ = some (.int .i64 a1_4):=(blk_cell BK362.out 4).trans rfl;have hcz100_5 : w97.cell? ⟨gb362,5,none⟩ = some (.int .i64 a1_5):=(blk_cell BK362.out 5).trans rfl;have hfz100_0:=blk_frozen BK362.out 0;have hfz100_1:=blk_frozen BK362.out 1;have hfz100_2:=blk_frozen BK362.out 2;have hfz100_3:=blk_frozen BK362.out 3;have hfz100_4:=blk_frozen BK362.out 4;have hfz100_5:=blk_frozen BK362.out 5;have hcz101_0 : w97.cell? ⟨gb361,0,none⟩ = some (.int .i64 a0_0):=(blk_cell BK361.out 0).trans rfl;have hcz101_1 : w97.cell? ⟨gb361,1,none⟩ = some (.int .i64 a0_1):=(blk_cell BK361.out 1).trans rfl;have hcz101_2 : w97.cell? ⟨gb361,2,none⟩ = some (.int .i64 a0_2):=(blk_cell BK361.out 2).trans rfl;have hcz101_3 : w97.cell? ⟨gb361,3,none⟩ = some (.int .i64 a0_3):=(blk_cell BK361.out 3).trans rfl;have hfz101_0:=blk_frozen BK361.out 0;have hfz101_1:=blk_frozen BK361.out 1;have hfz101_2:=blk_frozen BK361.out 2;have hfz101_3:=blk_frozen BK361.out 3))
         go_ret
         exact ⟨by first|rfl|(simp [errW_none,errW_some] <;> rfl)|(simp [*,errW_none,errW_some] <;> rfl),by repeat(first|(with_reducible first|exact HB.out|apply below_alloc|apply pw_below_drewN|apply below_drew1|refine below_set ?_ GE361.out|refine below_set ?_ GE362.out|refine below_set ?_ GE363.out)|exact HB.out)⟩
       ·rw [if_neg c84] at H
        have c84b0 : decide (a1_0 < a0_0) = false:=decide_eq_false c84
        clear c84
        obtain rfl:=Option.some.inj H
        have hnb102:=NB362_361.out
        have hnc102:=NB361_362.out
        have hnb103:=NB362_363.out
        have hnc103:=NB363_362.out
        have hcz104_0 : wc.cell? ⟨gb362,0,none⟩ = some (.int .i64 a1_0):=(blk_cell BK362.out 0).trans rfl
        have hcz104_1 : wc.cell? ⟨gb362,1,none⟩ = some (.int .i64 a1_1):=(blk_cell BK362.out 1).trans rfl
        have hcz104_2 : wc.cell? ⟨gb362,2,none⟩ = some (.int .i64 a1_2):=(blk_cell BK362.out 2).trans rfl
        have hcz104_3 : wc.cell? ⟨gb362,3,none⟩ = some (.int .i64 a1_3):=(blk_cell BK362.out 3).trans rfl
        have hcz104_4 : wc.cell? ⟨gb362,4,none⟩ = some (.int .i64 a1_4):=(blk_cell BK362.out 4).trans rfl
        have hcz104_5 : wc.cell? ⟨gb362,5,none⟩ = some (.int .i64 a1_5):=(blk_cell BK362.out 5).trans rfl
        have hfz104_0:=blk_frozen BK362.out 0
        have hfz104_1:=blk_frozen BK362.out 1
        have hfz104_2:=blk_frozen BK362.out 2
        have hfz104_3:=blk_frozen BK362.out 3
        have hfz104_4:=blk_frozen BK362.out 4
        have hfz104_5:=blk_frozen BK362.out 5
        go_wp2_with (first|((with_reducible refine gate_callee (f:=70) rfl ?_);refine goesL_ (some 35) rfl rfl Try.func70 (by kernel_rfl) rfl #[.agg #[.int .i64 a1_0,.int .i64 a1_1,.int .i64 a1_2,.int .i64 a1_3,.int .i64 a1_4,.int .i64 a1_5]] rfl (by (try simp only [List.map_toArray,List.map_cons,List.map_nil]);first|done|rfl|(simp only [List.length_drop,List.length_take];rfl)) ?_;(with_reducible refine (node_leaf.calls a1_0 a1_1 a1_2 a1_3 a1_4 a1_5 false _ A41.out).mono ?_);rintro e w105 ⟨rfl,hb⟩;refine ⟨_,rfl,?_⟩;have n0_:=Aside0.mk (blk_below (g:=gb361) (o:=.cells #[.int .i64 a0_0,.int .i64 a0_1,.int .i64 a0_2,.int .i64 a0_3] 72 (0,0)) (by (with_reducible repeat(first|refine blk_drewN ?_ _|refine blk_drew ?_|refine blk_alloc ?_ _));exact BK361.out) hb);have n1_:=Aside0.mk (blk_below (g:=gb362) (o:=.cells #[.int .i64 a1_0,.int .i64 a1_1,.int .i64 a1_2,.int .i64 a1_3,.int .i64 a1_4,.int .i64 a1_5] 75 (0,0)) (by (with_reducible repeat(first|refine blk_drewN ?_ _|refine blk_drew ?_|refine blk_alloc ?_ _));exact BK362.out) hb);have n2_:=Aside0.mk (blk_below (g:=gb363) (o:=.cells #[.int .i64 a1_0,.int .i64 a1_1,.int .i64 a1_2,.int .i64 a1_3,.int .i64 a1_4,.int .i64 a1_5] 75 (0,0)) (by (with_reducible repeat(first|refine blk_drewN ?_ _|refine blk_drew ?_|refine blk_alloc ?_ _));exact BK363.out) hb);have n3_:=Aside0.mk (below_step (by repeat(first|(with_reducible first|exact HB.out|apply below_alloc|apply pw_below_drewN|apply below_drew1|refine below_set ?_ GE361.out|refine below_set ?_ GE362.out|refine below_set ?_ GE363.out)|exact HB.out)) hb);clear BK361;clear BK362;clear BK363;clear HB;have BK361:=n0_;have BK362:=n1_;have BK363:=n2_;have HB:=n3_;clear n0_ n1_ n2_ n3_;(try clear hb);(try clear hb2);(try clear hk);(try clear hi);have hnb106:=NB363_361.out;have hnc106:=NB361_363.out;have hcz107_0 : w105.cell? ⟨gb363,0,none⟩ = some (.int .i64 a1_0):=(blk_cell BK363.out 0).trans rfl;have hcz107_1 : w105.cell? ⟨gb363,1,none⟩ = some (.int .i64 a1_1):=(blk_cell BK363.out 1).trans rfl;have hcz107_2 : w105.cell? ⟨gb363,2,none⟩ = some (.int .i64 a1_2):=(blk_cell BK363.out 2).trans rfl;have hcz107_3 : w105.cell? ⟨gb363,3,none⟩ = some (.int .i64 a1_3):=(blk_cell BK363.out 3).trans rfl;have hcz107_4 : w105.cell? ⟨gb363,4,none⟩ = some (.int .i64 a1_4):=(blk_cell BK363.out 4).trans rfl;have hcz107_5 : w105.cell? ⟨gb363,5,none⟩ = some (.int .i64 a1_5):=(blk_cell BK363.out 5).trans rfl;have hfz107_0:=blk_frozen BK363.out 0;have hfz107_1:=blk_frozen BK363.out 1;have hfz107_2:=blk_frozen BK363.out 2;have hfz107_3:=blk_frozen BK363.out 3;have hfz107_4:=blk_frozen BK363.out 4;have hfz107_5:=blk_frozen BK363.out 5;have hcz108_0 : w105.cell? ⟨gb362,0,none⟩ = some (.int .i64 a1_0):=(blk_cell BK362.out 0).trans rfl;have hcz108_1 : w105.cell? ⟨gb362,1,none⟩ = some (.int .i64 a1_1):=(blk_cell BK362.out 1).trans rfl;have hcz108_2 : w105.cell? ⟨gb362,2,none⟩ = some (.int .i64 a1_2):=(blk_cell BK362.out 2).trans rfl;have hcz108_3 : w105.cell? ⟨gb362,3,none⟩ = some (.int .i64 a1_3):=(blk_cell BK362.out 3).trans rfl;have hcz108_4 : w105.cell? ⟨gb362,4,none⟩ = some (.int .i64 a1_4):=(blk_cell BK362.out 4).trans rfl;have hcz108_5 : w105.cell? ⟨gb362,5,none⟩ = some (.int .i64 a1_5):=(blk_cell BK362.out 5).trans rfl;have hfz108_0:=blk_frozen BK362.out 0;have hfz108_1:=blk_frozen BK362.out 1;have hfz108_2:=blk_frozen BK362.out 2;have hfz108_3:=blk_frozen BK362.out 3;have hfz108_4:=blk_frozen BK362.out 4;have hfz108_5:=blk_frozen BK362.out 5;have hcz109_0 : w105.cell? ⟨gb361,0,none⟩ = some (.int .i64 a0_0):=(blk_cell BK361.out 0).trans rfl;have hcz109_1 : w105.cell? ⟨gb361,1,none⟩ = some (.int .i64 a0_1):=(blk_cell BK361.out 1).trans rfl;have hcz109_2 : w105.cell? ⟨gb361,2,none⟩ = some (.int .i64 a0_2):=(blk_cell BK361.out 2).trans rfl;have hcz109_3 : w105.cell? ⟨gb361,3,none⟩ = some (.int .i64 a0_3):=(blk_cell BK361.out 3).trans rfl;have hfz109_0:=blk_frozen BK361.out 0;have hfz109_1:=blk_frozen BK361.out 1;have hfz109_2:=blk_frozen BK361.out 2;have hfz109_3:=blk_frozen BK361.out 3))
        go_ret
        exact ⟨by first|rfl|(simp [errW_none,errW_some] <;> rfl)|(simp [*,errW_none,errW_some] <;> rfl),by repeat(first|(with_reducible first|exact HB.out|apply below_alloc|apply pw_below_drewN|apply below_drew1|refine below_set ?_ GE361.out|refine below_set ?_ GE362.out|refine below_set ?_ GE363.out)|exact HB.out)⟩
      ·rw [if_neg c83] at H
       have c83b0 : decide (0 ≤ a1_0) = false:=decide_eq_false c83
       clear c83
       obtain rfl:=Option.some.inj H
       have hnb110:=NB362_361.out
       have hnc110:=NB361_362.out
       have hnb111:=NB362_363.out
       have hnc111:=NB363_362.out
       have hcz112_0 : wc.cell? ⟨gb362,0,none⟩ = some (.int .i64 a1_0):=(blk_cell BK362.out 0).trans rfl
       have hcz112_1 : wc.cell? ⟨gb362,1,none⟩ = some (.int .i64 a1_1):=(blk_cell BK362.out 1).trans rfl
       have hcz112_2 : wc.cell? ⟨gb362,2,none⟩ = some (.int .i64 a1_2):=(blk_cell BK362.out 2).trans rfl
       have hcz112_3 : wc.cell? ⟨gb362,3,none⟩ = some (.int .i64 a1_3):=(blk_cell BK362.out 3).trans rfl
       have hcz112_4 : wc.cell? ⟨gb362,4,none⟩ = some (.int .i64 a1_4):=(blk_cell BK362.out 4).trans rfl
       have hcz112_5 : wc.cell? ⟨gb362,5,none⟩ = some (.int .i64 a1_5):=(blk_cell BK362.out 5).trans rfl
       have hfz112_0:=blk_frozen BK362.out 0
       have hfz112_1:=blk_frozen BK362.out 1
       have hfz112_2:=blk_frozen BK362.out 2
       have hfz112_3:=blk_frozen BK362.out 3
       have hfz112_4:=blk_frozen BK362.out 4
       have hfz112_5:=blk_frozen BK362.out 5
       go_wp2_with (first|((with_reducible refine gate_callee (f:=70) rfl ?_);refine goesL_ (some 35) rfl rfl Try.func70 (by kernel_rfl) rfl #[.agg #[.int .i64 a1_0,.int .i64 a1_1,.int .i64 a1_2,.int .i64 a1_3,.int .i64 a1_4,.int .i64 a1_5]] rfl (by (try simp only [List.map_toArray,List.map_cons,List.map_nil]);first|done|rfl|(simp only [List.length_drop,List.length_take];rfl)) ?_;(with_reducible refine (node_leaf.calls a1_0 a1_1 a1_2 a1_3 a1_4 a1_5 false _ A41.out).mono ?_);rintro e w113 ⟨rfl,hb⟩;refine ⟨_,rfl,?_⟩;have n0_:=Aside0.mk (blk_below (g:=gb361) (o:=.cells #[.int .i64 a0_0,.int .i64 a0_1,.int .i64 a0_2,.int .i64 a0_3] 72 (0,0)) (by (with_reducible repeat(first|refine blk_drewN ?_ _|refine blk_drew ?_|refine blk_alloc ?_ _));exact BK361.out) hb);have n1_:=Aside0.mk (blk_below (g:=gb362) (o:=.cells #[.int .i64 a1_0,.int .i64 a1_1,.int .i64 a1_2,.int .i64 a1_3,.int .i64 a1_4,.int .i64 a1_5] 75 (0,0)) (by (with_reducible repeat(first|refine blk_drewN ?_ _|refine blk_drew ?_|refine blk_alloc ?_ _));exact BK362.out) hb);have n2_:=Aside0.mk (blk_below (g:=gb363) (o:=.cells #[.int .i64 a1_0,.int .i64 a1_1,.int .i64 a1_2,.int .i64 a1_3,.int .i64 a1_4,.int .i64 a1_5] 75 (0,0)) (by (with_reducible repeat(first|refine blk_drewN ?_ _|refine blk_drew ?_|refine blk_alloc ?_ _));exact BK363.out) hb);have n3_:=Aside0.mk (below_step (by repeat(first|(with_reducible first|exact HB.out|apply below_alloc|apply pw_below_drewN|apply below_drew1|refine below_set ?_ GE361.out|refine below_set ?_ GE362.out|refine below_set ?_ GE363.out)|exact HB.out)) hb);clear BK361;clear BK362;clear BK363;clear HB;have BK361:=n0_;have BK362:=n1_;have BK363:=n2_;have HB:=n3_;clear n0_ n1_ n2_ n3_;(try clear hb);(try clear hb2);(try clear hk);(try clear hi);have hnb114:=NB363_361.out;have hnc114:=NB361_363.out;have hcz115_0 : w113.cell? ⟨gb363,0,none⟩ = some (.int .i64 a1_0):=(blk_cell BK363.out 0).trans rfl;have hcz115_1 : w113.cell? ⟨gb363,1,none⟩ = some (.int .i64 a1_1):=(blk_cell BK363.out 1).trans rfl;have hcz115_2 : w113.cell? ⟨gb363,2,none⟩ = some (.int .i64 a1_2):=(blk_cell BK363.out 2).trans rfl;have hcz115_3 : w113.cell? ⟨gb363,3,none⟩ = some (.int .i64 a1_3):=(blk_cell BK363.out 3).trans rfl;have hcz115_4 : w113.cell? ⟨gb363,4,none⟩ = some (.int .i64 a1_4):=(blk_cell BK363.out 4).trans rfl;have hcz115_5 : w113.cell? ⟨gb363,5,none⟩ = some (.int .i64 a1_5):=(blk_cell BK363.out 5).trans rfl;have hfz115_0:=blk_frozen BK363.out 0;have hfz115_1:=blk_frozen BK363.out 1;have hfz115_2:=blk_frozen BK363.out 2;have hfz115_3:=blk_frozen BK363.out 3;have hfz115_4:=blk_frozen BK363.out 4;have hfz115_5:=blk_frozen BK363.out 5;have hcz116_0 : w113.cell? ⟨gb362,0,none⟩ = some (.int .i64 a1_0):=(blk_cell BK362.out 0).trans rfl;have hcz116_1 : w113.cell? ⟨gb362,1,none⟩ = some (.int .i64 a1_1):=(blk_cell BK362.out 1).trans rfl;have hcz116_2 : w113.cell? ⟨gb362,2,none⟩ = some (.int .i64 a1_2):=(blk_cell BK362.out 2).trans rfl;have hcz116_3 : w113.cell? ⟨gb362,3,none⟩ = some (.int .i64 a1_3):=(blk_cell BK362.out 3).trans rfl;have hcz116_4 : w113.cell? ⟨gb362,4,none⟩ = some (.int .i64 a1_4):=(blk_cell BK362.out 4).trans rfl;have hcz116_5 : w113.cell? ⟨gb362,5,none⟩ = some (.int .i64 a1_5):=(blk_cell BK362.out 5).trans rfl;have hfz116_0:=blk_frozen BK362.out 0;have hfz116_1:=blk_frozen BK362.out 1;have hfz116_2:=blk_frozen BK362.out 2;have hfz116_3:=blk_frozen BK362.out 3;have hfz116_4:=blk_frozen BK362.out 4;have hfz116_5:=blk_frozen BK362.out 5))
       go_ret
       exact ⟨by first|rfl|(simp [errW_none,errW_some] <;> rfl)|(simp [*,errW_none,errW_some] <;> rfl),by repeat(first|(with_reducible first|exact HB.out|apply below_alloc|apply pw_below_drewN|apply below_drew1|refine below_set ?_ GE361.out|refine below_set ?_ GE362.out|refine below_set ?_ GE363.out)|exact HB.out)⟩
     ·rw [if_neg c82] at H
      have c82b0 : (a1_3 == 0 && (a1_4 == 0 && (a1_5 == 0))) = false:=by simpa using c82
      (try (have c82b1 : decide (a1_3 = 0 && (a1_4 == 0 && (a1_5 == 0))) = false:=by simpa using c82))
      (try (have c82b2 : (a1_3 == 0 && (a1_4 == 0 && (a1_5 == 0))) = false:=by simpa using c82))
      (try (have c82b3 : ¬ (a1_3 = 0 && (a1_4 == 0 && (a1_5 == 0))):=by simpa using c82))
      clear c82
      obtain rfl:=Option.some.inj H
      have hnb117:=NB362_361.out
      have hnc117:=NB361_362.out
      have hnb118:=NB362_363.out
      have hnc118:=NB363_362.out
      have hcz119_0 : wc.cell? ⟨gb362,0,none⟩ = some (.int .i64 a1_0):=(blk_cell BK362.out 0).trans rfl
      have hcz119_1 : wc.cell? ⟨gb362,1,none⟩ = some (.int .i64 a1_1):=(blk_cell BK362.out 1).trans rfl
      have hcz119_2 : wc.cell? ⟨gb362,2,none⟩ = some (.int .i64 a1_2):=(blk_cell BK362.out 2).trans rfl
      have hcz119_3 : wc.cell? ⟨gb362,3,none⟩ = some (.int .i64 a1_3):=(blk_cell BK362.out 3).trans rfl
      have hcz119_4 : wc.cell? ⟨gb362,4,none⟩ = some (.int .i64 a1_4):=(blk_cell BK362.out 4).trans rfl
      have hcz119_5 : wc.cell? ⟨gb362,5,none⟩ = some (.int .i64 a1_5):=(blk_cell BK362.out 5).trans rfl
      have hfz119_0:=blk_frozen BK362.out 0
      have hfz119_1:=blk_frozen BK362.out 1
      have hfz119_2:=blk_frozen BK362.out 2
      have hfz119_3:=blk_frozen BK362.out 3
      have hfz119_4:=blk_frozen BK362.out 4
      have hfz119_5:=blk_frozen BK362.out 5
      go_wp2_with (first|((with_reducible refine gate_callee (f:=70) rfl ?_);refine goesL_ (some 35) rfl rfl Try.func70 (by kernel_rfl) rfl #[.agg #[.int .i64 a1_0,.int .i64 a1_1,.int .i64 a1_2,.int .i64 a1_3,.int .i64 a1_4,.int .i64 a1_5]] rfl (by (try simp only [List.map_toArray,List.map_cons,List.map_nil]);first|done|rfl|(simp only [List.length_drop,List.length_take];rfl)) ?_;(with_reducible refine (node_leaf.calls a1_0 a1_1 a1_2 a1_3 a1_4 a1_5 false _ A41.out).mono ?_);rintro e w120 ⟨rfl,hb⟩;refine ⟨_,rfl,?_⟩;have n0_:=Aside0.mk (blk_below (g:=gb361) (o:=.cells #[.int .i64 a0_0,.int .i64 a0_1,.int .i64 a0_2,.int .i64 a0_3] 72 (0,0)) (by (with_reducible repeat(first|refine blk_drewN ?_ _|refine blk_drew ?_|refine blk_alloc ?_ _));exact BK361.out) hb);have n1_:=Aside0.mk (blk_below (g:=gb362) (o:=.cells #[.int .i64 a1_0,.int .i64 a1_1,.int .i64 a1_2,.int .i64 a1_3,.int .i64 a1_4,.int .i64 a1_5] 75 (0,0)) (by (with_reducible repeat(first|refine blk_drewN ?_ _|refine blk_drew ?_|refine blk_alloc ?_ _));exact BK362.out) hb);have n2_:=Aside0.mk (blk_below (g:=gb363) (o:=.cells #[.int .i64 a1_0,.int .i64 a1_1,.int .i64 a1_2,.int .i64 a1_3,.int .i64 a1_4,.int .i64 a1_5] 75 (0,0)) (by (with_reducible repeat(first|refine blk_drewN ?_ _|refine blk_drew ?_|refine blk_alloc ?_ _));exact BK363.out) hb);have n3_:=Aside0.mk (below_step (by repeat(first|(with_reducible first|exact HB.out|apply below_alloc|apply pw_below_drewN|apply below_drew1|refine below_set ?_ GE361.out|refine below_set ?_ GE362.out|refine below_set ?_ GE363.out)|exact HB.out)) hb);clear BK361;clear BK362;clear BK363;clear HB;have BK361:=n0_;have BK362:=n1_;have BK363:=n2_;have HB:=n3_;clear n0_ n1_ n2_ n3_;(try clear hb);(try clear hb2);(try clear hk);(try clear hi);have hnb121:=NB363_361.out;have hnc121:=NB361_363.out;have hcz122_0 : w120.cell? ⟨gb363,0,none⟩ = some (.int .i64 a1_0):=(blk_cell BK363.out 0).trans rfl;have hcz122_1 : w120.cell? ⟨gb363,1,none⟩ = some (.int .i64 a1_1):=(blk_cell BK363.out 1).trans rfl;have hcz122_2 : w120.cell? ⟨gb363,2,none⟩ = some (.int .i64 a1_2):=(blk_cell BK363.out 2).trans rfl;have hcz122_3 : w120.cell? ⟨gb363,3,none⟩ = some (.int .i64 a1_3):=(blk_cell BK363.out 3).trans rfl;have hcz122_4 : w120.cell? ⟨gb363,4,none⟩ = some (.int .i64 a1_4):=(blk_cell BK363.out 4).trans rfl;have hcz122_5 : w120.cell? ⟨gb363,5,none⟩ = some (.int .i64 a1_5):=(blk_cell BK363.out 5).trans rfl;have hfz122_0:=blk_frozen BK363.out 0;have hfz122_1:=blk_frozen BK363.out 1;have hfz122_2:=blk_frozen BK363.out 2;have hfz122_3:=blk_frozen BK363.out 3;have hfz122_4:=blk_frozen BK363.out 4;have hfz122_5:=blk_frozen BK363.out 5))
      go_ret
      exact ⟨by first|rfl|(simp [errW_none,errW_some] <;> rfl)|(simp [*,errW_none,errW_some] <;> rfl),by repeat(first|(with_reducible first|exact HB.out|apply below_alloc|apply pw_below_drewN|apply below_drew1|refine below_set ?_ GE361.out|refine below_set ?_ GE362.out|refine below_set ?_ GE363.out)|exact HB.out)⟩

end Go.Proofs.Ytebbnjgaikppgaa.PA
