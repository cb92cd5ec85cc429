import Derived.Test.YtnagfbadjbkhmaaPBx0
import Derived.Test.YtnagfbadjbkhmaaPBx6
namespace Go.Proofs.Ytnagfbadjbkhmaa.PB
open Go.RowKit Go.Proofs.YtnagfbadjbkhmaaW.PrintWords Go.Proofs.YtnagfbadjbkhmaaW.PrintLast Go.Proofs.YtnagfbadjbkhmaaW.PrintMore
attribute [local go_sem] max2_int min2_int max_two min_two max_three min_three max_four min_four   -- for this text's walks alone
attribute [local go_sem high] Flt.fold_eq Flt.fold_ne Flt.fold_lt Flt.fold_gt Flt.fold_le Flt.fold_ge Flt.run_bits Flt.run_frombits
set_option linter.unusedVariables false
set_option linter.unusedSimpArgs false

/-! ### hornbeamref11_Same: function 31 -/
mutual
def hornbeamref11_Same.j0 : Nat → Bool → Int → Int → List Int → Int → Int → List Int → Option (Bool)
 | 0,_,_,_,_,_,_,_=>none
 | k + 1,x26,x204000,x204001,x204002,x205000,x205001,x205002=>if x26 = true then (some false) else (hornbeamref11_Same.l0 k 0 x204000 x204001 x204002 x205000 x205001 x205002)
def hornbeamref11_Same.l0 : Nat → Int → Int → Int → List Int → Int → Int → List Int → Option (Bool)
 | 0,_,_,_,_,_,_,_=>none
 | k + 1,x5,x204000,x204001,x204002,x205000,x205001,x205002=>if x5 < (x204002.length : Int) then (if 0 ≤ x5 then (if x5 < (x205002.length : Int) then (if (rd x204002 x5) = (rd x205002 x5) then (hornbeamref11_Same.l0 k (wrap64 (x5 + 1)) x204000 x204001 x204002 x205000 x205001 x205002) else (some false)) else (none)) else (none)) else (some true)
end
def hornbeamref11_Same.f (k : Nat) (a0_0 : Int) (a0_1 : Int) (l0_2 : List Int) (a1_0 : Int) (a1_1 : Int) (l1_2 : List Int) : Option (Bool):=if a0_0 = a1_0 then (if a0_1 = a1_1 then (hornbeamref11_Same.j0 k ((l0_2.length : Int) != (l1_2.length : Int)) a0_0 a0_1 l0_2 a1_0 a1_1 l1_2) else (hornbeamref11_Same.j0 k true a0_0 a0_1 l0_2 a1_0 a1_1 l1_2)) else (hornbeamref11_Same.j0 k true a0_0 a0_1 l0_2 a1_0 a1_1 l1_2)
theorem hornbeamref11_Same.mono_l : ∀ k,(∀ y0 y1 y2 y3 y4 y5 y6,LeO (hornbeamref11_Same.j0 k y0 y1 y2 y3 y4 y5 y6) (hornbeamref11_Same.j0 (k + 1) y0 y1 y2 y3 y4 y5 y6)) ∧ (∀ y0 y1 y2 y3 y4 y5 y6,LeO (hornbeamref11_Same.l0 k y0 y1 y2 y3 y4 y5 y6) (hornbeamref11_Same.l0 (k + 1) y0 y1 y2 y3 y4 y5 y6))
 | 0=>⟨fun _ _ _ _ _ _ _ r h=>by simp [hornbeamref11_Same.j0] at h,fun _ _ _ _ _ _ _ r h=>by simp [hornbeamref11_Same.l0] at h⟩
 | k + 1=>by
  obtain ⟨ih0,ih1⟩:=hornbeamref11_Same.mono_l k
  refine ⟨?_,?_⟩
  ·intro y0 y1 y2 y3 y4 y5 y6
   unfold hornbeamref11_Same.j0
   repeat' first
   | (with_reducible exact ih0 _ _ _ _ _ _ _)
   | (with_reducible exact ih1 _ _ _ _ _ _ _)
   | (with_reducible exact LeO.refl _)
   | (with_reducible exact LeO.none _)
   | (with_reducible refine LeO.ite ?_ ?_)
   | (with_reducible refine LeO.bind ?_ (fun _=>?_))
   | exact ih0 _ _ _ _ _ _ _
   | exact ih1 _ _ _ _ _ _ _
   | exact LeO.none _
   | refine LeO.ite ?_ ?_
   | refine LeO.bind ?_ (fun _=>?_)
  ·intro y0 y1 y2 y3 y4 y5 y6
   unfold hornbeamref11_Same.l0
   repeat' first
   | (with_reducible exact ih0 _ _ _ _ _ _ _)
   | (with_reducible exact ih1 _ _ _ _ _ _ _)
   | (with_reducible exact LeO.refl _)
   | (with_reducible exact LeO.none _)
   | (with_reducible refine LeO.ite ?_ ?_)
   | (with_reducible refine LeO.bind ?_ (fun _=>?_))
   | exact ih0 _ _ _ _ _ _ _
   | exact ih1 _ _ _ _ _ _ _
   | exact LeO.none _
   | refine LeO.ite ?_ ?_
   | refine LeO.bind ?_ (fun _=>?_)
theorem hornbeamref11_Same.mono : ∀ a0 a1 a2 a3 a4 a5 k,LeO (hornbeamref11_Same.f k a0 a1 a2 a3 a4 a5) (hornbeamref11_Same.f (k + 1) a0 a1 a2 a3 a4 a5):=by
 intro a0 a1 a2 a3 a4 a5 k
 obtain ⟨ih0,ih1⟩:=hornbeamref11_Same.mono_l k
 unfold hornbeamref11_Same.f
 repeat' first
   | (with_reducible exact ih0 _ _ _ _ _ _ _)
   | (with_reducible exact ih1 _ _ _ _ _ _ _)
   | (with_reducible exact LeO.refl _)
   | (with_reducible exact LeO.none _)
   | (with_reducible refine LeO.ite ?_ ?_)
   | (with_reducible refine LeO.bind ?_ (fun _=>?_))
   | exact ih0 _ _ _ _ _ _ _
   | exact ih1 _ _ _ _ _ _ _
   | exact LeO.none _
   | refine LeO.ite ?_ ?_
   | refine LeO.bind ?_ (fun _=>?_)
set_option maxHeartbeats 8000000 in
set_option maxRecDepth 100000 in
theorem hornbeamref11_Same.calls (k : Nat) (a0_0 : Int) (a0_1 : Int) (A0_2 : Option Addr) (c0_2 : Nat) (l0_2 : List Int) (a1_0 : Int) (a1_1 : Int) (A1_2 : Option Addr) (c1_2 : Nat) (l1_2 : List Int) (r : Bool) (w : World) (hr0_2 : Kd.C (Kd.int .u16) w A0_2 l0_2.length l0_2) (hc0_2 : l0_2.length ≤ c0_2) (hr1_2 : Kd.C (Kd.int .u16) w A1_2 l1_2.length l1_2) (hc1_2 : l1_2.length ≤ c1_2) (h : hornbeamref11_Same.f k a0_0 a0_1 l0_2 a1_0 a1_1 l1_2 = some r) :
  Calls Try.prog 31 #[.agg #[.int .i64 a0_0,.int .i64 a0_1,.slice A0_2 l0_2.length c0_2],.agg #[.int .i64 a1_0,.int .i64 a1_1,.slice A1_2 l1_2.length c1_2]] w fun e w'=>e = .returned (.bool r) ∧ Below w.heap.size w w':=by
 have hu62:=Try.underlying62
 have HR0_2:=Aside0.mk hr0_2
 have HC0_2:=Aside0.mk hc0_2
 clear hr0_2 hc0_2
 have HR1_2:=Aside0.mk hr1_2
 have HC1_2:=Aside0.mk hc1_2
 clear hr1_2 hc1_2
 have HB:=Aside0.mk (Below.refl w.heap.size w)
 have H : (if a0_0 = a1_0 then (if a0_1 = a1_1 then (hornbeamref11_Same.j0 k ((l0_2.length : Int) != (l1_2.length : Int)) a0_0 a0_1 l0_2 a1_0 a1_1 l1_2) else (hornbeamref11_Same.j0 k true a0_0 a0_1 l0_2 a1_0 a1_1 l1_2)) else (hornbeamref11_Same.j0 k true a0_0 a0_1 l0_2 a1_0 a1_1 l1_2)) = some r:=h
 clear h
 have HC3:=Aside0.mk H
 clear H
 go_enter Try.func31,Try.ntmps31
 go_upto_region 1 with (first|((with_reducible refine gate_dst (N:=2) rfl ?_);refine box_event ?hg (N:=2) ?hd (cs:=#[.int .i64 a0_0,.int .i64 a0_1,.slice A0_2 l0_2.length c0_2]) (t:=62) ?hr ?_;(case hd=>rfl);(case hg=>rfl);(case hr=>first|(go_simp;done)|(go_simp;rfl));intro gb203 hg w4 hbox hb;have n0_:=Aside0.mk (below_step (by repeat(first|(with_reducible first|exact HB.out|apply below_alloc|apply pw_below_drewN|apply below_drew1)|exact HB.out)) hb);have n1_:=Aside0.mk (hbox);have n2_:=Aside0.mk ((by rw [hg];exact (below_size (by repeat(first|(with_reducible first|exact HB.out|apply below_alloc|apply pw_below_drewN|apply below_drew1)|exact HB.out))) : w.heap.size ≤ gb203));have n3_:=Aside0.mk ((by rw [hg];exact (below_size (by repeat(first|(with_reducible first|exact HB.out|apply below_alloc|apply pw_below_drewN|apply below_drew1)|exact HB.out))) : w.heap.size ≤ gb203));clear HB;have HB:=n0_;have BK203:=n1_;have GW203:=n2_;have GE203:=n3_;clear n0_ n1_ n2_ n3_;clear hb hbox hg)|((with_reducible refine gate_dst (N:=3) rfl ?_);refine box_event ?hg (N:=3) ?hd (cs:=#[.int .i64 a1_0,.int .i64 a1_1,.slice A1_2 l1_2.length c1_2]) (t:=62) ?hr ?_;(case hd=>rfl);(case hg=>rfl);(case hr=>first|(go_simp;done)|(go_simp;rfl));intro gb204 hg w5 hbox hb;have n0_:=Aside0.mk (blk_below (g:=gb203) (o:=.cells #[.int .i64 a0_0,.int .i64 a0_1,.slice A0_2 l0_2.length c0_2] 62 (0,0)) (by (with_reducible repeat(first|refine blk_drewN ?_ _|refine blk_drew ?_|refine blk_alloc ?_ _));exact BK203.out) hb);have n1_:=Aside0.mk (below_step (by repeat(first|(with_reducible first|exact HB.out|apply below_alloc|apply pw_below_drewN|apply below_drew1|refine below_set ?_ GE203.out)|exact HB.out)) hb);have n2_:=Aside0.mk (hbox);have n3_:=Aside0.mk ((by rw [hg];exact (below_size (by repeat(first|(with_reducible first|exact HB.out|apply below_alloc|apply pw_below_drewN|apply below_drew1|refine below_set ?_ GE203.out)|exact HB.out))) : w.heap.size ≤ gb204));have n4_:=Aside0.mk ((by rw [hg];exact (below_size (by repeat(first|(with_reducible first|exact HB.out|apply below_alloc|apply pw_below_drewN|apply below_drew1|refine below_set ?_ GE203.out)|exact HB.out))) : w.heap.size ≤ gb204));have n5_:=Aside0.mk ((by rw [hg];exact Nat.ne_of_lt (blk_lt (g:=gb203) (o:=.cells #[.int .i64 a0_0,.int .i64 a0_1,.slice A0_2 l0_2.length c0_2] 62 (0,0)) (by (with_reducible repeat(first|refine blk_drewN ?_ _|refine blk_drew ?_|refine blk_alloc ?_ _));exact BK203.out)) : gb203 ≠ gb204));have n6_:=Aside0.mk ((by rw [hg];exact Nat.ne_of_gt (blk_lt (g:=gb203) (o:=.cells #[.int .i64 a0_0,.int .i64 a0_1,.slice A0_2 l0_2.length c0_2] 62 (0,0)) (by (with_reducible repeat(first|refine blk_drewN ?_ _|refine blk_drew ?_|refine blk_alloc ?_ _));exact BK203.out)) : gb204 ≠ gb203));clear BK203;clear HB;have BK203:=n0_;have HB:=n1_;have BK204:=n2_;have GW204:=n3_;have GE204:=n4_;have NB203_204:=n5_;have NB204_203:=n6_;clear n0_ n1_ n2_ n3_ n4_ n5_ n6_;clear hb hbox hg))
 repeat (go_quiet (first|((with_reducible refine gate_dst (N:=2) rfl ?_);refine box_event ?hg (N:=2) ?hd (cs:=#[.int .i64 a0_0,.int .i64 a0_1,.slice A0_2 l0_2.length c0_2]) (t:=62) ?hr ?_;(case hd=>rfl);(case hg=>rfl);(case hr=>first|(go_simp;done)|(go_simp;rfl));intro gb203 hg w4 hbox hb;have n0_:=Aside0.mk (below_step (by repeat(first|(with_reducible first|exact HB.out|apply below_alloc|apply pw_below_drewN|apply below_drew1)|exact HB.out)) hb);have n1_:=Aside0.mk (hbox);have n2_:=Aside0.mk ((by rw [hg];exact (below_size (by repeat(first|(with_reducible first|exact HB.out|apply below_alloc|apply pw_below_drewN|apply below_drew1)|exact HB.out))) : w.heap.size ≤ gb203));have n3_:=Aside0.mk ((by rw [hg];exact (below_size (by repeat(first|(with_reducible first|exact HB.out|apply below_alloc|apply pw_below_drewN|apply below_drew1)|exact HB.out))) : w.heap.size ≤ gb203));clear HB;have HB:=n0_;have BK203:=n1_;have GW203:=n2_;have GE203:=n3_;clear n0_ n1_ n2_ n3_;clear hb hbox hg)|((with_reducible refine gate_dst (N:=3) rfl ?_);refine box_event ?hg (N:=3) ?hd (cs:=#[.int .i64 a1_0,.int .i64 a1_1,.slice A1_2 l1_2.length c1_2]) (t:=62) ?hr ?_;(case hd=>rfl);(case hg=>rfl);(case hr=>first|(go_simp;done)|(go_simp;rfl));intro gb204 hg w5 hbox hb;have n0_:=Aside0.mk (blk_below (g:=gb203) (o:=.cells #[.int .i64 a0_0,.int .i64 a0_1,.slice A0_2 l0_2.length c0_2] 62 (0,0)) (by (with_reducible repeat(first|refine blk_drewN ?_ _|refine blk_drew ?_|refine blk_alloc ?_ _));exact BK203.out) hb);have n1_:=Aside0.mk (below_step (by repeat(first|(with_reducible first|exact HB.out|apply below_alloc|apply pw_below_drewN|apply below_drew1|refine below_set ?_ GE203.out)|exact HB.out)) hb);have n2_:=Aside0.mk (hbox);have n3_:=Aside0.mk ((by rw [hg];exact (below_size (by repeat(first|(with_reducible first|exact HB.out|apply below_alloc|apply pw_below_drewN|apply below_drew1|refine below_set ?_ GE203.out)|exact HB.out))) : w.heap.size ≤ gb204));have n4_:=Aside0.mk ((by rw [hg];exact (below_size (by repeat(first|(with_reducible first|exact HB.out|apply below_alloc|apply pw_below_drewN|apply below_drew1|refine below_set ?_ GE203.out)|exact HB.out))) : w.heap.size ≤ gb204));have n5_:=Aside0.mk ((by rw [hg];exact Nat.ne_of_lt (blk_lt (g:=gb203) (o:=.cells #[.int .i64 a0_0,.int .i64 a0_1,.slice A0_2 l0_2.length c0_2] 62 (0,0)) (by (with_reducible repeat(first|refine blk_drewN ?_ _|refine blk_drew ?_|refine blk_alloc ?_ _));exact BK203.out)) : gb203 ≠ gb204));have n6_:=Aside0.mk ((by rw [hg];exact Nat.ne_of_gt (blk_lt (g:=gb203) (o:=.cells #[.int .i64 a0_0,.int .i64 a0_1,.slice A0_2 l0_2.length c0_2] 62 (0,0)) (by (with_reducible repeat(first|refine blk_drewN ?_ _|refine blk_drew ?_|refine blk_alloc ?_ _));exact BK203.out)) : gb204 ≠ gb203));clear BK203;clear HB;have BK203:=n0_;have HB:=n1_;have BK204:=n2_;have GW204:=n3_;have GE204:=n4_;have NB203_204:=n5_;have NB204_203:=n6_;clear n0_ n1_ n2_ n3_ n4_ n5_ n6_;clear hb hbox hg));go_upto_region 1 with (first|((with_reducible refine gate_dst (N:=2) rfl ?_);refine box_event ?hg (N:=2) ?hd (cs:=#[.int .i64 a0_0,.int .i64 a0_1,.slice A0_2 l0_2.length c0_2]) (t:=62) ?hr ?_;(case hd=>rfl);(case hg=>rfl);(case hr=>first|(go_simp;done)|(go_simp;rfl));intro gb203 hg w4 hbox hb;have n0_:=Aside0.mk (below_step (by repeat(first|(with_reducible first|exact HB.out|apply below_alloc|apply pw_below_drewN|apply below_drew1)|exact HB.out)) hb);have n1_:=Aside0.mk (hbox);have n2_:=Aside0.mk ((by rw [hg];exact (below_size (by repeat(first|(with_reducible first|exact HB.out|apply below_alloc|apply pw_below_drewN|apply below_drew1)|exact HB.out))) : w.heap.size ≤ gb203));have n3_:=Aside0.mk ((by rw [hg];exact (below_size (by repeat(first|(with_reducible first|exact HB.out|apply below_alloc|apply pw_below_drewN|apply below_drew1)|exact HB.out))) : w.heap.size ≤ gb203));clear HB;have HB:=n0_;have BK203:=n1_;have GW203:=n2_;have GE203:=n3_;clear n0_ n1_ n2_ n3_;clear hb hbox hg)|((with_reducible refine gate_dst (N:=3) rfl ?_);refine box_event ?hg (N:=3) ?hd (cs:=#[.int .i64 a1_0,.int .i64 a1_1,.slice A1_2 l1_2.length c1_2]) (t:=62) ?hr ?_;(case hd=>rfl);(case hg=>rfl);(case hr=>first|(go_simp;done)|(go_simp;rfl));intro gb204 hg w5 hbox hb;have n0_:=Aside0.mk (blk_below (g:=gb203) (o:=.cells #[.int .i64 a0_0,.int .i64 a0_1,.slice A0_2 l0_2.length c0_2] 62 (0,0)) (by (with_reducible repeat(first|refine blk_drewN ?_ _|refine blk_drew ?_|refine blk_alloc ?_ _));exact BK203.out) hb);have n1_:=Aside0.mk (below_step (by repeat(first|(with_reducible first|exact HB.out|apply below_alloc|apply pw_below_drewN|apply below_drew1|refine below_set ?_ GE203.out)|exact HB.out)) hb);have n2_:=Aside0.mk (hbox);have n3_:=Aside0.mk ((by rw [hg];exact (below_size (by repeat(first|(with_reducible first|exact HB.out|apply below_alloc|apply pw_below_drewN|apply below_drew1|refine below_set ?_ GE203.out)|exact HB.out))) : w.heap.size ≤ gb204));have n4_:=Aside0.mk ((by rw [hg];exact (below_size (by repeat(first|(with_reducible first|exact HB.out|apply below_alloc|apply pw_below_drewN|apply below_drew1|refine below_set ?_ GE203.out)|exact HB.out))) : w.heap.size ≤ gb204));have n5_:=Aside0.mk ((by rw [hg];exact Nat.ne_of_lt (blk_lt (g:=gb203) (o:=.cells #[.int .i64 a0_0,.int .i64 a0_1,.slice A0_2 l0_2.length c0_2] 62 (0,0)) (by (with_reducible repeat(first|refine blk_drewN ?_ _|refine blk_drew ?_|refine blk_alloc ?_ _));exact BK203.out)) : gb203 ≠ gb204));have n6_:=Aside0.mk ((by rw [hg];exact Nat.ne_of_gt (blk_lt (g:=gb203) (o:=.cells #[.int .i64 a0_0,.int .i64 a0_1,.slice A0_2 l0_2.length c0_2] 62 (0,0)) (by (with_reducible repeat(first|refine blk_drewN ?_ _|refine blk_drew ?_|refine blk_alloc ?_ _));exact BK203.out)) : gb204 ≠ gb203));clear BK203;clear HB;have BK203:=n0_;have HB:=n1_;have BK204:=n2_;have GW204:=n3_;have GE204:=n4_;have NB203_204:=n5_;have NB204_203:=n6_;clear n0_ n1_ n2_ n3_ n4_ n5_ n6_;clear hb hbox hg)))
 (try simp only [Act.put,List.setIfInBounds_toArray,List.set_cons_zero,List.set_cons_succ])
 go_cut [26] (fun v26 wc=>∃ (kq : Nat) (x26_2 : Bool),v26 = .bool x26_2 ∧ Aside0 (hornbeamref11_Same.j0 kq x26_2 a0_0 a0_1 l0_2 a1_0 a1_1 l1_2 = some r) ∧ Aside0 (kq ≤ k) ∧ Aside0 (wc.heap[gb203]? = some (.cells #[.int .i64 a0_0,.int .i64 a0_1,(.slice A0_2 l0_2.length c0_2)] 62 (0,0))) ∧ Aside0 (wc.heap[gb204]? = some (.cells #[.int .i64 a1_0,.int .i64 a1_1,(.slice A1_2 l1_2.length c1_2)] 62 (0,0))) ∧ Aside0 (Below w.heap.size w wc))
 case first =>
  have H:=HC3.out
  clear HC3
  by_cases c6 : a0_0 = a1_0
  ·rw [if_pos c6] at H
   have c6b0 : (a0_0 == a1_0) = true:=beq_iff_eq.mpr c6
   have c6b1 : (a0_0 != a1_0) = false:=bne_eq_false_iff_eq.mpr c6
   clear c6
   (first|rw [c6b0]|(simp only [i64_w,i32_w];rw [c6b0])|skip)
   by_cases c7 : a0_1 = a1_1
   ·rw [if_pos c7] at H
    have c7b0 : (a0_1 == a1_1) = true:=beq_iff_eq.mpr c7
    have c7b1 : (a0_1 != a1_1) = false:=bne_eq_false_iff_eq.mpr c7
    clear c7
    have H':=Aside0.mk H
    clear H
    have hnb8:=NB203_204.out
    have hnc8:=NB204_203.out
    have hcz9_0 : w5.cell? ⟨gb203,0,none⟩ = some (.int .i64 a0_0):=(blk_cell BK203.out 0).trans rfl
    have hcz9_1 : w5.cell? ⟨gb203,1,none⟩ = some (.int .i64 a0_1):=(blk_cell BK203.out 1).trans rfl
    have hcz9_2 : w5.cell? ⟨gb203,2,none⟩ = some (.slice A0_2 l0_2.length c0_2):=(blk_cell BK203.out 2).trans rfl
    have hfz9_0:=blk_frozen BK203.out 0
    have hfz9_1:=blk_frozen BK203.out 1
    have hfz9_2:=blk_frozen BK203.out 2
    have hcz10_0 : w5.cell? ⟨gb204,0,none⟩ = some (.int .i64 a1_0):=(blk_cell BK204.out 0).trans rfl
    have hcz10_1 : w5.cell? ⟨gb204,1,none⟩ = some (.int .i64 a1_1):=(blk_cell BK204.out 1).trans rfl
    have hcz10_2 : w5.cell? ⟨gb204,2,none⟩ = some (.slice A1_2 l1_2.length c1_2):=(blk_cell BK204.out 2).trans rfl
    have hfz10_0:=blk_frozen BK204.out 0
    have hfz10_1:=blk_frozen BK204.out 1
    have hfz10_2:=blk_frozen BK204.out 2
    go_wp2
    repeat (go_quiet (fail);try go_wp2)
    go_meet
    case rel=>exact ⟨_,(((l0_2.length : Int) != (l1_2.length : Int))),(by first|rfl|(simp;done)|(simp [*];done)),H',⟨by first|omega|exact Nat.le_refl _⟩,⟨by (with_reducible repeat(first|refine blk_drewN ?_ _|refine blk_drew ?_|refine blk_alloc ?_ _));exact BK203.out⟩,⟨by (with_reducible repeat(first|refine blk_drewN ?_ _|refine blk_drew ?_|refine blk_alloc ?_ _));exact BK204.out⟩,⟨by repeat(first|(with_reducible first|exact HB.out|apply below_alloc|apply pw_below_drewN|apply below_drew1|refine below_set ?_ GE203.out|refine below_set ?_ GE204.out)|exact HB.out)⟩⟩
   ·rw [if_neg c7] at H
    have c7b0 : (a0_1 == a1_1) = false:=beq_eq_false_iff_ne.mpr c7
    have c7b1 : (a0_1 != a1_1) = true:=bne_iff_ne.mpr c7
    have H':=Aside0.mk H
    clear H
    have hnb11:=NB203_204.out
    have hnc11:=NB204_203.out
    have hcz12_0 : w5.cell? ⟨gb203,0,none⟩ = some (.int .i64 a0_0):=(blk_cell BK203.out 0).trans rfl
    have hcz12_1 : w5.cell? ⟨gb203,1,none⟩ = some (.int .i64 a0_1):=(blk_cell BK203.out 1).trans rfl
    have hcz12_2 : w5.cell? ⟨gb203,2,none⟩ = some (.slice A0_2 l0_2.length c0_2):=(blk_cell BK203.out 2).trans rfl
    have hfz12_0:=blk_frozen BK203.out 0
    have hfz12_1:=blk_frozen BK203.out 1
    have hfz12_2:=blk_frozen BK203.out 2
    have hcz13_0 : w5.cell? ⟨gb204,0,none⟩ = some (.int .i64 a1_0):=(blk_cell BK204.out 0).trans rfl
    have hcz13_1 : w5.cell? ⟨gb204,1,none⟩ = some (.int .i64 a1_1):=(blk_cell BK204.out 1).trans rfl
    have hcz13_2 : w5.cell? ⟨gb204,2,none⟩ = some (.slice A1_2 l1_2.length c1_2):=(blk_cell BK204.out 2).trans rfl
    have hfz13_0:=blk_frozen BK204.out 0
    have hfz13_1:=blk_frozen BK204.out 1
    have hfz13_2:=blk_frozen BK204.out 2
    go_wp2
    repeat (go_quiet (fail);try go_wp2)
    go_meet
    case rel=>exact ⟨_,(true),(by first|rfl|(simp;done)|(simp [*];done)),H',⟨by first|omega|exact Nat.le_refl _⟩,⟨by (with_reducible repeat(first|refine blk_drewN ?_ _|refine blk_drew ?_|refine blk_alloc ?_ _));exact BK203.out⟩,⟨by (with_reducible repeat(first|refine blk_drewN ?_ _|refine blk_drew ?_|refine blk_alloc ?_ _));exact BK204.out⟩,⟨by repeat(first|(with_reducible first|exact HB.out|apply below_alloc|apply pw_below_drewN|apply below_drew1|refine below_set ?_ GE203.out|refine below_set ?_ GE204.out)|exact HB.out)⟩⟩
  ·rw [if_neg c6] at H
   have c6b0 : (a0_0 == a1_0) = false:=beq_eq_false_iff_ne.mpr c6
   have c6b1 : (a0_0 != a1_0) = true:=bne_iff_ne.mpr c6
   (first|rw [c6b0]|(simp only [i64_w,i32_w];rw [c6b0])|skip)
   have H':=Aside0.mk H
   clear H
   have hnb14:=NB203_204.out
   have hnc14:=NB204_203.out
   have hcz15_0 : w5.cell? ⟨gb203,0,none⟩ = some (.int .i64 a0_0):=(blk_cell BK203.out 0).trans rfl
   have hcz15_1 : w5.cell? ⟨gb203,1,none⟩ = some (.int .i64 a0_1):=(blk_cell BK203.out 1).trans rfl
   have hcz15_2 : w5.cell? ⟨gb203,2,none⟩ = some (.slice A0_2 l0_2.length c0_2):=(blk_cell BK203.out 2).trans rfl
   have hfz15_0:=blk_frozen BK203.out 0
   have hfz15_1:=blk_frozen BK203.out 1
   have hfz15_2:=blk_frozen BK203.out 2
   have hcz16_0 : w5.cell? ⟨gb204,0,none⟩ = some (.int .i64 a1_0):=(blk_cell BK204.out 0).trans rfl
   have hcz16_1 : w5.cell? ⟨gb204,1,none⟩ = some (.int .i64 a1_1):=(blk_cell BK204.out 1).trans rfl
   have hcz16_2 : w5.cell? ⟨gb204,2,none⟩ = some (.slice A1_2 l1_2.length c1_2):=(blk_cell BK204.out 2).trans rfl
   have hfz16_0:=blk_frozen BK204.out 0
   have hfz16_1:=blk_frozen BK204.out 1
   have hfz16_2:=blk_frozen BK204.out 2
   go_wp2
   repeat (go_quiet (fail);try go_wp2)
   go_meet
   case rel=>exact ⟨_,(true),(by first|rfl|(simp;done)|(simp [*];done)),H',⟨by first|omega|exact Nat.le_refl _⟩,⟨by (with_reducible repeat(first|refine blk_drewN ?_ _|refine blk_drew ?_|refine blk_alloc ?_ _));exact BK203.out⟩,⟨by (with_reducible repeat(first|refine blk_drewN ?_ _|refine blk_drew ?_|refine blk_alloc ?_ _));exact BK204.out⟩,⟨by repeat(first|(with_reducible first|exact HB.out|apply below_alloc|apply pw_below_drewN|apply below_drew1|refine below_set ?_ GE203.out|refine below_set ?_ GE204.out)|exact HB.out)⟩⟩
 case rest =>
  clear HC3
  try clear c1
  try clear p2
  try clear c3
  try clear c6
  try clear c6b0
  try clear c6b1
  try clear c7
  try clear c7b0
  try clear c7b1
  try clear c8
  try clear c11
  try clear c14
  try clear hcz10_0
  try clear hcz10_1
  try clear hcz10_2
  try clear hcz12_0
  try clear hcz12_1
  try clear hcz12_2
  try clear hcz13_0
  try clear hcz13_1
  try clear hcz13_2
  try clear hcz15_0
  try clear hcz15_1
  try clear hcz15_2
  try clear hcz16_0
  try clear hcz16_1
  try clear hcz16_2
  try clear hcz9_0
  try clear hcz9_1
  try clear hcz9_2
  try clear hfz10_0
  try clear hfz10_1
  try clear hfz10_2
  try clear hfz12_0
  try clear hfz12_1
  try clear hfz12_2
  try clear hfz13_0
  try clear hfz13_1
  try clear hfz13_2
  try clear hfz15_0
  try clear hfz15_1
  try clear hfz15_2
  try clear hfz16_0
  try clear hfz16_1
  try clear hfz16_2
  try clear hfz9_0
  try clear hfz9_1
  try clear hfz9_2
  obtain ⟨kq,x26_2,rfl,HA,HJ2,BK203,BK204,HB⟩:=hcut
  cases kq with
  | zero=>exact absurd HA.out (by simp [hornbeamref11_Same.j0])
  | succ kj2 =>
   have H:=HA.out
   clear HA
   simp only [hornbeamref11_Same.j0] at H
   by_cases c17 : x26_2 = true
   ·subst c17
    have H1 : (some false) = some r:=by rw [if_pos rfl] at H;exact H
    clear H
    have H:=H1
    clear H1
    obtain rfl:=Option.some.inj H
    go_wp2
    repeat (go_quiet (fail);try go_wp2)
    go_ret
    exact ⟨by first|rfl|(simp [errW_none,errW_some] <;> rfl)|(simp [*,errW_none,errW_some] <;> rfl),by repeat(first|(with_reducible first|exact HB.out|apply below_alloc|apply pw_below_drewN|apply below_drew1|refine below_set ?_ GE203.out|refine below_set ?_ GE204.out)|exact HB.out)⟩
   ·replace c17:=Bool.eq_false_iff.mpr c17
    subst c17
    have H1 : (hornbeamref11_Same.l0 kj2 0 a0_0 a0_1 l0_2 a1_0 a1_1 l1_2) = some r:=by rw [if_neg (show ¬ (false = true) by decide)] at H;exact H
    clear H
    have H:=H1
    clear H1
    have H':=Aside0.mk H
    clear H
    go_wp2
    repeat (go_quiet (fail);try go_wp2)
    go_loopg [5] kj2 (fun kq v5 w'=>∃ (x5_2 : Int),v5 = .int .i64 x5_2 ∧ Aside0 (hornbeamref11_Same.l0 kq x5_2 a0_0 a0_1 l0_2 a1_0 a1_1 l1_2 = some r) ∧ Aside0 (kq ≤ kj2) ∧ Aside0 (w'.heap[gb203]? = some (.cells #[.int .i64 a0_0,.int .i64 a0_1,(.slice A0_2 l0_2.length c0_2)] 62 (0,0))) ∧ Aside0 (w'.heap[gb204]? = some (.cells #[.int .i64 a1_0,.int .i64 a1_1,(.slice A1_2 l1_2.length c1_2)] 62 (0,0))) ∧ Aside0 (Below w.heap.size w w'))
    case atStart=>exact ⟨(0),(by first|rfl|(simp;done)|(simp [*];done)),H',⟨Nat.le_refl _⟩,⟨by (with_reducible repeat(first|refine blk_drewN ?_ _|refine blk_drew ?_|refine blk_alloc ?_ _));exact BK203.out⟩,⟨by (with_reducible repeat(first|refine blk_drewN ?_ _|refine blk_drew ?_|refine blk_alloc ?_ _));exact BK204.out⟩,⟨by repeat(first|(with_reducible first|exact HB.out|apply below_alloc|apply pw_below_drewN|apply below_drew1|refine below_set ?_ GE203.out|refine below_set ?_ GE204.out)|exact HB.out)⟩⟩
    case round =>
     clear H'
     try clear c1
     try clear p2
     try clear c3
     try clear c6
     try clear c6b0
     try clear c6b1
     try clear c7
     try clear c7b0
     try clear c7b1
     try clear c8
     try clear c11
     try clear c14
     try clear c17
     try clear hcz10_0
     try clear hcz10_1
     try clear hcz10_2
     try clear hcz12_0
     try clear hcz12_1
     try clear hcz12_2
     try clear hcz13_0
     try clear hcz13_1
     try clear hcz13_2
     try clear hcz15_0
     try clear hcz15_1
     try clear hcz15_2
     try clear hcz16_0
     try clear hcz16_1
     try clear hcz16_2
     try clear hcz9_0
     try clear hcz9_1
     try clear hcz9_2
     try clear hfz10_0
     try clear hfz10_1
     try clear hfz10_2
     try clear hfz12_0
     try clear hfz12_1
     try clear hfz12_2
     try clear hfz13_0
     try clear hfz13_1
     try clear hfz13_2
     try clear hfz15_0
     try clear hfz15_1
     try clear hfz15_2
     try clear hfz16_0
     try clear hfz16_1
     try clear hfz16_2
     try clear hfz9_0
     try clear hfz9_1
     try clear hfz9_2
     try clear p2
     obtain ⟨x5_2,rfl,HA,HK2,BK203,BK204,HB⟩:=hrel
     cases gk with
     | zero=>exact absurd HA.out (by simp [hornbeamref11_Same.l0])
     | succ k2 =>
      have H:=HA.out
      clear HA
      simp only [hornbeamref11_Same.l0] at H
      by_cases c18 : x5_2 < (l0_2.length : Int)
      ·rw [if_pos c18] at H
       have c18b0 : decide (x5_2 < (l0_2.length : Int)) = true:=decide_eq_true c18
       clear c18
       by_cases c19 : 0 ≤ x5_2
       ·rw [if_pos c19] at H
        have c19b0 : decide (0 ≤ x5_2) = true:=decide_eq_true c19
        clear c19
        by_cases c20 : x5_2 < (l1_2.length : Int)
        ·rw [if_pos c20] at H
         have c20b0 : decide (x5_2 < (l1_2.length : Int)) = true:=decide_eq_true c20
         clear c20
         by_cases c21 : (rd l0_2 x5_2) = (rd l1_2 x5_2)
         ·rw [if_pos c21] at H
          have c21b0 : ((rd l0_2 x5_2) == (rd l1_2 x5_2)) = true:=beq_iff_eq.mpr c21
          have c21b1 : ((rd l0_2 x5_2) != (rd l1_2 x5_2)) = false:=bne_eq_false_iff_eq.mpr c21
          clear c21
          have H':=Aside0.mk H
          clear H
          have hnb22:=NB203_204.out
          have hnc22:=NB204_203.out
          have hcz23_0 : wr.cell? ⟨gb203,0,none⟩ = some (.int .i64 a0_0):=(blk_cell BK203.out 0).trans rfl
          have hcz23_1 : wr.cell? ⟨gb203,1,none⟩ = some (.int .i64 a0_1):=(blk_cell BK203.out 1).trans rfl
          have hcz23_2 : wr.cell? ⟨gb203,2,none⟩ = some (.slice A0_2 l0_2.length c0_2):=(blk_cell BK203.out 2).trans rfl
          have hfz23_0:=blk_frozen BK203.out 0
          have hfz23_1:=blk_frozen BK203.out 1
          have hfz23_2:=blk_frozen BK203.out 2
          have p205 : 0 ≤ (x5_2 : Int):=of_decide_eq_true (by first|(with_reducible assumption)|assumption)
          have q205 : x5_2 < (l0_2.length : Int):=of_decide_eq_true (by first|(with_reducible assumption)|assumption)
          obtain ⟨ad205,e205,hx205_0⟩:=Kd.at_int HR0_2.out x5_2 p205 q205
          cases e205
          replace hx205_0:=(HB.out.cell (World.block_lt_of_cell? w _ hx205_0)).trans hx205_0
          replace p205:=eq_true p205
          replace q205:=eq_true q205
          have hcz24_0 : wr.cell? ⟨gb204,0,none⟩ = some (.int .i64 a1_0):=(blk_cell BK204.out 0).trans rfl
          have hcz24_1 : wr.cell? ⟨gb204,1,none⟩ = some (.int .i64 a1_1):=(blk_cell BK204.out 1).trans rfl
          have hcz24_2 : wr.cell? ⟨gb204,2,none⟩ = some (.slice A1_2 l1_2.length c1_2):=(blk_cell BK204.out 2).trans rfl
          have hfz24_0:=blk_frozen BK204.out 0
          have hfz24_1:=blk_frozen BK204.out 1
          have hfz24_2:=blk_frozen BK204.out 2
          have p206 : 0 ≤ (x5_2 : Int):=of_decide_eq_true (by first|(with_reducible assumption)|assumption)
          have q206 : x5_2 < (l1_2.length : Int):=of_decide_eq_true (by first|(with_reducible assumption)|assumption)
          obtain ⟨ad206,e206,hx206_0⟩:=Kd.at_int HR1_2.out x5_2 p206 q206
          cases e206
          replace hx206_0:=(HB.out.cell (World.block_lt_of_cell? w _ hx206_0)).trans hx206_0
          replace p206:=eq_true p206
          replace q206:=eq_true q206
          go_wp2
          repeat (go_quiet (fail);try go_wp2)
          go_roundg k2
          case measure=>have:=HJ2.out;have:=HK2.out;omega
          case rel=>exact ⟨(wrap64 (x5_2 + 1)),(by first|rfl|(simp;done)|(simp [*];done)),H',⟨by have:=HJ2.out;have:=HK2.out;omega⟩,⟨by (with_reducible repeat(first|refine blk_drewN ?_ _|refine blk_drew ?_|refine blk_alloc ?_ _));exact BK203.out⟩,⟨by (with_reducible repeat(first|refine blk_drewN ?_ _|refine blk_drew ?_|refine blk_alloc ?_ _));exact BK204.out⟩,⟨by repeat(first|(with_reducible first|exact HB.out|apply below_alloc|apply pw_below_drewN|apply below_drew1|refine below_set ?_ GE203.out|refine below_set ?_ GE204.out)|exact HB.out)⟩⟩
         ·rw [if_neg c21] at H
          have c21b0 : ((rd l0_2 x5_2) == (rd l1_2 x5_2)) = false:=beq_eq_false_iff_ne.mpr c21
          have c21b1 : ((rd l0_2 x5_2) != (rd l1_2 x5_2)) = true:=bne_iff_ne.mpr c21
          obtain rfl:=Option.some.inj H
          have hnb25:=NB203_204.out
          have hnc25:=NB204_203.out
          have hcz26_0 : wr.cell? ⟨gb203,0,none⟩ = some (.int .i64 a0_0):=(blk_cell BK203.out 0).trans rfl
          have hcz26_1 : wr.cell? ⟨gb203,1,none⟩ = some (.int .i64 a0_1):=(blk_cell BK203.out 1).trans rfl
          have hcz26_2 : wr.cell? ⟨gb203,2,none⟩ = some (.slice A0_2 l0_2.length c0_2):=(blk_cell BK203.out 2).trans rfl
          have hfz26_0:=blk_frozen BK203.out 0
          have hfz26_1:=blk_frozen BK203.out 1
          have hfz26_2:=blk_frozen BK203.out 2
          have p205 : 0 ≤ (x5_2 : Int):=of_decide_eq_true (by first|(with_reducible assumption)|assumption)
          have q205 : x5_2 < (l0_2.length : Int):=of_decide_eq_true (by first|(with_reducible assumption)|assumption)
          obtain ⟨ad205,e205,hx205_0⟩:=Kd.at_int HR0_2.out x5_2 p205 q205
          cases e205
          replace hx205_0:=(HB.out.cell (World.block_lt_of_cell? w _ hx205_0)).trans hx205_0
          replace p205:=eq_true p205
          replace q205:=eq_true q205
          have hcz27_0 : wr.cell? ⟨gb204,0,none⟩ = some (.int .i64 a1_0):=(blk_cell BK204.out 0).trans rfl
          have hcz27_1 : wr.cell? ⟨gb204,1,none⟩ = some (.int .i64 a1_1):=(blk_cell BK204.out 1).trans rfl
          have hcz27_2 : wr.cell? ⟨gb204,2,none⟩ = some (.slice A1_2 l1_2.length c1_2):=(blk_cell BK204.out 2).trans rfl
          have hfz27_0:=blk_frozen BK204.out 0
          have hfz27_1:=blk_frozen BK204.out 1
          have hfz27_2:=blk_frozen BK204.out 2
          have p206 : 0 ≤ (x5_2 : Int):=of_decide_eq_true (by first|(with_reducible assumption)|assumption)
          have q206 : x5_2 < (l1_2.length : Int):=of_decide_eq_true (by first|(with_reducible assumption)|assumption)
          obtain ⟨ad206,e206,hx206_0⟩:=Kd.at_int HR1_2.out x5_2 p206 q206
          cases e206
          replace hx206_0:=(HB.out.cell (World.block_lt_of_cell? w _ hx206_0)).trans hx206_0
          replace p206:=eq_true p206
          replace q206:=eq_true q206
          go_wp2
          repeat (go_quiet (fail);try go_wp2)
          go_ret
          exact ⟨by first|rfl|(simp [errW_none,errW_some] <;> rfl)|(simp [*,errW_none,errW_some] <;> rfl),by repeat(first|(with_reducible first|exact HB.out|apply below_alloc|apply pw_below_drewN|apply below_drew1|refine below_set ?_ GE203.out|refine below_set ?_ GE204.out)|exact HB.out)⟩
        ·rw [if_neg c20] at H
         exact absurd H (by simp)
       ·rw [if_neg c19] at H
        exact absurd H (by simp)
      ·rw [if_neg c18] at H
       have c18b0 : decide (x5_2 < (l0_2.length : Int)) = false:=decide_eq_false c18
       clear c18
       obtain rfl:=Option.some.inj H
       have hnb28:=NB203_204.out
       have hnc28:=NB204_203.out
       have hcz29_0 : wr.cell? ⟨gb203,0,none⟩ = some (.int .i64 a0_0):=(blk_cell BK203.out 0).trans rfl
       have hcz29_1 : wr.cell? ⟨gb203,1,none⟩ = some (.int .i64 a0_1):=(blk_cell BK203.out 1).trans rfl
       have hcz29_2 : wr.cell? ⟨gb203,2,none⟩ = some (.slice A0_2 l0_2.length c0_2):=(blk_cell BK203.out 2).trans rfl
       have hfz29_0:=blk_frozen BK203.out 0
       have hfz29_1:=blk_frozen BK203.out 1
       have hfz29_2:=blk_frozen BK203.out 2
       go_wp2
       repeat (go_quiet (fail);try go_wp2)
       go_ret
       exact ⟨by first|rfl|(simp [errW_none,errW_some] <;> rfl)|(simp [*,errW_none,errW_some] <;> rfl),by repeat(first|(with_reducible first|exact HB.out|apply below_alloc|apply pw_below_drewN|apply below_drew1|refine below_set ?_ GE203.out|refine below_set ?_ GE204.out)|exact HB.out)⟩

/-- What is left to prove of hornbeamref11_Same. -/
def hornbeamref11_Same.Pure : Prop:=∀ (a0_0 : Int) (a0_1 : Int) (l0_2 : List Int) (a1_0 : Int) (a1_1 : Int) (l1_2 : List Int),((((Lit.int .i64 a0_0).wf = true) ∧ (((Lit.int .i64 a0_1).wf = true) ∧ ((l0_2.length ≤ 9223372036854775807 ∧ l0_2.length * 2 ≤ 140737488351232 ∧ ∀ x ∈ l0_2,(Lit.int .u16 x).wf = true))))) → ((((Lit.int .i64 a1_0).wf = true) ∧ (((Lit.int .i64 a1_1).wf = true) ∧ ((l1_2.length ≤ 9223372036854775807 ∧ l1_2.length * 2 ≤ 140737488351232 ∧ ∀ x ∈ l1_2,(Lit.int .u16 x).wf = true))))) → ∃ k,hornbeamref11_Same.f k a0_0 a0_1 l0_2 a1_0 a1_1 l1_2 = some true

/-! ### hornbeamref11_Few: function 69 -/
def hornbeamref11_Few.f (a0 : Int) : Option (Bool):=if a0 ≥ 0 then (some (decide (a0 ≤ 16777216))) else (some false)
set_option maxHeartbeats 8000000 in
set_option maxRecDepth 100000 in
theorem hornbeamref11_Few.calls (a0 : Int) (r : Bool) (w : World) (h : hornbeamref11_Few.f a0 = some r) :
  Calls Try.prog 69 #[.int .i64 a0] w fun e w'=>e = .returned (.bool r) ∧ Drawn0 w w':=by
 have H : (if a0 ≥ 0 then (some (decide (a0 ≤ 16777216))) else (some false)) = some r:=h
 clear h
 by_cases c2 : a0 ≥ 0
 ·rw [if_pos c2] at H
  have c2b0 : decide (0 ≤ a0) = true:=decide_eq_true c2
  clear c2
  obtain rfl:=Option.some.inj H
  go_enter Try.func69,Try.ntmps69
  go_wp2
  go_ret
  exact ⟨by first|rfl|(simp;done)|(simp [*];done),by repeat(first|exact Drawn0.refl _|apply Drawn0.step)⟩
 ·rw [if_neg c2] at H
  have c2b0 : decide (0 ≤ a0) = false:=decide_eq_false c2
  clear c2
  obtain rfl:=Option.some.inj H
  go_enter Try.func69,Try.ntmps69
  go_wp2
  go_ret
  exact ⟨by first|rfl|(simp;done)|(simp [*];done),by repeat(first|exact Drawn0.refl _|apply Drawn0.step)⟩

/-! ### hornbeamref06_Bits: function 64 -/
def hornbeamref06_Bits.f (a0 : Nat) : Option (Int):=(hornbeamref06_Missing.f a0).bind fun t207=>(if t207 = true then (some 9221120237041090561) else (if (Flt.ge a0 0) = true then (if (Flt.le a0 0) = true then (some 0) else (some (Flt.ubits a0))) else (some (Flt.ubits a0))))
set_option maxHeartbeats 8000000 in
set_option maxRecDepth 100000 in
theorem hornbeamref06_Bits.calls (a0 : Nat) (r : Int) (w : World) (h : hornbeamref06_Bits.f a0 = some r) :
  Calls Try.prog 64 #[.float .f64 a0] w fun e w'=>e = .returned (.int .u64 r) ∧ Drawn0 w w':=by
 have H : ((hornbeamref06_Missing.f a0).bind fun t207=>(if t207 = true then (some 9221120237041090561) else (if (Flt.ge a0 0) = true then (if (Flt.le a0 0) = true then (some 0) else (some (Flt.ubits a0))) else (some (Flt.ubits a0))))) = some r:=h
 clear h
 replace H:=Option.bind_eq_some_iff.mp H
 obtain ⟨t207,A20,H⟩:=H
 replace H : (if t207 = true then (some 9221120237041090561) else (if (Flt.ge a0 0) = true then (if (Flt.le a0 0) = true then (some 0) else (some (Flt.ubits a0))) else (some (Flt.ubits a0)))) = some r:=H
 have A2:=Aside0.mk A20
 clear A20
 by_cases c3 : t207 = true
 ·subst c3
  have H1 : (some 9221120237041090561) = some r:=by rw [if_pos rfl] at H;exact H
  clear H
  have H:=H1
  clear H1
  obtain rfl:=Option.some.inj H
  go_enter Try.func64,Try.ntmps64
  go_wp2_with (first|((with_reducible refine gate_callee (f:=38) rfl ?_);refine goesL_ (some 4) rfl rfl Try.func38 (by kernel_rfl) rfl #[.float .f64 a0] rfl (by (try simp only [List.map_toArray,List.map_cons,List.map_nil]);first|done|rfl|(simp only [List.length_drop,List.length_take];rfl)) ?_;(with_reducible refine (hornbeamref06_Missing.calls a0 true _ A2.out).mono ?_);rintro e w' ⟨rfl,⟨nd,rfl⟩⟩;refine ⟨_,rfl,?_⟩))
  go_ret
  exact ⟨by first|rfl|(simp;done)|(simp [*];done),by repeat(first|exact Drawn0.refl _|apply Drawn0.step)⟩
 ·replace c3:=Bool.eq_false_iff.mpr c3
  subst c3
  have H1 : (if (Flt.ge a0 0) = true then (if (Flt.le a0 0) = true then (some 0) else (some (Flt.ubits a0))) else (some (Flt.ubits a0))) = some r:=by rw [if_neg (show ¬ (false = true) by decide)] at H;exact H
  clear H
  have H:=H1
  clear H1
  by_cases c4 : (Flt.ge a0 0) = true
  ·rw [if_pos c4] at H
   have c4b0 : (Flt.ge a0 0) = true:=c4
   clear c4
   by_cases c5 : (Flt.le a0 0) = true
   ·rw [if_pos c5] at H
    have c5b0 : (Flt.le a0 0) = true:=c5
    clear c5
    obtain rfl:=Option.some.inj H
    go_enter Try.func64,Try.ntmps64
    go_wp2_with (first|((with_reducible refine gate_callee (f:=38) rfl ?_);refine goesL_ (some 4) rfl rfl Try.func38 (by kernel_rfl) rfl #[.float .f64 a0] rfl (by (try simp only [List.map_toArray,List.map_cons,List.map_nil]);first|done|rfl|(simp only [List.length_drop,List.length_take];rfl)) ?_;(with_reducible refine (hornbeamref06_Missing.calls a0 false _ A2.out).mono ?_);rintro e w' ⟨rfl,⟨nd,rfl⟩⟩;refine ⟨_,rfl,?_⟩))
    go_ret
    exact ⟨by first|rfl|(simp;done)|(simp [*];done),by repeat(first|exact Drawn0.refl _|apply Drawn0.step)⟩
   ·rw [if_neg c5] at H
    have c5b0 : (Flt.le a0 0) = false:=by simpa using c5
    clear c5
    obtain rfl:=Option.some.inj H
    go_enter Try.func64,Try.ntmps64
    go_wp2_with (first|((with_reducible refine gate_callee (f:=38) rfl ?_);refine goesL_ (some 4) rfl rfl Try.func38 (by kernel_rfl) rfl #[.float .f64 a0] rfl (by (try simp only [List.map_toArray,List.map_cons,List.map_nil]);first|done|rfl|(simp only [List.length_drop,List.length_take];rfl)) ?_;(with_reducible refine (hornbeamref06_Missing.calls a0 false _ A2.out).mono ?_);rintro e w' ⟨rfl,⟨nd,rfl⟩⟩;refine ⟨_,rfl,?_⟩))
    go_ret
    exact ⟨by first|rfl|(simp;done)|(simp [*];done),by repeat(first|exact Drawn0.refl _|apply Drawn0.step)⟩
  ·rw [if_neg c4] at H
   have c4b0 : (Flt.ge a0 0) = false:=by simpa using c4
   clear c4
   obtain rfl:=Option.some.inj H
   go_enter Try.func64,Try.ntmps64
   go_wp2_with (first|((with_reducible refine gate_callee (f:=38) rfl ?_);refine goesL_ (some 4) rfl rfl Try.func38 (by kernel_rfl) rfl #[.float .f64 a0] rfl (by (try simp only [List.map_toArray,List.map_cons,List.map_nil]);first|done|rfl|(simp only [List.length_drop,List.length_take];rfl)) ?_;(with_reducible refine (hornbeamref06_Missing.calls a0 false _ A2.out).mono ?_);rintro e w' ⟨rfl,⟨nd,rfl⟩⟩;refine ⟨_,rfl,?_⟩))
   go_ret
   exact ⟨by first|rfl|(simp;done)|(simp [*];done),by repeat(first|exact Drawn0.refl _|apply Drawn0.step)⟩

/-! ### hornbeamref06_Clean: function 43 -/
def hornbeamref06_Clean.f (a0 : Nat) : Option (Nat):=(hornbeamref06_Bits.f a0).bind fun t208=>(some (Flt.fbits t208))
set_option maxHeartbeats 8000000 in
set_option maxRecDepth 100000 in
theorem hornbeamref06_Clean.calls (a0 : Nat) (r : Nat) (w : World) (h : hornbeamref06_Clean.f a0 = some r) :
  Calls Try.prog 43 #[.float .f64 a0] w fun e w'=>e = .returned (.float .f64 r) ∧ Drawn0 w w':=by
 have H : ((hornbeamref06_Bits.f a0).bind fun t208=>(some (Flt.fbits t208))) = some r:=h
 clear h
 replace H:=Option.bind_eq_some_iff.mp H
 obtain ⟨t208,A20,H⟩:=H
 replace H : (some (Flt.fbits t208)) = some r:=H
 have A2:=Aside0.mk A20
 clear A20
 obtain rfl:=Option.some.inj H
 go_enter Try.func43,Try.ntmps43
 go_wp2_with (first|((with_reducible refine gate_callee (f:=64) rfl ?_);refine goesL_ (some 4) rfl rfl Try.func64 (by kernel_rfl) rfl #[.float .f64 a0] rfl (by (try simp only [List.map_toArray,List.map_cons,List.map_nil]);first|done|rfl|(simp only [List.length_drop,List.length_take];rfl)) ?_;(with_reducible refine (hornbeamref06_Bits.calls a0 t208 _ A2.out).mono ?_);rintro e w' ⟨rfl,⟨nd,rfl⟩⟩;refine ⟨_,rfl,?_⟩))
 go_ret
 exact ⟨by first|rfl|(simp;done)|(simp [*];done),by repeat(first|exact Drawn0.refl _|apply Drawn0.step)⟩

end Go.Proofs.Ytnagfbadjbkhmaa.PB
