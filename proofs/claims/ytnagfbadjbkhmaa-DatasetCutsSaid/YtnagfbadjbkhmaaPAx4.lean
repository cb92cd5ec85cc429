import Derived.Test.YtnagfbadjbkhmaaPAx0
namespace Go.Proofs.Ytnagfbadjbkhmaa.PA
open Go.RowKit Go.Proofs.YtnagfbadjbkhmaaW.PrintWords Go.Proofs.YtnagfbadjbkhmaaW.PrintLast Go.Proofs.YtnagfbadjbkhmaaW.PrintMore
attribute [local go_sem] max2_int min2_int max_two min_two max_three min_three max_four min_four   -- for this text's walks alone
attribute [local go_sem high] Flt.fold_eq Flt.fold_ne Flt.fold_lt Flt.fold_gt Flt.fold_le Flt.fold_ge Flt.run_bits Flt.run_frombits
set_option linter.unusedVariables false
set_option linter.unusedSimpArgs false

/-! ### dataset_counts: function 48 -/
def dataset_counts.f (a0_0 : Int) (a0_1 : Int) (a0_2 : Int) (a0_3 : Int) (a0_4 : Int) (a0_5 : Int) (a0_6 : Int) (a0_7 : Int) (a0_8 : Int) (l0_9 : List Nat) (l0_10 : List Int) : Option (Int):=if a0_7 = 0 then (some 3) else (if a0_7 > 1048576 then (some 4) else (if a0_8 = 0 then (some 3) else (if a0_8 > 1024 then (some 4) else (if (wrap64 (a0_7 * a0_8)) > 16777216 then (some 4) else (some 0)))))
set_option maxHeartbeats 8000000 in
set_option maxRecDepth 100000 in
theorem dataset_counts.calls (a0_0 : Int) (a0_1 : Int) (a0_2 : Int) (a0_3 : Int) (a0_4 : Int) (a0_5 : Int) (a0_6 : Int) (a0_7 : Int) (a0_8 : Int) (A0_9 : Option Addr) (c0_9 : Nat) (l0_9 : List Nat) (A0_10 : Option Addr) (c0_10 : Nat) (l0_10 : List Int) (r : Int) (w : World) (hr0_9 : Kd.C Flt.kf w A0_9 l0_9.length l0_9) (hc0_9 : l0_9.length ≤ c0_9) (hr0_10 : Kd.C (Kd.int .i64) w A0_10 l0_10.length l0_10) (hc0_10 : l0_10.length ≤ c0_10) (h : dataset_counts.f a0_0 a0_1 a0_2 a0_3 a0_4 a0_5 a0_6 a0_7 a0_8 l0_9 l0_10 = some r) :
  Calls Try.prog 48 #[.agg #[.int .i64 a0_0,.int .i64 a0_1,.int .i64 a0_2,.int .i64 a0_3,.int .i64 a0_4,.int .i64 a0_5,.int .i64 a0_6,.int .i64 a0_7,.int .i64 a0_8,.slice A0_9 l0_9.length c0_9,.slice A0_10 l0_10.length c0_10]] w fun e w'=>e = .returned (.int .i64 r) ∧ Below w.heap.size w w':=by
 have hu32:=Try.underlying32
 have HR0_9:=Aside0.mk hr0_9
 have HC0_9:=Aside0.mk hc0_9
 clear hr0_9 hc0_9
 have HR0_10:=Aside0.mk hr0_10
 have HC0_10:=Aside0.mk hc0_10
 clear hr0_10 hc0_10
 have HB:=Aside0.mk (Below.refl w.heap.size w)
 have H : (if a0_7 = 0 then (some 3) else (if a0_7 > 1048576 then (some 4) else (if a0_8 = 0 then (some 3) else (if a0_8 > 1024 then (some 4) else (if (wrap64 (a0_7 * a0_8)) > 16777216 then (some 4) else (some 0)))))) = some r:=h
 clear h
 by_cases c2 : a0_7 = 0
 ·rw [if_pos c2] at H
  have c2b0 : (a0_7 == 0) = true:=beq_iff_eq.mpr c2
  have c2b1 : (a0_7 != 0) = false:=bne_eq_false_iff_eq.mpr c2
  clear c2
  obtain rfl:=Option.some.inj H
  go_enter Try.func48,Try.ntmps48
  go_wp2_with (first|((with_reducible refine gate_dst (N:=1) rfl ?_);refine box_event ?hg (N:=1) ?hd (cs:=#[.int .i64 a0_0,.int .i64 a0_1,.int .i64 a0_2,.int .i64 a0_3,.int .i64 a0_4,.int .i64 a0_5,.int .i64 a0_6,.int .i64 a0_7,.int .i64 a0_8,.slice A0_9 l0_9.length c0_9,.slice A0_10 l0_10.length c0_10]) (t:=32) ?hr ?_;(case hd=>rfl);(case hg=>rfl);(case hr=>first|(go_simp;done)|(go_simp;rfl));intro gb142 hg w3 hbox hb;have n0_:=Aside0.mk (below_step (by repeat(first|(with_reducible first|exact HB.out|apply below_alloc|apply pw_below_drewN|apply below_drew1)|exact HB.out)) hb);have n1_:=Aside0.mk (hbox);have n2_:=Aside0.mk ((by rw [hg];exact (below_size (by repeat(first|(with_reducible first|exact HB.out|apply below_alloc|apply pw_below_drewN|apply below_drew1)|exact HB.out))) : w.heap.size ≤ gb142));have n3_:=Aside0.mk ((by rw [hg];exact (below_size (by repeat(first|(with_reducible first|exact HB.out|apply below_alloc|apply pw_below_drewN|apply below_drew1)|exact HB.out))) : w.heap.size ≤ gb142));clear HB;have HB:=n0_;have BK142:=n1_;have GW142:=n2_;have GE142:=n3_;clear n0_ n1_ n2_ n3_;clear hb hbox hg;have hcz4_0 : w3.cell? ⟨gb142,0,none⟩ = some (.int .i64 a0_0):=(blk_cell BK142.out 0).trans rfl;have hcz4_1 : w3.cell? ⟨gb142,1,none⟩ = some (.int .i64 a0_1):=(blk_cell BK142.out 1).trans rfl;have hcz4_2 : w3.cell? ⟨gb142,2,none⟩ = some (.int .i64 a0_2):=(blk_cell BK142.out 2).trans rfl;have hcz4_3 : w3.cell? ⟨gb142,3,none⟩ = some (.int .i64 a0_3):=(blk_cell BK142.out 3).trans rfl;have hcz4_4 : w3.cell? ⟨gb142,4,none⟩ = some (.int .i64 a0_4):=(blk_cell BK142.out 4).trans rfl;have hcz4_5 : w3.cell? ⟨gb142,5,none⟩ = some (.int .i64 a0_5):=(blk_cell BK142.out 5).trans rfl;have hcz4_6 : w3.cell? ⟨gb142,6,none⟩ = some (.int .i64 a0_6):=(blk_cell BK142.out 6).trans rfl;have hcz4_7 : w3.cell? ⟨gb142,7,none⟩ = some (.int .i64 a0_7):=(blk_cell BK142.out 7).trans rfl;have hcz4_8 : w3.cell? ⟨gb142,8,none⟩ = some (.int .i64 a0_8):=(blk_cell BK142.out 8).trans rfl;have hcz4_9 : w3.cell? ⟨gb142,9,none⟩ = some (.slice A0_9 l0_9.length c0_9):=(blk_cell BK142.out 9).trans rfl;have hcz4_10 : w3.cell? ⟨gb142,10,none⟩ = some (.slice A0_10 l0_10.length c0_10):=(blk_cell BK142.out 10).trans rfl;have hfz4_0:=blk_frozen BK142.out 0;have hfz4_1:=blk_frozen BK142.out 1;have hfz4_2:=blk_frozen BK142.out 2;have hfz4_3:=blk_frozen BK142.out 3;have hfz4_4:=blk_frozen BK142.out 4;have hfz4_5:=blk_frozen BK142.out 5;have hfz4_6:=blk_frozen BK142.out 6;have hfz4_7:=blk_frozen BK142.out 7;have hfz4_8:=blk_frozen BK142.out 8;have hfz4_9:=blk_frozen BK142.out 9;have hfz4_10:=blk_frozen BK142.out 10))
  go_ret
  exact ⟨by first|rfl|(simp [errW_none,errW_some] <;> rfl)|(simp [*,errW_none,errW_some] <;> rfl),by repeat(first|(with_reducible first|exact HB.out|apply below_alloc|apply pw_below_drewN|apply below_drew1|refine below_set ?_ GE142.out)|exact HB.out)⟩
 ·rw [if_neg c2] at H
  have c2b0 : (a0_7 == 0) = false:=beq_eq_false_iff_ne.mpr c2
  have c2b1 : (a0_7 != 0) = true:=bne_iff_ne.mpr c2
  by_cases c5 : a0_7 > 1048576
  ·rw [if_pos c5] at H
   have c5b0 : decide (1048576 < a0_7) = true:=decide_eq_true c5
   clear c5
   obtain rfl:=Option.some.inj H
   go_enter Try.func48,Try.ntmps48
   go_wp2_with (first|((with_reducible refine gate_dst (N:=1) rfl ?_);refine box_event ?hg (N:=1) ?hd (cs:=#[.int .i64 a0_0,.int .i64 a0_1,.int .i64 a0_2,.int .i64 a0_3,.int .i64 a0_4,.int .i64 a0_5,.int .i64 a0_6,.int .i64 a0_7,.int .i64 a0_8,.slice A0_9 l0_9.length c0_9,.slice A0_10 l0_10.length c0_10]) (t:=32) ?hr ?_;(case hd=>rfl);(case hg=>rfl);(case hr=>first|(go_simp;done)|(go_simp;rfl));intro gb142 hg w6 hbox hb;have n0_:=Aside0.mk (below_step (by repeat(first|(with_reducible first|exact HB.out|apply below_alloc|apply pw_below_drewN|apply below_drew1)|exact HB.out)) hb);have n1_:=Aside0.mk (hbox);have n2_:=Aside0.mk ((by rw [hg];exact (below_size (by repeat(first|(with_reducible first|exact HB.out|apply below_alloc|apply pw_below_drewN|apply below_drew1)|exact HB.out))) : w.heap.size ≤ gb142));have n3_:=Aside0.mk ((by rw [hg];exact (below_size (by repeat(first|(with_reducible first|exact HB.out|apply below_alloc|apply pw_below_drewN|apply below_drew1)|exact HB.out))) : w.heap.size ≤ gb142));clear HB;have HB:=n0_;have BK142:=n1_;have GW142:=n2_;have GE142:=n3_;clear n0_ n1_ n2_ n3_;clear hb hbox hg;have hcz7_0 : w6.cell? ⟨gb142,0,none⟩ = some (.int .i64 a0_0):=(blk_cell BK142.out 0).trans rfl;have hcz7_1 : w6.cell? ⟨gb142,1,none⟩ = some (.int .i64 a0_1):=(blk_cell BK142.out 1).trans rfl;have hcz7_2 : w6.cell? ⟨gb142,2,none⟩ = some (.int .i64 a0_2):=(blk_cell BK142.out 2).trans rfl;have hcz7_3 : w6.cell? ⟨gb142,3,none⟩ = some (.int .i64 a0_3):=(blk_cell BK142.out 3).trans rfl;have hcz7_4 : w6.cell? ⟨gb142,4,none⟩ = some (.int .i64 a0_4):=(blk_cell BK142.out 4).trans rfl;have hcz7_5 : w6.cell? ⟨gb142,5,none⟩ = some (.int .i64 a0_5):=(blk_cell BK142.out 5).trans rfl;have hcz7_6 : w6.cell? ⟨gb142,6,none⟩ = some (.int .i64 a0_6):=(blk_cell BK142.out 6).trans rfl;have hcz7_7 : w6.cell? ⟨gb142,7,none⟩ = some (.int .i64 a0_7):=(blk_cell BK142.out 7).trans rfl;have hcz7_8 : w6.cell? ⟨gb142,8,none⟩ = some (.int .i64 a0_8):=(blk_cell BK142.out 8).trans rfl;have hcz7_9 : w6.cell? ⟨gb142,9,none⟩ = some (.slice A0_9 l0_9.length c0_9):=(blk_cell BK142.out 9).trans rfl;have hcz7_10 : w6.cell? ⟨gb142,10,none⟩ = some (.slice A0_10 l0_10.length c0_10):=(blk_cell BK142.out 10).trans rfl;have hfz7_0:=blk_frozen BK142.out 0;have hfz7_1:=blk_frozen BK142.out 1;have hfz7_2:=blk_frozen BK142.out 2;have hfz7_3:=blk_frozen BK142.out 3;have hfz7_4:=blk_frozen BK142.out 4;have hfz7_5:=blk_frozen BK142.out 5;have hfz7_6:=blk_frozen BK142.out 6;have hfz7_7:=blk_frozen BK142.out 7;have hfz7_8:=blk_frozen BK142.out 8;have hfz7_9:=blk_frozen BK142.out 9;have hfz7_10:=blk_frozen BK142.out 10))
   go_ret
   exact ⟨by first|rfl|(simp [errW_none,errW_some] <;> rfl)|(simp [*,errW_none,errW_some] <;> rfl),by repeat(first|(with_reducible first|exact HB.out|apply below_alloc|apply pw_below_drewN|apply below_drew1|refine below_set ?_ GE142.out)|exact HB.out)⟩
  ·rw [if_neg c5] at H
   have c5b0 : decide (1048576 < a0_7) = false:=decide_eq_false c5
   clear c5
   by_cases c8 : a0_8 = 0
   ·rw [if_pos c8] at H
    have c8b0 : (a0_8 == 0) = true:=beq_iff_eq.mpr c8
    have c8b1 : (a0_8 != 0) = false:=bne_eq_false_iff_eq.mpr c8
    clear c8
    obtain rfl:=Option.some.inj H
    go_enter Try.func48,Try.ntmps48
    go_wp2_with (first|((with_reducible refine gate_dst (N:=1) rfl ?_);refine box_event ?hg (N:=1) ?hd (cs:=#[.int .i64 a0_0,.int .i64 a0_1,.int .i64 a0_2,.int .i64 a0_3,.int .i64 a0_4,.int .i64 a0_5,.int .i64 a0_6,.int .i64 a0_7,.int .i64 a0_8,.slice A0_9 l0_9.length c0_9,.slice A0_10 l0_10.length c0_10]) (t:=32) ?hr ?_;(case hd=>rfl);(case hg=>rfl);(case hr=>first|(go_simp;done)|(go_simp;rfl));intro gb142 hg w9 hbox hb;have n0_:=Aside0.mk (below_step (by repeat(first|(with_reducible first|exact HB.out|apply below_alloc|apply pw_below_drewN|apply below_drew1)|exact HB.out)) hb);have n1_:=Aside0.mk (hbox);have n2_:=Aside0.mk ((by rw [hg];exact (below_size (by repeat(first|(with_reducible first|exact HB.out|apply below_alloc|apply pw_below_drewN|apply below_drew1)|exact HB.out))) : w.heap.size ≤ gb142));have n3_:=Aside0.mk ((by rw [hg];exact (below_size (by repeat(first|(with_reducible first|exact HB.out|apply below_alloc|apply pw_below_drewN|apply below_drew1)|exact HB.out))) : w.heap.size ≤ gb142));clear HB;have HB:=n0_;have BK142:=n1_;have GW142:=n2_;have GE142:=n3_;clear n0_ n1_ n2_ n3_;clear hb hbox hg;have hcz10_0 : w9.cell? ⟨gb142,0,none⟩ = some (.int .i64 a0_0):=(blk_cell BK142.out 0).trans rfl;have hcz10_1 : w9.cell? ⟨gb142,1,none⟩ = some (.int .i64 a0_1):=(blk_cell BK142.out 1).trans rfl;have hcz10_2 : w9.cell? ⟨gb142,2,none⟩ = some (.int .i64 a0_2):=(blk_cell BK142.out 2).trans rfl;have hcz10_3 : w9.cell? ⟨gb142,3,none⟩ = some (.int .i64 a0_3):=(blk_cell BK142.out 3).trans rfl;have hcz10_4 : w9.cell? ⟨gb142,4,none⟩ = some (.int .i64 a0_4):=(blk_cell BK142.out 4).trans rfl;have hcz10_5 : w9.cell? ⟨gb142,5,none⟩ = some (.int .i64 a0_5):=(blk_cell BK142.out 5).trans rfl;have hcz10_6 : w9.cell? ⟨gb142,6,none⟩ = some (.int .i64 a0_6):=(blk_cell BK142.out 6).trans rfl;have hcz10_7 : w9.cell? ⟨gb142,7,none⟩ = some (.int .i64 a0_7):=(blk_cell BK142.out 7).trans rfl;have hcz10_8 : w9.cell? ⟨gb142,8,none⟩ = some (.int .i64 a0_8):=(blk_cell BK142.out 8).trans rfl;have hcz10_9 : w9.cell? ⟨gb142,9,none⟩ = some (.slice A0_9 l0_9.length c0_9):=(blk_cell BK142.out 9).trans rfl;have hcz10_10 : w9.cell? ⟨gb142,10,none⟩ = some (.slice A0_10 l0_10.length c0_10):=(blk_cell BK142.out 10).trans rfl;have hfz10_0:=blk_frozen BK142.out 0;have hfz10_1:=blk_frozen BK142.out 1;have hfz10_2:=blk_frozen BK142.out 2;have hfz10_3:=blk_frozen BK142.out 3;have hfz10_4:=blk_frozen BK142.out 4;have hfz10_5:=blk_frozen BK142.out 5;have hfz10_6:=blk_frozen BK142.out 6;have hfz10_7:=blk_frozen BK142.out 7;have hfz10_8:=blk_frozen BK142.out 8;have hfz10_9:=blk_frozen BK142.out 9;have hfz10_10:=blk_frozen BK142.out 10))
    go_ret
    exact ⟨by first|rfl|(simp [errW_none,errW_some] <;> rfl)|(simp [*,errW_none,errW_some] <;> rfl),by repeat(first|(with_reducible first|exact HB.out|apply below_alloc|apply pw_below_drewN|apply below_drew1|refine below_set ?_ GE142.out)|exact HB.out)⟩
   ·rw [if_neg c8] at H
    have c8b0 : (a0_8 == 0) = false:=beq_eq_false_iff_ne.mpr c8
    have c8b1 : (a0_8 != 0) = true:=bne_iff_ne.mpr c8
    by_cases c11 : a0_8 > 1024
    ·rw [if_pos c11] at H
     have c11b0 : decide (1024 < a0_8) = true:=decide_eq_true c11
     clear c11
     obtain rfl:=Option.some.inj H
     go_enter Try.func48,Try.ntmps48
     go_wp2_with (first|((with_reducible refine gate_dst (N:=1) rfl ?_);refine box_event ?hg (N:=1) ?hd (cs:=#[.int .i64 a0_0,.int .i64 a0_1,.int .i64 a0_2,.int .i64 a0_3,.int .i64 a0_4,.int .i64 a0_5,.int .i64 a0_6,.int .i64 a0_7,.int .i64 a0_8,.slice A0_9 l0_9.length c0_9,.slice A0_10 l0_10.length c0_10]) (t:=32) ?hr ?_;(case hd=>rfl);(case hg=>rfl);(case hr=>first|(go_simp;done)|(go_simp;rfl));intro gb142 hg w12 hbox hb;have n0_:=Aside0.mk (below_step (by repeat(first|(with_reducible first|exact HB.out|apply below_alloc|apply pw_below_drewN|apply below_drew1)|exact HB.out)) hb);have n1_:=Aside0.mk (hbox);have n2_:=Aside0.mk ((by rw [hg];exact (below_size (by repeat(first|(with_reducible first|exact HB.out|apply below_alloc|apply pw_below_drewN|apply below_drew1)|exact HB.out))) : w.heap.size ≤ gb142));have n3_:=Aside0.mk ((by rw [hg];exact (below_size (by repeat(first|(with_reducible first|exact HB.out|apply below_alloc|apply pw_below_drewN|apply below_drew1)|exact HB.out))) : w.heap.size ≤ gb142));clear HB;have HB:=n0_;have BK142:=n1_;have GW142:=n2_;have GE142:=n3_;clear n0_ n1_ n2_ n3_;clear hb hbox hg;have hcz13_0 : w12.cell? ⟨gb142,0,none⟩ = some (.int .i64 a0_0):=(blk_cell BK142.out 0).trans rfl;have hcz13_1 : w12.cell? ⟨gb142,1,none⟩ = some (.int .i64 a0_1):=(blk_cell BK142.out 1).trans rfl;have hcz13_2 : w12.cell? ⟨gb142,2,none⟩ = some (.int .i64 a0_2):=(blk_cell BK142.out 2).trans rfl;have hcz13_3 : w12.cell? ⟨gb142,3,none⟩ = some (.int .i64 a0_3):=(blk_cell BK142.out 3).trans rfl;have hcz13_4 : w12.cell? ⟨gb142,4,none⟩ = some (.int .i64 a0_4):=(blk_cell BK142.out 4).trans rfl;have hcz13_5 : w12.cell? ⟨gb142,5,none⟩ = some (.int .i64 a0_5):=(blk_cell BK142.out 5).trans rfl;have hcz13_6 : w12.cell? ⟨gb142,6,none⟩ = some (.int .i64 a0_6):=(blk_cell BK142.out 6).trans rfl;have hcz13_7 : w12.cell? ⟨gb142,7,none⟩ = some (.int .i64 a0_7):=(blk_cell BK142.out 7).trans rfl;have hcz13_8 : w12.cell? ⟨gb142,8,none⟩ = some (.int .i64 a0_8):=(blk_cell BK142.out 8).trans rfl;have hcz13_9 : w12.cell? ⟨gb142,9,none⟩ = some (.slice A0_9 l0_9.length c0_9):=(blk_cell BK142.out 9).trans rfl;have hcz13_10 : w12.cell? ⟨gb142,10,none⟩ = some (.slice A0_10 l0_10.length c0_10):=(blk_cell BK142.out 10).trans rfl;have hfz13_0:=blk_frozen BK142.out 0;have hfz13_1:=blk_frozen BK142.out 1;have hfz13_2:=blk_frozen BK142.out 2;have hfz13_3:=blk_frozen BK142.out 3;have hfz13_4:=blk_frozen BK142.out 4;have hfz13_5:=blk_frozen BK142.out 5;have hfz13_6:=blk_frozen BK142.out 6;have hfz13_7:=blk_frozen BK142.out 7;have hfz13_8:=blk_frozen BK142.out 8;have hfz13_9:=blk_frozen BK142.out 9;have hfz13_10:=blk_frozen BK142.out 10))
     go_ret
     exact ⟨by first|rfl|(simp [errW_none,errW_some] <;> rfl)|(simp [*,errW_none,errW_some] <;> rfl),by repeat(first|(with_reducible first|exact HB.out|apply below_alloc|apply pw_below_drewN|apply below_drew1|refine below_set ?_ GE142.out)|exact HB.out)⟩
    ·rw [if_neg c11] at H
     have c11b0 : decide (1024 < a0_8) = false:=decide_eq_false c11
     clear c11
     by_cases c14 : (wrap64 (a0_7 * a0_8)) > 16777216
     ·rw [if_pos c14] at H
      have c14b0 : decide (16777216 < (wrap64 (a0_7 * a0_8))) = true:=decide_eq_true c14
      clear c14
      obtain rfl:=Option.some.inj H
      go_enter Try.func48,Try.ntmps48
      go_wp2_with (first|((with_reducible refine gate_dst (N:=1) rfl ?_);refine box_event ?hg (N:=1) ?hd (cs:=#[.int .i64 a0_0,.int .i64 a0_1,.int .i64 a0_2,.int .i64 a0_3,.int .i64 a0_4,.int .i64 a0_5,.int .i64 a0_6,.int .i64 a0_7,.int .i64 a0_8,.slice A0_9 l0_9.length c0_9,.slice A0_10 l0_10.length c0_10]) (t:=32) ?hr ?_;(case hd=>rfl);(case hg=>rfl);(case hr=>first|(go_simp;done)|(go_simp;rfl));intro gb142 hg w15 hbox hb;have n0_:=Aside0.mk (below_step (by repeat(first|(with_reducible first|exact HB.out|apply below_alloc|apply pw_below_drewN|apply below_drew1)|exact HB.out)) hb);have n1_:=Aside0.mk (hbox);have n2_:=Aside0.mk ((by rw [hg];exact (below_size (by repeat(first|(with_reducible first|exact HB.out|apply below_alloc|apply pw_below_drewN|apply below_drew1)|exact HB.out))) : w.heap.size ≤ gb142));have n3_:=Aside0.mk ((by rw [hg];exact (below_size (by repeat(first|(with_reducible first|exact HB.out|apply below_alloc|apply pw_below_drewN|apply below_drew1)|exact HB.out))) : w.heap.size ≤ gb142));clear HB;have HB:=n0_;have BK142:=n1_;have GW142:=n2_;have GE142:=n3_;clear n0_ n1_ n2_ n3_;clear hb hbox hg;have hcz16_0 : w15.cell? ⟨gb142,0,none⟩ = some (.int .i64 a0_0):=(blk_cell BK142.out 0).trans rfl;have hcz16_1 : w15.cell? ⟨gb142,1,none⟩ = some (.int .i64 a0_1):=(blk_cell BK142.out 1).trans rfl;have hcz16_2 : w15.cell? ⟨gb142,2,none⟩ = some (.int .i64 a0_2):=(blk_cell BK142.out 2).trans rfl;have hcz16_3 : w15.cell? ⟨gb142,3,none⟩ = some (.int .i64 a0_3):=(blk_cell BK142.out 3).trans rfl;have hcz16_4 : w15.cell? ⟨gb142,4,none⟩ = some (.int .i64 a0_4):=(blk_cell BK142.out 4).trans rfl;have hcz16_5 : w15.cell? ⟨gb142,5,none⟩ = some (.int .i64 a0_5):=(blk_cell BK142.out 5).trans rfl;have hcz16_6 : w15.cell? ⟨gb142,6,none⟩ = some (.int .i64 a0_6):=(blk_cell BK142.out 6).trans rfl;have hcz16_7 : w15.cell? ⟨gb142,7,none⟩ = some (.int .i64 a0_7):=(blk_cell BK142.out 7).trans rfl;have hcz16_8 : w15.cell? ⟨gb142,8,none⟩ = some (.int .i64 a0_8):=(blk_cell BK142.out 8).trans rfl;have hcz16_9 : w15.cell? ⟨gb142,9,none⟩ = some (.slice A0_9 l0_9.length c0_9):=(blk_cell BK142.out 9).trans rfl;have hcz16_10 : w15.cell? ⟨gb142,10,none⟩ = some (.slice A0_10 l0_10.length c0_10):=(blk_cell BK142.out 10).trans rfl;have hfz16_0:=blk_frozen BK142.out 0;have hfz16_1:=blk_frozen BK142.out 1;have hfz16_2:=blk_frozen BK142.out 2;have hfz16_3:=blk_frozen BK142.out 3;have hfz16_4:=blk_frozen BK142.out 4;have hfz16_5:=blk_frozen BK142.out 5;have hfz16_6:=blk_frozen BK142.out 6;have hfz16_7:=blk_frozen BK142.out 7;have hfz16_8:=blk_frozen BK142.out 8;have hfz16_9:=blk_frozen BK142.out 9;have hfz16_10:=blk_frozen BK142.out 10))
      go_ret
      exact ⟨by first|rfl|(simp [errW_none,errW_some] <;> rfl)|(simp [*,errW_none,errW_some] <;> rfl),by repeat(first|(with_reducible first|exact HB.out|apply below_alloc|apply pw_below_drewN|apply below_drew1|refine below_set ?_ GE142.out)|exact HB.out)⟩
     ·rw [if_neg c14] at H
      have c14b0 : decide (16777216 < (wrap64 (a0_7 * a0_8))) = false:=decide_eq_false c14
      clear c14
      obtain rfl:=Option.some.inj H
      go_enter Try.func48,Try.ntmps48
      go_wp2_with (first|((with_reducible refine gate_dst (N:=1) rfl ?_);refine box_event ?hg (N:=1) ?hd (cs:=#[.int .i64 a0_0,.int .i64 a0_1,.int .i64 a0_2,.int .i64 a0_3,.int .i64 a0_4,.int .i64 a0_5,.int .i64 a0_6,.int .i64 a0_7,.int .i64 a0_8,.slice A0_9 l0_9.length c0_9,.slice A0_10 l0_10.length c0_10]) (t:=32) ?hr ?_;(case hd=>rfl);(case hg=>rfl);(case hr=>first|(go_simp;done)|(go_simp;rfl));intro gb142 hg w17 hbox hb;have n0_:=Aside0.mk (below_step (by repeat(first|(with_reducible first|exact HB.out|apply below_alloc|apply pw_below_drewN|apply below_drew1)|exact HB.out)) hb);have n1_:=Aside0.mk (hbox);have n2_:=Aside0.mk ((by rw [hg];exact (below_size (by repeat(first|(with_reducible first|exact HB.out|apply below_alloc|apply pw_below_drewN|apply below_drew1)|exact HB.out))) : w.heap.size ≤ gb142));have n3_:=Aside0.mk ((by rw [hg];exact (below_size (by repeat(first|(with_reducible first|exact HB.out|apply below_alloc|apply pw_below_drewN|apply below_drew1)|exact HB.out))) : w.heap.size ≤ gb142));clear HB;have HB:=n0_;have BK142:=n1_;have GW142:=n2_;have GE142:=n3_;clear n0_ n1_ n2_ n3_;clear hb hbox hg;have hcz18_0 : w17.cell? ⟨gb142,0,none⟩ = some (.int .i64 a0_0):=(blk_cell BK142.out 0).trans rfl;have hcz18_1 : w17.cell? ⟨gb142,1,none⟩ = some (.int .i64 a0_1):=(blk_cell BK142.out 1).trans rfl;have hcz18_2 : w17.cell? ⟨gb142,2,none⟩ = some (.int .i64 a0_2):=(blk_cell BK142.out 2).trans rfl;have hcz18_3 : w17.cell? ⟨gb142,3,none⟩ = some (.int .i64 a0_3):=(blk_cell BK142.out 3).trans rfl;have hcz18_4 : w17.cell? ⟨gb142,4,none⟩ = some (.int .i64 a0_4):=(blk_cell BK142.out 4).trans rfl;have hcz18_5 : w17.cell? ⟨gb142,5,none⟩ = some (.int .i64 a0_5):=(blk_cell BK142.out 5).trans rfl;have hcz18_6 : w17.cell? ⟨gb142,6,none⟩ = some (.int .i64 a0_6):=(blk_cell BK142.out 6).trans rfl;have hcz18_7 : w17.cell? ⟨gb142,7,none⟩ = some (.int .i64 a0_7):=(blk_cell BK142.out 7).trans rfl;have hcz18_8 : w17.cell? ⟨gb142,8,none⟩ = some (.int .i64 a0_8):=(blk_cell BK142.out 8).trans rfl;have hcz18_9 : w17.cell? ⟨gb142,9,none⟩ = some (.slice A0_9 l0_9.length c0_9):=(blk_cell BK142.out 9).trans rfl;have hcz18_10 : w17.cell? ⟨gb142,10,none⟩ = some (.slice A0_10 l0_10.length c0_10):=(blk_cell BK142.out 10).trans rfl;have hfz18_0:=blk_frozen BK142.out 0;have hfz18_1:=blk_frozen BK142.out 1;have hfz18_2:=blk_frozen BK142.out 2;have hfz18_3:=blk_frozen BK142.out 3;have hfz18_4:=blk_frozen BK142.out 4;have hfz18_5:=blk_frozen BK142.out 5;have hfz18_6:=blk_frozen BK142.out 6;have hfz18_7:=blk_frozen BK142.out 7;have hfz18_8:=blk_frozen BK142.out 8;have hfz18_9:=blk_frozen BK142.out 9;have hfz18_10:=blk_frozen BK142.out 10))
      go_ret
      exact ⟨by first|rfl|(simp [errW_none,errW_some] <;> rfl)|(simp [*,errW_none,errW_some] <;> rfl),by repeat(first|(with_reducible first|exact HB.out|apply below_alloc|apply pw_below_drewN|apply below_drew1|refine below_set ?_ GE142.out)|exact HB.out)⟩

/-! ### slices_Clone_byte_byte: function 77 -/
def slices_Clone_byte_byte.f (l0 : List Int) : Option (List Int):=(some (([] : List Int) : List Int)).bind fun y143=>(if y143.length + l0.length < 140737488355328 then (some (y143 ++ l0)) else (none))
set_option maxHeartbeats 8000000 in
set_option maxRecDepth 100000 in
theorem slices_Clone_byte_byte.calls (A0 : Option Addr) (c0 : Nat) (l0 : List Int) (r : List Int) (w : World) (hr0 : Kd.C (Kd.int .u8) w A0 l0.length l0) (hc0 : l0.length ≤ c0) (h : slices_Clone_byte_byte.f l0 = some r) :
  Calls Try.prog 77 #[.slice A0 l0.length c0] w fun e w'=>∃ v0_ : Value,e = .returned (v0_) ∧ Kd.R (Kd.int .u8) 5 w' w.heap.size (fun _=>True) v0_ r ∧ Below w.heap.size w w':=by
 cases A0 with
 | none =>
  have hl0 : l0.length = 0:=by
   rcases Nat.eq_zero_or_pos l0.length with h_|h_
   ·exact h_
   ·obtain ⟨_,e_,_⟩:=hr0.2.2 h_;cases e_
  obtain rfl:=List.eq_nil_of_length_eq_zero hl0
  have hr_ : r = []:=by
   have h_:=h
   simp [slices_Clone_byte_byte.f] at h_
   first|exact h_|exact h_.symm
  subst hr_
  clear h hr0 hc0 hl0
  have hnil : ∀ (n_ c_ : Nat) (W : World),(binOp .eql 42 (.slice none n_ c_) (.slice none 0 0)).run Try.prog W = .ok (.bool true) W:=fun n_ c_ W=>Go.Lib.run_eql_slice_nil W 42 5 none n_ c_ 0 0 Try.underlying42
  go_enter Try.func77,Try.ntmps77
  go_wp2
  go_ret
  exact ⟨_,by first|rfl|(simp;done),Kd.R_nil _ _ _ _ _,by repeat(first|exact Below.refl _ _|apply below_alloc|apply pw_below_drewN|apply below_drew1)⟩
 | some ad0 =>
  have hnil : ∀ (n_ c_ : Nat) (W : World),(binOp .eql 42 (.slice (some ad0) n_ c_) (.slice none 0 0)).run Try.prog W = .ok (.bool false) W:=fun n_ c_ W=>Go.Lib.run_eql_slice_nil W 42 5 (some ad0) n_ c_ 0 0 Try.underlying42
  have HR0:=Aside0.mk hr0
  have HC0:=Aside0.mk hc0
  clear hr0 hc0
  have HB:=Aside0.mk (Below.refl w.heap.size w)
  have H : ((some (([] : List Int) : List Int)).bind fun y143=>(if y143.length + l0.length < 140737488355328 then (some (y143 ++ l0)) else (none))) = some r:=h
  clear h
  obtain ⟨y143,hy143⟩ : ∃ y_ : List Int,y_ = (([] : List Int)):=⟨_,rfl⟩
  replace H : (if y143.length + l0.length < 140737488355328 then (some (y143 ++ l0)) else (none)) = some r:=by first|(rw [hy143];with_reducible exact H)|(have H2_:=(Option.bind_some _ _).symm.trans H;rw [hy143];with_reducible exact H2_)|(have H2_:=(Option.bind_some _ _).symm.trans H;with_reducible exact H2_)|with_reducible exact H|(rw [hy143];exact H)|exact H
  have Ny143:=Aside0.mk hy143
  clear hy143
  by_cases c2 : y143.length + l0.length < 140737488355328
  ·rw [if_pos c2] at H
   have LMc2:=Aside0.mk c2
   clear c2
   obtain ⟨y146,hy146⟩ : ∃ y_ : List Int,y_ = (y143 ++ l0):=⟨_,rfl⟩
   replace H : (some y146) = some r:=by first|(rw [hy146];with_reducible exact H)|(have H2_:=(Option.bind_some _ _).symm.trans H;rw [hy146];with_reducible exact H2_)|(have H2_:=(Option.bind_some _ _).symm.trans H;with_reducible exact H2_)|with_reducible exact H|(rw [hy146];exact H)|exact H
   have Ny146:=Aside0.mk hy146
   clear hy146
   obtain rfl:=Option.some.inj H
   go_enter Try.func77,Try.ntmps77
   go_wp2_with (first|((with_reducible refine gate_dst (N:=5) rfl ?_);refine Kd.R_lit (Kd.int .u8) _ 5 ?hg (N:=5) ?hd (xs:=([] : List Int)) (inner:=[]) (ok:=fun _=>True) (okp:=fun _=>True) ?hr ?hp (fun _ hk=>hk) trivial (Below.refl _ _) (Nat.le_refl _) (by simp) ?_;(case hd=>rfl);(case hg=>rfl);(case hr=>first|(go_simp;done)|(go_simp;rfl));(case hp=>exact (Reps.none _ _));intro v144 w3 ho4 hb hg_ hnew_;clear hg_ hnew_;(first|rw [← Ny143.out] at ho4|(simp only [Int.reduceToNat] at ho4;rw [← Ny143.out] at ho4));have n0_:=Aside0.mk (Kd.R_lower ho4 (below_size (by repeat(first|(with_reducible first|exact HB.out|apply below_alloc|apply pw_below_drewN|apply below_drew1)|exact HB.out))));have n1_:=Aside0.mk (below_step (by repeat(first|(with_reducible first|exact HB.out|apply below_alloc|apply pw_below_drewN|apply below_drew1)|exact HB.out)) hb);clear HB;have HO145:=n0_;have HB:=n1_;clear n0_ n1_;clear hb ho4)|((with_reducible refine gate_builtin (b:=.append) (xs:=#[.tmp 5,.tmp 6]) rfl ?_);at_builtin;refine Kd.R_append_rows (Kd.int .u8) (w0:=w) w.heap.size rfl (.tmp 5) (.tmp 6) 42 5 (.int .u8 0) 1 rfl Try.underlying42 info5 rfl (by decide) (by omega) v144 y143 l0 _ _ _ (fun _=>True) (fun _=>False) rfl rfl ?aO ?aR (fun _ _ h=>h) (fun _ h=>h.elim) ?aF ?aB ?aS ?aL ?_;(case aR=>repeat(first|exact (Kd.C_below HR0.out HB.out)|(with_reducible refine Kd.C_alloc ?_ _)|(with_reducible refine Kd.C_drewN ?_ _)|(with_reducible refine Kd.C_drew ?_)));(case aB=>exact (by repeat(first|(with_reducible first|exact HB.out|apply below_alloc|apply pw_below_drewN|apply below_drew1)|exact HB.out)));(case aF=>exact (fun _ _=>trivial));(case aO=>exact (by (with_reducible repeat(first|apply Kd.R_alloc|apply Kd.R_drewN|apply Kd.R_drew));exact HO145.out));(case aS=>exact (below_size (by repeat(first|(with_reducible first|exact HB.out|apply below_alloc|apply pw_below_drewN|apply below_drew1)|exact HB.out))));(case aL=>have:=LMc2.out;omega);intro v147 w5 ho hb hg hat;rw [← Ny146.out] at ho;have n0_:=Aside0.mk (hb);have n1_:=Aside0.mk (ho);clear HB;clear HO145;have HB:=n0_;have HO148:=n1_;clear n0_ n1_;clear ho hb hg hat))
   go_ret
   exact ⟨_,by first|rfl|(simp [errW_none,errW_some] <;> rfl)|(simp [*,errW_none,errW_some] <;> rfl),by (with_reducible repeat(first|apply Kd.R_alloc|apply Kd.R_drewN|apply Kd.R_drew));exact HO148.out,by repeat(first|(with_reducible first|exact HB.out|apply below_alloc|apply pw_below_drewN|apply below_drew1)|exact HB.out)⟩
  ·rw [if_neg c2] at H
   exact absurd H (by simp)

/-! ### take_count: function 78 -/
def take_count.f (a0 : Int) : Option (Int):=some (mn (mx a0 0) 8)
set_option maxHeartbeats 8000000 in
set_option maxRecDepth 100000 in
theorem take_count.calls (a0 : Int) (r : Int) (w : World) (h : take_count.f a0 = some r) :
  Calls Try.prog 78 #[.int .i64 a0] w fun e w'=>e = .returned (.int .i64 r) ∧ Below w.heap.size w w':=by
 have HB:=Aside0.mk (Below.refl w.heap.size w)
 have H : (some (mn (mx a0 0) 8)) = some r:=h
 clear h
 obtain ⟨ji2,hji2⟩ : ∃ j_ : Int,(mx a0 0) = j_:=⟨_,rfl⟩
 replace H : (some (mn (ji2) 8)) = some r:=by first|(rw [hji2] at H;exact H)|(simp only [hji2] at H ⊢;exact H)
 (try (have hji2l : 0 ≤ ji2:=by (rw [← hji2];unfold mx;(repeat' split) <;> omega)))
 (try (have hji2m : 0 ≤ ji2:=by omega))
 have hji2_ : (if a0 < 0 then 0 else a0) = ji2:=hji2
 obtain ⟨ji3,hji3⟩ : ∃ j_ : Int,(mn (ji2) 8) = j_:=⟨_,rfl⟩
 replace H : (some ji3) = some r:=by first|(rw [hji3] at H;exact H)|(simp only [hji3] at H ⊢;exact H)
 have hji3_ : (if 8 < (ji2) then 8 else (ji2)) = ji3:=hji3
 obtain rfl:=Option.some.inj H
 go_enter Try.func78,Try.ntmps78
 go_wp2
 go_ret
 exact ⟨by first|rfl|(simp [errW_none,errW_some] <;> rfl)|(simp only [← hji2,← hji3];first|rfl|(simp [errW_none,errW_some] <;> rfl))|(simp [*,errW_none,errW_some] <;> rfl),by repeat(first|(with_reducible first|exact HB.out|apply below_alloc|apply pw_below_drewN|apply below_drew1)|exact HB.out)⟩

/-! ### take_Put: function 50 -/
def take_Put.l0 : Nat → Int → List Int → Int → Option (List Int)
 | 0,_,_,_=>none
 | k + 1,x1,x7,x8=>if x8 ≥ 0 then (if 0 ≤ (wrap64 (8 * x8)) then (if x7.length < 140737488355328 then (take_Put.l0 k x1 (x7 ++ [(shr .u64 x1 (wrap64 (8 * x8))) % 256]) (wrap64 (x8 - 1))) else (none)) else (none)) else (some x7)
def take_Put.f (k : Nat) (l0 : List Int) (a1 : Int) (a2 : Int) : Option (List Int):=(slices_Clone_byte_byte.f l0).bind fun t149=>((take_count.f a2).bind fun t152=>(take_Put.l0 k a1 t149 (wrap64 (t152 - 1))))
theorem take_Put.mono_l : ∀ k,(∀ y0 y1 y2,LeO (take_Put.l0 k y0 y1 y2) (take_Put.l0 (k + 1) y0 y1 y2))
 | 0=>fun _ _ _ r h=>by simp [take_Put.l0] at h
 | k + 1=>by
  have ih0:=take_Put.mono_l k
  ·intro y0 y1 y2
   unfold take_Put.l0
   repeat' first
   | (with_reducible exact ih0 _ _ _)
   | (with_reducible exact LeO.refl _)
   | (with_reducible exact LeO.none _)
   | (with_reducible refine LeO.ite ?_ ?_)
   | (with_reducible refine LeO.bind ?_ (fun _=>?_))
   | exact ih0 _ _ _
   | exact LeO.none _
   | refine LeO.ite ?_ ?_
   | refine LeO.bind ?_ (fun _=>?_)
theorem take_Put.mono : ∀ a0 a1 a2 k,LeO (take_Put.f k a0 a1 a2) (take_Put.f (k + 1) a0 a1 a2):=by
 intro a0 a1 a2 k
 have ih0:=take_Put.mono_l k
 unfold take_Put.f
 repeat' first
   | (with_reducible exact ih0 _ _ _)
   | (with_reducible exact LeO.refl _)
   | (with_reducible exact LeO.none _)
   | (with_reducible refine LeO.ite ?_ ?_)
   | (with_reducible refine LeO.bind ?_ (fun _=>?_))
   | exact ih0 _ _ _
   | exact LeO.none _
   | refine LeO.ite ?_ ?_
   | refine LeO.bind ?_ (fun _=>?_)
set_option maxHeartbeats 8000000 in
set_option maxRecDepth 100000 in
theorem take_Put.calls (k : Nat) (A0 : Option Addr) (c0 : Nat) (l0 : List Int) (a1 : Int) (a2 : Int) (r : List Int) (w : World) (hr0 : Kd.C (Kd.int .u8) w A0 l0.length l0) (hc0 : l0.length ≤ c0) (h : take_Put.f k l0 a1 a2 = some r) :
  Calls Try.prog 50 #[.slice A0 l0.length c0,.int .u64 a1,.int .i64 a2] w fun e w'=>∃ v0_ : Value,e = .returned (v0_) ∧ Kd.R (Kd.int .u8) 5 w' w.heap.size (fun _=>True) v0_ r ∧ Below w.heap.size w w':=by
 have HR0:=Aside0.mk hr0
 have HC0:=Aside0.mk hc0
 clear hr0 hc0
 have HB:=Aside0.mk (Below.refl w.heap.size w)
 have H : ((slices_Clone_byte_byte.f l0).bind fun t149=>((take_count.f a2).bind fun t152=>(take_Put.l0 k a1 t149 (wrap64 (t152 - 1))))) = some r:=h
 clear h
 replace H:=Option.bind_eq_some_iff.mp H
 obtain ⟨t149,A40,H⟩:=H
 replace H : ((take_count.f a2).bind fun t152=>(take_Put.l0 k a1 t149 (wrap64 (t152 - 1)))) = some r:=H
 have A4:=Aside0.mk A40
 clear A40
 replace H:=Option.bind_eq_some_iff.mp H
 obtain ⟨t152,A50,H⟩:=H
 replace H : (take_Put.l0 k a1 t149 (wrap64 (t152 - 1))) = some r:=H
 have A5:=Aside0.mk A50
 clear A50
 have H':=Aside0.mk H
 clear H
 go_enter Try.func50,Try.ntmps50
 go_wp2_with (first|((with_reducible refine gate_callee (f:=77) rfl ?_);refine goesL_ (some 10) rfl rfl Try.func77 (by kernel_rfl) rfl #[.slice A0 l0.length c0] rfl (by (try simp only [List.map_toArray,List.map_cons,List.map_nil]);first|done|rfl|(simp only [List.length_drop,List.length_take];rfl)) ?_;(with_reducible refine (slices_Clone_byte_byte.calls _ _ l0 t149 _ ?side1 ?side2 A4.out).mono ?_);(case side1=>repeat(first|exact HR0.out|(with_reducible refine Kd.C_alloc ?_ _)|(with_reducible refine Kd.C_drewN ?_ _)|(with_reducible refine Kd.C_drew ?_)));(case side2=>exact HC0.out);rintro e w6 ⟨v150,rfl,ho0,hb⟩;refine ⟨_,rfl,?_⟩;have n0_:=Aside0.mk (Kd.R_lower ho0 (below_size (by repeat(first|(with_reducible first|exact HB.out|apply below_alloc|apply pw_below_drewN|apply below_drew1)|exact HB.out))));have n1_:=Aside0.mk (below_step (by repeat(first|(with_reducible first|exact HB.out|apply below_alloc|apply pw_below_drewN|apply below_drew1)|exact HB.out)) hb);clear HB;have HO151:=n0_;have HB:=n1_;clear n0_ n1_;(try clear hb);(try clear hb2);(try clear hk);(try clear hi);(try clear ho0))|((with_reducible refine gate_callee (f:=78) rfl ?_);refine goesL_ (some 12) rfl rfl Try.func78 (by kernel_rfl) rfl #[.int .i64 a2] rfl (by (try simp only [List.map_toArray,List.map_cons,List.map_nil]);first|done|rfl|(simp only [List.length_drop,List.length_take];rfl)) ?_;(with_reducible refine (take_count.calls a2 t152 _ A5.out).mono ?_);rintro e w7 ⟨rfl,hb⟩;refine ⟨_,rfl,?_⟩;have n0_:=Aside0.mk (Kd.R_below (by (with_reducible repeat(first|apply Kd.R_alloc|apply Kd.R_drewN|apply Kd.R_drew));exact HO151.out) hb);have n1_:=Aside0.mk (below_step (by repeat(first|(with_reducible first|exact HB.out|apply below_alloc|apply pw_below_drewN|apply below_drew1)|exact HB.out)) hb);clear HO151;clear HB;have HO151:=n0_;have HB:=n1_;clear n0_ n1_;(try clear hb);(try clear hb2);(try clear hk);(try clear hi)))
 go_loopg [7,8] k (fun kq v7 v8 w'=>∃ (x7_1 : List Int) (x8_1 : Int),v8 = .int .i64 x8_1 ∧ Aside0 (take_Put.l0 kq a1 x7_1 x8_1 = some r) ∧ Aside0 (kq ≤ k) ∧ Aside0 (Kd.R (Kd.int .u8) 5 w' w.heap.size (fun _=>True) v7 x7_1) ∧ Aside0 (Below w.heap.size w w'))
 case atStart=>exact ⟨(t149),(wrap64 (t152 - 1)),(by first|rfl|(simp;done)|(simp [*];done)),H',⟨Nat.le_refl _⟩,⟨by (with_reducible repeat(first|apply Kd.R_alloc|apply Kd.R_drewN|apply Kd.R_drew));exact HO151.out⟩,⟨by repeat(first|(with_reducible first|exact HB.out|apply below_alloc|apply pw_below_drewN|apply below_drew1)|exact HB.out)⟩⟩
 case round =>
  clear H'
  try clear p2
  try clear c5
  try clear p6
  try clear c7
  obtain ⟨x7_1,x8_1,rfl,HA,HK1,HO_7,HB⟩:=hrel
  cases gk with
  | zero=>exact absurd HA.out (by simp [take_Put.l0])
  | succ k1 =>
   have H:=HA.out
   clear HA
   simp only [take_Put.l0] at H
   by_cases c8 : x8_1 ≥ 0
   ·rw [if_pos c8] at H
    have c8b0 : decide (0 ≤ x8_1) = true:=decide_eq_true c8
    clear c8
    obtain ⟨ji9,hji9⟩ : ∃ j_ : Int,(wrap64 (8 * x8_1)) = j_:=⟨_,rfl⟩
    replace H : (if 0 ≤ (ji9) then (if x7_1.length < 140737488355328 then (take_Put.l0 k1 a1 (x7_1 ++ [(shr .u64 a1 (ji9)) % 256]) (wrap64 (x8_1 - 1))) else (none)) else (none)) = some r:=by first|(rw [hji9] at H;exact H)|(simp only [hji9] at H ⊢;exact H)
    have hji9w : (IntKind.i64.wrap (8 * x8_1)) = ji9:=(i64_w _).trans hji9
    by_cases c10 : 0 ≤ (ji9)
    ·rw [if_pos c10] at H
     have c10b0:=eq_true c10
     have c10b1 : decide (0 ≤ (ji9)) = true:=decide_eq_true c10
     clear c10
     obtain ⟨ji11,hji11⟩ : ∃ j_ : Int,(shr .u64 a1 (ji9)) = j_:=⟨_,rfl⟩
     replace H : (if x7_1.length < 140737488355328 then (take_Put.l0 k1 a1 (x7_1 ++ [(ji11) % 256]) (wrap64 (x8_1 - 1))) else (none)) = some r:=by first|(rw [hji11] at H;exact H)|(simp only [hji11] at H ⊢;exact H)
     have hji11_ : (a1 / 2 ^ min (ji9).toNat 64) = ji11:=hji11
     have hji11z : (ji9) ≤ 64 → (a1 / 2 ^ (ji9).toNat) = ji11:=shr_small hji11
     by_cases c12 : x7_1.length < 140737488355328
     ·rw [if_pos c12] at H
      have LMc12:=Aside0.mk c12
      clear c12
      obtain ⟨y153,hy153⟩ : ∃ y_ : List Int,y_ = (x7_1 ++ [(ji11) % 256]):=⟨_,rfl⟩
      replace H : (take_Put.l0 k1 a1 y153 (wrap64 (x8_1 - 1))) = some r:=by first|(rw [hy153];with_reducible exact H)|(have H2_:=(Option.bind_some _ _).symm.trans H;rw [hy153];with_reducible exact H2_)|(have H2_:=(Option.bind_some _ _).symm.trans H;with_reducible exact H2_)|with_reducible exact H|(rw [hy153];exact H)|exact H
      have Ny153:=Aside0.mk hy153
      clear hy153
      have H':=Aside0.mk H
      clear H
      go_wp2_with (first|((with_reducible refine gate_builtin (b:=.append) (xs:=#[.tmp 18,.tmp 24]) rfl ?_);at_builtin;refine Kd.R_append (Kd.int .u8) (w0:=w) w.heap.size rfl (.tmp 18) (.tmp 24) 42 5 (.int .u8 0) 1 rfl Try.underlying42 info5 rfl (by decide) (by omega) u7 x7_1 ((ji11) % 256) [.int .u8 ((ji11) % 256)] (fun _=>True) (fun _=>False) rfl rfl ?aP (fun _ hk=>hk.elim) ?aF ?aO ?aB ?aS ?aL ?_;(case aP=>exact rfl);(case aB=>exact (by repeat(first|(with_reducible first|exact HB.out|apply below_alloc|apply pw_below_drewN|apply below_drew1)|exact HB.out)));(case aF=>exact (fun _ _=>trivial));(case aO=>exact (by (with_reducible repeat(first|apply Kd.R_alloc|apply Kd.R_drewN|apply Kd.R_drew));exact HO_7.out));(case aS=>exact (below_size (by repeat(first|(with_reducible first|exact HB.out|apply below_alloc|apply pw_below_drewN|apply below_drew1)|exact HB.out))));(case aL=>have:=LMc12.out;omega);intro v154 w13 ho hb hg hat;rw [← Ny153.out] at ho;have n0_:=Aside0.mk (hb);have n1_:=Aside0.mk (ho);clear HB;clear HO_7;have HB:=n0_;have HO155:=n1_;clear n0_ n1_;clear ho hb hg hat))
      go_roundg k1
      case measure=>have:=HK1.out;omega
      case rel=>exact ⟨(y153),(wrap64 (x8_1 - 1)),(by first|rfl|(simp;done)|(simp [*];done)),H',⟨by have:=HK1.out;omega⟩,⟨by (with_reducible repeat(first|apply Kd.R_alloc|apply Kd.R_drewN|apply Kd.R_drew));exact HO155.out⟩,⟨by repeat(first|(with_reducible first|exact HB.out|apply below_alloc|apply pw_below_drewN|apply below_drew1)|exact HB.out)⟩⟩
     ·rw [if_neg c12] at H
      exact absurd H (by simp)
    ·rw [if_neg c10] at H
     exact absurd H (by simp)
   ·rw [if_neg c8] at H
    have c8b0 : decide (0 ≤ x8_1) = false:=decide_eq_false c8
    clear c8
    obtain rfl:=Option.some.inj H
    go_wp2
    go_ret
    exact ⟨_,by first|rfl|(simp [errW_none,errW_some] <;> rfl)|(simp [*,errW_none,errW_some] <;> rfl),by (with_reducible repeat(first|apply Kd.R_alloc|apply Kd.R_drewN|apply Kd.R_drew));exact HO_7.out,by repeat(first|(with_reducible first|exact HB.out|apply below_alloc|apply pw_below_drewN|apply below_drew1)|exact HB.out)⟩

end Go.Proofs.Ytnagfbadjbkhmaa.PA
