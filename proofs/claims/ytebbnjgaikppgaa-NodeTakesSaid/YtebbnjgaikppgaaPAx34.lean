import Derived.Test.YtebbnjgaikppgaaPAx0
namespace Go.Proofs.Ytebbnjgaikppgaa.PA
open Go.RowKit Go.Proofs.YtebbnjgaikppgaaW.PrintWords Go.Proofs.YtebbnjgaikppgaaW.PrintLast Go.Proofs.YtebbnjgaikppgaaW.PrintMore
attribute [local go_sem] max2_int min2_int max_two min_two max_three min_three max_four min_four   -- for this text's walks alone
attribute [local go_sem high] Flt.fold_eq Flt.fold_ne Flt.fold_lt Flt.fold_gt Flt.fold_le Flt.fold_ge Flt.run_bits Flt.run_frombits
set_option linter.unusedVariables false
set_option linter.unusedSimpArgs false

/-! ### node_Shape_may: function 63 -/
def node_Shape_may.f (a0_0 : Int) (a0_1 : Int) (a0_2 : Int) (a0_3 : Int) : Option (Bool):=if a0_0 < 1 then (some false) else (if a0_0 > 1024 then (some false) else (if a0_1 < 2 then (some false) else (if a0_1 > 256 then (some false) else (if a0_2 = 0 then (if a0_3 ≥ 2 then (if a0_3 ≤ 256 then (some true) else (if a0_2 = 1 then (some (a0_3 == 0)) else (some false))) else (if a0_2 = 1 then (some (a0_3 == 0)) else (some false))) else (if a0_2 = 1 then (some (a0_3 == 0)) else (some false))))))
set_option maxHeartbeats 8000000 in
set_option maxRecDepth 100000 in
theorem node_Shape_may.calls (a0_0 : Int) (a0_1 : Int) (a0_2 : Int) (a0_3 : Int) (r : Bool) (w : World) (h : node_Shape_may.f a0_0 a0_1 a0_2 a0_3 = some r) :
  Calls Try.prog 63 #[.agg #[.int .i64 a0_0,.int .i64 a0_1,.int .i64 a0_2,.int .i64 a0_3]] w fun e w'=>e = .returned (.bool r) ∧ Below w.heap.size w w':=by
 have hu72:=Try.underlying72
 have HB:=Aside0.mk (Below.refl w.heap.size w)
 have H : (if a0_0 < 1 then (some false) else (if a0_0 > 1024 then (some false) else (if a0_1 < 2 then (some false) else (if a0_1 > 256 then (some false) else (if a0_2 = 0 then (if a0_3 ≥ 2 then (if a0_3 ≤ 256 then (some true) else (if a0_2 = 1 then (some (a0_3 == 0)) else (some false))) else (if a0_2 = 1 then (some (a0_3 == 0)) else (some false))) else (if a0_2 = 1 then (some (a0_3 == 0)) else (some false))))))) = some r:=h
 clear h
 by_cases c2 : a0_0 < 1
 ·rw [if_pos c2] at H
  have c2b0 : decide (a0_0 < 1) = true:=decide_eq_true c2
  clear c2
  obtain rfl:=Option.some.inj H
  go_enter Try.func63,Try.ntmps63
  go_wp2_with (first|((with_reducible refine gate_dst (N:=1) rfl ?_);refine box_event ?hg (N:=1) ?hd (cs:=#[.int .i64 a0_0,.int .i64 a0_1,.int .i64 a0_2,.int .i64 a0_3]) (t:=72) ?hr ?_;(case hd=>rfl);(case hg=>rfl);(case hr=>first|(go_simp;done)|(go_simp;rfl));intro gb358 hg w3 hbox hb;have n0_:=Aside0.mk (below_step (by repeat(first|(with_reducible first|exact HB.out|apply below_alloc|apply pw_below_drewN|apply below_drew1)|exact HB.out)) hb);have n1_:=Aside0.mk (hbox);have n2_:=Aside0.mk ((by rw [hg];exact (below_size (by repeat(first|(with_reducible first|exact HB.out|apply below_alloc|apply pw_below_drewN|apply below_drew1)|exact HB.out))) : w.heap.size ≤ gb358));have n3_:=Aside0.mk ((by rw [hg];exact (below_size (by repeat(first|(with_reducible first|exact HB.out|apply below_alloc|apply pw_below_drewN|apply below_drew1)|exact HB.out))) : w.heap.size ≤ gb358));clear HB;have HB:=n0_;have BK358:=n1_;have GW358:=n2_;have GE358:=n3_;clear n0_ n1_ n2_ n3_;clear hb hbox hg;have hcz4_0 : w3.cell? ⟨gb358,0,none⟩ = some (.int .i64 a0_0):=(blk_cell BK358.out 0).trans rfl;have hcz4_1 : w3.cell? ⟨gb358,1,none⟩ = some (.int .i64 a0_1):=(blk_cell BK358.out 1).trans rfl;have hcz4_2 : w3.cell? ⟨gb358,2,none⟩ = some (.int .i64 a0_2):=(blk_cell BK358.out 2).trans rfl;have hcz4_3 : w3.cell? ⟨gb358,3,none⟩ = some (.int .i64 a0_3):=(blk_cell BK358.out 3).trans rfl;have hfz4_0:=blk_frozen BK358.out 0;have hfz4_1:=blk_frozen BK358.out 1;have hfz4_2:=blk_frozen BK358.out 2;have hfz4_3:=blk_frozen BK358.out 3))
  go_ret
  exact ⟨by first|rfl|(simp [errW_none,errW_some] <;> rfl)|(simp [*,errW_none,errW_some] <;> rfl),by repeat(first|(with_reducible first|exact HB.out|apply below_alloc|apply pw_below_drewN|apply below_drew1|refine below_set ?_ GE358.out)|exact HB.out)⟩
 ·rw [if_neg c2] at H
  have c2b0 : decide (a0_0 < 1) = false:=decide_eq_false c2
  clear c2
  by_cases c5 : a0_0 > 1024
  ·rw [if_pos c5] at H
   have c5b0 : decide (1024 < a0_0) = true:=decide_eq_true c5
   clear c5
   obtain rfl:=Option.some.inj H
   go_enter Try.func63,Try.ntmps63
   go_wp2_with (first|((with_reducible refine gate_dst (N:=1) rfl ?_);refine box_event ?hg (N:=1) ?hd (cs:=#[.int .i64 a0_0,.int .i64 a0_1,.int .i64 a0_2,.int .i64 a0_3]) (t:=72) ?hr ?_;(case hd=>rfl);(case hg=>rfl);(case hr=>first|(go_simp;done)|(go_simp;rfl));intro gb358 hg w6 hbox hb;have n0_:=Aside0.mk (below_step (by repeat(first|(with_reducible first|exact HB.out|apply below_alloc|apply pw_below_drewN|apply below_drew1)|exact HB.out)) hb);have n1_:=Aside0.mk (hbox);have n2_:=Aside0.mk ((by rw [hg];exact (below_size (by repeat(first|(with_reducible first|exact HB.out|apply below_alloc|apply pw_below_drewN|apply below_drew1)|exact HB.out))) : w.heap.size ≤ gb358));have n3_:=Aside0.mk ((by rw [hg];exact (below_size (by repeat(first|(with_reducible first|exact HB.out|apply below_alloc|apply pw_below_drewN|apply below_drew1)|exact HB.out))) : w.heap.size ≤ gb358));clear HB;have HB:=n0_;have BK358:=n1_;have GW358:=n2_;have GE358:=n3_;clear n0_ n1_ n2_ n3_;clear hb hbox hg;have hcz7_0 : w6.cell? ⟨gb358,0,none⟩ = some (.int .i64 a0_0):=(blk_cell BK358.out 0).trans rfl;have hcz7_1 : w6.cell? ⟨gb358,1,none⟩ = some (.int .i64 a0_1):=(blk_cell BK358.out 1).trans rfl;have hcz7_2 : w6.cell? ⟨gb358,2,none⟩ = some (.int .i64 a0_2):=(blk_cell BK358.out 2).trans rfl;have hcz7_3 : w6.cell? ⟨gb358,3,none⟩ = some (.int .i64 a0_3):=(blk_cell BK358.out 3).trans rfl;have hfz7_0:=blk_frozen BK358.out 0;have hfz7_1:=blk_frozen BK358.out 1;have hfz7_2:=blk_frozen BK358.out 2;have hfz7_3:=blk_frozen BK358.out 3))
   go_ret
   exact ⟨by first|rfl|(simp [errW_none,errW_some] <;> rfl)|(simp [*,errW_none,errW_some] <;> rfl),by repeat(first|(with_reducible first|exact HB.out|apply below_alloc|apply pw_below_drewN|apply below_drew1|refine below_set ?_ GE358.out)|exact HB.out)⟩
  ·rw [if_neg c5] at H
   have c5b0 : decide (1024 < a0_0) = false:=decide_eq_false c5
   clear c5
   by_cases c8 : a0_1 < 2
   ·rw [if_pos c8] at H
    have c8b0 : decide (a0_1 < 2) = true:=decide_eq_true c8
    clear c8
    obtain rfl:=Option.some.inj H
    go_enter Try.func63,Try.ntmps63
    go_wp2_with (first|((with_reducible refine gate_dst (N:=1) rfl ?_);refine box_event ?hg (N:=1) ?hd (cs:=#[.int .i64 a0_0,.int .i64 a0_1,.int .i64 a0_2,.int .i64 a0_3]) (t:=72) ?hr ?_;(case hd=>rfl);(case hg=>rfl);(case hr=>first|(go_simp;done)|(go_simp;rfl));intro gb358 hg w9 hbox hb;have n0_:=Aside0.mk (below_step (by repeat(first|(with_reducible first|exact HB.out|apply below_alloc|apply pw_below_drewN|apply below_drew1)|exact HB.out)) hb);have n1_:=Aside0.mk (hbox);have n2_:=Aside0.mk ((by rw [hg];exact (below_size (by repeat(first|(with_reducible first|exact HB.out|apply below_alloc|apply pw_below_drewN|apply below_drew1)|exact HB.out))) : w.heap.size ≤ gb358));have n3_:=Aside0.mk ((by rw [hg];exact (below_size (by repeat(first|(with_reducible first|exact HB.out|apply below_alloc|apply pw_below_drewN|apply below_drew1)|exact HB.out))) : w.heap.size ≤ gb358));clear HB;have HB:=n0_;have BK358:=n1_;have GW358:=n2_;have GE358:=n3_;clear n0_ n1_ n2_ n3_;clear hb hbox hg;have hcz10_0 : w9.cell? ⟨gb358,0,none⟩ = some (.int .i64 a0_0):=(blk_cell BK358.out 0).trans rfl;have hcz10_1 : w9.cell? ⟨gb358,1,none⟩ = some (.int .i64 a0_1):=(blk_cell BK358.out 1).trans rfl;have hcz10_2 : w9.cell? ⟨gb358,2,none⟩ = some (.int .i64 a0_2):=(blk_cell BK358.out 2).trans rfl;have hcz10_3 : w9.cell? ⟨gb358,3,none⟩ = some (.int .i64 a0_3):=(blk_cell BK358.out 3).trans rfl;have hfz10_0:=blk_frozen BK358.out 0;have hfz10_1:=blk_frozen BK358.out 1;have hfz10_2:=blk_frozen BK358.out 2;have hfz10_3:=blk_frozen BK358.out 3))
    go_ret
    exact ⟨by first|rfl|(simp [errW_none,errW_some] <;> rfl)|(simp [*,errW_none,errW_some] <;> rfl),by repeat(first|(with_reducible first|exact HB.out|apply below_alloc|apply pw_below_drewN|apply below_drew1|refine below_set ?_ GE358.out)|exact HB.out)⟩
   ·rw [if_neg c8] at H
    have c8b0 : decide (a0_1 < 2) = false:=decide_eq_false c8
    clear c8
    by_cases c11 : a0_1 > 256
    ·rw [if_pos c11] at H
     have c11b0 : decide (256 < a0_1) = true:=decide_eq_true c11
     clear c11
     obtain rfl:=Option.some.inj H
     go_enter Try.func63,Try.ntmps63
     go_wp2_with (first|((with_reducible refine gate_dst (N:=1) rfl ?_);refine box_event ?hg (N:=1) ?hd (cs:=#[.int .i64 a0_0,.int .i64 a0_1,.int .i64 a0_2,.int .i64 a0_3]) (t:=72) ?hr ?_;(case hd=>rfl);(case hg=>rfl);(case hr=>first|(go_simp;done)|(go_simp;rfl));intro gb358 hg w12 hbox hb;have n0_:=Aside0.mk (below_step (by repeat(first|(with_reducible first|exact HB.out|apply below_alloc|apply pw_below_drewN|apply below_drew1)|exact HB.out)) hb);have n1_:=Aside0.mk (hbox);have n2_:=Aside0.mk ((by rw [hg];exact (below_size (by repeat(first|(with_reducible first|exact HB.out|apply below_alloc|apply pw_below_drewN|apply below_drew1)|exact HB.out))) : w.heap.size ≤ gb358));have n3_:=Aside0.mk ((by rw [hg];exact (below_size (by repeat(first|(with_reducible first|exact HB.out|apply below_alloc|apply pw_below_drewN|apply below_drew1)|exact HB.out))) : w.heap.size ≤ gb358));clear HB;have HB:=n0_;have BK358:=n1_;have GW358:=n2_;have GE358:=n3_;clear n0_ n1_ n2_ n3_;clear hb hbox hg;have hcz13_0 : w12.cell? ⟨gb358,0,none⟩ = some (.int .i64 a0_0):=(blk_cell BK358.out 0).trans rfl;have hcz13_1 : w12.cell? ⟨gb358,1,none⟩ = some (.int .i64 a0_1):=(blk_cell BK358.out 1).trans rfl;have hcz13_2 : w12.cell? ⟨gb358,2,none⟩ = some (.int .i64 a0_2):=(blk_cell BK358.out 2).trans rfl;have hcz13_3 : w12.cell? ⟨gb358,3,none⟩ = some (.int .i64 a0_3):=(blk_cell BK358.out 3).trans rfl;have hfz13_0:=blk_frozen BK358.out 0;have hfz13_1:=blk_frozen BK358.out 1;have hfz13_2:=blk_frozen BK358.out 2;have hfz13_3:=blk_frozen BK358.out 3))
     go_ret
     exact ⟨by first|rfl|(simp [errW_none,errW_some] <;> rfl)|(simp [*,errW_none,errW_some] <;> rfl),by repeat(first|(with_reducible first|exact HB.out|apply below_alloc|apply pw_below_drewN|apply below_drew1|refine below_set ?_ GE358.out)|exact HB.out)⟩
    ·rw [if_neg c11] at H
     have c11b0 : decide (256 < a0_1) = false:=decide_eq_false c11
     clear c11
     by_cases c14 : a0_2 = 0
     ·rw [if_pos c14] at H
      have c14b0 : (a0_2 == 0) = true:=beq_iff_eq.mpr c14
      have c14b1 : (a0_2 != 0) = false:=bne_eq_false_iff_eq.mpr c14
      clear c14
      by_cases c15 : a0_3 ≥ 2
      ·rw [if_pos c15] at H
       have c15b0 : decide (2 ≤ a0_3) = true:=decide_eq_true c15
       clear c15
       by_cases c16 : a0_3 ≤ 256
       ·rw [if_pos c16] at H
        have c16b0 : decide (a0_3 ≤ 256) = true:=decide_eq_true c16
        clear c16
        obtain rfl:=Option.some.inj H
        go_enter Try.func63,Try.ntmps63
        go_wp2_with (first|((with_reducible refine gate_dst (N:=1) rfl ?_);refine box_event ?hg (N:=1) ?hd (cs:=#[.int .i64 a0_0,.int .i64 a0_1,.int .i64 a0_2,.int .i64 a0_3]) (t:=72) ?hr ?_;(case hd=>rfl);(case hg=>rfl);(case hr=>first|(go_simp;done)|(go_simp;rfl));intro gb358 hg w17 hbox hb;have n0_:=Aside0.mk (below_step (by repeat(first|(with_reducible first|exact HB.out|apply below_alloc|apply pw_below_drewN|apply below_drew1)|exact HB.out)) hb);have n1_:=Aside0.mk (hbox);have n2_:=Aside0.mk ((by rw [hg];exact (below_size (by repeat(first|(with_reducible first|exact HB.out|apply below_alloc|apply pw_below_drewN|apply below_drew1)|exact HB.out))) : w.heap.size ≤ gb358));have n3_:=Aside0.mk ((by rw [hg];exact (below_size (by repeat(first|(with_reducible first|exact HB.out|apply below_alloc|apply pw_below_drewN|apply below_drew1)|exact HB.out))) : w.heap.size ≤ gb358));clear HB;have HB:=n0_;have BK358:=n1_;have GW358:=n2_;have GE358:=n3_;clear n0_ n1_ n2_ n3_;clear hb hbox hg;have hcz18_0 : w17.cell? ⟨gb358,0,none⟩ = some (.int .i64 a0_0):=(blk_cell BK358.out 0).trans rfl;have hcz18_1 : w17.cell? ⟨gb358,1,none⟩ = some (.int .i64 a0_1):=(blk_cell BK358.out 1).trans rfl;have hcz18_2 : w17.cell? ⟨gb358,2,none⟩ = some (.int .i64 a0_2):=(blk_cell BK358.out 2).trans rfl;have hcz18_3 : w17.cell? ⟨gb358,3,none⟩ = some (.int .i64 a0_3):=(blk_cell BK358.out 3).trans rfl;have hfz18_0:=blk_frozen BK358.out 0;have hfz18_1:=blk_frozen BK358.out 1;have hfz18_2:=blk_frozen BK358.out 2;have hfz18_3:=blk_frozen BK358.out 3))
        go_ret
        exact ⟨by first|rfl|(simp [errW_none,errW_some] <;> rfl)|(simp [*,errW_none,errW_some] <;> rfl),by repeat(first|(with_reducible first|exact HB.out|apply below_alloc|apply pw_below_drewN|apply below_drew1|refine below_set ?_ GE358.out)|exact HB.out)⟩
       ·rw [if_neg c16] at H
        have c16b0 : decide (a0_3 ≤ 256) = false:=decide_eq_false c16
        clear c16
        by_cases c19 : a0_2 = 1
        ·rw [if_pos c19] at H
         have c19b0 : (a0_2 == 1) = true:=beq_iff_eq.mpr c19
         have c19b1 : (a0_2 != 1) = false:=bne_eq_false_iff_eq.mpr c19
         clear c19
         obtain rfl:=Option.some.inj H
         go_enter Try.func63,Try.ntmps63
         go_wp2_with (first|((with_reducible refine gate_dst (N:=1) rfl ?_);refine box_event ?hg (N:=1) ?hd (cs:=#[.int .i64 a0_0,.int .i64 a0_1,.int .i64 a0_2,.int .i64 a0_3]) (t:=72) ?hr ?_;(case hd=>rfl);(case hg=>rfl);(case hr=>first|(go_simp;done)|(go_simp;rfl));intro gb358 hg w20 hbox hb;have n0_:=Aside0.mk (below_step (by repeat(first|(with_reducible first|exact HB.out|apply below_alloc|apply pw_below_drewN|apply below_drew1)|exact HB.out)) hb);have n1_:=Aside0.mk (hbox);have n2_:=Aside0.mk ((by rw [hg];exact (below_size (by repeat(first|(with_reducible first|exact HB.out|apply below_alloc|apply pw_below_drewN|apply below_drew1)|exact HB.out))) : w.heap.size ≤ gb358));have n3_:=Aside0.mk ((by rw [hg];exact (below_size (by repeat(first|(with_reducible first|exact HB.out|apply below_alloc|apply pw_below_drewN|apply below_drew1)|exact HB.out))) : w.heap.size ≤ gb358));clear HB;have HB:=n0_;have BK358:=n1_;have GW358:=n2_;have GE358:=n3_;clear n0_ n1_ n2_ n3_;clear hb hbox hg;have hcz21_0 : w20.cell? ⟨gb358,0,none⟩ = some (.int .i64 a0_0):=(blk_cell BK358.out 0).trans rfl;have hcz21_1 : w20.cell? ⟨gb358,1,none⟩ = some (.int .i64 a0_1):=(blk_cell BK358.out 1).trans rfl;have hcz21_2 : w20.cell? ⟨gb358,2,none⟩ = some (.int .i64 a0_2):=(blk_cell BK358.out 2).trans rfl;have hcz21_3 : w20.cell? ⟨gb358,3,none⟩ = some (.int .i64 a0_3):=(blk_cell BK358.out 3).trans rfl;have hfz21_0:=blk_frozen BK358.out 0;have hfz21_1:=blk_frozen BK358.out 1;have hfz21_2:=blk_frozen BK358.out 2;have hfz21_3:=blk_frozen BK358.out 3))
         go_ret
         exact ⟨by first|rfl|(simp [errW_none,errW_some] <;> rfl)|(simp [*,errW_none,errW_some] <;> rfl),by repeat(first|(with_reducible first|exact HB.out|apply below_alloc|apply pw_below_drewN|apply below_drew1|refine below_set ?_ GE358.out)|exact HB.out)⟩
        ·rw [if_neg c19] at H
         have c19b0 : (a0_2 == 1) = false:=beq_eq_false_iff_ne.mpr c19
         have c19b1 : (a0_2 != 1) = true:=bne_iff_ne.mpr c19
         obtain rfl:=Option.some.inj H
         go_enter Try.func63,Try.ntmps63
         go_wp2_with (first|((with_reducible refine gate_dst (N:=1) rfl ?_);refine box_event ?hg (N:=1) ?hd (cs:=#[.int .i64 a0_0,.int .i64 a0_1,.int .i64 a0_2,.int .i64 a0_3]) (t:=72) ?hr ?_;(case hd=>rfl);(case hg=>rfl);(case hr=>first|(go_simp;done)|(go_simp;rfl));intro gb358 hg w22 hbox hb;have n0_:=Aside0.mk (below_step (by repeat(first|(with_reducible first|exact HB.out|apply below_alloc|apply pw_below_drewN|apply below_drew1)|exact HB.out)) hb);have n1_:=Aside0.mk (hbox);have n2_:=Aside0.mk ((by rw [hg];exact (below_size (by repeat(first|(with_reducible first|exact HB.out|apply below_alloc|apply pw_below_drewN|apply below_drew1)|exact HB.out))) : w.heap.size ≤ gb358));have n3_:=Aside0.mk ((by rw [hg];exact (below_size (by repeat(first|(with_reducible first|exact HB.out|apply below_alloc|apply pw_below_drewN|apply below_drew1)|exact HB.out))) : w.heap.size ≤ gb358));clear HB;have HB:=n0_;have BK358:=n1_;have GW358:=n2_;have GE358:=n3_;clear n0_ n1_ n2_ n3_;clear hb hbox hg;have hcz23_0 : w22.cell? ⟨gb358,0,none⟩ = some (.int .i64 a0_0):=(blk_cell BK358.out 0).trans rfl;have hcz23_1 : w22.cell? ⟨gb358,1,none⟩ = some (.int .i64 a0_1):=(blk_cell BK358.out 1).trans rfl;have hcz23_2 : w22.cell? ⟨gb358,2,none⟩ = some (.int .i64 a0_2):=(blk_cell BK358.out 2).trans rfl;have hcz23_3 : w22.cell? ⟨gb358,3,none⟩ = some (.int .i64 a0_3):=(blk_cell BK358.out 3).trans rfl;have hfz23_0:=blk_frozen BK358.out 0;have hfz23_1:=blk_frozen BK358.out 1;have hfz23_2:=blk_frozen BK358.out 2;have hfz23_3:=blk_frozen BK358.out 3))
         go_ret
         exact ⟨by first|rfl|(simp [errW_none,errW_some] <;> rfl)|(simp [*,errW_none,errW_some] <;> rfl),by repeat(first|(with_reducible first|exact HB.out|apply below_alloc|apply pw_below_drewN|apply below_drew1|refine below_set ?_ GE358.out)|exact HB.out)⟩
      ·rw [if_neg c15] at H
       have c15b0 : decide (2 ≤ a0_3) = false:=decide_eq_false c15
       clear c15
       by_cases c24 : a0_2 = 1
       ·rw [if_pos c24] at H
        have c24b0 : (a0_2 == 1) = true:=beq_iff_eq.mpr c24
        have c24b1 : (a0_2 != 1) = false:=bne_eq_false_iff_eq.mpr c24
        clear c24
        obtain rfl:=Option.some.inj H
        go_enter Try.func63,Try.ntmps63
        go_wp2_with (first|((with_reducible refine gate_dst (N:=1) rfl ?_);refine box_event ?hg (N:=1) ?hd (cs:=#[.int .i64 a0_0,.int .i64 a0_1,.int .i64 a0_2,.int .i64 a0_3]) (t:=72) ?hr ?_;(case hd=>rfl);(case hg=>rfl);(case hr=>first|(go_simp;done)|(go_simp;rfl));intro gb358 hg w25 hbox hb;have n0_:=Aside0.mk (below_step (by repeat(first|(with_reducible first|exact HB.out|apply below_alloc|apply pw_below_drewN|apply below_drew1)|exact HB.out)) hb);have n1_:=Aside0.mk (hbox);have n2_:=Aside0.mk ((by rw [hg];exact (below_size (by repeat(first|(with_reducible first|exact HB.out|apply below_alloc|apply pw_below_drewN|apply below_drew1)|exact HB.out))) : w.heap.size ≤ gb358));have n3_:=Aside0.mk ((by rw [hg];exact (below_size (by repeat(first|(with_reducible first|exact HB.out|apply below_alloc|apply pw_below_drewN|apply below_drew1)|exact HB.out))) : w.heap.size ≤ gb358));clear HB;have HB:=n0_;have BK358:=n1_;have GW358:=n2_;have GE358:=n3_;clear n0_ n1_ n2_ n3_;clear hb hbox hg;have hcz26_0 : w25.cell? ⟨gb358,0,none⟩ = some (.int .i64 a0_0):=(blk_cell BK358.out 0).trans rfl;have hcz26_1 : w25.cell? ⟨gb358,1,none⟩ = some (.int .i64 a0_1):=(blk_cell BK358.out 1).trans rfl;have hcz26_2 : w25.cell? ⟨gb358,2,none⟩ = some (.int .i64 a0_2):=(blk_cell BK358.out 2).trans rfl;have hcz26_3 : w25.cell? ⟨gb358,3,none⟩ = some (.int .i64 a0_3):=(blk_cell BK358.out 3).trans rfl;have hfz26_0:=blk_frozen BK358.out 0;have hfz26_1:=blk_frozen BK358.out 1;have hfz26_2:=blk_frozen BK358.out 2;have hfz26_3:=blk_frozen BK358.out 3))
        go_ret
        exact ⟨by first|rfl|(simp [errW_none,errW_some] <;> rfl)|(simp [*,errW_none,errW_some] <;> rfl),by repeat(first|(with_reducible first|exact HB.out|apply below_alloc|apply pw_below_drewN|apply below_drew1|refine below_set ?_ GE358.out)|exact HB.out)⟩
       ·rw [if_neg c24] at H
        have c24b0 : (a0_2 == 1) = false:=beq_eq_false_iff_ne.mpr c24
        have c24b1 : (a0_2 != 1) = true:=bne_iff_ne.mpr c24
        obtain rfl:=Option.some.inj H
        go_enter Try.func63,Try.ntmps63
        go_wp2_with (first|((with_reducible refine gate_dst (N:=1) rfl ?_);refine box_event ?hg (N:=1) ?hd (cs:=#[.int .i64 a0_0,.int .i64 a0_1,.int .i64 a0_2,.int .i64 a0_3]) (t:=72) ?hr ?_;(case hd=>rfl);(case hg=>rfl);(case hr=>first|(go_simp;done)|(go_simp;rfl));intro gb358 hg w27 hbox hb;have n0_:=Aside0.mk (below_step (by repeat(first|(with_reducible first|exact HB.out|apply below_alloc|apply pw_below_drewN|apply below_drew1)|exact HB.out)) hb);have n1_:=Aside0.mk (hbox);have n2_:=Aside0.mk ((by rw [hg];exact (below_size (by repeat(first|(with_reducible first|exact HB.out|apply below_alloc|apply pw_below_drewN|apply below_drew1)|exact HB.out))) : w.heap.size ≤ gb358));have n3_:=Aside0.mk ((by rw [hg];exact (below_size (by repeat(first|(with_reducible first|exact HB.out|apply below_alloc|apply pw_below_drewN|apply below_drew1)|exact HB.out))) : w.heap.size ≤ gb358));clear HB;have HB:=n0_;have BK358:=n1_;have GW358:=n2_;have GE358:=n3_;clear n0_ n1_ n2_ n3_;clear hb hbox hg;have hcz28_0 : w27.cell? ⟨gb358,0,none⟩ = some (.int .i64 a0_0):=(blk_cell BK358.out 0).trans rfl;have hcz28_1 : w27.cell? ⟨gb358,1,none⟩ = some (.int .i64 a0_1):=(blk_cell BK358.out 1).trans rfl;have hcz28_2 : w27.cell? ⟨gb358,2,none⟩ = some (.int .i64 a0_2):=(blk_cell BK358.out 2).trans rfl;have hcz28_3 : w27.cell? ⟨gb358,3,none⟩ = some (.int .i64 a0_3):=(blk_cell BK358.out 3).trans rfl;have hfz28_0:=blk_frozen BK358.out 0;have hfz28_1:=blk_frozen BK358.out 1;have hfz28_2:=blk_frozen BK358.out 2;have hfz28_3:=blk_frozen BK358.out 3))
        go_ret
        exact ⟨by first|rfl|(simp [errW_none,errW_some] <;> rfl)|(simp [*,errW_none,errW_some] <;> rfl),by repeat(first|(with_reducible first|exact HB.out|apply below_alloc|apply pw_below_drewN|apply below_drew1|refine below_set ?_ GE358.out)|exact HB.out)⟩
     ·rw [if_neg c14] at H
      have c14b0 : (a0_2 == 0) = false:=beq_eq_false_iff_ne.mpr c14
      have c14b1 : (a0_2 != 0) = true:=bne_iff_ne.mpr c14
      by_cases c29 : a0_2 = 1
      ·rw [if_pos c29] at H
       have c29b0 : (a0_2 == 1) = true:=beq_iff_eq.mpr c29
       have c29b1 : (a0_2 != 1) = false:=bne_eq_false_iff_eq.mpr c29
       clear c29
       obtain rfl:=Option.some.inj H
       go_enter Try.func63,Try.ntmps63
       go_wp2_with (first|((with_reducible refine gate_dst (N:=1) rfl ?_);refine box_event ?hg (N:=1) ?hd (cs:=#[.int .i64 a0_0,.int .i64 a0_1,.int .i64 a0_2,.int .i64 a0_3]) (t:=72) ?hr ?_;(case hd=>rfl);(case hg=>rfl);(case hr=>first|(go_simp;done)|(go_simp;rfl));intro gb358 hg w30 hbox hb;have n0_:=Aside0.mk (below_step (by repeat(first|(with_reducible first|exact HB.out|apply below_alloc|apply pw_below_drewN|apply below_drew1)|exact HB.out)) hb);have n1_:=Aside0.mk (hbox);have n2_:=Aside0.mk ((by rw [hg];exact (below_size (by repeat(first|(with_reducible first|exact HB.out|apply below_alloc|apply pw_below_drewN|apply below_drew1)|exact HB.out))) : w.heap.size ≤ gb358));have n3_:=Aside0.mk ((by rw [hg];exact (below_size (by repeat(first|(with_reducible first|exact HB.out|apply below_alloc|apply pw_below_drewN|apply below_drew1)|exact HB.out))) : w.heap.size ≤ gb358));clear HB;have HB:=n0_;have BK358:=n1_;have GW358:=n2_;have GE358:=n3_;clear n0_ n1_ n2_ n3_;clear hb hbox hg;have hcz31_0 : w30.cell? ⟨gb358,0,none⟩ = some (.int .i64 a0_0):=(blk_cell BK358.out 0).trans rfl;have hcz31_1 : w30.cell? ⟨gb358,1,none⟩ = some (.int .i64 a0_1):=(blk_cell BK358.out 1).trans rfl;have hcz31_2 : w30.cell? ⟨gb358,2,none⟩ = some (.int .i64 a0_2):=(blk_cell BK358.out 2).trans rfl;have hcz31_3 : w30.cell? ⟨gb358,3,none⟩ = some (.int .i64 a0_3):=(blk_cell BK358.out 3).trans rfl;have hfz31_0:=blk_frozen BK358.out 0;have hfz31_1:=blk_frozen BK358.out 1;have hfz31_2:=blk_frozen BK358.out 2;have hfz31_3:=blk_frozen BK358.out 3))
       go_ret
       exact ⟨by first|rfl|(simp [errW_none,errW_some] <;> rfl)|(simp [*,errW_none,errW_some] <;> rfl),by repeat(first|(with_reducible first|exact HB.out|apply below_alloc|apply pw_below_drewN|apply below_drew1|refine below_set ?_ GE358.out)|exact HB.out)⟩
      ·rw [if_neg c29] at H
       have c29b0 : (a0_2 == 1) = false:=beq_eq_false_iff_ne.mpr c29
       have c29b1 : (a0_2 != 1) = true:=bne_iff_ne.mpr c29
       obtain rfl:=Option.some.inj H
       go_enter Try.func63,Try.ntmps63
       go_wp2_with (first|((with_reducible refine gate_dst (N:=1) rfl ?_);refine box_event ?hg (N:=1) ?hd (cs:=#[.int .i64 a0_0,.int .i64 a0_1,.int .i64 a0_2,.int .i64 a0_3]) (t:=72) ?hr ?_;(case hd=>rfl);(case hg=>rfl);(case hr=>first|(go_simp;done)|(go_simp;rfl));intro gb358 hg w32 hbox hb;have n0_:=Aside0.mk (below_step (by repeat(first|(with_reducible first|exact HB.out|apply below_alloc|apply pw_below_drewN|apply below_drew1)|exact HB.out)) hb);have n1_:=Aside0.mk (hbox);have n2_:=Aside0.mk ((by rw [hg];exact (below_size (by repeat(first|(with_reducible first|exact HB.out|apply below_alloc|apply pw_below_drewN|apply below_drew1)|exact HB.out))) : w.heap.size ≤ gb358));have n3_:=Aside0.mk ((by rw [hg];exact (below_size (by repeat(first|(with_reducible first|exact HB.out|apply below_alloc|apply pw_below_drewN|apply below_drew1)|exact HB.out))) : w.heap.size ≤ gb358));clear HB;have HB:=n0_;have BK358:=n1_;have GW358:=n2_;have GE358:=n3_;clear n0_ n1_ n2_ n3_;clear hb hbox hg;have hcz33_0 : w32.cell? ⟨gb358,0,none⟩ = some (.int .i64 a0_0):=(blk_cell BK358.out 0).trans rfl;have hcz33_1 : w32.cell? ⟨gb358,1,none⟩ = some (.int .i64 a0_1):=(blk_cell BK358.out 1).trans rfl;have hcz33_2 : w32.cell? ⟨gb358,2,none⟩ = some (.int .i64 a0_2):=(blk_cell BK358.out 2).trans rfl;have hcz33_3 : w32.cell? ⟨gb358,3,none⟩ = some (.int .i64 a0_3):=(blk_cell BK358.out 3).trans rfl;have hfz33_0:=blk_frozen BK358.out 0;have hfz33_1:=blk_frozen BK358.out 1;have hfz33_2:=blk_frozen BK358.out 2;have hfz33_3:=blk_frozen BK358.out 3))
       go_ret
       exact ⟨by first|rfl|(simp [errW_none,errW_some] <;> rfl)|(simp [*,errW_none,errW_some] <;> rfl),by repeat(first|(with_reducible first|exact HB.out|apply below_alloc|apply pw_below_drewN|apply below_drew1|refine below_set ?_ GE358.out)|exact HB.out)⟩

end Go.Proofs.Ytebbnjgaikppgaa.PA
