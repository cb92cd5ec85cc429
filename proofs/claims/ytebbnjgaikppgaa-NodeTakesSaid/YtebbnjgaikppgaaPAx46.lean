import Derived.Test.YtebbnjgaikppgaaPAx0
import Derived.Test.YtebbnjgaikppgaaPAx45
namespace Go.Proofs.Ytebbnjgaikppgaa.PA
open Go.RowKit Go.Proofs.YtebbnjgaikppgaaW.PrintWords Go.Proofs.YtebbnjgaikppgaaW.PrintLast Go.Proofs.YtebbnjgaikppgaaW.PrintMore
attribute [local go_sem] max2_int min2_int max_two min_two max_three min_three max_four min_four   -- for this text's walks alone
attribute [local go_sem high] Flt.fold_eq Flt.fold_ne Flt.fold_lt Flt.fold_gt Flt.fold_le Flt.fold_ge Flt.run_bits Flt.run_frombits
set_option linter.unusedVariables false
set_option linter.unusedSimpArgs false

/-! ### hornbeamref18_one: function 68 -/
def hornbeamref18_one.j0 : Nat → Int → Int → Bool → Int → Int → Int → Int → Int → Int → Option (Bool)
 | 0,_,_,_,_,_,_,_,_,_=>none
 | k + 1,x3,x4,x56,x447000,x447001,x447002,x447003,x447004,x447005=>if x56 = true then (some false) else (if x3 = 0 then (if x447003 ≥ 0 then (if x447003 < x4 then (if x447004 = 0 then (some (x447005 == 0)) else (some false)) else (some false)) else (some false)) else (if x447003 = 0 then (if x447005 ≥ 1 then (if x447005 ≤ 1048576 then ((hornbeamref04_Size.f x447004).bind fun t447=>(some (decide (t447 ≤ (IntKind.u64.wrap (1048576 * (IntKind.u64.wrap (x447005)))))))) else (some false)) else (some false)) else (some false)))
def hornbeamref18_one.f (k : Nat) (a0_0 : Int) (a0_1 : Int) (a0_2 : Int) (a0_3 : Int) (a0_4 : Int) (a0_5 : Int) (a1 : Int) (a2 : Int) (a3 : Int) (a4 : Int) : Option (Bool):=if a0_0 ≥ 0 then (if a0_0 < a1 then (if a0_1 ≥ 0 then (if a0_1 < a2 then (if a0_3 = 0 then (if a0_4 = 0 then (some (a0_5 == 0)) else (some false)) else (some false)) else (some false)) else (some false)) else (some false)) else (if a0_0 = (-1) then (if a0_1 = 0 then (hornbeamref18_one.j0 k a3 a4 (a0_2 != 0) a0_0 a0_1 a0_2 a0_3 a0_4 a0_5) else (hornbeamref18_one.j0 k a3 a4 true a0_0 a0_1 a0_2 a0_3 a0_4 a0_5)) else (hornbeamref18_one.j0 k a3 a4 true a0_0 a0_1 a0_2 a0_3 a0_4 a0_5))
theorem hornbeamref18_one.mono_l : ∀ k,(∀ y0 y1 y2 y3 y4 y5 y6 y7 y8,LeO (hornbeamref18_one.j0 k y0 y1 y2 y3 y4 y5 y6 y7 y8) (hornbeamref18_one.j0 (k + 1) y0 y1 y2 y3 y4 y5 y6 y7 y8))
 | 0=>fun _ _ _ _ _ _ _ _ _ r h=>by simp [hornbeamref18_one.j0] at h
 | k + 1=>by
  have ih0:=hornbeamref18_one.mono_l k
  ·intro y0 y1 y2 y3 y4 y5 y6 y7 y8
   unfold hornbeamref18_one.j0
   repeat' first
   | (with_reducible exact ih0 _ _ _ _ _ _ _ _ _)
   | (with_reducible exact LeO.refl _)
   | (with_reducible exact LeO.none _)
   | (with_reducible refine LeO.ite ?_ ?_)
   | (with_reducible refine LeO.bind ?_ (fun _=>?_))
   | exact ih0 _ _ _ _ _ _ _ _ _
   | exact LeO.none _
   | refine LeO.ite ?_ ?_
   | refine LeO.bind ?_ (fun _=>?_)
theorem hornbeamref18_one.mono : ∀ a0 a1 a2 a3 a4 a5 a6 a7 a8 a9 k,LeO (hornbeamref18_one.f k a0 a1 a2 a3 a4 a5 a6 a7 a8 a9) (hornbeamref18_one.f (k + 1) a0 a1 a2 a3 a4 a5 a6 a7 a8 a9):=by
 intro a0 a1 a2 a3 a4 a5 a6 a7 a8 a9 k
 have ih0:=hornbeamref18_one.mono_l k
 unfold hornbeamref18_one.f
 repeat' first
   | (with_reducible exact ih0 _ _ _ _ _ _ _ _ _)
   | (with_reducible exact LeO.refl _)
   | (with_reducible exact LeO.none _)
   | (with_reducible refine LeO.ite ?_ ?_)
   | (with_reducible refine LeO.bind ?_ (fun _=>?_))
   | exact ih0 _ _ _ _ _ _ _ _ _
   | exact LeO.none _
   | refine LeO.ite ?_ ?_
   | refine LeO.bind ?_ (fun _=>?_)
set_option maxHeartbeats 8000000 in
set_option maxRecDepth 100000 in
theorem hornbeamref18_one.calls (k : Nat) (a0_0 : Int) (a0_1 : Int) (a0_2 : Int) (a0_3 : Int) (a0_4 : Int) (a0_5 : Int) (a1 : Int) (a2 : Int) (a3 : Int) (a4 : Int) (r : Bool) (w : World) (h : hornbeamref18_one.f k a0_0 a0_1 a0_2 a0_3 a0_4 a0_5 a1 a2 a3 a4 = some r) :
  Calls Try.prog 68 #[.agg #[.int .i64 a0_0,.int .i64 a0_1,.int .i64 a0_2,.int .i64 a0_3,.int .i64 a0_4,.int .i64 a0_5],.int .i64 a1,.int .i64 a2,.int .i64 a3,.int .i64 a4] w fun e w'=>e = .returned (.bool r) ∧ Below w.heap.size w w':=by
 have hu75:=Try.underlying75
 have HB:=Aside0.mk (Below.refl w.heap.size w)
 have H : (if a0_0 ≥ 0 then (if a0_0 < a1 then (if a0_1 ≥ 0 then (if a0_1 < a2 then (if a0_3 = 0 then (if a0_4 = 0 then (some (a0_5 == 0)) else (some false)) else (some false)) else (some false)) else (some false)) else (some false)) else (if a0_0 = (-1) then (if a0_1 = 0 then (hornbeamref18_one.j0 k a3 a4 (a0_2 != 0) a0_0 a0_1 a0_2 a0_3 a0_4 a0_5) else (hornbeamref18_one.j0 k a3 a4 true a0_0 a0_1 a0_2 a0_3 a0_4 a0_5)) else (hornbeamref18_one.j0 k a3 a4 true a0_0 a0_1 a0_2 a0_3 a0_4 a0_5))) = some r:=h
 clear h
 by_cases c6 : a0_0 ≥ 0
 ·rw [if_pos c6] at H
  have c6b0 : decide (0 ≤ a0_0) = true:=decide_eq_true c6
  clear c6
  by_cases c7 : a0_0 < a1
  ·rw [if_pos c7] at H
   have c7b0 : decide (a0_0 < a1) = true:=decide_eq_true c7
   clear c7
   by_cases c8 : a0_1 ≥ 0
   ·rw [if_pos c8] at H
    have c8b0 : decide (0 ≤ a0_1) = true:=decide_eq_true c8
    clear c8
    by_cases c9 : a0_1 < a2
    ·rw [if_pos c9] at H
     have c9b0 : decide (a0_1 < a2) = true:=decide_eq_true c9
     clear c9
     by_cases c10 : a0_3 = 0
     ·rw [if_pos c10] at H
      have c10b0 : (a0_3 == 0) = true:=beq_iff_eq.mpr c10
      have c10b1 : (a0_3 != 0) = false:=bne_eq_false_iff_eq.mpr c10
      clear c10
      by_cases c11 : a0_4 = 0
      ·rw [if_pos c11] at H
       have c11b0 : (a0_4 == 0) = true:=beq_iff_eq.mpr c11
       have c11b1 : (a0_4 != 0) = false:=bne_eq_false_iff_eq.mpr c11
       clear c11
       obtain rfl:=Option.some.inj H
       go_enter Try.func68,Try.ntmps68
       go_wp2_with (first|((with_reducible refine gate_dst (N:=5) rfl ?_);refine box_event ?hg (N:=5) ?hd (cs:=#[.int .i64 a0_0,.int .i64 a0_1,.int .i64 a0_2,.int .i64 a0_3,.int .i64 a0_4,.int .i64 a0_5]) (t:=75) ?hr ?_;(case hd=>rfl);(case hg=>rfl);(case hr=>first|(go_simp;done)|(go_simp;rfl));intro gb446 hg w12 hbox hb;have n0_:=Aside0.mk (below_step (by repeat(first|(with_reducible first|exact HB.out|apply below_alloc|apply pw_below_drewN|apply below_drew1)|exact HB.out)) hb);have n1_:=Aside0.mk (hbox);have n2_:=Aside0.mk ((by rw [hg];exact (below_size (by repeat(first|(with_reducible first|exact HB.out|apply below_alloc|apply pw_below_drewN|apply below_drew1)|exact HB.out))) : w.heap.size ≤ gb446));have n3_:=Aside0.mk ((by rw [hg];exact (below_size (by repeat(first|(with_reducible first|exact HB.out|apply below_alloc|apply pw_below_drewN|apply below_drew1)|exact HB.out))) : w.heap.size ≤ gb446));clear HB;have HB:=n0_;have BK446:=n1_;have GW446:=n2_;have GE446:=n3_;clear n0_ n1_ n2_ n3_;clear hb hbox hg;have hcz13_0 : w12.cell? ⟨gb446,0,none⟩ = some (.int .i64 a0_0):=(blk_cell BK446.out 0).trans rfl;have hcz13_1 : w12.cell? ⟨gb446,1,none⟩ = some (.int .i64 a0_1):=(blk_cell BK446.out 1).trans rfl;have hcz13_2 : w12.cell? ⟨gb446,2,none⟩ = some (.int .i64 a0_2):=(blk_cell BK446.out 2).trans rfl;have hcz13_3 : w12.cell? ⟨gb446,3,none⟩ = some (.int .i64 a0_3):=(blk_cell BK446.out 3).trans rfl;have hcz13_4 : w12.cell? ⟨gb446,4,none⟩ = some (.int .i64 a0_4):=(blk_cell BK446.out 4).trans rfl;have hcz13_5 : w12.cell? ⟨gb446,5,none⟩ = some (.int .i64 a0_5):=(blk_cell BK446.out 5).trans rfl;have hfz13_0:=blk_frozen BK446.out 0;have hfz13_1:=blk_frozen BK446.out 1;have hfz13_2:=blk_frozen BK446.out 2;have hfz13_3:=blk_frozen BK446.out 3;have hfz13_4:=blk_frozen BK446.out 4;have hfz13_5:=blk_frozen BK446.out 5))
       repeat (go_quiet (first|((with_reducible refine gate_dst (N:=5) rfl ?_);refine box_event ?hg (N:=5) ?hd (cs:=#[.int .i64 a0_0,.int .i64 a0_1,.int .i64 a0_2,.int .i64 a0_3,.int .i64 a0_4,.int .i64 a0_5]) (t:=75) ?hr ?_;(case hd=>rfl);(case hg=>rfl);(case hr=>first|(go_simp;done)|(go_simp;rfl));intro gb446 hg w12 hbox hb;have n0_:=Aside0.mk (below_step (by repeat(first|(with_reducible first|exact HB.out|apply below_alloc|apply pw_below_drewN|apply below_drew1)|exact HB.out)) hb);have n1_:=Aside0.mk (hbox);have n2_:=Aside0.mk ((by rw [hg];exact (below_size (by repeat(first|(with_reducible first|exact HB.out|apply below_alloc|apply pw_below_drewN|apply below_drew1)|exact HB.out))) : w.heap.size ≤ gb446));have n3_:=Aside0.mk ((by rw [hg];exact (below_size (by repeat(first|(with_reducible first|exact HB.out|apply below_alloc|apply pw_below_drewN|apply below_drew1)|exact HB.out))) : w.heap.size ≤ gb446));clear HB;have HB:=n0_;have BK446:=n1_;have GW446:=n2_;have GE446:=n3_;clear n0_ n1_ n2_ n3_;clear hb hbox hg;have hcz13_0 : w12.cell? ⟨gb446,0,none⟩ = some (.int .i64 a0_0):=(blk_cell BK446.out 0).trans rfl;have hcz13_1 : w12.cell? ⟨gb446,1,none⟩ = some (.int .i64 a0_1):=(blk_cell BK446.out 1).trans rfl;have hcz13_2 : w12.cell? ⟨gb446,2,none⟩ = some (.int .i64 a0_2):=(blk_cell BK446.out 2).trans rfl;have hcz13_3 : w12.cell? ⟨gb446,3,none⟩ = some (.int .i64 a0_3):=(blk_cell BK446.out 3).trans rfl;have hcz13_4 : w12.cell? ⟨gb446,4,none⟩ = some (.int .i64 a0_4):=(blk_cell BK446.out 4).trans rfl;have hcz13_5 : w12.cell? ⟨gb446,5,none⟩ = some (.int .i64 a0_5):=(blk_cell BK446.out 5).trans rfl;have hfz13_0:=blk_frozen BK446.out 0;have hfz13_1:=blk_frozen BK446.out 1;have hfz13_2:=blk_frozen BK446.out 2;have hfz13_3:=blk_frozen BK446.out 3;have hfz13_4:=blk_frozen BK446.out 4;have hfz13_5:=blk_frozen BK446.out 5));try go_wp2_with (first|((with_reducible refine gate_dst (N:=5) rfl ?_);refine box_event ?hg (N:=5) ?hd (cs:=#[.int .i64 a0_0,.int .i64 a0_1,.int .i64 a0_2,.int .i64 a0_3,.int .i64 a0_4,.int .i64 a0_5]) (t:=75) ?hr ?_;(case hd=>rfl);(case hg=>rfl);(case hr=>first|(go_simp;done)|(go_simp;rfl));intro gb446 hg w12 hbox hb;have n0_:=Aside0.mk (below_step (by repeat(first|(with_reducible first|exact HB.out|apply below_alloc|apply pw_below_drewN|apply below_drew1)|exact HB.out)) hb);have n1_:=Aside0.mk (hbox);have n2_:=Aside0.mk ((by rw [hg];exact (below_size (by repeat(first|(with_reducible first|exact HB.out|apply below_alloc|apply pw_below_drewN|apply below_drew1)|exact HB.out))) : w.heap.size ≤ gb446));have n3_:=Aside0.mk ((by rw [hg];exact (below_size (by repeat(first|(with_reducible first|exact HB.out|apply below_alloc|apply pw_below_drewN|apply below_drew1)|exact HB.out))) : w.heap.size ≤ gb446));clear HB;have HB:=n0_;have BK446:=n1_;have GW446:=n2_;have GE446:=n3_;clear n0_ n1_ n2_ n3_;clear hb hbox hg;have hcz13_0 : w12.cell? ⟨gb446,0,none⟩ = some (.int .i64 a0_0):=(blk_cell BK446.out 0).trans rfl;have hcz13_1 : w12.cell? ⟨gb446,1,none⟩ = some (.int .i64 a0_1):=(blk_cell BK446.out 1).trans rfl;have hcz13_2 : w12.cell? ⟨gb446,2,none⟩ = some (.int .i64 a0_2):=(blk_cell BK446.out 2).trans rfl;have hcz13_3 : w12.cell? ⟨gb446,3,none⟩ = some (.int .i64 a0_3):=(blk_cell BK446.out 3).trans rfl;have hcz13_4 : w12.cell? ⟨gb446,4,none⟩ = some (.int .i64 a0_4):=(blk_cell BK446.out 4).trans rfl;have hcz13_5 : w12.cell? ⟨gb446,5,none⟩ = some (.int .i64 a0_5):=(blk_cell BK446.out 5).trans rfl;have hfz13_0:=blk_frozen BK446.out 0;have hfz13_1:=blk_frozen BK446.out 1;have hfz13_2:=blk_frozen BK446.out 2;have hfz13_3:=blk_frozen BK446.out 3;have hfz13_4:=blk_frozen BK446.out 4;have hfz13_5:=blk_frozen BK446.out 5)))
       go_ret
       exact ⟨by first|rfl|(simp [errW_none,errW_some] <;> rfl)|(simp [*,errW_none,errW_some] <;> rfl),by repeat(first|(with_reducible first|exact HB.out|apply below_alloc|apply pw_below_drewN|apply below_drew1|refine below_set ?_ GE446.out)|exact HB.out)⟩
      ·rw [if_neg c11] at H
       have c11b0 : (a0_4 == 0) = false:=beq_eq_false_iff_ne.mpr c11
       have c11b1 : (a0_4 != 0) = true:=bne_iff_ne.mpr c11
       obtain rfl:=Option.some.inj H
       go_enter Try.func68,Try.ntmps68
       go_wp2_with (first|((with_reducible refine gate_dst (N:=5) rfl ?_);refine box_event ?hg (N:=5) ?hd (cs:=#[.int .i64 a0_0,.int .i64 a0_1,.int .i64 a0_2,.int .i64 a0_3,.int .i64 a0_4,.int .i64 a0_5]) (t:=75) ?hr ?_;(case hd=>rfl);(case hg=>rfl);(case hr=>first|(go_simp;done)|(go_simp;rfl));intro gb446 hg w14 hbox hb;have n0_:=Aside0.mk (below_step (by repeat(first|(with_reducible first|exact HB.out|apply below_alloc|apply pw_below_drewN|apply below_drew1)|exact HB.out)) hb);have n1_:=Aside0.mk (hbox);have n2_:=Aside0.mk ((by rw [hg];exact (below_size (by repeat(first|(with_reducible first|exact HB.out|apply below_alloc|apply pw_below_drewN|apply below_drew1)|exact HB.out))) : w.heap.size ≤ gb446));have n3_:=Aside0.mk ((by rw [hg];exact (below_size (by repeat(first|(with_reducible first|exact HB.out|apply below_alloc|apply pw_below_drewN|apply below_drew1)|exact HB.out))) : w.heap.size ≤ gb446));clear HB;have HB:=n0_;have BK446:=n1_;have GW446:=n2_;have GE446:=n3_;clear n0_ n1_ n2_ n3_;clear hb hbox hg;have hcz15_0 : w14.cell? ⟨gb446,0,none⟩ = some (.int .i64 a0_0):=(blk_cell BK446.out 0).trans rfl;have hcz15_1 : w14.cell? ⟨gb446,1,none⟩ = some (.int .i64 a0_1):=(blk_cell BK446.out 1).trans rfl;have hcz15_2 : w14.cell? ⟨gb446,2,none⟩ = some (.int .i64 a0_2):=(blk_cell BK446.out 2).trans rfl;have hcz15_3 : w14.cell? ⟨gb446,3,none⟩ = some (.int .i64 a0_3):=(blk_cell BK446.out 3).trans rfl;have hcz15_4 : w14.cell? ⟨gb446,4,none⟩ = some (.int .i64 a0_4):=(blk_cell BK446.out 4).trans rfl;have hcz15_5 : w14.cell? ⟨gb446,5,none⟩ = some (.int .i64 a0_5):=(blk_cell BK446.out 5).trans rfl;have hfz15_0:=blk_frozen BK446.out 0;have hfz15_1:=blk_frozen BK446.out 1;have hfz15_2:=blk_frozen BK446.out 2;have hfz15_3:=blk_frozen BK446.out 3;have hfz15_4:=blk_frozen BK446.out 4;have hfz15_5:=blk_frozen BK446.out 5))
       repeat (go_quiet (first|((with_reducible refine gate_dst (N:=5) rfl ?_);refine box_event ?hg (N:=5) ?hd (cs:=#[.int .i64 a0_0,.int .i64 a0_1,.int .i64 a0_2,.int .i64 a0_3,.int .i64 a0_4,.int .i64 a0_5]) (t:=75) ?hr ?_;(case hd=>rfl);(case hg=>rfl);(case hr=>first|(go_simp;done)|(go_simp;rfl));intro gb446 hg w14 hbox hb;have n0_:=Aside0.mk (below_step (by repeat(first|(with_reducible first|exact HB.out|apply below_alloc|apply pw_below_drewN|apply below_drew1)|exact HB.out)) hb);have n1_:=Aside0.mk (hbox);have n2_:=Aside0.mk ((by rw [hg];exact (below_size (by repeat(first|(with_reducible first|exact HB.out|apply below_alloc|apply pw_below_drewN|apply below_drew1)|exact HB.out))) : w.heap.size ≤ gb446));have n3_:=Aside0.mk ((by rw [hg];exact (below_size (by repeat(first|(with_reducible first|exact HB.out|apply below_alloc|apply pw_below_drewN|apply below_drew1)|exact HB.out))) : w.heap.size ≤ gb446));clear HB;have HB:=n0_;have BK446:=n1_;have GW446:=n2_;have GE446:=n3_;clear n0_ n1_ n2_ n3_;clear hb hbox hg;have hcz15_0 : w14.cell? ⟨gb446,0,none⟩ = some (.int .i64 a0_0):=(blk_cell BK446.out 0).trans rfl;have hcz15_1 : w14.cell? ⟨gb446,1,none⟩ = some (.int .i64 a0_1):=(blk_cell BK446.out 1).trans rfl;have hcz15_2 : w14.cell? ⟨gb446,2,none⟩ = some (.int .i64 a0_2):=(blk_cell BK446.out 2).trans rfl;have hcz15_3 : w14.cell? ⟨gb446,3,none⟩ = some (.int .i64 a0_3):=(blk_cell BK446.out 3).trans rfl;have hcz15_4 : w14.cell? ⟨gb446,4,none⟩ = some (.int .i64 a0_4):=(blk_cell BK446.out 4).trans rfl;have hcz15_5 : w14.cell? ⟨gb446,5,none⟩ = some (.int .i64 a0_5):=(blk_cell BK446.out 5).trans rfl;have hfz15_0:=blk_frozen BK446.out 0;have hfz15_1:=blk_frozen BK446.out 1;have hfz15_2:=blk_frozen BK446.out 2;have hfz15_3:=blk_frozen BK446.out 3;have hfz15_4:=blk_frozen BK446.out 4;have hfz15_5:=blk_frozen BK446.out 5));try go_wp2_with (first|((with_reducible refine gate_dst (N:=5) rfl ?_);refine box_event ?hg (N:=5) ?hd (cs:=#[.int .i64 a0_0,.int .i64 a0_1,.int .i64 a0_2,.int .i64 a0_3,.int .i64 a0_4,.int .i64 a0_5]) (t:=75) ?hr ?_;(case hd=>rfl);(case hg=>rfl);(case hr=>first|(go_simp;done)|(go_simp;rfl));intro gb446 hg w14 hbox hb;have n0_:=Aside0.mk (below_step (by repeat(first|(with_reducible first|exact HB.out|apply below_alloc|apply pw_below_drewN|apply below_drew1)|exact HB.out)) hb);have n1_:=Aside0.mk (hbox);have n2_:=Aside0.mk ((by rw [hg];exact (below_size (by repeat(first|(with_reducible first|exact HB.out|apply below_alloc|apply pw_below_drewN|apply below_drew1)|exact HB.out))) : w.heap.size ≤ gb446));have n3_:=Aside0.mk ((by rw [hg];exact (below_size (by repeat(first|(with_reducible first|exact HB.out|apply below_alloc|apply pw_below_drewN|apply below_drew1)|exact HB.out))) : w.heap.size ≤ gb446));clear HB;have HB:=n0_;have BK446:=n1_;have GW446:=n2_;have GE446:=n3_;clear n0_ n1_ n2_ n3_;clear hb hbox hg;have hcz15_0 : w14.cell? ⟨gb446,0,none⟩ = some (.int .i64 a0_0):=(blk_cell BK446.out 0).trans rfl;have hcz15_1 : w14.cell? ⟨gb446,1,none⟩ = some (.int .i64 a0_1):=(blk_cell BK446.out 1).trans rfl;have hcz15_2 : w14.cell? ⟨gb446,2,none⟩ = some (.int .i64 a0_2):=(blk_cell BK446.out 2).trans rfl;have hcz15_3 : w14.cell? ⟨gb446,3,none⟩ = some (.int .i64 a0_3):=(blk_cell BK446.out 3).trans rfl;have hcz15_4 : w14.cell? ⟨gb446,4,none⟩ = some (.int .i64 a0_4):=(blk_cell BK446.out 4).trans rfl;have hcz15_5 : w14.cell? ⟨gb446,5,none⟩ = some (.int .i64 a0_5):=(blk_cell BK446.out 5).trans rfl;have hfz15_0:=blk_frozen BK446.out 0;have hfz15_1:=blk_frozen BK446.out 1;have hfz15_2:=blk_frozen BK446.out 2;have hfz15_3:=blk_frozen BK446.out 3;have hfz15_4:=blk_frozen BK446.out 4;have hfz15_5:=blk_frozen BK446.out 5)))
       go_ret
       exact ⟨by first|rfl|(simp [errW_none,errW_some] <;> rfl)|(simp [*,errW_none,errW_some] <;> rfl),by repeat(first|(with_reducible first|exact HB.out|apply below_alloc|apply pw_below_drewN|apply below_drew1|refine below_set ?_ GE446.out)|exact HB.out)⟩
     ·rw [if_neg c10] at H
      have c10b0 : (a0_3 == 0) = false:=beq_eq_false_iff_ne.mpr c10
      have c10b1 : (a0_3 != 0) = true:=bne_iff_ne.mpr c10
      obtain rfl:=Option.some.inj H
      go_enter Try.func68,Try.ntmps68
      go_wp2_with (first|((with_reducible refine gate_dst (N:=5) rfl ?_);refine box_event ?hg (N:=5) ?hd (cs:=#[.int .i64 a0_0,.int .i64 a0_1,.int .i64 a0_2,.int .i64 a0_3,.int .i64 a0_4,.int .i64 a0_5]) (t:=75) ?hr ?_;(case hd=>rfl);(case hg=>rfl);(case hr=>first|(go_simp;done)|(go_simp;rfl));intro gb446 hg w16 hbox hb;have n0_:=Aside0.mk (below_step (by repeat(first|(with_reducible first|exact HB.out|apply below_alloc|apply pw_below_drewN|apply below_drew1)|exact HB.out)) hb);have n1_:=Aside0.mk (hbox);have n2_:=Aside0.mk ((by rw [hg];exact (below_size (by repeat(first|(with_reducible first|exact HB.out|apply below_alloc|apply pw_below_drewN|apply below_drew1)|exact HB.out))) : w.heap.size ≤ gb446));have n3_:=Aside0.mk ((by rw [hg];exact (below_size (by repeat(first|(with_reducible first|exact HB.out|apply below_alloc|apply pw_below_drewN|apply below_drew1)|exact HB.out))) : w.heap.size ≤ gb446));clear HB;have HB:=n0_;have BK446:=n1_;have GW446:=n2_;have GE446:=n3_;clear n0_ n1_ n2_ n3_;clear hb hbox hg;have hcz17_0 : w16.cell? ⟨gb446,0,none⟩ = some (.int .i64 a0_0):=(blk_cell BK446.out 0).trans rfl;have hcz17_1 : w16.cell? ⟨gb446,1,none⟩ = some (.int .i64 a0_1):=(blk_cell BK446.out 1).trans rfl;have hcz17_2 : w16.cell? ⟨gb446,2,none⟩ = some (.int .i64 a0_2):=(blk_cell BK446.out 2).trans rfl;have hcz17_3 : w16.cell? ⟨gb446,3,none⟩ = some (.int .i64 a0_3):=(blk_cell BK446.out 3).trans rfl;have hcz17_4 : w16.cell? ⟨gb446,4,none⟩ = some (.int .i64 a0_4):=(blk_cell BK446.out 4).trans rfl;have hcz17_5 : w16.cell? ⟨gb446,5,none⟩ = some (.int .i64 a0_5):=(blk_cell BK446.out 5).trans rfl;have hfz17_0:=blk_frozen BK446.out 0;have hfz17_1:=blk_frozen BK446.out 1;have hfz17_2:=blk_frozen BK446.out 2;have hfz17_3:=blk_frozen BK446.out 3;have hfz17_4:=blk_frozen BK446.out 4;have hfz17_5:=blk_frozen BK446.out 5))
      repeat (go_quiet (first|((with_reducible refine gate_dst (N:=5) rfl ?_);refine box_event ?hg (N:=5) ?hd (cs:=#[.int .i64 a0_0,.int .i64 a0_1,.int .i64 a0_2,.int .i64 a0_3,.int .i64 a0_4,.int .i64 a0_5]) (t:=75) ?hr ?_;(case hd=>rfl);(case hg=>rfl);(case hr=>first|(go_simp;done)|(go_simp;rfl));intro gb446 hg w16 hbox hb;have n0_:=Aside0.mk (below_step (by repeat(first|(with_reducible first|exact HB.out|apply below_alloc|apply pw_below_drewN|apply below_drew1)|exact HB.out)) hb);have n1_:=Aside0.mk (hbox);have n2_:=Aside0.mk ((by rw [hg];exact (below_size (by repeat(first|(with_reducible first|exact HB.out|apply below_alloc|apply pw_below_drewN|apply below_drew1)|exact HB.out))) : w.heap.size ≤ gb446));have n3_:=Aside0.mk ((by rw [hg];exact (below_size (by repeat(first|(with_reducible first|exact HB.out|apply below_alloc|apply pw_below_drewN|apply below_drew1)|exact HB.out))) : w.heap.size ≤ gb446));clear HB;have HB:=n0_;have BK446:=n1_;have GW446:=n2_;have GE446:=n3_;clear n0_ n1_ n2_ n3_;clear hb hbox hg;have hcz17_0 : w16.cell? ⟨gb446,0,none⟩ = some (.int .i64 a0_0):=(blk_cell BK446.out 0).trans rfl;have hcz17_1 : w16.cell? ⟨gb446,1,none⟩ = some (.int .i64 a0_1):=(blk_cell BK446.out 1).trans rfl;have hcz17_2 : w16.cell? ⟨gb446,2,none⟩ = some (.int .i64 a0_2):=(blk_cell BK446.out 2).trans rfl;have hcz17_3 : w16.cell? ⟨gb446,3,none⟩ = some (.int .i64 a0_3):=(blk_cell BK446.out 3).trans rfl;have hcz17_4 : w16.cell? ⟨gb446,4,none⟩ = some (.int .i64 a0_4):=(blk_cell BK446.out 4).trans rfl;have hcz17_5 : w16.cell? ⟨gb446,5,none⟩ = some (.int .i64 a0_5):=(blk_cell BK446.out 5).trans rfl;have hfz17_0:=blk_frozen BK446.out 0;have hfz17_1:=blk_frozen BK446.out 1;have hfz17_2:=blk_frozen BK446.out 2;have hfz17_3:=blk_frozen BK446.out 3;have hfz17_4:=blk_frozen BK446.out 4;have hfz17_5:=blk_frozen BK446.out 5));try go_wp2_with (first|((with_reducible refine gate_dst (N:=5) rfl ?_);refine box_event ?hg (N:=5) ?hd (cs:=#[.int .i64 a0_0,.int .i64 a0_1,.int .i64 a0_2,.int .i64 a0_3,.int .i64 a0_4,.int .i64 a0_5]) (t:=75) ?hr ?_;(case hd=>rfl);(case hg=>rfl);(case hr=>first|(go_simp;done)|(go_simp;rfl));intro gb446 hg w16 hbox hb;have n0_:=Aside0.mk (below_step (by repeat(first|(with_reducible first|exact HB.out|apply below_alloc|apply pw_below_drewN|apply below_drew1)|exact HB.out)) hb);have n1_:=Aside0.mk (hbox);have n2_:=Aside0.mk ((by rw [hg];exact (below_size (by repeat(first|(with_reducible first|exact HB.out|apply below_alloc|apply pw_below_drewN|apply below_drew1)|exact HB.out))) : w.heap.size ≤ gb446));have n3_:=Aside0.mk ((by rw [hg];exact (below_size (by repeat(first|(with_reducible first|exact HB.out|apply below_alloc|apply pw_below_drewN|apply below_drew1)|exact HB.out))) : w.heap.size ≤ gb446));clear HB;have HB:=n0_;have BK446:=n1_;have GW446:=n2_;have GE446:=n3_;clear n0_ n1_ n2_ n3_;clear hb hbox hg;have hcz17_0 : w16.cell? ⟨gb446,0,none⟩ = some (.int .i64 a0_0):=(blk_cell BK446.out 0).trans rfl;have hcz17_1 : w16.cell? ⟨gb446,1,none⟩ = some (.int .i64 a0_1):=(blk_cell BK446.out 1).trans rfl;have hcz17_2 : w16.cell? ⟨gb446,2,none⟩ = some (.int .i64 a0_2):=(blk_cell BK446.out 2).trans rfl;have hcz17_3 : w16.cell? ⟨gb446,3,none⟩ = some (.int .i64 a0_3):=(blk_cell BK446.out 3).trans rfl;have hcz17_4 : w16.cell? ⟨gb446,4,none⟩ = some (.int .i64 a0_4):=(blk_cell BK446.out 4).trans rfl;have hcz17_5 : w16.cell? ⟨gb446,5,none⟩ = some (.int .i64 a0_5):=(blk_cell BK446.out 5).trans rfl;have hfz17_0:=blk_frozen BK446.out 0;have hfz17_1:=blk_frozen BK446.out 1;have hfz17_2:=blk_frozen BK446.out 2;have hfz17_3:=blk_frozen BK446.out 3;have hfz17_4:=blk_frozen BK446.out 4;have hfz17_5:=blk_frozen BK446.out 5)))
      go_ret
      exact ⟨by first|rfl|(simp [errW_none,errW_some] <;> rfl)|(simp [*,errW_none,errW_some] <;> rfl),by repeat(first|(with_reducible first|exact HB.out|apply below_alloc|apply pw_below_drewN|apply below_drew1|refine below_set ?_ GE446.out)|exact HB.out)⟩
    ·rw [if_neg c9] at H
     have c9b0 : decide (a0_1 < a2) = false:=decide_eq_false c9
     clear c9
     obtain rfl:=Option.some.inj H
     go_enter Try.func68,Try.ntmps68
     go_wp2_with (first|((with_reducible refine gate_dst (N:=5) rfl ?_);refine box_event ?hg (N:=5) ?hd (cs:=#[.int .i64 a0_0,.int .i64 a0_1,.int .i64 a0_2,.int .i64 a0_3,.int .i64 a0_4,.int .i64 a0_5]) (t:=75) ?hr ?_;(case hd=>rfl);(case hg=>rfl);(case hr=>first|(go_simp;done)|(go_simp;rfl));intro gb446 hg w18 hbox hb;have n0_:=Aside0.mk (below_step (by repeat(first|(with_reducible first|exact HB.out|apply below_alloc|apply pw_below_drewN|apply below_drew1)|exact HB.out)) hb);have n1_:=Aside0.mk (hbox);have n2_:=Aside0.mk ((by rw [hg];exact (below_size (by repeat(first|(with_reducible first|exact HB.out|apply below_alloc|apply pw_below_drewN|apply below_drew1)|exact HB.out))) : w.heap.size ≤ gb446));have n3_:=Aside0.mk ((by rw [hg];exact (below_size (by repeat(first|(with_reducible first|exact HB.out|apply below_alloc|apply pw_below_drewN|apply below_drew1)|exact HB.out))) : w.heap.size ≤ gb446));clear HB;have HB:=n0_;have BK446:=n1_;have GW446:=n2_;have GE446:=n3_;clear n0_ n1_ n2_ n3_;clear hb hbox hg;have hcz19_0 : w18.cell? ⟨gb446,0,none⟩ = some (.int .i64 a0_0):=(blk_cell BK446.out 0).trans rfl;have hcz19_1 : w18.cell? ⟨gb446,1,none⟩ = some (.int .i64 a0_1):=(blk_cell BK446.out 1).trans rfl;have hcz19_2 : w18.cell? ⟨gb446,2,none⟩ = some (.int .i64 a0_2):=(blk_cell BK446.out 2).trans rfl;have hcz19_3 : w18.cell? ⟨gb446,3,none⟩ = some (.int .i64 a0_3):=(blk_cell BK446.out 3).trans rfl;have hcz19_4 : w18.cell? ⟨gb446,4,none⟩ = some (.int .i64 a0_4):=(blk_cell BK446.out 4).trans rfl;have hcz19_5 : w18.cell? ⟨gb446,5,none⟩ = some (.int .i64 a0_5):=(blk_cell BK446.out 5).trans rfl;have hfz19_0:=blk_frozen BK446.out 0;have hfz19_1:=blk_frozen BK446.out 1;have hfz19_2:=blk_frozen BK446.out 2;have hfz19_3:=blk_frozen BK446.out 3;have hfz19_4:=blk_frozen BK446.out 4;have hfz19_5:=blk_frozen BK446.out 5))
     repeat (go_quiet (first|((with_reducible refine gate_dst (N:=5) rfl ?_);refine box_event ?hg (N:=5) ?hd (cs:=#[.int .i64 a0_0,.int .i64 a0_1,.int .i64 a0_2,.int .i64 a0_3,.int .i64 a0_4,.int .i64 a0_5]) (t:=75) ?hr ?_;(case hd=>rfl);(case hg=>rfl);(case hr=>first|(go_simp;done)|(go_simp;rfl));intro gb446 hg w18 hbox hb;have n0_:=Aside0.mk (below_step (by repeat(first|(with_reducible first|exact HB.out|apply below_alloc|apply pw_below_drewN|apply below_drew1)|exact HB.out)) hb);have n1_:=Aside0.mk (hbox);have n2_:=Aside0.mk ((by rw [hg];exact (below_size (by repeat(first|(with_reducible first|exact HB.out|apply below_alloc|apply pw_below_drewN|apply below_drew1)|exact HB.out))) : w.heap.size ≤ gb446));have n3_:=Aside0.mk ((by rw [hg];exact (below_size (by repeat(first|(with_reducible first|exact HB.out|apply below_alloc|apply pw_below_drewN|apply below_drew1)|exact HB.out))) : w.heap.size ≤ gb446));clear HB;have HB:=n0_;have BK446:=n1_;have GW446:=n2_;have GE446:=n3_;clear n0_ n1_ n2_ n3_;clear hb hbox hg;have hcz19_0 : w18.cell? ⟨gb446,0,none⟩ = some (.int .i64 a0_0):=(blk_cell BK446.out 0).trans rfl;have hcz19_1 : w18.cell? ⟨gb446,1,none⟩ = some (.int .i64 a0_1):=(blk_cell BK446.out 1).trans rfl;have hcz19_2 : w18.cell? ⟨gb446,2,none⟩ = some (.int .i64 a0_2):=(blk_cell BK446.out 2).trans rfl;have hcz19_3 : w18.cell? ⟨gb446,3,none⟩ = some (.int .i64 a0_3):=(blk_cell BK446.out 3).trans rfl;have hcz19_4 : w18.cell? ⟨gb446,4,none⟩ = some (.int .i64 a0_4):=(blk_cell BK446.out 4).trans rfl;have hcz19_5 : w18.cell? ⟨gb446,5,none⟩ = some (.int .i64 a0_5):=(blk_cell BK446.out 5).trans rfl;have hfz19_0:=blk_frozen BK446.out 0;have hfz19_1:=blk_frozen BK446.out 1;have hfz19_2:=blk_frozen BK446.out 2;have hfz19_3:=blk_frozen BK446.out 3;have hfz19_4:=blk_frozen BK446.out 4;have hfz19_5:=blk_frozen BK446.out 5));try go_wp2_with (first|((with_reducible refine gate_dst (N:=5) rfl ?_);refine box_event ?hg (N:=5) ?hd (cs:=#[.int .i64 a0_0,.int .i64 a0_1,.int .i64 a0_2,.int .i64 a0_3,.int .i64 a0_4,.int .i64 a0_5]) (t:=75) ?hr ?_;(case hd=>rfl);(case hg=>rfl);(case hr=>first|(go_simp;done)|(go_simp;rfl));intro gb446 hg w18 hbox hb;have n0_:=Aside0.mk (below_step (by repeat(first|(with_reducible first|exact HB.out|apply below_alloc|apply pw_below_drewN|apply below_drew1)|exact HB.out)) hb);have n1_:=Aside0.mk (hbox);have n2_:=Aside0.mk ((by rw [hg];exact (below_size (by repeat(first|(with_reducible first|exact HB.out|apply below_alloc|apply pw_below_drewN|apply below_drew1)|exact HB.out))) : w.heap.size ≤ gb446));have n3_:=Aside0.mk ((by rw [hg];exact (below_size (by repeat(first|(with_reducible first|exact HB.out|apply below_alloc|apply pw_below_drewN|apply below_drew1)|exact HB.out))) : w.heap.size ≤ gb446));clear HB;have HB:=n0_;have BK446:=n1_;have GW446:=n2_;have GE446:=n3_;clear n0_ n1_ n2_ n3_;clear hb hbox hg;have hcz19_0 : w18.cell? ⟨gb446,0,none⟩ = some (.int .i64 a0_0):=(blk_cell BK446.out 0).trans rfl;have hcz19_1 : w18.cell? ⟨gb446,1,none⟩ = some (.int .i64 a0_1):=(blk_cell BK446.out 1).trans rfl;have hcz19_2 : w18.cell? ⟨gb446,2,none⟩ = some (.int .i64 a0_2):=(blk_cell BK446.out 2).trans rfl;have hcz19_3 : w18.cell? ⟨gb446,3,none⟩ = some (.int .i64 a0_3):=(blk_cell BK446.out 3).trans rfl;have hcz19_4 : w18.cell? ⟨gb446,4,none⟩ = some (.int .i64 a0_4):=(blk_cell BK446.out 4).trans rfl;have hcz19_5 : w18.cell? ⟨gb446,5,none⟩ = some (.int .i64 a0_5):=(blk_cell BK446.out 5).trans rfl;have hfz19_0:=blk_frozen BK446.out 0;have hfz19_1:=blk_frozen BK446.out 1;have hfz19_2:=blk_frozen BK446.out 2;have hfz19_3:=blk_frozen BK446.out 3;have hfz19_4:=blk_frozen BK446.out 4;have hfz19_5:=blk_frozen BK446.out 5)))
     go_ret
     exact ⟨by first|rfl|(simp [errW_none,errW_some] <;> rfl)|(simp [*,errW_none,errW_some] <;> rfl),by repeat(first|(with_reducible first|exact HB.out|apply below_alloc|apply pw_below_drewN|apply below_drew1|refine below_set ?_ GE446.out)|exact HB.out)⟩
   ·rw [if_neg c8] at H
    have c8b0 : decide (0 ≤ a0_1) = false:=decide_eq_false c8
    clear c8
    obtain rfl:=Option.some.inj H
    go_enter Try.func68,Try.ntmps68
    go_wp2_with (first|((with_reducible refine gate_dst (N:=5) rfl ?_);refine box_event ?hg (N:=5) ?hd (cs:=#[.int .i64 a0_0,.int .i64 a0_1,.int .i64 a0_2,.int .i64 a0_3,.int .i64 a0_4,.int .i64 a0_5]) (t:=75) ?hr ?_;(case hd=>rfl);(case hg=>rfl);(case hr=>first|(go_simp;done)|(go_simp;rfl));intro gb446 hg w20 hbox hb;have n0_:=Aside0.mk (below_step (by repeat(first|(with_reducible first|exact HB.out|apply below_alloc|apply pw_below_drewN|apply below_drew1)|exact HB.out)) hb);have n1_:=Aside0.mk (hbox);have n2_:=Aside0.mk ((by rw [hg];exact (below_size (by repeat(first|(with_reducible first|exact HB.out|apply below_alloc|apply pw_below_drewN|apply below_drew1)|exact HB.out))) : w.heap.size ≤ gb446));have n3_:=Aside0.mk ((by rw [hg];exact (below_size (by repeat(first|(with_reducible first|exact HB.out|apply below_alloc|apply pw_below_drewN|apply below_drew1)|exact HB.out))) : w.heap.size ≤ gb446));clear HB;have HB:=n0_;have BK446:=n1_;have GW446:=n2_;have GE446:=n3_;clear n0_ n1_ n2_ n3_;clear hb hbox hg;have hcz21_0 : w20.cell? ⟨gb446,0,none⟩ = some (.int .i64 a0_0):=(blk_cell BK446.out 0).trans rfl;have hcz21_1 : w20.cell? ⟨gb446,1,none⟩ = some (.int .i64 a0_1):=(blk_cell BK446.out 1).trans rfl;have hcz21_2 : w20.cell? ⟨gb446,2,none⟩ = some (.int .i64 a0_2):=(blk_cell BK446.out 2).trans rfl;have hcz21_3 : w20.cell? ⟨gb446,3,none⟩ = some (.int .i64 a0_3):=(blk_cell BK446.out 3).trans rfl;have hcz21_4 : w20.cell? ⟨gb446,4,none⟩ = some (.int .i64 a0_4):=(blk_cell BK446.out 4).trans rfl;have hcz21_5 : w20.cell? ⟨gb446,5,none⟩ = some (.int .i64 a0_5):=(blk_cell BK446.out 5).trans rfl;have hfz21_0:=blk_frozen BK446.out 0;have hfz21_1:=blk_frozen BK446.out 1;have hfz21_2:=blk_frozen BK446.out 2;have hfz21_3:=blk_frozen BK446.out 3;have hfz21_4:=blk_frozen BK446.out 4;have hfz21_5:=blk_frozen BK446.out 5))
    repeat (go_quiet (first|((with_reducible refine gate_dst (N:=5) rfl ?_);refine box_event ?hg (N:=5) ?hd (cs:=#[.int .i64 a0_0,.int .i64 a0_1,.int .i64 a0_2,.int .i64 a0_3,.int .i64 a0_4,.int .i64 a0_5]) (t:=75) ?hr ?_;(case hd=>rfl);(case hg=>rfl);(case hr=>first|(go_simp;done)|(go_simp;rfl));intro gb446 hg w20 hbox hb;have n0_:=Aside0.mk (below_step (by repeat(first|(with_reducible first|exact HB.out|apply below_alloc|apply pw_below_drewN|apply below_drew1)|exact HB.out)) hb);have n1_:=Aside0.mk (hbox);have n2_:=Aside0.mk ((by rw [hg];exact (below_size (by repeat(first|(with_reducible first|exact HB.out|apply below_alloc|apply pw_below_drewN|apply below_drew1)|exact HB.out))) : w.heap.size ≤ gb446));have n3_:=Aside0.mk ((by rw [hg];exact (below_size (by repeat(first|(with_reducible first|exact HB.out|apply below_alloc|apply pw_below_drewN|apply below_drew1)|exact HB.out))) : w.heap.size ≤ gb446));clear HB;have HB:=n0_;have BK446:=n1_;have GW446:=n2_;have GE446:=n3_;clear n0_ n1_ n2_ n3_;clear hb hbox hg;have hcz21_0 : w20.cell? ⟨gb446,0,none⟩ = some (.int .i64 a0_0):=(blk_cell BK446.out 0).trans rfl;have hcz21_1 : w20.cell? ⟨gb446,1,none⟩ = some (.int .i64 a0_1):=(blk_cell BK446.out 1).trans rfl;have hcz21_2 : w20.cell? ⟨gb446,2,none⟩ = some (.int .i64 a0_2):=(blk_cell BK446.out 2).trans rfl;have hcz21_3 : w20.cell? ⟨gb446,3,none⟩ = some (.int .i64 a0_3):=(blk_cell BK446.out 3).trans rfl;have hcz21_4 : w20.cell? ⟨gb446,4,none⟩ = some (.int .i64 a0_4):=(blk_cell BK446.out 4).trans rfl;have hcz21_5 : w20.cell? ⟨gb446,5,none⟩ = some (.int .i64 a0_5):=(blk_cell BK446.out 5).trans rfl;have hfz21_0:=blk_frozen BK446.out 0;have hfz21_1:=blk_frozen BK446.out 1;have hfz21_2:=blk_frozen BK446.out 2;have hfz21_3:=blk_frozen BK446.out 3;have hfz21_4:=blk_frozen BK446.out 4;have hfz21_5:=blk_frozen BK446.out 5));try go_wp2_with (first|((with_reducible refine gate_dst (N:=5) rfl ?_);refine box_event ?hg (N:=5) ?hd (cs:=#[.int .i64 a0_0,.int .i64 a0_1,.int .i64 a0_2,.int .i64 a0_3,.int .i64 a0_4,.int .i64 a0_5]) (t:=75) ?hr ?_;(case hd=>rfl);(case hg=>rfl);(case hr=>first|(go_simp;done)|(go_simp;rfl));intro gb446 hg w20 hbox hb;have n0_:=Aside0.mk (below_step (by repeat(first|(with_reducible first|exact HB.out|apply below_alloc|apply pw_below_drewN|apply below_drew1)|exact HB.out)) hb);have n1_:=Aside0.mk (hbox);have n2_:=Aside0.mk ((by rw [hg];exact (below_size (by repeat(first|(with_reducible first|exact HB.out|apply below_alloc|apply pw_below_drewN|apply below_drew1)|exact HB.out))) : w.heap.size ≤ gb446));have n3_:=Aside0.mk ((by rw [hg];exact (below_size (by repeat(first|(with_reducible first|exact HB.out|apply below_alloc|apply pw_below_drewN|apply below_drew1)|exact HB.out))) : w.heap.size ≤ gb446));clear HB;have HB:=n0_;have BK446:=n1_;have GW446:=n2_;have GE446:=n3_;clear n0_ n1_ n2_ n3_;clear hb hbox hg;have hcz21_0 : w20.cell? ⟨gb446,0,none⟩ = some (.int .i64 a0_0):=(blk_cell BK446.out 0).trans rfl;have hcz21_1 : w20.cell? ⟨gb446,1,none⟩ = some (.int .i64 a0_1):=(blk_cell BK446.out 1).trans rfl;have hcz21_2 : w20.cell? ⟨gb446,2,none⟩ = some (.int .i64 a0_2):=(blk_cell BK446.out 2).trans rfl;have hcz21_3 : w20.cell? ⟨gb446,3,none⟩ = some (.int .i64 a0_3):=(blk_cell BK446.out 3).trans rfl;have hcz21_4 : w20.cell? ⟨gb446,4,none⟩ = some (.int .i64 a0_4):=(blk_cell BK446.out 4).trans rfl;have hcz21_5 : w20.cell? ⟨gb446,5,none⟩ = some (.int .i64 a0_5):=(blk_cell BK446.out 5).trans rfl;have hfz21_0:=blk_frozen BK446.out 0;have hfz21_1:=blk_frozen BK446.out 1;have hfz21_2:=blk_frozen BK446.out 2;have hfz21_3:=blk_frozen BK446.out 3;have hfz21_4:=blk_frozen BK446.out 4;have hfz21_5:=blk_frozen BK446.out 5)))
    go_ret
    exact ⟨by first|rfl|(simp [errW_none,errW_some] <;> rfl)|(simp [*,errW_none,errW_some] <;> rfl),by repeat(first|(with_reducible first|exact HB.out|apply below_alloc|apply pw_below_drewN|apply below_drew1|refine below_set ?_ GE446.out)|exact HB.out)⟩
  ·rw [if_neg c7] at H
   have c7b0 : decide (a0_0 < a1) = false:=decide_eq_false c7
   clear c7
   obtain rfl:=Option.some.inj H
   go_enter Try.func68,Try.ntmps68
   go_wp2_with (first|((with_reducible refine gate_dst (N:=5) rfl ?_);refine box_event ?hg (N:=5) ?hd (cs:=#[.int .i64 a0_0,.int .i64 a0_1,.int .i64 a0_2,.int .i64 a0_3,.int .i64 a0_4,.int .i64 a0_5]) (t:=75) ?hr ?_;(case hd=>rfl);(case hg=>rfl);(case hr=>first|(go_simp;done)|(go_simp;rfl));intro gb446 hg w22 hbox hb;have n0_:=Aside0.mk (below_step (by repeat(first|(with_reducible first|exact HB.out|apply below_alloc|apply pw_below_drewN|apply below_drew1)|exact HB.out)) hb);have n1_:=Aside0.mk (hbox);have n2_:=Aside0.mk ((by rw [hg];exact (below_size (by repeat(first|(with_reducible first|exact HB.out|apply below_alloc|apply pw_below_drewN|apply below_drew1)|exact HB.out))) : w.heap.size ≤ gb446));have n3_:=Aside0.mk ((by rw [hg];exact (below_size (by repeat(first|(with_reducible first|exact HB.out|apply below_alloc|apply pw_below_drewN|apply below_drew1)|exact HB.out))) : w.heap.size ≤ gb446));clear HB;have HB:=n0_;have BK446:=n1_;have GW446:=n2_;have GE446:=n3_;clear n0_ n1_ n2_ n3_;clear hb hbox hg;have hcz23_0 : w22.cell? ⟨gb446,0,none⟩ = some (.int .i64 a0_0):=(blk_cell BK446.out 0).trans rfl;have hcz23_1 : w22.cell? ⟨gb446,1,none⟩ = some (.int .i64 a0_1):=(blk_cell BK446.out 1).trans rfl;have hcz23_2 : w22.cell? ⟨gb446,2,none⟩ = some (.int .i64 a0_2):=(blk_cell BK446.out 2).trans rfl;have hcz23_3 : w22.cell? ⟨gb446,3,none⟩ = some (.int .i64 a0_3):=(blk_cell BK446.out 3).trans rfl;have hcz23_4 : w22.cell? ⟨gb446,4,none⟩ = some (.int .i64 a0_4):=(blk_cell BK446.out 4).trans rfl;have hcz23_5 : w22.cell? ⟨gb446,5,none⟩ = some (.int .i64 a0_5):=(blk_cell BK446.out 5).trans rfl;have hfz23_0:=blk_frozen BK446.out 0;have hfz23_1:=blk_frozen BK446.out 1;have hfz23_2:=blk_frozen BK446.out 2;have hfz23_3:=blk_frozen BK446.out 3;have hfz23_4:=blk_frozen BK446.out 4;have hfz23_5:=blk_frozen BK446.out 5))
   repeat (go_quiet (first|((with_reducible refine gate_dst (N:=5) rfl ?_);refine box_event ?hg (N:=5) ?hd (cs:=#[.int .i64 a0_0,.int .i64 a0_1,.int .i64 a0_2,.int .i64 a0_3,.int .i64 a0_4,.int .i64 a0_5]) (t:=75) ?hr ?_;(case hd=>rfl);(case hg=>rfl);(case hr=>first|(go_simp;done)|(go_simp;rfl));intro gb446 hg w22 hbox hb;have n0_:=Aside0.mk (below_step (by repeat(first|(with_reducible first|exact HB.out|apply below_alloc|apply pw_below_drewN|apply below_drew1)|exact HB.out)) hb);have n1_:=Aside0.mk (hbox);have n2_:=Aside0.mk ((by rw [hg];exact (below_size (by repeat(first|(with_reducible first|exact HB.out|apply below_alloc|apply pw_below_drewN|apply below_drew1)|exact HB.out))) : w.heap.size ≤ gb446));have n3_:=Aside0.mk ((by rw [hg];exact (below_size (by repeat(first|(with_reducible first|exact HB.out|apply below_alloc|apply pw_below_drewN|apply below_drew1)|exact HB.out))) : w.heap.size ≤ gb446));clear HB;have HB:=n0_;have BK446:=n1_;have GW446:=n2_;have GE446:=n3_;clear n0_ n1_ n2_ n3_;clear hb hbox hg;have hcz23_0 : w22.cell? ⟨gb446,0,none⟩ = some (.int .i64 a0_0):=(blk_cell BK446.out 0).trans rfl;have hcz23_1 : w22.cell? ⟨gb446,1,none⟩ = some (.int .i64 a0_1):=(blk_cell BK446.out 1).trans rfl;have hcz23_2 : w22.cell? ⟨gb446,2,none⟩ = some (.int .i64 a0_2):=(blk_cell BK446.out 2).trans rfl;have hcz23_3 : w22.cell? ⟨gb446,3,none⟩ = some (.int .i64 a0_3):=(blk_cell BK446.out 3).trans rfl;have hcz23_4 : w22.cell? ⟨gb446,4,none⟩ = some (.int .i64 a0_4):=(blk_cell BK446.out 4).trans rfl;have hcz23_5 : w22.cell? ⟨gb446,5,none⟩ = some (.int .i64 a0_5):=(blk_cell BK446.out 5).trans rfl;have hfz23_0:=blk_frozen BK446.out 0;have hfz23_1:=blk_frozen BK446.out 1;have hfz23_2:=blk_frozen BK446.out 2;have hfz23_3:=blk_frozen BK446.out 3;have hfz23_4:=blk_frozen BK446.out 4;have hfz23_5:=blk_frozen BK446.out 5));try go_wp2_with (first|((with_reducible refine gate_dst (N:=5) rfl ?_);refine box_event ?hg (N:=5) ?hd (cs:=#[.int .i64 a0_0,.int .i64 a0_1,.int .i64 a0_2,.int .i64 a0_3,.int .i64 a0_4,.int .i64 a0_5]) (t:=75) ?hr ?_;(case hd=>rfl);(case hg=>rfl);(case hr=>first|(go_simp;done)|(go_simp;rfl));intro gb446 hg w22 hbox hb;have n0_:=Aside0.mk (below_step (by repeat(first|(with_reducible first|exact HB.out|apply below_alloc|apply pw_below_drewN|apply below_drew1)|exact HB.out)) hb);have n1_:=Aside0.mk (hbox);have n2_:=Aside0.mk ((by rw [hg];exact (below_size (by repeat(first|(with_reducible first|exact HB.out|apply below_alloc|apply pw_below_drewN|apply below_drew1)|exact HB.out))) : w.heap.size ≤ gb446));have n3_:=Aside0.mk ((by rw [hg];exact (below_size (by repeat(first|(with_reducible first|exact HB.out|apply below_alloc|apply pw_below_drewN|apply below_drew1)|exact HB.out))) : w.heap.size ≤ gb446));clear HB;have HB:=n0_;have BK446:=n1_;have GW446:=n2_;have GE446:=n3_;clear n0_ n1_ n2_ n3_;clear hb hbox hg;have hcz23_0 : w22.cell? ⟨gb446,0,none⟩ = some (.int .i64 a0_0):=(blk_cell BK446.out 0).trans rfl;have hcz23_1 : w22.cell? ⟨gb446,1,none⟩ = some (.int .i64 a0_1):=(blk_cell BK446.out 1).trans rfl;have hcz23_2 : w22.cell? ⟨gb446,2,none⟩ = some (.int .i64 a0_2):=(blk_cell BK446.out 2).trans rfl;have hcz23_3 : w22.cell? ⟨gb446,3,none⟩ = some (.int .i64 a0_3):=(blk_cell BK446.out 3).trans rfl;have hcz23_4 : w22.cell? ⟨gb446,4,none⟩ = some (.int .i64 a0_4):=(blk_cell BK446.out 4).trans rfl;have hcz23_5 : w22.cell? ⟨gb446,5,none⟩ = some (.int .i64 a0_5):=(blk_cell BK446.out 5).trans rfl;have hfz23_0:=blk_frozen BK446.out 0;have hfz23_1:=blk_frozen BK446.out 1;have hfz23_2:=blk_frozen BK446.out 2;have hfz23_3:=blk_frozen BK446.out 3;have hfz23_4:=blk_frozen BK446.out 4;have hfz23_5:=blk_frozen BK446.out 5)))
   go_ret
   exact ⟨by first|rfl|(simp [errW_none,errW_some] <;> rfl)|(simp [*,errW_none,errW_some] <;> rfl),by repeat(first|(with_reducible first|exact HB.out|apply below_alloc|apply pw_below_drewN|apply below_drew1|refine below_set ?_ GE446.out)|exact HB.out)⟩
 ·rw [if_neg c6] at H
  have c6b0 : decide (0 ≤ a0_0) = false:=decide_eq_false c6
  clear c6
  have HC24:=Aside0.mk H
  clear H
  go_enter Try.func68,Try.ntmps68
  go_upto_region 3 with (first|((with_reducible refine gate_dst (N:=5) rfl ?_);refine box_event ?hg (N:=5) ?hd (cs:=#[.int .i64 a0_0,.int .i64 a0_1,.int .i64 a0_2,.int .i64 a0_3,.int .i64 a0_4,.int .i64 a0_5]) (t:=75) ?hr ?_;(case hd=>rfl);(case hg=>rfl);(case hr=>first|(go_simp;done)|(go_simp;rfl));intro gb446 hg w25 hbox hb;have n0_:=Aside0.mk (below_step (by repeat(first|(with_reducible first|exact HB.out|apply below_alloc|apply pw_below_drewN|apply below_drew1)|exact HB.out)) hb);have n1_:=Aside0.mk (hbox);have n2_:=Aside0.mk ((by rw [hg];exact (below_size (by repeat(first|(with_reducible first|exact HB.out|apply below_alloc|apply pw_below_drewN|apply below_drew1)|exact HB.out))) : w.heap.size ≤ gb446));have n3_:=Aside0.mk ((by rw [hg];exact (below_size (by repeat(first|(with_reducible first|exact HB.out|apply below_alloc|apply pw_below_drewN|apply below_drew1)|exact HB.out))) : w.heap.size ≤ gb446));clear HB;have HB:=n0_;have BK446:=n1_;have GW446:=n2_;have GE446:=n3_;clear n0_ n1_ n2_ n3_;clear hb hbox hg;have hcz26_0 : w25.cell? ⟨gb446,0,none⟩ = some (.int .i64 a0_0):=(blk_cell BK446.out 0).trans rfl;have hcz26_1 : w25.cell? ⟨gb446,1,none⟩ = some (.int .i64 a0_1):=(blk_cell BK446.out 1).trans rfl;have hcz26_2 : w25.cell? ⟨gb446,2,none⟩ = some (.int .i64 a0_2):=(blk_cell BK446.out 2).trans rfl;have hcz26_3 : w25.cell? ⟨gb446,3,none⟩ = some (.int .i64 a0_3):=(blk_cell BK446.out 3).trans rfl;have hcz26_4 : w25.cell? ⟨gb446,4,none⟩ = some (.int .i64 a0_4):=(blk_cell BK446.out 4).trans rfl;have hcz26_5 : w25.cell? ⟨gb446,5,none⟩ = some (.int .i64 a0_5):=(blk_cell BK446.out 5).trans rfl;have hfz26_0:=blk_frozen BK446.out 0;have hfz26_1:=blk_frozen BK446.out 1;have hfz26_2:=blk_frozen BK446.out 2;have hfz26_3:=blk_frozen BK446.out 3;have hfz26_4:=blk_frozen BK446.out 4;have hfz26_5:=blk_frozen BK446.out 5))
  repeat (go_quiet (first|((with_reducible refine gate_dst (N:=5) rfl ?_);refine box_event ?hg (N:=5) ?hd (cs:=#[.int .i64 a0_0,.int .i64 a0_1,.int .i64 a0_2,.int .i64 a0_3,.int .i64 a0_4,.int .i64 a0_5]) (t:=75) ?hr ?_;(case hd=>rfl);(case hg=>rfl);(case hr=>first|(go_simp;done)|(go_simp;rfl));intro gb446 hg w25 hbox hb;have n0_:=Aside0.mk (below_step (by repeat(first|(with_reducible first|exact HB.out|apply below_alloc|apply pw_below_drewN|apply below_drew1)|exact HB.out)) hb);have n1_:=Aside0.mk (hbox);have n2_:=Aside0.mk ((by rw [hg];exact (below_size (by repeat(first|(with_reducible first|exact HB.out|apply below_alloc|apply pw_below_drewN|apply below_drew1)|exact HB.out))) : w.heap.size ≤ gb446));have n3_:=Aside0.mk ((by rw [hg];exact (below_size (by repeat(first|(with_reducible first|exact HB.out|apply below_alloc|apply pw_below_drewN|apply below_drew1)|exact HB.out))) : w.heap.size ≤ gb446));clear HB;have HB:=n0_;have BK446:=n1_;have GW446:=n2_;have GE446:=n3_;clear n0_ n1_ n2_ n3_;clear hb hbox hg;have hcz26_0 : w25.cell? ⟨gb446,0,none⟩ = some (.int .i64 a0_0):=(blk_cell BK446.out 0).trans rfl;have hcz26_1 : w25.cell? ⟨gb446,1,none⟩ = some (.int .i64 a0_1):=(blk_cell BK446.out 1).trans rfl;have hcz26_2 : w25.cell? ⟨gb446,2,none⟩ = some (.int .i64 a0_2):=(blk_cell BK446.out 2).trans rfl;have hcz26_3 : w25.cell? ⟨gb446,3,none⟩ = some (.int .i64 a0_3):=(blk_cell BK446.out 3).trans rfl;have hcz26_4 : w25.cell? ⟨gb446,4,none⟩ = some (.int .i64 a0_4):=(blk_cell BK446.out 4).trans rfl;have hcz26_5 : w25.cell? ⟨gb446,5,none⟩ = some (.int .i64 a0_5):=(blk_cell BK446.out 5).trans rfl;have hfz26_0:=blk_frozen BK446.out 0;have hfz26_1:=blk_frozen BK446.out 1;have hfz26_2:=blk_frozen BK446.out 2;have hfz26_3:=blk_frozen BK446.out 3;have hfz26_4:=blk_frozen BK446.out 4;have hfz26_5:=blk_frozen BK446.out 5));go_upto_region 3 with (first|((with_reducible refine gate_dst (N:=5) rfl ?_);refine box_event ?hg (N:=5) ?hd (cs:=#[.int .i64 a0_0,.int .i64 a0_1,.int .i64 a0_2,.int .i64 a0_3,.int .i64 a0_4,.int .i64 a0_5]) (t:=75) ?hr ?_;(case hd=>rfl);(case hg=>rfl);(case hr=>first|(go_simp;done)|(go_simp;rfl));intro gb446 hg w25 hbox hb;have n0_:=Aside0.mk (below_step (by repeat(first|(with_reducible first|exact HB.out|apply below_alloc|apply pw_below_drewN|apply below_drew1)|exact HB.out)) hb);have n1_:=Aside0.mk (hbox);have n2_:=Aside0.mk ((by rw [hg];exact (below_size (by repeat(first|(with_reducible first|exact HB.out|apply below_alloc|apply pw_below_drewN|apply below_drew1)|exact HB.out))) : w.heap.size ≤ gb446));have n3_:=Aside0.mk ((by rw [hg];exact (below_size (by repeat(first|(with_reducible first|exact HB.out|apply below_alloc|apply pw_below_drewN|apply below_drew1)|exact HB.out))) : w.heap.size ≤ gb446));clear HB;have HB:=n0_;have BK446:=n1_;have GW446:=n2_;have GE446:=n3_;clear n0_ n1_ n2_ n3_;clear hb hbox hg;have hcz26_0 : w25.cell? ⟨gb446,0,none⟩ = some (.int .i64 a0_0):=(blk_cell BK446.out 0).trans rfl;have hcz26_1 : w25.cell? ⟨gb446,1,none⟩ = some (.int .i64 a0_1):=(blk_cell BK446.out 1).trans rfl;have hcz26_2 : w25.cell? ⟨gb446,2,none⟩ = some (.int .i64 a0_2):=(blk_cell BK446.out 2).trans rfl;have hcz26_3 : w25.cell? ⟨gb446,3,none⟩ = some (.int .i64 a0_3):=(blk_cell BK446.out 3).trans rfl;have hcz26_4 : w25.cell? ⟨gb446,4,none⟩ = some (.int .i64 a0_4):=(blk_cell BK446.out 4).trans rfl;have hcz26_5 : w25.cell? ⟨gb446,5,none⟩ = some (.int .i64 a0_5):=(blk_cell BK446.out 5).trans rfl;have hfz26_0:=blk_frozen BK446.out 0;have hfz26_1:=blk_frozen BK446.out 1;have hfz26_2:=blk_frozen BK446.out 2;have hfz26_3:=blk_frozen BK446.out 3;have hfz26_4:=blk_frozen BK446.out 4;have hfz26_5:=blk_frozen BK446.out 5)))
  (try simp only [Act.put,List.setIfInBounds_toArray,List.set_cons_zero,List.set_cons_succ])
  go_cut [56] (fun v56 wc=>∃ (kq : Nat) (x56_23 : Bool),v56 = .bool x56_23 ∧ Aside0 (hornbeamref18_one.j0 kq a3 a4 x56_23 a0_0 a0_1 a0_2 a0_3 a0_4 a0_5 = some r) ∧ Aside0 (kq ≤ k) ∧ Aside0 (wc.heap[gb446]? = some (.cells #[.int .i64 a0_0,.int .i64 a0_1,.int .i64 a0_2,.int .i64 a0_3,.int .i64 a0_4,.int .i64 a0_5] 75 (0,0))) ∧ Aside0 (Below w.heap.size w wc))
  case first =>
   have H:=HC24.out
   clear HC24
   by_cases c27 : a0_0 = (-1)
   ·rw [if_pos c27] at H
    have c27b0 : (a0_0 == (-1)) = true:=beq_iff_eq.mpr c27
    have c27b1 : (a0_0 != (-1)) = false:=bne_eq_false_iff_eq.mpr c27
    clear c27
    (first|rw [c27b0]|(simp only [i64_w,i32_w];rw [c27b0])|skip)
    by_cases c28 : a0_1 = 0
    ·rw [if_pos c28] at H
     have c28b0 : (a0_1 == 0) = true:=beq_iff_eq.mpr c28
     have c28b1 : (a0_1 != 0) = false:=bne_eq_false_iff_eq.mpr c28
     clear c28
     have H':=Aside0.mk H
     clear H
     have hcz29_0 : w25.cell? ⟨gb446,0,none⟩ = some (.int .i64 a0_0):=(blk_cell BK446.out 0).trans rfl
     have hcz29_1 : w25.cell? ⟨gb446,1,none⟩ = some (.int .i64 a0_1):=(blk_cell BK446.out 1).trans rfl
     have hcz29_2 : w25.cell? ⟨gb446,2,none⟩ = some (.int .i64 a0_2):=(blk_cell BK446.out 2).trans rfl
     have hcz29_3 : w25.cell? ⟨gb446,3,none⟩ = some (.int .i64 a0_3):=(blk_cell BK446.out 3).trans rfl
     have hcz29_4 : w25.cell? ⟨gb446,4,none⟩ = some (.int .i64 a0_4):=(blk_cell BK446.out 4).trans rfl
     have hcz29_5 : w25.cell? ⟨gb446,5,none⟩ = some (.int .i64 a0_5):=(blk_cell BK446.out 5).trans rfl
     have hfz29_0:=blk_frozen BK446.out 0
     have hfz29_1:=blk_frozen BK446.out 1
     have hfz29_2:=blk_frozen BK446.out 2
     have hfz29_3:=blk_frozen BK446.out 3
     have hfz29_4:=blk_frozen BK446.out 4
     have hfz29_5:=blk_frozen BK446.out 5
     go_wp2
     repeat (go_quiet (fail);try go_wp2)
     go_meet
     case rel=>exact ⟨_,((a0_2 != 0)),(by first|rfl|(simp;done)|(simp [*];done)),H',⟨by first|omega|exact Nat.le_refl _⟩,⟨by (with_reducible repeat(first|refine blk_drewN ?_ _|refine blk_drew ?_|refine blk_alloc ?_ _));exact BK446.out⟩,⟨by repeat(first|(with_reducible first|exact HB.out|apply below_alloc|apply pw_below_drewN|apply below_drew1|refine below_set ?_ GE446.out)|exact HB.out)⟩⟩
    ·rw [if_neg c28] at H
     have c28b0 : (a0_1 == 0) = false:=beq_eq_false_iff_ne.mpr c28
     have c28b1 : (a0_1 != 0) = true:=bne_iff_ne.mpr c28
     have H':=Aside0.mk H
     clear H
     have hcz30_0 : w25.cell? ⟨gb446,0,none⟩ = some (.int .i64 a0_0):=(blk_cell BK446.out 0).trans rfl
     have hcz30_1 : w25.cell? ⟨gb446,1,none⟩ = some (.int .i64 a0_1):=(blk_cell BK446.out 1).trans rfl
     have hcz30_2 : w25.cell? ⟨gb446,2,none⟩ = some (.int .i64 a0_2):=(blk_cell BK446.out 2).trans rfl
     have hcz30_3 : w25.cell? ⟨gb446,3,none⟩ = some (.int .i64 a0_3):=(blk_cell BK446.out 3).trans rfl
     have hcz30_4 : w25.cell? ⟨gb446,4,none⟩ = some (.int .i64 a0_4):=(blk_cell BK446.out 4).trans rfl
     have hcz30_5 : w25.cell? ⟨gb446,5,none⟩ = some (.int .i64 a0_5):=(blk_cell BK446.out 5).trans rfl
     have hfz30_0:=blk_frozen BK446.out 0
     have hfz30_1:=blk_frozen BK446.out 1
     have hfz30_2:=blk_frozen BK446.out 2
     have hfz30_3:=blk_frozen BK446.out 3
     have hfz30_4:=blk_frozen BK446.out 4
     have hfz30_5:=blk_frozen BK446.out 5
     go_wp2
     repeat (go_quiet (fail);try go_wp2)
     go_meet
     case rel=>exact ⟨_,(true),(by first|rfl|(simp;done)|(simp [*];done)),H',⟨by first|omega|exact Nat.le_refl _⟩,⟨by (with_reducible repeat(first|refine blk_drewN ?_ _|refine blk_drew ?_|refine blk_alloc ?_ _));exact BK446.out⟩,⟨by repeat(first|(with_reducible first|exact HB.out|apply below_alloc|apply pw_below_drewN|apply below_drew1|refine below_set ?_ GE446.out)|exact HB.out)⟩⟩
   ·rw [if_neg c27] at H
    have c27b0 : (a0_0 == (-1)) = false:=beq_eq_false_iff_ne.mpr c27
    have c27b1 : (a0_0 != (-1)) = true:=bne_iff_ne.mpr c27
    (first|rw [c27b0]|(simp only [i64_w,i32_w];rw [c27b0])|skip)
    have H':=Aside0.mk H
    clear H
    have hcz31_0 : w25.cell? ⟨gb446,0,none⟩ = some (.int .i64 a0_0):=(blk_cell BK446.out 0).trans rfl
    have hcz31_1 : w25.cell? ⟨gb446,1,none⟩ = some (.int .i64 a0_1):=(blk_cell BK446.out 1).trans rfl
    have hcz31_2 : w25.cell? ⟨gb446,2,none⟩ = some (.int .i64 a0_2):=(blk_cell BK446.out 2).trans rfl
    have hcz31_3 : w25.cell? ⟨gb446,3,none⟩ = some (.int .i64 a0_3):=(blk_cell BK446.out 3).trans rfl
    have hcz31_4 : w25.cell? ⟨gb446,4,none⟩ = some (.int .i64 a0_4):=(blk_cell BK446.out 4).trans rfl
    have hcz31_5 : w25.cell? ⟨gb446,5,none⟩ = some (.int .i64 a0_5):=(blk_cell BK446.out 5).trans rfl
    have hfz31_0:=blk_frozen BK446.out 0
    have hfz31_1:=blk_frozen BK446.out 1
    have hfz31_2:=blk_frozen BK446.out 2
    have hfz31_3:=blk_frozen BK446.out 3
    have hfz31_4:=blk_frozen BK446.out 4
    have hfz31_5:=blk_frozen BK446.out 5
    go_wp2
    repeat (go_quiet (fail);try go_wp2)
    go_meet
    case rel=>exact ⟨_,(true),(by first|rfl|(simp;done)|(simp [*];done)),H',⟨by first|omega|exact Nat.le_refl _⟩,⟨by (with_reducible repeat(first|refine blk_drewN ?_ _|refine blk_drew ?_|refine blk_alloc ?_ _));exact BK446.out⟩,⟨by repeat(first|(with_reducible first|exact HB.out|apply below_alloc|apply pw_below_drewN|apply below_drew1|refine below_set ?_ GE446.out)|exact HB.out)⟩⟩
  case rest =>
   clear HC24
   try clear c1
   try clear c2
   try clear p2
   try clear c6
   try clear c6b0
   try clear c7
   try clear c7b0
   try clear c8
   try clear c8b0
   try clear c9
   try clear c9b0
   try clear c10
   try clear c10b0
   try clear c10b1
   try clear c11
   try clear c11b0
   try clear c11b1
   try clear c27
   try clear c27b0
   try clear c27b1
   try clear c28
   try clear c28b0
   try clear c28b1
   try clear hcz13_0
   try clear hcz13_1
   try clear hcz13_2
   try clear hcz13_3
   try clear hcz13_4
   try clear hcz13_5
   try clear hcz15_0
   try clear hcz15_1
   try clear hcz15_2
   try clear hcz15_3
   try clear hcz15_4
   try clear hcz15_5
   try clear hcz17_0
   try clear hcz17_1
   try clear hcz17_2
   try clear hcz17_3
   try clear hcz17_4
   try clear hcz17_5
   try clear hcz19_0
   try clear hcz19_1
   try clear hcz19_2
   try clear hcz19_3
   try clear hcz19_4
   try clear hcz19_5
   try clear hcz21_0
   try clear hcz21_1
   try clear hcz21_2
   try clear hcz21_3
   try clear hcz21_4
   try clear hcz21_5
   try clear hcz23_0
   try clear hcz23_1
   try clear hcz23_2
   try clear hcz23_3
   try clear hcz23_4
   try clear hcz23_5
   try clear hcz26_0
   try clear hcz26_1
   try clear hcz26_2
   try clear hcz26_3
   try clear hcz26_4
   try clear hcz26_5
   try clear hcz29_0
   try clear hcz29_1
   try clear hcz29_2
   try clear hcz29_3
   try clear hcz29_4
   try clear hcz29_5
   try clear hcz30_0
   try clear hcz30_1
   try clear hcz30_2
   try clear hcz30_3
   try clear hcz30_4
   try clear hcz30_5
   try clear hcz31_0
   try clear hcz31_1
   try clear hcz31_2
   try clear hcz31_3
   try clear hcz31_4
   try clear hcz31_5
   try clear hfz13_0
   try clear hfz13_1
   try clear hfz13_2
   try clear hfz13_3
   try clear hfz13_4
   try clear hfz13_5
   try clear hfz15_0
   try clear hfz15_1
   try clear hfz15_2
   try clear hfz15_3
   try clear hfz15_4
   try clear hfz15_5
   try clear hfz17_0
   try clear hfz17_1
   try clear hfz17_2
   try clear hfz17_3
   try clear hfz17_4
   try clear hfz17_5
   try clear hfz19_0
   try clear hfz19_1
   try clear hfz19_2
   try clear hfz19_3
   try clear hfz19_4
   try clear hfz19_5
   try clear hfz21_0
   try clear hfz21_1
   try clear hfz21_2
   try clear hfz21_3
   try clear hfz21_4
   try clear hfz21_5
   try clear hfz23_0
   try clear hfz23_1
   try clear hfz23_2
   try clear hfz23_3
   try clear hfz23_4
   try clear hfz23_5
   try clear hfz26_0
   try clear hfz26_1
   try clear hfz26_2
   try clear hfz26_3
   try clear hfz26_4
   try clear hfz26_5
   try clear hfz29_0
   try clear hfz29_1
   try clear hfz29_2
   try clear hfz29_3
   try clear hfz29_4
   try clear hfz29_5
   try clear hfz30_0
   try clear hfz30_1
   try clear hfz30_2
   try clear hfz30_3
   try clear hfz30_4
   try clear hfz30_5
   try clear hfz31_0
   try clear hfz31_1
   try clear hfz31_2
   try clear hfz31_3
   try clear hfz31_4
   try clear hfz31_5
   obtain ⟨kq,x56_23,rfl,HA,HJ23,BK446,HB⟩:=hcut
   cases kq with
   | zero=>exact absurd HA.out (by simp [hornbeamref18_one.j0])
   | succ kj23 =>
    have H:=HA.out
    clear HA
    simp only [hornbeamref18_one.j0] at H
    by_cases c32 : x56_23 = true
    ·subst c32
     have H1 : (some false) = some r:=by rw [if_pos rfl] at H;exact H
     clear H
     have H:=H1
     clear H1
     obtain rfl:=Option.some.inj H
     go_wp2
     repeat (go_quiet (fail);try go_wp2)
     go_ret
     exact ⟨by first|rfl|(simp [errW_none,errW_some] <;> rfl)|(simp [*,errW_none,errW_some] <;> rfl),by repeat(first|(with_reducible first|exact HB.out|apply below_alloc|apply pw_below_drewN|apply below_drew1|refine below_set ?_ GE446.out)|exact HB.out)⟩
    ·replace c32:=Bool.eq_false_iff.mpr c32
     subst c32
     have H1 : (if a3 = 0 then (if a0_3 ≥ 0 then (if a0_3 < a4 then (if a0_4 = 0 then (some (a0_5 == 0)) else (some false)) else (some false)) else (some false)) else (if a0_3 = 0 then (if a0_5 ≥ 1 then (if a0_5 ≤ 1048576 then ((hornbeamref04_Size.f a0_4).bind fun t447=>(some (decide (t447 ≤ (IntKind.u64.wrap (1048576 * (IntKind.u64.wrap (a0_5)))))))) else (some false)) else (some false)) else (some false))) = some r:=by rw [if_neg (show ¬ (false = true) by decide)] at H;exact H
     clear H
     have H:=H1
     clear H1
     by_cases c33 : a3 = 0
     ·rw [if_pos c33] at H
      have c33b0 : (a3 == 0) = true:=beq_iff_eq.mpr c33
      have c33b1 : (a3 != 0) = false:=bne_eq_false_iff_eq.mpr c33
      clear c33
      by_cases c34 : a0_3 ≥ 0
      ·rw [if_pos c34] at H
       have c34b0 : decide (0 ≤ a0_3) = true:=decide_eq_true c34
       clear c34
       by_cases c35 : a0_3 < a4
       ·rw [if_pos c35] at H
        have c35b0 : decide (a0_3 < a4) = true:=decide_eq_true c35
        clear c35
        by_cases c36 : a0_4 = 0
        ·rw [if_pos c36] at H
         have c36b0 : (a0_4 == 0) = true:=beq_iff_eq.mpr c36
         have c36b1 : (a0_4 != 0) = false:=bne_eq_false_iff_eq.mpr c36
         clear c36
         obtain rfl:=Option.some.inj H
         have hcz37_0 : wc.cell? ⟨gb446,0,none⟩ = some (.int .i64 a0_0):=(blk_cell BK446.out 0).trans rfl
         have hcz37_1 : wc.cell? ⟨gb446,1,none⟩ = some (.int .i64 a0_1):=(blk_cell BK446.out 1).trans rfl
         have hcz37_2 : wc.cell? ⟨gb446,2,none⟩ = some (.int .i64 a0_2):=(blk_cell BK446.out 2).trans rfl
         have hcz37_3 : wc.cell? ⟨gb446,3,none⟩ = some (.int .i64 a0_3):=(blk_cell BK446.out 3).trans rfl
         have hcz37_4 : wc.cell? ⟨gb446,4,none⟩ = some (.int .i64 a0_4):=(blk_cell BK446.out 4).trans rfl
         have hcz37_5 : wc.cell? ⟨gb446,5,none⟩ = some (.int .i64 a0_5):=(blk_cell BK446.out 5).trans rfl
         have hfz37_0:=blk_frozen BK446.out 0
         have hfz37_1:=blk_frozen BK446.out 1
         have hfz37_2:=blk_frozen BK446.out 2
         have hfz37_3:=blk_frozen BK446.out 3
         have hfz37_4:=blk_frozen BK446.out 4
         have hfz37_5:=blk_frozen BK446.out 5
         go_wp2
         repeat (go_quiet (fail);try go_wp2)
         go_ret
         exact ⟨by first|rfl|(simp [errW_none,errW_some] <;> rfl)|(simp [*,errW_none,errW_some] <;> rfl),by repeat(first|(with_reducible first|exact HB.out|apply below_alloc|apply pw_below_drewN|apply below_drew1|refine below_set ?_ GE446.out)|exact HB.out)⟩
        ·rw [if_neg c36] at H
         have c36b0 : (a0_4 == 0) = false:=beq_eq_false_iff_ne.mpr c36
         have c36b1 : (a0_4 != 0) = true:=bne_iff_ne.mpr c36
         obtain rfl:=Option.some.inj H
         have hcz38_0 : wc.cell? ⟨gb446,0,none⟩ = some (.int .i64 a0_0):=(blk_cell BK446.out 0).trans rfl
         have hcz38_1 : wc.cell? ⟨gb446,1,none⟩ = some (.int .i64 a0_1):=(blk_cell BK446.out 1).trans rfl
         have hcz38_2 : wc.cell? ⟨gb446,2,none⟩ = some (.int .i64 a0_2):=(blk_cell BK446.out 2).trans rfl
         have hcz38_3 : wc.cell? ⟨gb446,3,none⟩ = some (.int .i64 a0_3):=(blk_cell BK446.out 3).trans rfl
         have hcz38_4 : wc.cell? ⟨gb446,4,none⟩ = some (.int .i64 a0_4):=(blk_cell BK446.out 4).trans rfl
         have hcz38_5 : wc.cell? ⟨gb446,5,none⟩ = some (.int .i64 a0_5):=(blk_cell BK446.out 5).trans rfl
         have hfz38_0:=blk_frozen BK446.out 0
         have hfz38_1:=blk_frozen BK446.out 1
         have hfz38_2:=blk_frozen BK446.out 2
         have hfz38_3:=blk_frozen BK446.out 3
         have hfz38_4:=blk_frozen BK446.out 4
         have hfz38_5:=blk_frozen BK446.out 5
         go_wp2
         repeat (go_quiet (fail);try go_wp2)
         go_ret
         exact ⟨by first|rfl|(simp [errW_none,errW_some] <;> rfl)|(simp [*,errW_none,errW_some] <;> rfl),by repeat(first|(with_reducible first|exact HB.out|apply below_alloc|apply pw_below_drewN|apply below_drew1|refine below_set ?_ GE446.out)|exact HB.out)⟩
       ·rw [if_neg c35] at H
        have c35b0 : decide (a0_3 < a4) = false:=decide_eq_false c35
        clear c35
        obtain rfl:=Option.some.inj H
        have hcz39_0 : wc.cell? ⟨gb446,0,none⟩ = some (.int .i64 a0_0):=(blk_cell BK446.out 0).trans rfl
        have hcz39_1 : wc.cell? ⟨gb446,1,none⟩ = some (.int .i64 a0_1):=(blk_cell BK446.out 1).trans rfl
        have hcz39_2 : wc.cell? ⟨gb446,2,none⟩ = some (.int .i64 a0_2):=(blk_cell BK446.out 2).trans rfl
        have hcz39_3 : wc.cell? ⟨gb446,3,none⟩ = some (.int .i64 a0_3):=(blk_cell BK446.out 3).trans rfl
        have hcz39_4 : wc.cell? ⟨gb446,4,none⟩ = some (.int .i64 a0_4):=(blk_cell BK446.out 4).trans rfl
        have hcz39_5 : wc.cell? ⟨gb446,5,none⟩ = some (.int .i64 a0_5):=(blk_cell BK446.out 5).trans rfl
        have hfz39_0:=blk_frozen BK446.out 0
        have hfz39_1:=blk_frozen BK446.out 1
        have hfz39_2:=blk_frozen BK446.out 2
        have hfz39_3:=blk_frozen BK446.out 3
        have hfz39_4:=blk_frozen BK446.out 4
        have hfz39_5:=blk_frozen BK446.out 5
        go_wp2
        repeat (go_quiet (fail);try go_wp2)
        go_ret
        exact ⟨by first|rfl|(simp [errW_none,errW_some] <;> rfl)|(simp [*,errW_none,errW_some] <;> rfl),by repeat(first|(with_reducible first|exact HB.out|apply below_alloc|apply pw_below_drewN|apply below_drew1|refine below_set ?_ GE446.out)|exact HB.out)⟩
      ·rw [if_neg c34] at H
       have c34b0 : decide (0 ≤ a0_3) = false:=decide_eq_false c34
       clear c34
       obtain rfl:=Option.some.inj H
       have hcz40_0 : wc.cell? ⟨gb446,0,none⟩ = some (.int .i64 a0_0):=(blk_cell BK446.out 0).trans rfl
       have hcz40_1 : wc.cell? ⟨gb446,1,none⟩ = some (.int .i64 a0_1):=(blk_cell BK446.out 1).trans rfl
       have hcz40_2 : wc.cell? ⟨gb446,2,none⟩ = some (.int .i64 a0_2):=(blk_cell BK446.out 2).trans rfl
       have hcz40_3 : wc.cell? ⟨gb446,3,none⟩ = some (.int .i64 a0_3):=(blk_cell BK446.out 3).trans rfl
       have hcz40_4 : wc.cell? ⟨gb446,4,none⟩ = some (.int .i64 a0_4):=(blk_cell BK446.out 4).trans rfl
       have hcz40_5 : wc.cell? ⟨gb446,5,none⟩ = some (.int .i64 a0_5):=(blk_cell BK446.out 5).trans rfl
       have hfz40_0:=blk_frozen BK446.out 0
       have hfz40_1:=blk_frozen BK446.out 1
       have hfz40_2:=blk_frozen BK446.out 2
       have hfz40_3:=blk_frozen BK446.out 3
       have hfz40_4:=blk_frozen BK446.out 4
       have hfz40_5:=blk_frozen BK446.out 5
       go_wp2
       repeat (go_quiet (fail);try go_wp2)
       go_ret
       exact ⟨by first|rfl|(simp [errW_none,errW_some] <;> rfl)|(simp [*,errW_none,errW_some] <;> rfl),by repeat(first|(with_reducible first|exact HB.out|apply below_alloc|apply pw_below_drewN|apply below_drew1|refine below_set ?_ GE446.out)|exact HB.out)⟩
     ·rw [if_neg c33] at H
      have c33b0 : (a3 == 0) = false:=beq_eq_false_iff_ne.mpr c33
      have c33b1 : (a3 != 0) = true:=bne_iff_ne.mpr c33
      by_cases c41 : a0_3 = 0
      ·rw [if_pos c41] at H
       have c41b0 : (a0_3 == 0) = true:=beq_iff_eq.mpr c41
       have c41b1 : (a0_3 != 0) = false:=bne_eq_false_iff_eq.mpr c41
       clear c41
       by_cases c42 : a0_5 ≥ 1
       ·rw [if_pos c42] at H
        have c42b0 : decide (1 ≤ a0_5) = true:=decide_eq_true c42
        clear c42
        by_cases c43 : a0_5 ≤ 1048576
        ·rw [if_pos c43] at H
         have c43b0 : decide (a0_5 ≤ 1048576) = true:=decide_eq_true c43
         clear c43
         replace H:=Option.bind_eq_some_iff.mp H
         obtain ⟨t447,A440,H⟩:=H
         replace H : (some (decide (t447 ≤ (IntKind.u64.wrap (1048576 * (IntKind.u64.wrap (a0_5))))))) = some r:=H
         have A44:=Aside0.mk A440
         clear A440
         obtain rfl:=Option.some.inj H
         have hcz45_0 : wc.cell? ⟨gb446,0,none⟩ = some (.int .i64 a0_0):=(blk_cell BK446.out 0).trans rfl
         have hcz45_1 : wc.cell? ⟨gb446,1,none⟩ = some (.int .i64 a0_1):=(blk_cell BK446.out 1).trans rfl
         have hcz45_2 : wc.cell? ⟨gb446,2,none⟩ = some (.int .i64 a0_2):=(blk_cell BK446.out 2).trans rfl
         have hcz45_3 : wc.cell? ⟨gb446,3,none⟩ = some (.int .i64 a0_3):=(blk_cell BK446.out 3).trans rfl
         have hcz45_4 : wc.cell? ⟨gb446,4,none⟩ = some (.int .i64 a0_4):=(blk_cell BK446.out 4).trans rfl
         have hcz45_5 : wc.cell? ⟨gb446,5,none⟩ = some (.int .i64 a0_5):=(blk_cell BK446.out 5).trans rfl
         have hfz45_0:=blk_frozen BK446.out 0
         have hfz45_1:=blk_frozen BK446.out 1
         have hfz45_2:=blk_frozen BK446.out 2
         have hfz45_3:=blk_frozen BK446.out 3
         have hfz45_4:=blk_frozen BK446.out 4
         have hfz45_5:=blk_frozen BK446.out 5
         go_wp2_with (first|(go_at_call 74;(with_reducible refine (hornbeamref04_Size.calls a0_4 t447 _ A44.out).mono ?_);rintro e w' ⟨rfl,⟨nd,rfl⟩⟩;(try first|exact ⟨rfl,_,World.drewN_drewN _ _ _⟩|exact ⟨rfl,_,Eq.trans (World.drewN_drewN _ _ _) (congrArg (World.drewN _) (Nat.add_assoc _ _ _))⟩)))
         repeat (go_quiet (first|(go_at_call 74;(with_reducible refine (hornbeamref04_Size.calls a0_4 t447 _ A44.out).mono ?_);rintro e w' ⟨rfl,⟨nd,rfl⟩⟩;(try first|exact ⟨rfl,_,World.drewN_drewN _ _ _⟩|exact ⟨rfl,_,Eq.trans (World.drewN_drewN _ _ _) (congrArg (World.drewN _) (Nat.add_assoc _ _ _))⟩)));try go_wp2_with (first|(go_at_call 74;(with_reducible refine (hornbeamref04_Size.calls a0_4 t447 _ A44.out).mono ?_);rintro e w' ⟨rfl,⟨nd,rfl⟩⟩;(try first|exact ⟨rfl,_,World.drewN_drewN _ _ _⟩|exact ⟨rfl,_,Eq.trans (World.drewN_drewN _ _ _) (congrArg (World.drewN _) (Nat.add_assoc _ _ _))⟩))))
         go_ret
         exact ⟨by first|rfl|(simp [errW_none,errW_some] <;> rfl)|(simp [*,errW_none,errW_some] <;> rfl),by repeat(first|(with_reducible first|exact HB.out|apply below_alloc|apply pw_below_drewN|apply below_drew1|refine below_set ?_ GE446.out)|exact HB.out)⟩
        ·rw [if_neg c43] at H
         have c43b0 : decide (a0_5 ≤ 1048576) = false:=decide_eq_false c43
         clear c43
         obtain rfl:=Option.some.inj H
         have hcz46_0 : wc.cell? ⟨gb446,0,none⟩ = some (.int .i64 a0_0):=(blk_cell BK446.out 0).trans rfl
         have hcz46_1 : wc.cell? ⟨gb446,1,none⟩ = some (.int .i64 a0_1):=(blk_cell BK446.out 1).trans rfl
         have hcz46_2 : wc.cell? ⟨gb446,2,none⟩ = some (.int .i64 a0_2):=(blk_cell BK446.out 2).trans rfl
         have hcz46_3 : wc.cell? ⟨gb446,3,none⟩ = some (.int .i64 a0_3):=(blk_cell BK446.out 3).trans rfl
         have hcz46_4 : wc.cell? ⟨gb446,4,none⟩ = some (.int .i64 a0_4):=(blk_cell BK446.out 4).trans rfl
         have hcz46_5 : wc.cell? ⟨gb446,5,none⟩ = some (.int .i64 a0_5):=(blk_cell BK446.out 5).trans rfl
         have hfz46_0:=blk_frozen BK446.out 0
         have hfz46_1:=blk_frozen BK446.out 1
         have hfz46_2:=blk_frozen BK446.out 2
         have hfz46_3:=blk_frozen BK446.out 3
         have hfz46_4:=blk_frozen BK446.out 4
         have hfz46_5:=blk_frozen BK446.out 5
         go_wp2
         repeat (go_quiet (fail);try go_wp2)
         go_ret
         exact ⟨by first|rfl|(simp [errW_none,errW_some] <;> rfl)|(simp [*,errW_none,errW_some] <;> rfl),by repeat(first|(with_reducible first|exact HB.out|apply below_alloc|apply pw_below_drewN|apply below_drew1|refine below_set ?_ GE446.out)|exact HB.out)⟩
       ·rw [if_neg c42] at H
        have c42b0 : decide (1 ≤ a0_5) = false:=decide_eq_false c42
        clear c42
        obtain rfl:=Option.some.inj H
        have hcz47_0 : wc.cell? ⟨gb446,0,none⟩ = some (.int .i64 a0_0):=(blk_cell BK446.out 0).trans rfl
        have hcz47_1 : wc.cell? ⟨gb446,1,none⟩ = some (.int .i64 a0_1):=(blk_cell BK446.out 1).trans rfl
        have hcz47_2 : wc.cell? ⟨gb446,2,none⟩ = some (.int .i64 a0_2):=(blk_cell BK446.out 2).trans rfl
        have hcz47_3 : wc.cell? ⟨gb446,3,none⟩ = some (.int .i64 a0_3):=(blk_cell BK446.out 3).trans rfl
        have hcz47_4 : wc.cell? ⟨gb446,4,none⟩ = some (.int .i64 a0_4):=(blk_cell BK446.out 4).trans rfl
        have hcz47_5 : wc.cell? ⟨gb446,5,none⟩ = some (.int .i64 a0_5):=(blk_cell BK446.out 5).trans rfl
        have hfz47_0:=blk_frozen BK446.out 0
        have hfz47_1:=blk_frozen BK446.out 1
        have hfz47_2:=blk_frozen BK446.out 2
        have hfz47_3:=blk_frozen BK446.out 3
        have hfz47_4:=blk_frozen BK446.out 4
        have hfz47_5:=blk_frozen BK446.out 5
        go_wp2
        repeat (go_quiet (fail);try go_wp2)
        go_ret
        exact ⟨by first|rfl|(simp [errW_none,errW_some] <;> rfl)|(simp [*,errW_none,errW_some] <;> rfl),by repeat(first|(with_reducible first|exact HB.out|apply below_alloc|apply pw_below_drewN|apply below_drew1|refine below_set ?_ GE446.out)|exact HB.out)⟩
      ·rw [if_neg c41] at H
       have c41b0 : (a0_3 == 0) = false:=beq_eq_false_iff_ne.mpr c41
       have c41b1 : (a0_3 != 0) = true:=bne_iff_ne.mpr c41
       obtain rfl:=Option.some.inj H
       have hcz48_0 : wc.cell? ⟨gb446,0,none⟩ = some (.int .i64 a0_0):=(blk_cell BK446.out 0).trans rfl
       have hcz48_1 : wc.cell? ⟨gb446,1,none⟩ = some (.int .i64 a0_1):=(blk_cell BK446.out 1).trans rfl
       have hcz48_2 : wc.cell? ⟨gb446,2,none⟩ = some (.int .i64 a0_2):=(blk_cell BK446.out 2).trans rfl
       have hcz48_3 : wc.cell? ⟨gb446,3,none⟩ = some (.int .i64 a0_3):=(blk_cell BK446.out 3).trans rfl
       have hcz48_4 : wc.cell? ⟨gb446,4,none⟩ = some (.int .i64 a0_4):=(blk_cell BK446.out 4).trans rfl
       have hcz48_5 : wc.cell? ⟨gb446,5,none⟩ = some (.int .i64 a0_5):=(blk_cell BK446.out 5).trans rfl
       have hfz48_0:=blk_frozen BK446.out 0
       have hfz48_1:=blk_frozen BK446.out 1
       have hfz48_2:=blk_frozen BK446.out 2
       have hfz48_3:=blk_frozen BK446.out 3
       have hfz48_4:=blk_frozen BK446.out 4
       have hfz48_5:=blk_frozen BK446.out 5
       go_wp2
       repeat (go_quiet (fail);try go_wp2)
       go_ret
       exact ⟨by first|rfl|(simp [errW_none,errW_some] <;> rfl)|(simp [*,errW_none,errW_some] <;> rfl),by repeat(first|(with_reducible first|exact HB.out|apply below_alloc|apply pw_below_drewN|apply below_drew1|refine below_set ?_ GE446.out)|exact HB.out)⟩

end Go.Proofs.Ytebbnjgaikppgaa.PA
