import Derived.Test.YtnagfbadjbkhmaaPBx0
import Derived.Test.YtnagfbadjbkhmaaPBx1
namespace Go.Proofs.Ytnagfbadjbkhmaa.PB
open Go.RowKit Go.Proofs.YtnagfbadjbkhmaaW.PrintWords Go.Proofs.YtnagfbadjbkhmaaW.PrintLast Go.Proofs.YtnagfbadjbkhmaaW.PrintMore
attribute [local go_sem] max2_int min2_int max_two min_two max_three min_three max_four min_four   -- for this text's walks alone
attribute [local go_sem high] Flt.fold_eq Flt.fold_ne Flt.fold_lt Flt.fold_gt Flt.fold_le Flt.fold_ge Flt.run_bits Flt.run_frombits
set_option linter.unusedVariables false
set_option linter.unusedSimpArgs false

/-! ### dataset_Column: function 15 -/
def dataset_Column.f (a0_0 : Int) (a0_1 : Int) (a0_2 : Int) (a0_3 : Int) (a0_4 : Int) (a0_5 : Int) (a0_6 : Int) (a0_7 : Int) (a0_8 : Int) (l0_9 : List Nat) (l0_10 : List Int) (a1 : Int) : Option (List Nat):=(dataset_shaped.f a0_0 a0_1 a0_2 a0_3 a0_4 a0_5 a0_6 a0_7 a0_8 l0_9 l0_10).bind fun t128=>(if t128 = true then (if a1 < 0 then (some ([] : List Nat)) else (if a1 ≥ a0_8 then (some ([] : List Nat)) else (if 0 ≤ (wrap64 (a1 * a0_7)) then (if (wrap64 (a1 * a0_7)) ≤ (wrap64 ((wrap64 (a1 + 1)) * a0_7)) then (if (wrap64 ((wrap64 (a1 + 1)) * a0_7)) ≤ (l0_9.length : Int) then ((slices_Clone_float64_float64.f ((l0_9.take ((wrap64 ((wrap64 (a1 + 1)) * a0_7)) : Int).toNat).drop ((wrap64 (a1 * a0_7)) : Int).toNat)).bind fun t130=>(some t130)) else (none)) else (none)) else (none)))) else (some ([] : List Nat)))
set_option maxHeartbeats 8000000 in
set_option maxRecDepth 100000 in
theorem dataset_Column.calls (a0_0 : Int) (a0_1 : Int) (a0_2 : Int) (a0_3 : Int) (a0_4 : Int) (a0_5 : Int) (a0_6 : Int) (a0_7 : Int) (a0_8 : Int) (A0_9 : Option Addr) (c0_9 : Nat) (l0_9 : List Nat) (A0_10 : Option Addr) (c0_10 : Nat) (l0_10 : List Int) (a1 : Int) (r : List Nat) (w : World) (hr0_9 : Kd.C Flt.kf w A0_9 l0_9.length l0_9) (hc0_9 : l0_9.length ≤ c0_9) (hr0_10 : Kd.C (Kd.int .i64) w A0_10 l0_10.length l0_10) (hc0_10 : l0_10.length ≤ c0_10) (h : dataset_Column.f a0_0 a0_1 a0_2 a0_3 a0_4 a0_5 a0_6 a0_7 a0_8 l0_9 l0_10 a1 = some r) :
  Calls Try.prog 15 #[.agg #[.int .i64 a0_0,.int .i64 a0_1,.int .i64 a0_2,.int .i64 a0_3,.int .i64 a0_4,.int .i64 a0_5,.int .i64 a0_6,.int .i64 a0_7,.int .i64 a0_8,.slice A0_9 l0_9.length c0_9,.slice A0_10 l0_10.length c0_10],.int .i64 a1] w fun e w'=>∃ v0_ : Value,e = .returned (v0_) ∧ Kd.R Flt.kf 36 w' w.heap.size (fun _=>True) v0_ r ∧ Below w.heap.size w w':=by
 have hu32:=Try.underlying32
 have HR0_9:=Aside0.mk hr0_9
 have HC0_9:=Aside0.mk hc0_9
 clear hr0_9 hc0_9
 have HR0_10:=Aside0.mk hr0_10
 have HC0_10:=Aside0.mk hc0_10
 clear hr0_10 hc0_10
 have HB:=Aside0.mk (Below.refl w.heap.size w)
 have H : ((dataset_shaped.f a0_0 a0_1 a0_2 a0_3 a0_4 a0_5 a0_6 a0_7 a0_8 l0_9 l0_10).bind fun t128=>(if t128 = true then (if a1 < 0 then (some ([] : List Nat)) else (if a1 ≥ a0_8 then (some ([] : List Nat)) else (if 0 ≤ (wrap64 (a1 * a0_7)) then (if (wrap64 (a1 * a0_7)) ≤ (wrap64 ((wrap64 (a1 + 1)) * a0_7)) then (if (wrap64 ((wrap64 (a1 + 1)) * a0_7)) ≤ (l0_9.length : Int) then ((slices_Clone_float64_float64.f ((l0_9.take ((wrap64 ((wrap64 (a1 + 1)) * a0_7)) : Int).toNat).drop ((wrap64 (a1 * a0_7)) : Int).toNat)).bind fun t130=>(some t130)) else (none)) else (none)) else (none)))) else (some ([] : List Nat)))) = some r:=h
 clear h
 replace H:=Option.bind_eq_some_iff.mp H
 obtain ⟨t128,A30,H⟩:=H
 replace H : (if t128 = true then (if a1 < 0 then (some ([] : List Nat)) else (if a1 ≥ a0_8 then (some ([] : List Nat)) else (if 0 ≤ (wrap64 (a1 * a0_7)) then (if (wrap64 (a1 * a0_7)) ≤ (wrap64 ((wrap64 (a1 + 1)) * a0_7)) then (if (wrap64 ((wrap64 (a1 + 1)) * a0_7)) ≤ (l0_9.length : Int) then ((slices_Clone_float64_float64.f ((l0_9.take ((wrap64 ((wrap64 (a1 + 1)) * a0_7)) : Int).toNat).drop ((wrap64 (a1 * a0_7)) : Int).toNat)).bind fun t130=>(some t130)) else (none)) else (none)) else (none)))) else (some ([] : List Nat))) = some r:=H
 have A3:=Aside0.mk A30
 clear A30
 by_cases c4 : t128 = true
 ·subst c4
  have H1 : (if a1 < 0 then (some ([] : List Nat)) else (if a1 ≥ a0_8 then (some ([] : List Nat)) else (if 0 ≤ (wrap64 (a1 * a0_7)) then (if (wrap64 (a1 * a0_7)) ≤ (wrap64 ((wrap64 (a1 + 1)) * a0_7)) then (if (wrap64 ((wrap64 (a1 + 1)) * a0_7)) ≤ (l0_9.length : Int) then ((slices_Clone_float64_float64.f ((l0_9.take ((wrap64 ((wrap64 (a1 + 1)) * a0_7)) : Int).toNat).drop ((wrap64 (a1 * a0_7)) : Int).toNat)).bind fun t130=>(some t130)) else (none)) else (none)) else (none)))) = some r:=by rw [if_pos rfl] at H;exact H
  clear H
  have H:=H1
  clear H1
  by_cases c5 : a1 < 0
  ·rw [if_pos c5] at H
   have c5b0 : decide (a1 < 0) = true:=decide_eq_true c5
   clear c5
   obtain rfl:=Option.some.inj H
   go_enter Try.func15,Try.ntmps15
   go_wp2_with (first|((with_reducible refine gate_dst (N:=2) rfl ?_);refine box_event ?hg (N:=2) ?hd (cs:=#[.int .i64 a0_0,.int .i64 a0_1,.int .i64 a0_2,.int .i64 a0_3,.int .i64 a0_4,.int .i64 a0_5,.int .i64 a0_6,.int .i64 a0_7,.int .i64 a0_8,.slice A0_9 l0_9.length c0_9,.slice A0_10 l0_10.length c0_10]) (t:=32) ?hr ?_;(case hd=>rfl);(case hg=>rfl);(case hr=>first|(go_simp;done)|(go_simp;rfl));intro gb127 hg w6 hbox hb;have n0_:=Aside0.mk (below_step (by repeat(first|(with_reducible first|exact HB.out|apply below_alloc|apply pw_below_drewN|apply below_drew1)|exact HB.out)) hb);have n1_:=Aside0.mk (hbox);have n2_:=Aside0.mk ((by rw [hg];exact (below_size (by repeat(first|(with_reducible first|exact HB.out|apply below_alloc|apply pw_below_drewN|apply below_drew1)|exact HB.out))) : w.heap.size ≤ gb127));have n3_:=Aside0.mk ((by rw [hg];exact (below_size (by repeat(first|(with_reducible first|exact HB.out|apply below_alloc|apply pw_below_drewN|apply below_drew1)|exact HB.out))) : w.heap.size ≤ gb127));clear HB;have HB:=n0_;have BK127:=n1_;have GW127:=n2_;have GE127:=n3_;clear n0_ n1_ n2_ n3_;clear hb hbox hg;have hcz7_0 : w6.cell? ⟨gb127,0,none⟩ = some (.int .i64 a0_0):=(blk_cell BK127.out 0).trans rfl;have hcz7_1 : w6.cell? ⟨gb127,1,none⟩ = some (.int .i64 a0_1):=(blk_cell BK127.out 1).trans rfl;have hcz7_2 : w6.cell? ⟨gb127,2,none⟩ = some (.int .i64 a0_2):=(blk_cell BK127.out 2).trans rfl;have hcz7_3 : w6.cell? ⟨gb127,3,none⟩ = some (.int .i64 a0_3):=(blk_cell BK127.out 3).trans rfl;have hcz7_4 : w6.cell? ⟨gb127,4,none⟩ = some (.int .i64 a0_4):=(blk_cell BK127.out 4).trans rfl;have hcz7_5 : w6.cell? ⟨gb127,5,none⟩ = some (.int .i64 a0_5):=(blk_cell BK127.out 5).trans rfl;have hcz7_6 : w6.cell? ⟨gb127,6,none⟩ = some (.int .i64 a0_6):=(blk_cell BK127.out 6).trans rfl;have hcz7_7 : w6.cell? ⟨gb127,7,none⟩ = some (.int .i64 a0_7):=(blk_cell BK127.out 7).trans rfl;have hcz7_8 : w6.cell? ⟨gb127,8,none⟩ = some (.int .i64 a0_8):=(blk_cell BK127.out 8).trans rfl;have hcz7_9 : w6.cell? ⟨gb127,9,none⟩ = some (.slice A0_9 l0_9.length c0_9):=(blk_cell BK127.out 9).trans rfl;have hcz7_10 : w6.cell? ⟨gb127,10,none⟩ = some (.slice A0_10 l0_10.length c0_10):=(blk_cell BK127.out 10).trans rfl;have hfz7_0:=blk_frozen BK127.out 0;have hfz7_1:=blk_frozen BK127.out 1;have hfz7_2:=blk_frozen BK127.out 2;have hfz7_3:=blk_frozen BK127.out 3;have hfz7_4:=blk_frozen BK127.out 4;have hfz7_5:=blk_frozen BK127.out 5;have hfz7_6:=blk_frozen BK127.out 6;have hfz7_7:=blk_frozen BK127.out 7;have hfz7_8:=blk_frozen BK127.out 8;have hfz7_9:=blk_frozen BK127.out 9;have hfz7_10:=blk_frozen BK127.out 10)|((with_reducible refine gate_callee (f:=45) rfl ?_);refine goesL_ (some 6) rfl rfl Try.func45 (by kernel_rfl) rfl #[.agg #[.int .i64 a0_0,.int .i64 a0_1,.int .i64 a0_2,.int .i64 a0_3,.int .i64 a0_4,.int .i64 a0_5,.int .i64 a0_6,.int .i64 a0_7,.int .i64 a0_8,.slice A0_9 l0_9.length c0_9,.slice A0_10 l0_10.length c0_10]] rfl (by (try simp only [List.map_toArray,List.map_cons,List.map_nil]);first|done|rfl|(simp only [List.length_drop,List.length_take];rfl)) ?_;(with_reducible refine (dataset_shaped.calls a0_0 a0_1 a0_2 a0_3 a0_4 a0_5 a0_6 a0_7 a0_8 _ _ l0_9 _ _ l0_10 true _ ?side1 ?side2 ?side3 ?side4 A3.out).mono ?_);(case side1=>repeat(first|exact (Kd.C_below HR0_9.out HB.out)|(with_reducible refine Kd.C_alloc ?_ _)|(with_reducible refine Kd.C_drewN ?_ _)|(with_reducible refine Kd.C_drew ?_)));(case side2=>exact HC0_9.out);(case side3=>repeat(first|exact (Kd.C_below HR0_10.out HB.out)|(with_reducible refine Kd.C_alloc ?_ _)|(with_reducible refine Kd.C_drewN ?_ _)|(with_reducible refine Kd.C_drew ?_)));(case side4=>exact HC0_10.out);rintro e w8 ⟨rfl,hb⟩;refine ⟨_,rfl,?_⟩;have n0_:=Aside0.mk (blk_below (g:=gb127) (o:=.cells #[.int .i64 a0_0,.int .i64 a0_1,.int .i64 a0_2,.int .i64 a0_3,.int .i64 a0_4,.int .i64 a0_5,.int .i64 a0_6,.int .i64 a0_7,.int .i64 a0_8,.slice A0_9 l0_9.length c0_9,.slice A0_10 l0_10.length c0_10] 32 (0,0)) (by (with_reducible repeat(first|refine blk_drewN ?_ _|refine blk_drew ?_|refine blk_alloc ?_ _));exact BK127.out) hb);have n1_:=Aside0.mk (below_step (by repeat(first|(with_reducible first|exact HB.out|apply below_alloc|apply pw_below_drewN|apply below_drew1|refine below_set ?_ GE127.out)|exact HB.out)) hb);clear BK127;clear HB;have BK127:=n0_;have HB:=n1_;clear n0_ n1_;(try clear hb);(try clear hb2);(try clear hk);(try clear hi)))
   go_ret
   exact ⟨_,by first|rfl|(simp [errW_none,errW_some] <;> rfl)|(simp [*,errW_none,errW_some] <;> rfl),by first|exact Kd.R_nil _ _ _ _ _|exact Kd.N_nil _ _ _ _ _|exact Kd.V_nil _ _ _ _ _|exact Kd.Q_nil _ _ _ _ _|exact Kd.S_nil _ _ _ _ _,by repeat(first|(with_reducible first|exact HB.out|apply below_alloc|apply pw_below_drewN|apply below_drew1|refine below_set ?_ GE127.out)|exact HB.out)⟩
  ·rw [if_neg c5] at H
   have c5b0 : decide (a1 < 0) = false:=decide_eq_false c5
   clear c5
   by_cases c9 : a1 ≥ a0_8
   ·rw [if_pos c9] at H
    have c9b0 : decide (a0_8 ≤ a1) = true:=decide_eq_true c9
    clear c9
    obtain rfl:=Option.some.inj H
    go_enter Try.func15,Try.ntmps15
    go_wp2_with (first|((with_reducible refine gate_dst (N:=2) rfl ?_);refine box_event ?hg (N:=2) ?hd (cs:=#[.int .i64 a0_0,.int .i64 a0_1,.int .i64 a0_2,.int .i64 a0_3,.int .i64 a0_4,.int .i64 a0_5,.int .i64 a0_6,.int .i64 a0_7,.int .i64 a0_8,.slice A0_9 l0_9.length c0_9,.slice A0_10 l0_10.length c0_10]) (t:=32) ?hr ?_;(case hd=>rfl);(case hg=>rfl);(case hr=>first|(go_simp;done)|(go_simp;rfl));intro gb127 hg w10 hbox hb;have n0_:=Aside0.mk (below_step (by repeat(first|(with_reducible first|exact HB.out|apply below_alloc|apply pw_below_drewN|apply below_drew1)|exact HB.out)) hb);have n1_:=Aside0.mk (hbox);have n2_:=Aside0.mk ((by rw [hg];exact (below_size (by repeat(first|(with_reducible first|exact HB.out|apply below_alloc|apply pw_below_drewN|apply below_drew1)|exact HB.out))) : w.heap.size ≤ gb127));have n3_:=Aside0.mk ((by rw [hg];exact (below_size (by repeat(first|(with_reducible first|exact HB.out|apply below_alloc|apply pw_below_drewN|apply below_drew1)|exact HB.out))) : w.heap.size ≤ gb127));clear HB;have HB:=n0_;have BK127:=n1_;have GW127:=n2_;have GE127:=n3_;clear n0_ n1_ n2_ n3_;clear hb hbox hg;have hcz11_0 : w10.cell? ⟨gb127,0,none⟩ = some (.int .i64 a0_0):=(blk_cell BK127.out 0).trans rfl;have hcz11_1 : w10.cell? ⟨gb127,1,none⟩ = some (.int .i64 a0_1):=(blk_cell BK127.out 1).trans rfl;have hcz11_2 : w10.cell? ⟨gb127,2,none⟩ = some (.int .i64 a0_2):=(blk_cell BK127.out 2).trans rfl;have hcz11_3 : w10.cell? ⟨gb127,3,none⟩ = some (.int .i64 a0_3):=(blk_cell BK127.out 3).trans rfl;have hcz11_4 : w10.cell? ⟨gb127,4,none⟩ = some (.int .i64 a0_4):=(blk_cell BK127.out 4).trans rfl;have hcz11_5 : w10.cell? ⟨gb127,5,none⟩ = some (.int .i64 a0_5):=(blk_cell BK127.out 5).trans rfl;have hcz11_6 : w10.cell? ⟨gb127,6,none⟩ = some (.int .i64 a0_6):=(blk_cell BK127.out 6).trans rfl;have hcz11_7 : w10.cell? ⟨gb127,7,none⟩ = some (.int .i64 a0_7):=(blk_cell BK127.out 7).trans rfl;have hcz11_8 : w10.cell? ⟨gb127,8,none⟩ = some (.int .i64 a0_8):=(blk_cell BK127.out 8).trans rfl;have hcz11_9 : w10.cell? ⟨gb127,9,none⟩ = some (.slice A0_9 l0_9.length c0_9):=(blk_cell BK127.out 9).trans rfl;have hcz11_10 : w10.cell? ⟨gb127,10,none⟩ = some (.slice A0_10 l0_10.length c0_10):=(blk_cell BK127.out 10).trans rfl;have hfz11_0:=blk_frozen BK127.out 0;have hfz11_1:=blk_frozen BK127.out 1;have hfz11_2:=blk_frozen BK127.out 2;have hfz11_3:=blk_frozen BK127.out 3;have hfz11_4:=blk_frozen BK127.out 4;have hfz11_5:=blk_frozen BK127.out 5;have hfz11_6:=blk_frozen BK127.out 6;have hfz11_7:=blk_frozen BK127.out 7;have hfz11_8:=blk_frozen BK127.out 8;have hfz11_9:=blk_frozen BK127.out 9;have hfz11_10:=blk_frozen BK127.out 10)|((with_reducible refine gate_callee (f:=45) rfl ?_);refine goesL_ (some 6) rfl rfl Try.func45 (by kernel_rfl) rfl #[.agg #[.int .i64 a0_0,.int .i64 a0_1,.int .i64 a0_2,.int .i64 a0_3,.int .i64 a0_4,.int .i64 a0_5,.int .i64 a0_6,.int .i64 a0_7,.int .i64 a0_8,.slice A0_9 l0_9.length c0_9,.slice A0_10 l0_10.length c0_10]] rfl (by (try simp only [List.map_toArray,List.map_cons,List.map_nil]);first|done|rfl|(simp only [List.length_drop,List.length_take];rfl)) ?_;(with_reducible refine (dataset_shaped.calls a0_0 a0_1 a0_2 a0_3 a0_4 a0_5 a0_6 a0_7 a0_8 _ _ l0_9 _ _ l0_10 true _ ?side1 ?side2 ?side3 ?side4 A3.out).mono ?_);(case side1=>repeat(first|exact (Kd.C_below HR0_9.out HB.out)|(with_reducible refine Kd.C_alloc ?_ _)|(with_reducible refine Kd.C_drewN ?_ _)|(with_reducible refine Kd.C_drew ?_)));(case side2=>exact HC0_9.out);(case side3=>repeat(first|exact (Kd.C_below HR0_10.out HB.out)|(with_reducible refine Kd.C_alloc ?_ _)|(with_reducible refine Kd.C_drewN ?_ _)|(with_reducible refine Kd.C_drew ?_)));(case side4=>exact HC0_10.out);rintro e w12 ⟨rfl,hb⟩;refine ⟨_,rfl,?_⟩;have n0_:=Aside0.mk (blk_below (g:=gb127) (o:=.cells #[.int .i64 a0_0,.int .i64 a0_1,.int .i64 a0_2,.int .i64 a0_3,.int .i64 a0_4,.int .i64 a0_5,.int .i64 a0_6,.int .i64 a0_7,.int .i64 a0_8,.slice A0_9 l0_9.length c0_9,.slice A0_10 l0_10.length c0_10] 32 (0,0)) (by (with_reducible repeat(first|refine blk_drewN ?_ _|refine blk_drew ?_|refine blk_alloc ?_ _));exact BK127.out) hb);have n1_:=Aside0.mk (below_step (by repeat(first|(with_reducible first|exact HB.out|apply below_alloc|apply pw_below_drewN|apply below_drew1|refine below_set ?_ GE127.out)|exact HB.out)) hb);clear BK127;clear HB;have BK127:=n0_;have HB:=n1_;clear n0_ n1_;(try clear hb);(try clear hb2);(try clear hk);(try clear hi);have hcz13_0 : w12.cell? ⟨gb127,0,none⟩ = some (.int .i64 a0_0):=(blk_cell BK127.out 0).trans rfl;have hcz13_1 : w12.cell? ⟨gb127,1,none⟩ = some (.int .i64 a0_1):=(blk_cell BK127.out 1).trans rfl;have hcz13_2 : w12.cell? ⟨gb127,2,none⟩ = some (.int .i64 a0_2):=(blk_cell BK127.out 2).trans rfl;have hcz13_3 : w12.cell? ⟨gb127,3,none⟩ = some (.int .i64 a0_3):=(blk_cell BK127.out 3).trans rfl;have hcz13_4 : w12.cell? ⟨gb127,4,none⟩ = some (.int .i64 a0_4):=(blk_cell BK127.out 4).trans rfl;have hcz13_5 : w12.cell? ⟨gb127,5,none⟩ = some (.int .i64 a0_5):=(blk_cell BK127.out 5).trans rfl;have hcz13_6 : w12.cell? ⟨gb127,6,none⟩ = some (.int .i64 a0_6):=(blk_cell BK127.out 6).trans rfl;have hcz13_7 : w12.cell? ⟨gb127,7,none⟩ = some (.int .i64 a0_7):=(blk_cell BK127.out 7).trans rfl;have hcz13_8 : w12.cell? ⟨gb127,8,none⟩ = some (.int .i64 a0_8):=(blk_cell BK127.out 8).trans rfl;have hcz13_9 : w12.cell? ⟨gb127,9,none⟩ = some (.slice A0_9 l0_9.length c0_9):=(blk_cell BK127.out 9).trans rfl;have hcz13_10 : w12.cell? ⟨gb127,10,none⟩ = some (.slice A0_10 l0_10.length c0_10):=(blk_cell BK127.out 10).trans rfl;have hfz13_0:=blk_frozen BK127.out 0;have hfz13_1:=blk_frozen BK127.out 1;have hfz13_2:=blk_frozen BK127.out 2;have hfz13_3:=blk_frozen BK127.out 3;have hfz13_4:=blk_frozen BK127.out 4;have hfz13_5:=blk_frozen BK127.out 5;have hfz13_6:=blk_frozen BK127.out 6;have hfz13_7:=blk_frozen BK127.out 7;have hfz13_8:=blk_frozen BK127.out 8;have hfz13_9:=blk_frozen BK127.out 9;have hfz13_10:=blk_frozen BK127.out 10))
    go_ret
    exact ⟨_,by first|rfl|(simp [errW_none,errW_some] <;> rfl)|(simp [*,errW_none,errW_some] <;> rfl),by first|exact Kd.R_nil _ _ _ _ _|exact Kd.N_nil _ _ _ _ _|exact Kd.V_nil _ _ _ _ _|exact Kd.Q_nil _ _ _ _ _|exact Kd.S_nil _ _ _ _ _,by repeat(first|(with_reducible first|exact HB.out|apply below_alloc|apply pw_below_drewN|apply below_drew1|refine below_set ?_ GE127.out)|exact HB.out)⟩
   ·rw [if_neg c9] at H
    have c9b0 : decide (a0_8 ≤ a1) = false:=decide_eq_false c9
    clear c9
    obtain ⟨ji14,hji14⟩ : ∃ j_ : Int,(wrap64 (a1 * a0_7)) = j_:=⟨_,rfl⟩
    replace H : (if 0 ≤ (ji14) then (if (ji14) ≤ (wrap64 ((wrap64 (a1 + 1)) * a0_7)) then (if (wrap64 ((wrap64 (a1 + 1)) * a0_7)) ≤ (l0_9.length : Int) then ((slices_Clone_float64_float64.f ((l0_9.take ((wrap64 ((wrap64 (a1 + 1)) * a0_7)) : Int).toNat).drop ((ji14) : Int).toNat)).bind fun t130=>(some t130)) else (none)) else (none)) else (none)) = some r:=by first|(rw [hji14] at H;exact H)|(simp only [hji14] at H ⊢;exact H)
    (try rw [hji14] at A3)
    have hji14w : (IntKind.i64.wrap (a1 * a0_7)) = ji14:=(i64_w _).trans hji14
    by_cases c15 : 0 ≤ (ji14)
    ·rw [if_pos c15] at H
     have c15b0:=eq_true c15
     have c15b1 : decide (0 ≤ (ji14)) = true:=decide_eq_true c15
     clear c15
     by_cases c16 : (ji14) ≤ (wrap64 ((wrap64 (a1 + 1)) * a0_7))
     ·rw [if_pos c16] at H
      have c16b0:=eq_true c16
      have c16b1 : decide ((ji14) ≤ (wrap64 ((wrap64 (a1 + 1)) * a0_7))) = true:=decide_eq_true c16
      by_cases c17 : (wrap64 ((wrap64 (a1 + 1)) * a0_7)) ≤ (l0_9.length : Int)
      ·rw [if_pos c17] at H
       have c17b0:=eq_true c17
       have c17b1 : decide ((wrap64 ((wrap64 (a1 + 1)) * a0_7)) ≤ (l0_9.length : Int)) = true:=decide_eq_true c17
       replace H:=Option.bind_eq_some_iff.mp H
       obtain ⟨t130,A180,H⟩:=H
       replace H : (some t130) = some r:=H
       have A18:=Aside0.mk A180
       clear A180
       obtain rfl:=Option.some.inj H
       go_enter Try.func15,Try.ntmps15
       go_wp2_with (first|((with_reducible refine gate_dst (N:=2) rfl ?_);refine box_event ?hg (N:=2) ?hd (cs:=#[.int .i64 a0_0,.int .i64 a0_1,.int .i64 a0_2,.int .i64 a0_3,.int .i64 a0_4,.int .i64 a0_5,.int .i64 a0_6,.int .i64 a0_7,.int .i64 a0_8,.slice A0_9 l0_9.length c0_9,.slice A0_10 l0_10.length c0_10]) (t:=32) ?hr ?_;(case hd=>rfl);(case hg=>rfl);(case hr=>first|(go_simp;done)|(go_simp;rfl));intro gb127 hg w19 hbox hb;have n0_:=Aside0.mk (below_step (by repeat(first|(with_reducible first|exact HB.out|apply below_alloc|apply pw_below_drewN|apply below_drew1)|exact HB.out)) hb);have n1_:=Aside0.mk (hbox);have n2_:=Aside0.mk ((by rw [hg];exact (below_size (by repeat(first|(with_reducible first|exact HB.out|apply below_alloc|apply pw_below_drewN|apply below_drew1)|exact HB.out))) : w.heap.size ≤ gb127));have n3_:=Aside0.mk ((by rw [hg];exact (below_size (by repeat(first|(with_reducible first|exact HB.out|apply below_alloc|apply pw_below_drewN|apply below_drew1)|exact HB.out))) : w.heap.size ≤ gb127));clear HB;have HB:=n0_;have BK127:=n1_;have GW127:=n2_;have GE127:=n3_;clear n0_ n1_ n2_ n3_;clear hb hbox hg;have hcz20_0 : w19.cell? ⟨gb127,0,none⟩ = some (.int .i64 a0_0):=(blk_cell BK127.out 0).trans rfl;have hcz20_1 : w19.cell? ⟨gb127,1,none⟩ = some (.int .i64 a0_1):=(blk_cell BK127.out 1).trans rfl;have hcz20_2 : w19.cell? ⟨gb127,2,none⟩ = some (.int .i64 a0_2):=(blk_cell BK127.out 2).trans rfl;have hcz20_3 : w19.cell? ⟨gb127,3,none⟩ = some (.int .i64 a0_3):=(blk_cell BK127.out 3).trans rfl;have hcz20_4 : w19.cell? ⟨gb127,4,none⟩ = some (.int .i64 a0_4):=(blk_cell BK127.out 4).trans rfl;have hcz20_5 : w19.cell? ⟨gb127,5,none⟩ = some (.int .i64 a0_5):=(blk_cell BK127.out 5).trans rfl;have hcz20_6 : w19.cell? ⟨gb127,6,none⟩ = some (.int .i64 a0_6):=(blk_cell BK127.out 6).trans rfl;have hcz20_7 : w19.cell? ⟨gb127,7,none⟩ = some (.int .i64 a0_7):=(blk_cell BK127.out 7).trans rfl;have hcz20_8 : w19.cell? ⟨gb127,8,none⟩ = some (.int .i64 a0_8):=(blk_cell BK127.out 8).trans rfl;have hcz20_9 : w19.cell? ⟨gb127,9,none⟩ = some (.slice A0_9 l0_9.length c0_9):=(blk_cell BK127.out 9).trans rfl;have hcz20_10 : w19.cell? ⟨gb127,10,none⟩ = some (.slice A0_10 l0_10.length c0_10):=(blk_cell BK127.out 10).trans rfl;have hfz20_0:=blk_frozen BK127.out 0;have hfz20_1:=blk_frozen BK127.out 1;have hfz20_2:=blk_frozen BK127.out 2;have hfz20_3:=blk_frozen BK127.out 3;have hfz20_4:=blk_frozen BK127.out 4;have hfz20_5:=blk_frozen BK127.out 5;have hfz20_6:=blk_frozen BK127.out 6;have hfz20_7:=blk_frozen BK127.out 7;have hfz20_8:=blk_frozen BK127.out 8;have hfz20_9:=blk_frozen BK127.out 9;have hfz20_10:=blk_frozen BK127.out 10)|((with_reducible refine gate_callee (f:=45) rfl ?_);refine goesL_ (some 6) rfl rfl Try.func45 (by kernel_rfl) rfl #[.agg #[.int .i64 a0_0,.int .i64 a0_1,.int .i64 a0_2,.int .i64 a0_3,.int .i64 a0_4,.int .i64 a0_5,.int .i64 a0_6,.int .i64 a0_7,.int .i64 a0_8,.slice A0_9 l0_9.length c0_9,.slice A0_10 l0_10.length c0_10]] rfl (by (try simp only [List.map_toArray,List.map_cons,List.map_nil]);first|done|rfl|(simp only [List.length_drop,List.length_take];rfl)) ?_;(with_reducible refine (dataset_shaped.calls a0_0 a0_1 a0_2 a0_3 a0_4 a0_5 a0_6 a0_7 a0_8 _ _ l0_9 _ _ l0_10 true _ ?side1 ?side2 ?side3 ?side4 A3.out).mono ?_);(case side1=>repeat(first|exact (Kd.C_below HR0_9.out HB.out)|(with_reducible refine Kd.C_alloc ?_ _)|(with_reducible refine Kd.C_drewN ?_ _)|(with_reducible refine Kd.C_drew ?_)));(case side2=>exact HC0_9.out);(case side3=>repeat(first|exact (Kd.C_below HR0_10.out HB.out)|(with_reducible refine Kd.C_alloc ?_ _)|(with_reducible refine Kd.C_drewN ?_ _)|(with_reducible refine Kd.C_drew ?_)));(case side4=>exact HC0_10.out);rintro e w21 ⟨rfl,hb⟩;refine ⟨_,rfl,?_⟩;have n0_:=Aside0.mk (blk_below (g:=gb127) (o:=.cells #[.int .i64 a0_0,.int .i64 a0_1,.int .i64 a0_2,.int .i64 a0_3,.int .i64 a0_4,.int .i64 a0_5,.int .i64 a0_6,.int .i64 a0_7,.int .i64 a0_8,.slice A0_9 l0_9.length c0_9,.slice A0_10 l0_10.length c0_10] 32 (0,0)) (by (with_reducible repeat(first|refine blk_drewN ?_ _|refine blk_drew ?_|refine blk_alloc ?_ _));exact BK127.out) hb);have n1_:=Aside0.mk (below_step (by repeat(first|(with_reducible first|exact HB.out|apply below_alloc|apply pw_below_drewN|apply below_drew1|refine below_set ?_ GE127.out)|exact HB.out)) hb);clear BK127;clear HB;have BK127:=n0_;have HB:=n1_;clear n0_ n1_;(try clear hb);(try clear hb2);(try clear hk);(try clear hi);have hcz22_0 : w21.cell? ⟨gb127,0,none⟩ = some (.int .i64 a0_0):=(blk_cell BK127.out 0).trans rfl;have hcz22_1 : w21.cell? ⟨gb127,1,none⟩ = some (.int .i64 a0_1):=(blk_cell BK127.out 1).trans rfl;have hcz22_2 : w21.cell? ⟨gb127,2,none⟩ = some (.int .i64 a0_2):=(blk_cell BK127.out 2).trans rfl;have hcz22_3 : w21.cell? ⟨gb127,3,none⟩ = some (.int .i64 a0_3):=(blk_cell BK127.out 3).trans rfl;have hcz22_4 : w21.cell? ⟨gb127,4,none⟩ = some (.int .i64 a0_4):=(blk_cell BK127.out 4).trans rfl;have hcz22_5 : w21.cell? ⟨gb127,5,none⟩ = some (.int .i64 a0_5):=(blk_cell BK127.out 5).trans rfl;have hcz22_6 : w21.cell? ⟨gb127,6,none⟩ = some (.int .i64 a0_6):=(blk_cell BK127.out 6).trans rfl;have hcz22_7 : w21.cell? ⟨gb127,7,none⟩ = some (.int .i64 a0_7):=(blk_cell BK127.out 7).trans rfl;have hcz22_8 : w21.cell? ⟨gb127,8,none⟩ = some (.int .i64 a0_8):=(blk_cell BK127.out 8).trans rfl;have hcz22_9 : w21.cell? ⟨gb127,9,none⟩ = some (.slice A0_9 l0_9.length c0_9):=(blk_cell BK127.out 9).trans rfl;have hcz22_10 : w21.cell? ⟨gb127,10,none⟩ = some (.slice A0_10 l0_10.length c0_10):=(blk_cell BK127.out 10).trans rfl;have hfz22_0:=blk_frozen BK127.out 0;have hfz22_1:=blk_frozen BK127.out 1;have hfz22_2:=blk_frozen BK127.out 2;have hfz22_3:=blk_frozen BK127.out 3;have hfz22_4:=blk_frozen BK127.out 4;have hfz22_5:=blk_frozen BK127.out 5;have hfz22_6:=blk_frozen BK127.out 6;have hfz22_7:=blk_frozen BK127.out 7;have hfz22_8:=blk_frozen BK127.out 8;have hfz22_9:=blk_frozen BK127.out 9;have hfz22_10:=blk_frozen BK127.out 10;obtain ⟨i023,hi023,_,hsz23,_⟩:=info_parts info36;obtain ⟨A23,hcut23,hA23,hC23⟩:=print_mid_of (P:=Try.prog) (Value.float .f64) (0 : Nat) 30 36 .i64 .i64 Try.underlying30 hi023 hsz23 A0_9 c0_9 l0_9 (ji14) (wrap64 ((wrap64 (a1 + 1)) * a0_7)) (of_decide_eq_true (by first|(with_reducible assumption)|assumption)) (by first|omega|exact of_decide_eq_true (by first|(with_reducible assumption)|assumption)) (of_decide_eq_true (by first|(with_reducible assumption)|assumption)) HC0_9.out;have HR129:=Aside0.mk (Kd.C_of_reads (h1:=fun _=>rfl) (hA23 _ (Kd.reads_of_C HR0_9.out)));have HC129:=Aside0.mk hC23;clear hA23 hC23 hi023 hsz23)|((with_reducible refine gate_callee (f:=46) rfl ?_);refine goesL_ (some 30) rfl rfl Try.func46 (by kernel_rfl) rfl #[.slice A23 ((l0_9.take ((wrap64 ((wrap64 (a1 + 1)) * a0_7)) : Int).toNat).drop ((ji14) : Int).toNat).length (c0_9 - (ji14).toNat)] rfl (by (try simp only [List.map_toArray,List.map_cons,List.map_nil]);first|done|(rw [show ((l0_9.take ((wrap64 ((wrap64 (a1 + 1)) * a0_7)) : Int).toNat).drop ((ji14) : Int).toNat).length = ((wrap64 ((wrap64 (a1 + 1)) * a0_7)).toNat - (ji14).toNat) from (by rw [List.length_drop,List.length_take];have h_ : ((wrap64 ((wrap64 (a1 + 1)) * a0_7)) : Int) ≤ (l0_9.length : Int):=of_decide_eq_true (by first|(with_reducible assumption)|assumption);omega)] <;> rfl)|(simp only [hji14];rfl)|rfl|(simp only [List.length_drop,List.length_take];rfl)) ?_;(with_reducible refine (slices_Clone_float64_float64.calls _ _ ((l0_9.take ((wrap64 ((wrap64 (a1 + 1)) * a0_7)) : Int).toNat).drop ((ji14) : Int).toNat) t130 _ ?side1 ?side2 A18.out).mono ?_);(case side1=>repeat(first|exact (Kd.C_below HR129.out HB.out)|(with_reducible refine Kd.C_alloc ?_ _)|(with_reducible refine Kd.C_drewN ?_ _)|(with_reducible refine Kd.C_drew ?_)));(case side2=>exact HC129.out);rintro e w24 ⟨v131,rfl,ho0,hb⟩;refine ⟨_,rfl,?_⟩;have n0_:=Aside0.mk (Kd.R_lower ho0 (below_size (by repeat(first|(with_reducible first|exact HB.out|apply below_alloc|apply pw_below_drewN|apply below_drew1|refine below_set ?_ GE127.out)|exact HB.out))));have n1_:=Aside0.mk (blk_below (g:=gb127) (o:=.cells #[.int .i64 a0_0,.int .i64 a0_1,.int .i64 a0_2,.int .i64 a0_3,.int .i64 a0_4,.int .i64 a0_5,.int .i64 a0_6,.int .i64 a0_7,.int .i64 a0_8,.slice A0_9 l0_9.length c0_9,.slice A0_10 l0_10.length c0_10] 32 (0,0)) (by (with_reducible repeat(first|refine blk_drewN ?_ _|refine blk_drew ?_|refine blk_alloc ?_ _));exact BK127.out) hb);have n2_:=Aside0.mk (below_step (by repeat(first|(with_reducible first|exact HB.out|apply below_alloc|apply pw_below_drewN|apply below_drew1|refine below_set ?_ GE127.out)|exact HB.out)) hb);clear BK127;clear HB;have HO132:=n0_;have BK127:=n1_;have HB:=n2_;clear n0_ n1_ n2_;(try clear hb);(try clear hb2);(try clear hk);(try clear hi);(try clear ho0)))
       go_ret
       exact ⟨_,by first|rfl|(simp [errW_none,errW_some] <;> rfl)|(simp only [← hji14];first|rfl|(simp [errW_none,errW_some] <;> rfl))|(simp [*,errW_none,errW_some] <;> rfl),by (with_reducible repeat(first|apply Kd.R_alloc|apply Kd.R_drewN|apply Kd.R_drew));exact HO132.out,by repeat(first|(with_reducible first|exact HB.out|apply below_alloc|apply pw_below_drewN|apply below_drew1|refine below_set ?_ GE127.out)|exact HB.out)⟩
      ·rw [if_neg c17] at H
       exact absurd H (by simp)
     ·rw [if_neg c16] at H
      exact absurd H (by simp)
    ·rw [if_neg c15] at H
     exact absurd H (by simp)
 ·replace c4:=Bool.eq_false_iff.mpr c4
  subst c4
  have H1 : (some ([] : List Nat)) = some r:=by rw [if_neg (show ¬ (false = true) by decide)] at H;exact H
  clear H
  have H:=H1
  clear H1
  obtain rfl:=Option.some.inj H
  go_enter Try.func15,Try.ntmps15
  go_wp2_with (first|((with_reducible refine gate_dst (N:=2) rfl ?_);refine box_event ?hg (N:=2) ?hd (cs:=#[.int .i64 a0_0,.int .i64 a0_1,.int .i64 a0_2,.int .i64 a0_3,.int .i64 a0_4,.int .i64 a0_5,.int .i64 a0_6,.int .i64 a0_7,.int .i64 a0_8,.slice A0_9 l0_9.length c0_9,.slice A0_10 l0_10.length c0_10]) (t:=32) ?hr ?_;(case hd=>rfl);(case hg=>rfl);(case hr=>first|(go_simp;done)|(go_simp;rfl));intro gb127 hg w25 hbox hb;have n0_:=Aside0.mk (below_step (by repeat(first|(with_reducible first|exact HB.out|apply below_alloc|apply pw_below_drewN|apply below_drew1)|exact HB.out)) hb);have n1_:=Aside0.mk (hbox);have n2_:=Aside0.mk ((by rw [hg];exact (below_size (by repeat(first|(with_reducible first|exact HB.out|apply below_alloc|apply pw_below_drewN|apply below_drew1)|exact HB.out))) : w.heap.size ≤ gb127));have n3_:=Aside0.mk ((by rw [hg];exact (below_size (by repeat(first|(with_reducible first|exact HB.out|apply below_alloc|apply pw_below_drewN|apply below_drew1)|exact HB.out))) : w.heap.size ≤ gb127));clear HB;have HB:=n0_;have BK127:=n1_;have GW127:=n2_;have GE127:=n3_;clear n0_ n1_ n2_ n3_;clear hb hbox hg;have hcz26_0 : w25.cell? ⟨gb127,0,none⟩ = some (.int .i64 a0_0):=(blk_cell BK127.out 0).trans rfl;have hcz26_1 : w25.cell? ⟨gb127,1,none⟩ = some (.int .i64 a0_1):=(blk_cell BK127.out 1).trans rfl;have hcz26_2 : w25.cell? ⟨gb127,2,none⟩ = some (.int .i64 a0_2):=(blk_cell BK127.out 2).trans rfl;have hcz26_3 : w25.cell? ⟨gb127,3,none⟩ = some (.int .i64 a0_3):=(blk_cell BK127.out 3).trans rfl;have hcz26_4 : w25.cell? ⟨gb127,4,none⟩ = some (.int .i64 a0_4):=(blk_cell BK127.out 4).trans rfl;have hcz26_5 : w25.cell? ⟨gb127,5,none⟩ = some (.int .i64 a0_5):=(blk_cell BK127.out 5).trans rfl;have hcz26_6 : w25.cell? ⟨gb127,6,none⟩ = some (.int .i64 a0_6):=(blk_cell BK127.out 6).trans rfl;have hcz26_7 : w25.cell? ⟨gb127,7,none⟩ = some (.int .i64 a0_7):=(blk_cell BK127.out 7).trans rfl;have hcz26_8 : w25.cell? ⟨gb127,8,none⟩ = some (.int .i64 a0_8):=(blk_cell BK127.out 8).trans rfl;have hcz26_9 : w25.cell? ⟨gb127,9,none⟩ = some (.slice A0_9 l0_9.length c0_9):=(blk_cell BK127.out 9).trans rfl;have hcz26_10 : w25.cell? ⟨gb127,10,none⟩ = some (.slice A0_10 l0_10.length c0_10):=(blk_cell BK127.out 10).trans rfl;have hfz26_0:=blk_frozen BK127.out 0;have hfz26_1:=blk_frozen BK127.out 1;have hfz26_2:=blk_frozen BK127.out 2;have hfz26_3:=blk_frozen BK127.out 3;have hfz26_4:=blk_frozen BK127.out 4;have hfz26_5:=blk_frozen BK127.out 5;have hfz26_6:=blk_frozen BK127.out 6;have hfz26_7:=blk_frozen BK127.out 7;have hfz26_8:=blk_frozen BK127.out 8;have hfz26_9:=blk_frozen BK127.out 9;have hfz26_10:=blk_frozen BK127.out 10)|((with_reducible refine gate_callee (f:=45) rfl ?_);refine goesL_ (some 6) rfl rfl Try.func45 (by kernel_rfl) rfl #[.agg #[.int .i64 a0_0,.int .i64 a0_1,.int .i64 a0_2,.int .i64 a0_3,.int .i64 a0_4,.int .i64 a0_5,.int .i64 a0_6,.int .i64 a0_7,.int .i64 a0_8,.slice A0_9 l0_9.length c0_9,.slice A0_10 l0_10.length c0_10]] rfl (by (try simp only [List.map_toArray,List.map_cons,List.map_nil]);first|done|rfl|(simp only [List.length_drop,List.length_take];rfl)) ?_;(with_reducible refine (dataset_shaped.calls a0_0 a0_1 a0_2 a0_3 a0_4 a0_5 a0_6 a0_7 a0_8 _ _ l0_9 _ _ l0_10 false _ ?side1 ?side2 ?side3 ?side4 A3.out).mono ?_);(case side1=>repeat(first|exact (Kd.C_below HR0_9.out HB.out)|(with_reducible refine Kd.C_alloc ?_ _)|(with_reducible refine Kd.C_drewN ?_ _)|(with_reducible refine Kd.C_drew ?_)));(case side2=>exact HC0_9.out);(case side3=>repeat(first|exact (Kd.C_below HR0_10.out HB.out)|(with_reducible refine Kd.C_alloc ?_ _)|(with_reducible refine Kd.C_drewN ?_ _)|(with_reducible refine Kd.C_drew ?_)));(case side4=>exact HC0_10.out);rintro e w27 ⟨rfl,hb⟩;refine ⟨_,rfl,?_⟩;have n0_:=Aside0.mk (blk_below (g:=gb127) (o:=.cells #[.int .i64 a0_0,.int .i64 a0_1,.int .i64 a0_2,.int .i64 a0_3,.int .i64 a0_4,.int .i64 a0_5,.int .i64 a0_6,.int .i64 a0_7,.int .i64 a0_8,.slice A0_9 l0_9.length c0_9,.slice A0_10 l0_10.length c0_10] 32 (0,0)) (by (with_reducible repeat(first|refine blk_drewN ?_ _|refine blk_drew ?_|refine blk_alloc ?_ _));exact BK127.out) hb);have n1_:=Aside0.mk (below_step (by repeat(first|(with_reducible first|exact HB.out|apply below_alloc|apply pw_below_drewN|apply below_drew1|refine below_set ?_ GE127.out)|exact HB.out)) hb);clear BK127;clear HB;have BK127:=n0_;have HB:=n1_;clear n0_ n1_;(try clear hb);(try clear hb2);(try clear hk);(try clear hi)))
  go_ret
  exact ⟨_,by first|rfl|(simp [errW_none,errW_some] <;> rfl)|(simp [*,errW_none,errW_some] <;> rfl),by first|exact Kd.R_nil _ _ _ _ _|exact Kd.N_nil _ _ _ _ _|exact Kd.V_nil _ _ _ _ _|exact Kd.Q_nil _ _ _ _ _|exact Kd.S_nil _ _ _ _ _,by repeat(first|(with_reducible first|exact HB.out|apply below_alloc|apply pw_below_drewN|apply below_drew1|refine below_set ?_ GE127.out)|exact HB.out)⟩

/-! ### bins_count: function 75 -/
def bins_count.f (a0 : Int) : Option (Bool):=if a0 ≥ 0 then (some (decide (a0 ≤ 16777216))) else (some false)
set_option maxHeartbeats 8000000 in
set_option maxRecDepth 100000 in
theorem bins_count.calls (a0 : Int) (r : Bool) (w : World) (h : bins_count.f a0 = some r) :
  Calls Try.prog 75 #[.int .i64 a0] w fun e w'=>e = .returned (.bool r) ∧ Drawn0 w w':=by
 have H : (if a0 ≥ 0 then (some (decide (a0 ≤ 16777216))) else (some false)) = some r:=h
 clear h
 by_cases c2 : a0 ≥ 0
 ·rw [if_pos c2] at H
  have c2b0 : decide (0 ≤ a0) = true:=decide_eq_true c2
  clear c2
  obtain rfl:=Option.some.inj H
  go_enter Try.func75,Try.ntmps75
  go_wp2
  go_ret
  exact ⟨by first|rfl|(simp;done)|(simp [*];done),by repeat(first|exact Drawn0.refl _|apply Drawn0.step)⟩
 ·rw [if_neg c2] at H
  have c2b0 : decide (0 ≤ a0) = false:=decide_eq_false c2
  clear c2
  obtain rfl:=Option.some.inj H
  go_enter Try.func75,Try.ntmps75
  go_wp2
  go_ret
  exact ⟨by first|rfl|(simp;done)|(simp [*];done),by repeat(first|exact Drawn0.refl _|apply Drawn0.step)⟩

/-! ### bins_shaped: function 67 -/
def bins_shaped.f (a0_0 : Int) (a0_1 : Int) (a0_2 : Int) (a0_3 : Int) (a0_4 : Int) (a0_5 : Int) (a0_6 : Int) (a0_7 : Int) (a0_8 : Int) (l0_9 : List Nat) (l0_10 : List Int) : Option (Bool):=(bins_count.f a0_7).bind fun t134=>(if t134 = true then ((bins_count.f a0_8).bind fun t135=>(if t135 = true then (some ((l0_9.length : Int) == (wrap64 (a0_7 * a0_8)))) else (some false))) else (some false))
set_option maxHeartbeats 8000000 in
set_option maxRecDepth 100000 in
theorem bins_shaped.calls (a0_0 : Int) (a0_1 : Int) (a0_2 : Int) (a0_3 : Int) (a0_4 : Int) (a0_5 : Int) (a0_6 : Int) (a0_7 : Int) (a0_8 : Int) (A0_9 : Option Addr) (c0_9 : Nat) (l0_9 : List Nat) (A0_10 : Option Addr) (c0_10 : Nat) (l0_10 : List Int) (r : Bool) (w : World) (hr0_9 : Kd.C Flt.kf w A0_9 l0_9.length l0_9) (hc0_9 : l0_9.length ≤ c0_9) (hr0_10 : Kd.C (Kd.int .i64) w A0_10 l0_10.length l0_10) (hc0_10 : l0_10.length ≤ c0_10) (h : bins_shaped.f a0_0 a0_1 a0_2 a0_3 a0_4 a0_5 a0_6 a0_7 a0_8 l0_9 l0_10 = some r) :
  Calls Try.prog 67 #[.agg #[.int .i64 a0_0,.int .i64 a0_1,.int .i64 a0_2,.int .i64 a0_3,.int .i64 a0_4,.int .i64 a0_5,.int .i64 a0_6,.int .i64 a0_7,.int .i64 a0_8,.slice A0_9 l0_9.length c0_9,.slice A0_10 l0_10.length c0_10]] w fun e w'=>e = .returned (.bool r) ∧ Below w.heap.size w w':=by
 have hu32:=Try.underlying32
 have HR0_9:=Aside0.mk hr0_9
 have HC0_9:=Aside0.mk hc0_9
 clear hr0_9 hc0_9
 have HR0_10:=Aside0.mk hr0_10
 have HC0_10:=Aside0.mk hc0_10
 clear hr0_10 hc0_10
 have HB:=Aside0.mk (Below.refl w.heap.size w)
 have H : ((bins_count.f a0_7).bind fun t134=>(if t134 = true then ((bins_count.f a0_8).bind fun t135=>(if t135 = true then (some ((l0_9.length : Int) == (wrap64 (a0_7 * a0_8)))) else (some false))) else (some false))) = some r:=h
 clear h
 replace H:=Option.bind_eq_some_iff.mp H
 obtain ⟨t134,A20,H⟩:=H
 replace H : (if t134 = true then ((bins_count.f a0_8).bind fun t135=>(if t135 = true then (some ((l0_9.length : Int) == (wrap64 (a0_7 * a0_8)))) else (some false))) else (some false)) = some r:=H
 have A2:=Aside0.mk A20
 clear A20
 by_cases c3 : t134 = true
 ·subst c3
  have H1 : ((bins_count.f a0_8).bind fun t135=>(if t135 = true then (some ((l0_9.length : Int) == (wrap64 (a0_7 * a0_8)))) else (some false))) = some r:=by rw [if_pos rfl] at H;exact H
  clear H
  have H:=H1
  clear H1
  replace H:=Option.bind_eq_some_iff.mp H
  obtain ⟨t135,A40,H⟩:=H
  replace H : (if t135 = true then (some ((l0_9.length : Int) == (wrap64 (a0_7 * a0_8)))) else (some false)) = some r:=H
  have A4:=Aside0.mk A40
  clear A40
  by_cases c5 : t135 = true
  ·subst c5
   have H1 : (some ((l0_9.length : Int) == (wrap64 (a0_7 * a0_8)))) = some r:=by rw [if_pos rfl] at H;exact H
   clear H
   have H:=H1
   clear H1
   obtain rfl:=Option.some.inj H
   go_enter Try.func67,Try.ntmps67
   go_wp2_with (first|((with_reducible refine gate_dst (N:=1) rfl ?_);refine box_event ?hg (N:=1) ?hd (cs:=#[.int .i64 a0_0,.int .i64 a0_1,.int .i64 a0_2,.int .i64 a0_3,.int .i64 a0_4,.int .i64 a0_5,.int .i64 a0_6,.int .i64 a0_7,.int .i64 a0_8,.slice A0_9 l0_9.length c0_9,.slice A0_10 l0_10.length c0_10]) (t:=32) ?hr ?_;(case hd=>rfl);(case hg=>rfl);(case hr=>first|(go_simp;done)|(go_simp;rfl));intro gb133 hg w6 hbox hb;have n0_:=Aside0.mk (below_step (by repeat(first|(with_reducible first|exact HB.out|apply below_alloc|apply pw_below_drewN|apply below_drew1)|exact HB.out)) hb);have n1_:=Aside0.mk (hbox);have n2_:=Aside0.mk ((by rw [hg];exact (below_size (by repeat(first|(with_reducible first|exact HB.out|apply below_alloc|apply pw_below_drewN|apply below_drew1)|exact HB.out))) : w.heap.size ≤ gb133));have n3_:=Aside0.mk ((by rw [hg];exact (below_size (by repeat(first|(with_reducible first|exact HB.out|apply below_alloc|apply pw_below_drewN|apply below_drew1)|exact HB.out))) : w.heap.size ≤ gb133));clear HB;have HB:=n0_;have BK133:=n1_;have GW133:=n2_;have GE133:=n3_;clear n0_ n1_ n2_ n3_;clear hb hbox hg;have hcz7_0 : w6.cell? ⟨gb133,0,none⟩ = some (.int .i64 a0_0):=(blk_cell BK133.out 0).trans rfl;have hcz7_1 : w6.cell? ⟨gb133,1,none⟩ = some (.int .i64 a0_1):=(blk_cell BK133.out 1).trans rfl;have hcz7_2 : w6.cell? ⟨gb133,2,none⟩ = some (.int .i64 a0_2):=(blk_cell BK133.out 2).trans rfl;have hcz7_3 : w6.cell? ⟨gb133,3,none⟩ = some (.int .i64 a0_3):=(blk_cell BK133.out 3).trans rfl;have hcz7_4 : w6.cell? ⟨gb133,4,none⟩ = some (.int .i64 a0_4):=(blk_cell BK133.out 4).trans rfl;have hcz7_5 : w6.cell? ⟨gb133,5,none⟩ = some (.int .i64 a0_5):=(blk_cell BK133.out 5).trans rfl;have hcz7_6 : w6.cell? ⟨gb133,6,none⟩ = some (.int .i64 a0_6):=(blk_cell BK133.out 6).trans rfl;have hcz7_7 : w6.cell? ⟨gb133,7,none⟩ = some (.int .i64 a0_7):=(blk_cell BK133.out 7).trans rfl;have hcz7_8 : w6.cell? ⟨gb133,8,none⟩ = some (.int .i64 a0_8):=(blk_cell BK133.out 8).trans rfl;have hcz7_9 : w6.cell? ⟨gb133,9,none⟩ = some (.slice A0_9 l0_9.length c0_9):=(blk_cell BK133.out 9).trans rfl;have hcz7_10 : w6.cell? ⟨gb133,10,none⟩ = some (.slice A0_10 l0_10.length c0_10):=(blk_cell BK133.out 10).trans rfl;have hfz7_0:=blk_frozen BK133.out 0;have hfz7_1:=blk_frozen BK133.out 1;have hfz7_2:=blk_frozen BK133.out 2;have hfz7_3:=blk_frozen BK133.out 3;have hfz7_4:=blk_frozen BK133.out 4;have hfz7_5:=blk_frozen BK133.out 5;have hfz7_6:=blk_frozen BK133.out 6;have hfz7_7:=blk_frozen BK133.out 7;have hfz7_8:=blk_frozen BK133.out 8;have hfz7_9:=blk_frozen BK133.out 9;have hfz7_10:=blk_frozen BK133.out 10)|((with_reducible refine gate_callee (f:=75) rfl ?_);refine goesL_ (some 5) rfl rfl Try.func75 (by kernel_rfl) rfl #[.int .i64 a0_7] rfl (by (try simp only [List.map_toArray,List.map_cons,List.map_nil]);first|done|rfl|(simp only [List.length_drop,List.length_take];rfl)) ?_;(with_reducible refine (bins_count.calls a0_7 true _ A2.out).mono ?_);rintro e w' ⟨rfl,⟨nd,rfl⟩⟩;refine ⟨_,rfl,?_⟩)|(go_at_call 75;(with_reducible refine (bins_count.calls a0_8 true _ A4.out).mono ?_);rintro e w' ⟨rfl,⟨nd,rfl⟩⟩))
   go_ret
   exact ⟨by first|rfl|(simp [errW_none,errW_some] <;> rfl)|(simp [*,errW_none,errW_some] <;> rfl),by repeat(first|(with_reducible first|exact HB.out|apply below_alloc|apply pw_below_drewN|apply below_drew1|refine below_set ?_ GE133.out)|exact HB.out)⟩
  ·replace c5:=Bool.eq_false_iff.mpr c5
   subst c5
   have H1 : (some false) = some r:=by rw [if_neg (show ¬ (false = true) by decide)] at H;exact H
   clear H
   have H:=H1
   clear H1
   obtain rfl:=Option.some.inj H
   go_enter Try.func67,Try.ntmps67
   go_wp2_with (first|((with_reducible refine gate_dst (N:=1) rfl ?_);refine box_event ?hg (N:=1) ?hd (cs:=#[.int .i64 a0_0,.int .i64 a0_1,.int .i64 a0_2,.int .i64 a0_3,.int .i64 a0_4,.int .i64 a0_5,.int .i64 a0_6,.int .i64 a0_7,.int .i64 a0_8,.slice A0_9 l0_9.length c0_9,.slice A0_10 l0_10.length c0_10]) (t:=32) ?hr ?_;(case hd=>rfl);(case hg=>rfl);(case hr=>first|(go_simp;done)|(go_simp;rfl));intro gb133 hg w8 hbox hb;have n0_:=Aside0.mk (below_step (by repeat(first|(with_reducible first|exact HB.out|apply below_alloc|apply pw_below_drewN|apply below_drew1)|exact HB.out)) hb);have n1_:=Aside0.mk (hbox);have n2_:=Aside0.mk ((by rw [hg];exact (below_size (by repeat(first|(with_reducible first|exact HB.out|apply below_alloc|apply pw_below_drewN|apply below_drew1)|exact HB.out))) : w.heap.size ≤ gb133));have n3_:=Aside0.mk ((by rw [hg];exact (below_size (by repeat(first|(with_reducible first|exact HB.out|apply below_alloc|apply pw_below_drewN|apply below_drew1)|exact HB.out))) : w.heap.size ≤ gb133));clear HB;have HB:=n0_;have BK133:=n1_;have GW133:=n2_;have GE133:=n3_;clear n0_ n1_ n2_ n3_;clear hb hbox hg;have hcz9_0 : w8.cell? ⟨gb133,0,none⟩ = some (.int .i64 a0_0):=(blk_cell BK133.out 0).trans rfl;have hcz9_1 : w8.cell? ⟨gb133,1,none⟩ = some (.int .i64 a0_1):=(blk_cell BK133.out 1).trans rfl;have hcz9_2 : w8.cell? ⟨gb133,2,none⟩ = some (.int .i64 a0_2):=(blk_cell BK133.out 2).trans rfl;have hcz9_3 : w8.cell? ⟨gb133,3,none⟩ = some (.int .i64 a0_3):=(blk_cell BK133.out 3).trans rfl;have hcz9_4 : w8.cell? ⟨gb133,4,none⟩ = some (.int .i64 a0_4):=(blk_cell BK133.out 4).trans rfl;have hcz9_5 : w8.cell? ⟨gb133,5,none⟩ = some (.int .i64 a0_5):=(blk_cell BK133.out 5).trans rfl;have hcz9_6 : w8.cell? ⟨gb133,6,none⟩ = some (.int .i64 a0_6):=(blk_cell BK133.out 6).trans rfl;have hcz9_7 : w8.cell? ⟨gb133,7,none⟩ = some (.int .i64 a0_7):=(blk_cell BK133.out 7).trans rfl;have hcz9_8 : w8.cell? ⟨gb133,8,none⟩ = some (.int .i64 a0_8):=(blk_cell BK133.out 8).trans rfl;have hcz9_9 : w8.cell? ⟨gb133,9,none⟩ = some (.slice A0_9 l0_9.length c0_9):=(blk_cell BK133.out 9).trans rfl;have hcz9_10 : w8.cell? ⟨gb133,10,none⟩ = some (.slice A0_10 l0_10.length c0_10):=(blk_cell BK133.out 10).trans rfl;have hfz9_0:=blk_frozen BK133.out 0;have hfz9_1:=blk_frozen BK133.out 1;have hfz9_2:=blk_frozen BK133.out 2;have hfz9_3:=blk_frozen BK133.out 3;have hfz9_4:=blk_frozen BK133.out 4;have hfz9_5:=blk_frozen BK133.out 5;have hfz9_6:=blk_frozen BK133.out 6;have hfz9_7:=blk_frozen BK133.out 7;have hfz9_8:=blk_frozen BK133.out 8;have hfz9_9:=blk_frozen BK133.out 9;have hfz9_10:=blk_frozen BK133.out 10)|((with_reducible refine gate_callee (f:=75) rfl ?_);refine goesL_ (some 5) rfl rfl Try.func75 (by kernel_rfl) rfl #[.int .i64 a0_7] rfl (by (try simp only [List.map_toArray,List.map_cons,List.map_nil]);first|done|rfl|(simp only [List.length_drop,List.length_take];rfl)) ?_;(with_reducible refine (bins_count.calls a0_7 true _ A2.out).mono ?_);rintro e w' ⟨rfl,⟨nd,rfl⟩⟩;refine ⟨_,rfl,?_⟩)|(go_at_call 75;(with_reducible refine (bins_count.calls a0_8 false _ A4.out).mono ?_);rintro e w' ⟨rfl,⟨nd,rfl⟩⟩))
   go_ret
   exact ⟨by first|rfl|(simp [errW_none,errW_some] <;> rfl)|(simp [*,errW_none,errW_some] <;> rfl),by repeat(first|(with_reducible first|exact HB.out|apply below_alloc|apply pw_below_drewN|apply below_drew1|refine below_set ?_ GE133.out)|exact HB.out)⟩
 ·replace c3:=Bool.eq_false_iff.mpr c3
  subst c3
  have H1 : (some false) = some r:=by rw [if_neg (show ¬ (false = true) by decide)] at H;exact H
  clear H
  have H:=H1
  clear H1
  obtain rfl:=Option.some.inj H
  go_enter Try.func67,Try.ntmps67
  go_wp2_with (first|((with_reducible refine gate_dst (N:=1) rfl ?_);refine box_event ?hg (N:=1) ?hd (cs:=#[.int .i64 a0_0,.int .i64 a0_1,.int .i64 a0_2,.int .i64 a0_3,.int .i64 a0_4,.int .i64 a0_5,.int .i64 a0_6,.int .i64 a0_7,.int .i64 a0_8,.slice A0_9 l0_9.length c0_9,.slice A0_10 l0_10.length c0_10]) (t:=32) ?hr ?_;(case hd=>rfl);(case hg=>rfl);(case hr=>first|(go_simp;done)|(go_simp;rfl));intro gb133 hg w10 hbox hb;have n0_:=Aside0.mk (below_step (by repeat(first|(with_reducible first|exact HB.out|apply below_alloc|apply pw_below_drewN|apply below_drew1)|exact HB.out)) hb);have n1_:=Aside0.mk (hbox);have n2_:=Aside0.mk ((by rw [hg];exact (below_size (by repeat(first|(with_reducible first|exact HB.out|apply below_alloc|apply pw_below_drewN|apply below_drew1)|exact HB.out))) : w.heap.size ≤ gb133));have n3_:=Aside0.mk ((by rw [hg];exact (below_size (by repeat(first|(with_reducible first|exact HB.out|apply below_alloc|apply pw_below_drewN|apply below_drew1)|exact HB.out))) : w.heap.size ≤ gb133));clear HB;have HB:=n0_;have BK133:=n1_;have GW133:=n2_;have GE133:=n3_;clear n0_ n1_ n2_ n3_;clear hb hbox hg;have hcz11_0 : w10.cell? ⟨gb133,0,none⟩ = some (.int .i64 a0_0):=(blk_cell BK133.out 0).trans rfl;have hcz11_1 : w10.cell? ⟨gb133,1,none⟩ = some (.int .i64 a0_1):=(blk_cell BK133.out 1).trans rfl;have hcz11_2 : w10.cell? ⟨gb133,2,none⟩ = some (.int .i64 a0_2):=(blk_cell BK133.out 2).trans rfl;have hcz11_3 : w10.cell? ⟨gb133,3,none⟩ = some (.int .i64 a0_3):=(blk_cell BK133.out 3).trans rfl;have hcz11_4 : w10.cell? ⟨gb133,4,none⟩ = some (.int .i64 a0_4):=(blk_cell BK133.out 4).trans rfl;have hcz11_5 : w10.cell? ⟨gb133,5,none⟩ = some (.int .i64 a0_5):=(blk_cell BK133.out 5).trans rfl;have hcz11_6 : w10.cell? ⟨gb133,6,none⟩ = some (.int .i64 a0_6):=(blk_cell BK133.out 6).trans rfl;have hcz11_7 : w10.cell? ⟨gb133,7,none⟩ = some (.int .i64 a0_7):=(blk_cell BK133.out 7).trans rfl;have hcz11_8 : w10.cell? ⟨gb133,8,none⟩ = some (.int .i64 a0_8):=(blk_cell BK133.out 8).trans rfl;have hcz11_9 : w10.cell? ⟨gb133,9,none⟩ = some (.slice A0_9 l0_9.length c0_9):=(blk_cell BK133.out 9).trans rfl;have hcz11_10 : w10.cell? ⟨gb133,10,none⟩ = some (.slice A0_10 l0_10.length c0_10):=(blk_cell BK133.out 10).trans rfl;have hfz11_0:=blk_frozen BK133.out 0;have hfz11_1:=blk_frozen BK133.out 1;have hfz11_2:=blk_frozen BK133.out 2;have hfz11_3:=blk_frozen BK133.out 3;have hfz11_4:=blk_frozen BK133.out 4;have hfz11_5:=blk_frozen BK133.out 5;have hfz11_6:=blk_frozen BK133.out 6;have hfz11_7:=blk_frozen BK133.out 7;have hfz11_8:=blk_frozen BK133.out 8;have hfz11_9:=blk_frozen BK133.out 9;have hfz11_10:=blk_frozen BK133.out 10)|((with_reducible refine gate_callee (f:=75) rfl ?_);refine goesL_ (some 5) rfl rfl Try.func75 (by kernel_rfl) rfl #[.int .i64 a0_7] rfl (by (try simp only [List.map_toArray,List.map_cons,List.map_nil]);first|done|rfl|(simp only [List.length_drop,List.length_take];rfl)) ?_;(with_reducible refine (bins_count.calls a0_7 false _ A2.out).mono ?_);rintro e w' ⟨rfl,⟨nd,rfl⟩⟩;refine ⟨_,rfl,?_⟩))
  go_ret
  exact ⟨by first|rfl|(simp [errW_none,errW_some] <;> rfl)|(simp [*,errW_none,errW_some] <;> rfl),by repeat(first|(with_reducible first|exact HB.out|apply below_alloc|apply pw_below_drewN|apply below_drew1|refine below_set ?_ GE133.out)|exact HB.out)⟩



/-! ### rank_Missing: function 93 -/
def rank_Missing.f (a0 : Nat) : Option (Bool):=some (!(Flt.eq a0 a0))
set_option maxHeartbeats 8000000 in
set_option maxRecDepth 100000 in
theorem rank_Missing.calls (a0 : Nat) (r : Bool) (w : World) (h : rank_Missing.f a0 = some r) :
  Calls Try.prog 93 #[.float .f64 a0] w fun e w'=>e = .returned (.bool r) ∧ Drawn0 w w':=by
 have H : (some (!(Flt.eq a0 a0))) = some r:=h
 clear h
 obtain rfl:=Option.some.inj H
 go_enter Try.func93,Try.ntmps93
 go_wp2
 go_ret
 exact ⟨by first|rfl|(simp;done)|(simp [*];done),by repeat(first|exact Drawn0.refl _|apply Drawn0.step)⟩

/-! ### rank_Clean: function 79 -/
def rank_Clean.f (a0 : Nat) : Option (Nat):=(rank_Missing.f a0).bind fun t136=>(if t136 = true then (some (Flt.fbits 9221120237041090561)) else (if (Flt.eq a0 0) = true then (some 0) else (some a0)))
set_option maxHeartbeats 8000000 in
set_option maxRecDepth 100000 in
theorem rank_Clean.calls (a0 : Nat) (r : Nat) (w : World) (h : rank_Clean.f a0 = some r) :
  Calls Try.prog 79 #[.float .f64 a0] w fun e w'=>e = .returned (.float .f64 r) ∧ Drawn0 w w':=by
 have H : ((rank_Missing.f a0).bind fun t136=>(if t136 = true then (some (Flt.fbits 9221120237041090561)) else (if (Flt.eq a0 0) = true then (some 0) else (some a0)))) = some r:=h
 clear h
 replace H:=Option.bind_eq_some_iff.mp H
 obtain ⟨t136,A20,H⟩:=H
 replace H : (if t136 = true then (some (Flt.fbits 9221120237041090561)) else (if (Flt.eq a0 0) = true then (some 0) else (some a0))) = some r:=H
 have A2:=Aside0.mk A20
 clear A20
 by_cases c3 : t136 = true
 ·subst c3
  have H1 : (some (Flt.fbits 9221120237041090561)) = some r:=by rw [if_pos rfl] at H;exact H
  clear H
  have H:=H1
  clear H1
  obtain rfl:=Option.some.inj H
  go_enter Try.func79,Try.ntmps79
  go_wp2_with (first|((with_reducible refine gate_callee (f:=93) rfl ?_);refine goesL_ (some 5) rfl rfl Try.func93 (by kernel_rfl) rfl #[.float .f64 a0] rfl (by (try simp only [List.map_toArray,List.map_cons,List.map_nil]);first|done|rfl|(simp only [List.length_drop,List.length_take];rfl)) ?_;(with_reducible refine (rank_Missing.calls a0 true _ A2.out).mono ?_);rintro e w' ⟨rfl,⟨nd,rfl⟩⟩;refine ⟨_,rfl,?_⟩))
  go_ret
  exact ⟨by first|rfl|(simp;done)|(simp [*];done),by repeat(first|exact Drawn0.refl _|apply Drawn0.step)⟩
 ·replace c3:=Bool.eq_false_iff.mpr c3
  subst c3
  have H1 : (if (Flt.eq a0 0) = true then (some 0) else (some a0)) = some r:=by rw [if_neg (show ¬ (false = true) by decide)] at H;exact H
  clear H
  have H:=H1
  clear H1
  by_cases c4 : (Flt.eq a0 0) = true
  ·rw [if_pos c4] at H
   have c4b0 : (Flt.eq a0 0) = true:=c4
   clear c4
   obtain rfl:=Option.some.inj H
   go_enter Try.func79,Try.ntmps79
   go_wp2_with (first|((with_reducible refine gate_callee (f:=93) rfl ?_);refine goesL_ (some 5) rfl rfl Try.func93 (by kernel_rfl) rfl #[.float .f64 a0] rfl (by (try simp only [List.map_toArray,List.map_cons,List.map_nil]);first|done|rfl|(simp only [List.length_drop,List.length_take];rfl)) ?_;(with_reducible refine (rank_Missing.calls a0 false _ A2.out).mono ?_);rintro e w' ⟨rfl,⟨nd,rfl⟩⟩;refine ⟨_,rfl,?_⟩))
   go_ret
   exact ⟨by first|rfl|(simp;done)|(simp [*];done),by repeat(first|exact Drawn0.refl _|apply Drawn0.step)⟩
  ·rw [if_neg c4] at H
   have c4b0 : (Flt.eq a0 0) = false:=by simpa using c4
   clear c4
   obtain rfl:=Option.some.inj H
   go_enter Try.func79,Try.ntmps79
   go_wp2_with (first|((with_reducible refine gate_callee (f:=93) rfl ?_);refine goesL_ (some 5) rfl rfl Try.func93 (by kernel_rfl) rfl #[.float .f64 a0] rfl (by (try simp only [List.map_toArray,List.map_cons,List.map_nil]);first|done|rfl|(simp only [List.length_drop,List.length_take];rfl)) ?_;(with_reducible refine (rank_Missing.calls a0 false _ A2.out).mono ?_);rintro e w' ⟨rfl,⟨nd,rfl⟩⟩;refine ⟨_,rfl,?_⟩))
   go_ret
   exact ⟨by first|rfl|(simp;done)|(simp [*];done),by repeat(first|exact Drawn0.refl _|apply Drawn0.step)⟩

/-! ### cmp_isNaN_uint64: function 105 -/
def cmp_isNaN_uint64.f (a0 : Int) : Option (Bool):=some (a0 != a0)
set_option maxHeartbeats 8000000 in
set_option maxRecDepth 100000 in
theorem cmp_isNaN_uint64.calls (a0 : Int) (r : Bool) (w : World) (h : cmp_isNaN_uint64.f a0 = some r) :
  Calls Try.prog 105 #[.int .u64 a0] w fun e w'=>e = .returned (.bool r) ∧ Drawn0 w w':=by
 have H : (some (a0 != a0)) = some r:=h
 clear h
 obtain rfl:=Option.some.inj H
 go_enter Try.func105,Try.ntmps105
 go_wp2
 go_ret
 exact ⟨by first|rfl|(simp;done)|(simp [*];done),by repeat(first|exact Drawn0.refl _|apply Drawn0.step)⟩

/-! ### cmp_Compare_uint64: function 100 -/
def cmp_Compare_uint64.f (a0 : Int) (a1 : Int) : Option (Int):=(cmp_isNaN_uint64.f a0).bind fun t137=>((cmp_isNaN_uint64.f a1).bind fun t138=>(if t137 = true then (if t138 = true then (some 0) else (some (-1))) else (if t138 = true then (some 1) else (if a0 < a1 then (some (-1)) else (if a0 > a1 then (some 1) else (some 0))))))
set_option maxHeartbeats 8000000 in
set_option maxRecDepth 100000 in
theorem cmp_Compare_uint64.calls (a0 : Int) (a1 : Int) (r : Int) (w : World) (h : cmp_Compare_uint64.f a0 a1 = some r) :
  Calls Try.prog 100 #[.int .u64 a0,.int .u64 a1] w fun e w'=>e = .returned (.int .i64 r) ∧ Drawn0 w w':=by
 have H : ((cmp_isNaN_uint64.f a0).bind fun t137=>((cmp_isNaN_uint64.f a1).bind fun t138=>(if t137 = true then (if t138 = true then (some 0) else (some (-1))) else (if t138 = true then (some 1) else (if a0 < a1 then (some (-1)) else (if a0 > a1 then (some 1) else (some 0))))))) = some r:=h
 clear h
 replace H:=Option.bind_eq_some_iff.mp H
 obtain ⟨t137,A30,H⟩:=H
 replace H : ((cmp_isNaN_uint64.f a1).bind fun t138=>(if t137 = true then (if t138 = true then (some 0) else (some (-1))) else (if t138 = true then (some 1) else (if a0 < a1 then (some (-1)) else (if a0 > a1 then (some 1) else (some 0)))))) = some r:=H
 have A3:=Aside0.mk A30
 clear A30
 replace H:=Option.bind_eq_some_iff.mp H
 obtain ⟨t138,A40,H⟩:=H
 replace H : (if t137 = true then (if t138 = true then (some 0) else (some (-1))) else (if t138 = true then (some 1) else (if a0 < a1 then (some (-1)) else (if a0 > a1 then (some 1) else (some 0))))) = some r:=H
 have A4:=Aside0.mk A40
 clear A40
 by_cases c5 : t137 = true
 ·subst c5
  have H1 : (if t138 = true then (some 0) else (some (-1))) = some r:=by rw [if_pos rfl] at H;exact H
  clear H
  have H:=H1
  clear H1
  by_cases c6 : t138 = true
  ·subst c6
   have H1 : (some 0) = some r:=by rw [if_pos rfl] at H;exact H
   clear H
   have H:=H1
   clear H1
   obtain rfl:=Option.some.inj H
   go_enter Try.func100,Try.ntmps100
   go_wp2_with (first|((with_reducible refine gate_callee (f:=105) rfl ?_);refine goesL_ (some 8) rfl rfl Try.func105 (by kernel_rfl) rfl #[.int .u64 a0] rfl (by (try simp only [List.map_toArray,List.map_cons,List.map_nil]);first|done|rfl|(simp only [List.length_drop,List.length_take];rfl)) ?_;(with_reducible refine (cmp_isNaN_uint64.calls a0 true _ A3.out).mono ?_);rintro e w' ⟨rfl,⟨nd,rfl⟩⟩;refine ⟨_,rfl,?_⟩)|((with_reducible refine gate_callee (f:=105) rfl ?_);refine goesL_ (some 10) rfl rfl Try.func105 (by kernel_rfl) rfl #[.int .u64 a1] rfl (by (try simp only [List.map_toArray,List.map_cons,List.map_nil]);first|done|rfl|(simp only [List.length_drop,List.length_take];rfl)) ?_;(with_reducible refine (cmp_isNaN_uint64.calls a1 true _ A4.out).mono ?_);rintro e w' ⟨rfl,⟨nd,rfl⟩⟩;refine ⟨_,rfl,?_⟩))
   go_ret
   exact ⟨by first|rfl|(simp;done)|(simp [*];done),by repeat(first|exact Drawn0.refl _|apply Drawn0.step)⟩
  ·replace c6:=Bool.eq_false_iff.mpr c6
   subst c6
   have H1 : (some (-1)) = some r:=by rw [if_neg (show ¬ (false = true) by decide)] at H;exact H
   clear H
   have H:=H1
   clear H1
   obtain rfl:=Option.some.inj H
   go_enter Try.func100,Try.ntmps100
   go_wp2_with (first|((with_reducible refine gate_callee (f:=105) rfl ?_);refine goesL_ (some 8) rfl rfl Try.func105 (by kernel_rfl) rfl #[.int .u64 a0] rfl (by (try simp only [List.map_toArray,List.map_cons,List.map_nil]);first|done|rfl|(simp only [List.length_drop,List.length_take];rfl)) ?_;(with_reducible refine (cmp_isNaN_uint64.calls a0 true _ A3.out).mono ?_);rintro e w' ⟨rfl,⟨nd,rfl⟩⟩;refine ⟨_,rfl,?_⟩)|((with_reducible refine gate_callee (f:=105) rfl ?_);refine goesL_ (some 10) rfl rfl Try.func105 (by kernel_rfl) rfl #[.int .u64 a1] rfl (by (try simp only [List.map_toArray,List.map_cons,List.map_nil]);first|done|rfl|(simp only [List.length_drop,List.length_take];rfl)) ?_;(with_reducible refine (cmp_isNaN_uint64.calls a1 false _ A4.out).mono ?_);rintro e w' ⟨rfl,⟨nd,rfl⟩⟩;refine ⟨_,rfl,?_⟩))
   go_ret
   exact ⟨by first|rfl|(simp;done)|(simp [*];done),by repeat(first|exact Drawn0.refl _|apply Drawn0.step)⟩
 ·replace c5:=Bool.eq_false_iff.mpr c5
  subst c5
  have H1 : (if t138 = true then (some 1) else (if a0 < a1 then (some (-1)) else (if a0 > a1 then (some 1) else (some 0)))) = some r:=by rw [if_neg (show ¬ (false = true) by decide)] at H;exact H
  clear H
  have H:=H1
  clear H1
  by_cases c7 : t138 = true
  ·subst c7
   have H1 : (some 1) = some r:=by rw [if_pos rfl] at H;exact H
   clear H
   have H:=H1
   clear H1
   obtain rfl:=Option.some.inj H
   go_enter Try.func100,Try.ntmps100
   go_wp2_with (first|((with_reducible refine gate_callee (f:=105) rfl ?_);refine goesL_ (some 8) rfl rfl Try.func105 (by kernel_rfl) rfl #[.int .u64 a0] rfl (by (try simp only [List.map_toArray,List.map_cons,List.map_nil]);first|done|rfl|(simp only [List.length_drop,List.length_take];rfl)) ?_;(with_reducible refine (cmp_isNaN_uint64.calls a0 false _ A3.out).mono ?_);rintro e w' ⟨rfl,⟨nd,rfl⟩⟩;refine ⟨_,rfl,?_⟩)|((with_reducible refine gate_callee (f:=105) rfl ?_);refine goesL_ (some 10) rfl rfl Try.func105 (by kernel_rfl) rfl #[.int .u64 a1] rfl (by (try simp only [List.map_toArray,List.map_cons,List.map_nil]);first|done|rfl|(simp only [List.length_drop,List.length_take];rfl)) ?_;(with_reducible refine (cmp_isNaN_uint64.calls a1 true _ A4.out).mono ?_);rintro e w' ⟨rfl,⟨nd,rfl⟩⟩;refine ⟨_,rfl,?_⟩))
   go_ret
   exact ⟨by first|rfl|(simp;done)|(simp [*];done),by repeat(first|exact Drawn0.refl _|apply Drawn0.step)⟩
  ·replace c7:=Bool.eq_false_iff.mpr c7
   subst c7
   have H1 : (if a0 < a1 then (some (-1)) else (if a0 > a1 then (some 1) else (some 0))) = some r:=by rw [if_neg (show ¬ (false = true) by decide)] at H;exact H
   clear H
   have H:=H1
   clear H1
   by_cases c8 : a0 < a1
   ·rw [if_pos c8] at H
    have c8b0 : decide (a0 < a1) = true:=decide_eq_true c8
    clear c8
    obtain rfl:=Option.some.inj H
    go_enter Try.func100,Try.ntmps100
    go_wp2_with (first|((with_reducible refine gate_callee (f:=105) rfl ?_);refine goesL_ (some 8) rfl rfl Try.func105 (by kernel_rfl) rfl #[.int .u64 a0] rfl (by (try simp only [List.map_toArray,List.map_cons,List.map_nil]);first|done|rfl|(simp only [List.length_drop,List.length_take];rfl)) ?_;(with_reducible refine (cmp_isNaN_uint64.calls a0 false _ A3.out).mono ?_);rintro e w' ⟨rfl,⟨nd,rfl⟩⟩;refine ⟨_,rfl,?_⟩)|((with_reducible refine gate_callee (f:=105) rfl ?_);refine goesL_ (some 10) rfl rfl Try.func105 (by kernel_rfl) rfl #[.int .u64 a1] rfl (by (try simp only [List.map_toArray,List.map_cons,List.map_nil]);first|done|rfl|(simp only [List.length_drop,List.length_take];rfl)) ?_;(with_reducible refine (cmp_isNaN_uint64.calls a1 false _ A4.out).mono ?_);rintro e w' ⟨rfl,⟨nd,rfl⟩⟩;refine ⟨_,rfl,?_⟩))
    go_ret
    exact ⟨by first|rfl|(simp;done)|(simp [*];done),by repeat(first|exact Drawn0.refl _|apply Drawn0.step)⟩
   ·rw [if_neg c8] at H
    have c8b0 : decide (a0 < a1) = false:=decide_eq_false c8
    clear c8
    by_cases c9 : a0 > a1
    ·rw [if_pos c9] at H
     have c9b0 : decide (a1 < a0) = true:=decide_eq_true c9
     clear c9
     obtain rfl:=Option.some.inj H
     go_enter Try.func100,Try.ntmps100
     go_wp2_with (first|((with_reducible refine gate_callee (f:=105) rfl ?_);refine goesL_ (some 8) rfl rfl Try.func105 (by kernel_rfl) rfl #[.int .u64 a0] rfl (by (try simp only [List.map_toArray,List.map_cons,List.map_nil]);first|done|rfl|(simp only [List.length_drop,List.length_take];rfl)) ?_;(with_reducible refine (cmp_isNaN_uint64.calls a0 false _ A3.out).mono ?_);rintro e w' ⟨rfl,⟨nd,rfl⟩⟩;refine ⟨_,rfl,?_⟩)|((with_reducible refine gate_callee (f:=105) rfl ?_);refine goesL_ (some 10) rfl rfl Try.func105 (by kernel_rfl) rfl #[.int .u64 a1] rfl (by (try simp only [List.map_toArray,List.map_cons,List.map_nil]);first|done|rfl|(simp only [List.length_drop,List.length_take];rfl)) ?_;(with_reducible refine (cmp_isNaN_uint64.calls a1 false _ A4.out).mono ?_);rintro e w' ⟨rfl,⟨nd,rfl⟩⟩;refine ⟨_,rfl,?_⟩))
     go_ret
     exact ⟨by first|rfl|(simp;done)|(simp [*];done),by repeat(first|exact Drawn0.refl _|apply Drawn0.step)⟩
    ·rw [if_neg c9] at H
     have c9b0 : decide (a1 < a0) = false:=decide_eq_false c9
     clear c9
     obtain rfl:=Option.some.inj H
     go_enter Try.func100,Try.ntmps100
     go_wp2_with (first|((with_reducible refine gate_callee (f:=105) rfl ?_);refine goesL_ (some 8) rfl rfl Try.func105 (by kernel_rfl) rfl #[.int .u64 a0] rfl (by (try simp only [List.map_toArray,List.map_cons,List.map_nil]);first|done|rfl|(simp only [List.length_drop,List.length_take];rfl)) ?_;(with_reducible refine (cmp_isNaN_uint64.calls a0 false _ A3.out).mono ?_);rintro e w' ⟨rfl,⟨nd,rfl⟩⟩;refine ⟨_,rfl,?_⟩)|((with_reducible refine gate_callee (f:=105) rfl ?_);refine goesL_ (some 10) rfl rfl Try.func105 (by kernel_rfl) rfl #[.int .u64 a1] rfl (by (try simp only [List.map_toArray,List.map_cons,List.map_nil]);first|done|rfl|(simp only [List.length_drop,List.length_take];rfl)) ?_;(with_reducible refine (cmp_isNaN_uint64.calls a1 false _ A4.out).mono ?_);rintro e w' ⟨rfl,⟨nd,rfl⟩⟩;refine ⟨_,rfl,?_⟩))
     go_ret
     exact ⟨by first|rfl|(simp;done)|(simp [*];done),by repeat(first|exact Drawn0.refl _|apply Drawn0.step)⟩


/-! ### rank_Key: function 101 -/
def rank_Key.f (a0 : Nat) : Option (Int):=(rank_Missing.f a0).bind fun t139=>(if t139 = true then (some 0) else ((rank_Clean.f a0).bind fun t140=>(if (Go.bits .and .u64 (Flt.ubits t140) 9223372036854775808) = 0 then (some (Go.bits .or .u64 (Flt.ubits t140) 9223372036854775808)) else (some (Go.bits .xor .u64 18446744073709551615 (Flt.ubits t140))))))
set_option maxHeartbeats 8000000 in
set_option maxRecDepth 100000 in
theorem rank_Key.calls (a0 : Nat) (r : Int) (w : World) (h : rank_Key.f a0 = some r) :
  Calls Try.prog 101 #[.float .f64 a0] w fun e w'=>e = .returned (.int .u64 r) ∧ Drawn0 w w':=by
 have H : ((rank_Missing.f a0).bind fun t139=>(if t139 = true then (some 0) else ((rank_Clean.f a0).bind fun t140=>(if (Go.bits .and .u64 (Flt.ubits t140) 9223372036854775808) = 0 then (some (Go.bits .or .u64 (Flt.ubits t140) 9223372036854775808)) else (some (Go.bits .xor .u64 18446744073709551615 (Flt.ubits t140))))))) = some r:=h
 clear h
 replace H:=Option.bind_eq_some_iff.mp H
 obtain ⟨t139,A20,H⟩:=H
 replace H : (if t139 = true then (some 0) else ((rank_Clean.f a0).bind fun t140=>(if (Go.bits .and .u64 (Flt.ubits t140) 9223372036854775808) = 0 then (some (Go.bits .or .u64 (Flt.ubits t140) 9223372036854775808)) else (some (Go.bits .xor .u64 18446744073709551615 (Flt.ubits t140)))))) = some r:=H
 have A2:=Aside0.mk A20
 clear A20
 by_cases c3 : t139 = true
 ·subst c3
  have H1 : (some 0) = some r:=by rw [if_pos rfl] at H;exact H
  clear H
  have H:=H1
  clear H1
  obtain rfl:=Option.some.inj H
  go_enter Try.func101,Try.ntmps101
  go_wp2_with (first|((with_reducible refine gate_callee (f:=93) rfl ?_);refine goesL_ (some 5) rfl rfl Try.func93 (by kernel_rfl) rfl #[.float .f64 a0] rfl (by (try simp only [List.map_toArray,List.map_cons,List.map_nil]);first|done|rfl|(simp only [List.length_drop,List.length_take];rfl)) ?_;(with_reducible refine (rank_Missing.calls a0 true _ A2.out).mono ?_);rintro e w' ⟨rfl,⟨nd,rfl⟩⟩;refine ⟨_,rfl,?_⟩))
  go_ret
  exact ⟨by first|rfl|(simp;done)|(simp [*];done),by repeat(first|exact Drawn0.refl _|apply Drawn0.step)⟩
 ·replace c3:=Bool.eq_false_iff.mpr c3
  subst c3
  have H1 : ((rank_Clean.f a0).bind fun t140=>(if (Go.bits .and .u64 (Flt.ubits t140) 9223372036854775808) = 0 then (some (Go.bits .or .u64 (Flt.ubits t140) 9223372036854775808)) else (some (Go.bits .xor .u64 18446744073709551615 (Flt.ubits t140))))) = some r:=by rw [if_neg (show ¬ (false = true) by decide)] at H;exact H
  clear H
  have H:=H1
  clear H1
  replace H:=Option.bind_eq_some_iff.mp H
  obtain ⟨t140,A40,H⟩:=H
  replace H : (if (Go.bits .and .u64 (Flt.ubits t140) 9223372036854775808) = 0 then (some (Go.bits .or .u64 (Flt.ubits t140) 9223372036854775808)) else (some (Go.bits .xor .u64 18446744073709551615 (Flt.ubits t140)))) = some r:=H
  have A4:=Aside0.mk A40
  clear A40
  by_cases c5 : (Go.bits .and .u64 (Flt.ubits t140) 9223372036854775808) = 0
  ·rw [if_pos c5] at H
   have c5b0 : ((Go.bits .and .u64 (Flt.ubits t140) 9223372036854775808) == 0) = true:=beq_iff_eq.mpr c5
   have c5b1 : ((Go.bits .and .u64 (Flt.ubits t140) 9223372036854775808) != 0) = false:=bne_eq_false_iff_eq.mpr c5
   clear c5
   obtain rfl:=Option.some.inj H
   go_enter Try.func101,Try.ntmps101
   go_wp2_with (first|((with_reducible refine gate_callee (f:=93) rfl ?_);refine goesL_ (some 5) rfl rfl Try.func93 (by kernel_rfl) rfl #[.float .f64 a0] rfl (by (try simp only [List.map_toArray,List.map_cons,List.map_nil]);first|done|rfl|(simp only [List.length_drop,List.length_take];rfl)) ?_;(with_reducible refine (rank_Missing.calls a0 false _ A2.out).mono ?_);rintro e w' ⟨rfl,⟨nd,rfl⟩⟩;refine ⟨_,rfl,?_⟩)|((with_reducible refine gate_callee (f:=79) rfl ?_);refine goesL_ (some 7) rfl rfl Try.func79 (by kernel_rfl) rfl #[.float .f64 a0] rfl (by (try simp only [List.map_toArray,List.map_cons,List.map_nil]);first|done|rfl|(simp only [List.length_drop,List.length_take];rfl)) ?_;(with_reducible refine (rank_Clean.calls a0 t140 _ A4.out).mono ?_);rintro e w' ⟨rfl,⟨nd,rfl⟩⟩;refine ⟨_,rfl,?_⟩))
   go_ret
   exact ⟨by first|rfl|(simp;done)|(simp [*];done),by repeat(first|exact Drawn0.refl _|apply Drawn0.step)⟩
  ·rw [if_neg c5] at H
   have c5b0 : ((Go.bits .and .u64 (Flt.ubits t140) 9223372036854775808) == 0) = false:=beq_eq_false_iff_ne.mpr c5
   have c5b1 : ((Go.bits .and .u64 (Flt.ubits t140) 9223372036854775808) != 0) = true:=bne_iff_ne.mpr c5
   obtain rfl:=Option.some.inj H
   go_enter Try.func101,Try.ntmps101
   go_wp2_with (first|((with_reducible refine gate_callee (f:=93) rfl ?_);refine goesL_ (some 5) rfl rfl Try.func93 (by kernel_rfl) rfl #[.float .f64 a0] rfl (by (try simp only [List.map_toArray,List.map_cons,List.map_nil]);first|done|rfl|(simp only [List.length_drop,List.length_take];rfl)) ?_;(with_reducible refine (rank_Missing.calls a0 false _ A2.out).mono ?_);rintro e w' ⟨rfl,⟨nd,rfl⟩⟩;refine ⟨_,rfl,?_⟩)|((with_reducible refine gate_callee (f:=79) rfl ?_);refine goesL_ (some 7) rfl rfl Try.func79 (by kernel_rfl) rfl #[.float .f64 a0] rfl (by (try simp only [List.map_toArray,List.map_cons,List.map_nil]);first|done|rfl|(simp only [List.length_drop,List.length_take];rfl)) ?_;(with_reducible refine (rank_Clean.calls a0 t140 _ A4.out).mono ?_);rintro e w' ⟨rfl,⟨nd,rfl⟩⟩;refine ⟨_,rfl,?_⟩))
   go_ret
   exact ⟨by first|rfl|(simp;done)|(simp [*];done),by repeat(first|exact Drawn0.refl _|apply Drawn0.step)⟩

/-! ### rank_Cmp: function 95 -/
def rank_Cmp.f (a0 : Nat) (a1 : Nat) : Option (Int):=(rank_Key.f a0).bind fun t141=>((rank_Key.f a1).bind fun t142=>((cmp_Compare_uint64.f t141 t142).bind fun t143=>(some t143)))
set_option maxHeartbeats 8000000 in
set_option maxRecDepth 100000 in
theorem rank_Cmp.calls (a0 : Nat) (a1 : Nat) (r : Int) (w : World) (h : rank_Cmp.f a0 a1 = some r) :
  Calls Try.prog 95 #[.float .f64 a0,.float .f64 a1] w fun e w'=>e = .returned (.int .i64 r) ∧ Drawn0 w w':=by
 have H : ((rank_Key.f a0).bind fun t141=>((rank_Key.f a1).bind fun t142=>((cmp_Compare_uint64.f t141 t142).bind fun t143=>(some t143)))) = some r:=h
 clear h
 replace H:=Option.bind_eq_some_iff.mp H
 obtain ⟨t141,A30,H⟩:=H
 replace H : ((rank_Key.f a1).bind fun t142=>((cmp_Compare_uint64.f t141 t142).bind fun t143=>(some t143))) = some r:=H
 have A3:=Aside0.mk A30
 clear A30
 replace H:=Option.bind_eq_some_iff.mp H
 obtain ⟨t142,A40,H⟩:=H
 replace H : ((cmp_Compare_uint64.f t141 t142).bind fun t143=>(some t143)) = some r:=H
 have A4:=Aside0.mk A40
 clear A40
 replace H:=Option.bind_eq_some_iff.mp H
 obtain ⟨t143,A50,H⟩:=H
 replace H : (some t143) = some r:=H
 have A5:=Aside0.mk A50
 clear A50
 obtain rfl:=Option.some.inj H
 go_enter Try.func95,Try.ntmps95
 go_wp2_with (first|((with_reducible refine gate_callee (f:=101) rfl ?_);refine goesL_ (some 6) rfl rfl Try.func101 (by kernel_rfl) rfl #[.float .f64 a0] rfl (by (try simp only [List.map_toArray,List.map_cons,List.map_nil]);first|done|rfl|(simp only [List.length_drop,List.length_take];rfl)) ?_;(with_reducible refine (rank_Key.calls a0 t141 _ A3.out).mono ?_);rintro e w' ⟨rfl,⟨nd,rfl⟩⟩;refine ⟨_,rfl,?_⟩)|((with_reducible refine gate_callee (f:=101) rfl ?_);refine goesL_ (some 8) rfl rfl Try.func101 (by kernel_rfl) rfl #[.float .f64 a1] rfl (by (try simp only [List.map_toArray,List.map_cons,List.map_nil]);first|done|rfl|(simp only [List.length_drop,List.length_take];rfl)) ?_;(with_reducible refine (rank_Key.calls a1 t142 _ A4.out).mono ?_);rintro e w' ⟨rfl,⟨nd,rfl⟩⟩;refine ⟨_,rfl,?_⟩)|((with_reducible refine gate_callee (f:=100) rfl ?_);refine goesL_ (some 9) rfl rfl Try.func100 (by kernel_rfl) rfl #[.int .u64 t141,.int .u64 t142] rfl (by (try simp only [List.map_toArray,List.map_cons,List.map_nil]);first|done|rfl|(simp only [List.length_drop,List.length_take];rfl)) ?_;(with_reducible refine (cmp_Compare_uint64.calls t141 t142 t143 _ A5.out).mono ?_);rintro e w' ⟨rfl,⟨nd,rfl⟩⟩;refine ⟨_,rfl,?_⟩))
 go_ret
 exact ⟨by first|rfl|(simp;done)|(simp [*];done),by repeat(first|exact Drawn0.refl _|apply Drawn0.step)⟩




















/-! rank.Cmp as a compare function -/
namespace SortF
def cf (x y : Nat) : Int:=(rank_Cmp.f x y).getD 0
def ky (x : Nat) : Int:=(rank_Key.f x).getD 0
theorem key_some (x : Nat) : rank_Key.f x = some (ky x):=by
 have h : ∃ r,rank_Key.f x = some r:=by
  unfold rank_Key.f rank_Missing.f rank_Clean.f rank_Missing.f
  simp only [Option.bind_some]
  repeat(first|exact ⟨_,rfl⟩|(simp only [Option.bind_some];done)|split|simp only [Option.bind_some])
 obtain ⟨r,h⟩:=h
 unfold ky;rw [h];rfl
theorem cmp_some (x y : Nat) : rank_Cmp.f x y = some (if ky x < ky y then -1 else if ky x > ky y then 1 else 0):=by
 unfold rank_Cmp.f
 rw [key_some,key_some]
 simp only [Option.bind_some]
 unfold cmp_Compare_uint64.f cmp_isNaN_uint64.f
 simp only [Option.bind_some,bne_self_eq_false,Bool.false_eq_true,if_false]
 repeat(first|rfl|split)
theorem cf_eq (x y : Nat) : cf x y = if ky x < ky y then -1 else if ky x > ky y then 1 else 0:=by unfold cf;rw [cmp_some];rfl
theorem lt_eq (x y : Nat) : Go.Proofs.ltOf cf x y = decide (ky x < ky y):=by
 unfold Go.Proofs.ltOf;rw [cf_eq]
 by_cases h : ky x < ky y
 ·simp [h]
 ·by_cases h2 : ky x > ky y <;> simp [h,h2]
theorem swo : Go.Sort.SWO (Go.Proofs.ltOf cf) := {
 irrefl := fun x => by rw [lt_eq];simp
 trans := fun x y z h1 h2 => by rw [lt_eq] at *;simp at *;omega
 ntrans := fun x y z h1 h2 => by rw [lt_eq] at *;simp at *;omega }
theorem enters : ∀ args w,(callFunc 95 args).run Try.prog w = .ok (.enter 95 args) w:=enters_of Try.func95 (by kernel_rfl) rfl
theorem calls (x y : Nat) (W : World) : Calls Try.prog 95 #[.float .f64 x,.float .f64 y] W fun e w'=>e = .returned (.int .i64 (cf x y)) ∧ ∃ q,w' = W.drewN q:=by
 refine (rank_Cmp.calls x y (cf x y) W (by rw [cmp_some,cf_eq])).mono ?_
 rintro e w' ⟨rfl,⟨nd,rfl⟩⟩
 exact ⟨rfl,nd,rfl⟩
end SortF
/-! ### rank_Sort: function 92 -/
def rank_Sort.l0 : Nat → List Nat → List Nat → Int → Int → Option (List Nat)
 | 0,_,_,_,_=>none
 | k + 1,x3,x6,x7,x8=>if x8 < x7 then (if 0 ≤ x8 then (if x8 < (x6.length : Int) then ((rank_Clean.f (rdOf (0 : Nat) x6 x8)).bind fun t145=>(if x3.length < 17592186044416 then (rank_Sort.l0 k (x3 ++ [t145]) x6 x7 (wrap64 (x8 + 1))) else (none))) else (none)) else (none)) else (if x3.length < 4611686018427387904 then some (FSort.sortT SortF.cf x3) else none)
def rank_Sort.f (k : Nat) (l0 : List Nat) : Option (List Nat):=rank_Sort.l0 k ([] : List Nat) l0 (l0.length : Int) 0
theorem rank_Sort.mono_l : ∀ k,(∀ y0 y1 y2 y3,LeO (rank_Sort.l0 k y0 y1 y2 y3) (rank_Sort.l0 (k + 1) y0 y1 y2 y3))
 | 0=>fun _ _ _ _ r h=>by simp [rank_Sort.l0] at h
 | k + 1=>by
  have ih0:=rank_Sort.mono_l k
  ·intro y0 y1 y2 y3
   unfold rank_Sort.l0
   repeat' first
   | (with_reducible exact ih0 _ _ _ _)
   | (with_reducible exact LeO.refl _)
   | (with_reducible exact LeO.none _)
   | (with_reducible refine LeO.ite ?_ ?_)
   | (with_reducible refine LeO.bind ?_ (fun _=>?_))
   | exact ih0 _ _ _ _
   | exact LeO.none _
   | refine LeO.ite ?_ ?_
   | refine LeO.bind ?_ (fun _=>?_)
theorem rank_Sort.mono : ∀ a0 k,LeO (rank_Sort.f k a0) (rank_Sort.f (k + 1) a0):=by
 intro a0 k
 have ih0:=rank_Sort.mono_l k
 unfold rank_Sort.f
 repeat' first
   | (with_reducible exact ih0 _ _ _ _)
   | (with_reducible exact LeO.refl _)
   | (with_reducible exact LeO.none _)
   | (with_reducible refine LeO.ite ?_ ?_)
   | (with_reducible refine LeO.bind ?_ (fun _=>?_))
   | exact ih0 _ _ _ _
   | exact LeO.none _
   | refine LeO.ite ?_ ?_
   | refine LeO.bind ?_ (fun _=>?_)
set_option maxHeartbeats 8000000 in
set_option maxRecDepth 100000 in
theorem rank_Sort.calls (k : Nat) (A0 : Option Addr) (c0 : Nat) (l0 : List Nat) (r : List Nat) (w : World) (hr0 : Kd.C Flt.kf w A0 l0.length l0) (hc0 : l0.length ≤ c0) (h : rank_Sort.f k l0 = some r) :
  Calls Try.prog 92 #[.slice A0 l0.length c0] w fun e w'=>∃ v0_ : Value,e = .returned (v0_) ∧ Kd.R Flt.kf 36 w' w.heap.size (fun _=>True) v0_ r ∧ Below w.heap.size w w':=by
 have HR0:=Aside0.mk hr0
 have HC0:=Aside0.mk hc0
 clear hr0 hc0
 have HB:=Aside0.mk (Below.refl w.heap.size w)
 have H : (rank_Sort.l0 k ([] : List Nat) l0 (l0.length : Int) 0) = some r:=h
 clear h
 have H':=Aside0.mk H
 clear H
 go_enter Try.func92,Try.ntmps92
 go_wp2
 go_loopg [3,8] k (fun kq v3 v8 w'=>∃ (x3_1 : List Nat) (x8_1 : Int),v8 = .int .i64 x8_1 ∧ Aside0 (rank_Sort.l0 kq x3_1 l0 (l0.length : Int) x8_1 = some r) ∧ Aside0 (kq ≤ k) ∧ Aside0 (Kd.R Flt.kf 36 w' w.heap.size (fun _=>True) v3 x3_1) ∧ Aside0 (Below w.heap.size w w'))
 case atStart=>exact ⟨(([] : List Nat)),(0),(by first|rfl|(simp;done)|(simp [*];done)),H',⟨Nat.le_refl _⟩,⟨by first|exact Kd.R_nil _ _ _ _ _|exact Kd.N_nil _ _ _ _ _|exact Kd.V_nil _ _ _ _ _|exact Kd.Q_nil _ _ _ _ _|exact Kd.S_nil _ _ _ _ _⟩,⟨by repeat(first|(with_reducible first|exact HB.out|apply below_alloc|apply pw_below_drewN|apply below_drew1)|exact HB.out)⟩⟩
 case round =>
  clear H'
  obtain ⟨x3_1,x8_1,rfl,HA,HK1,HO_3,HB⟩:=hrel
  cases gk with
  | zero=>exact absurd HA.out (by simp [rank_Sort.l0])
  | succ k1 =>
   have H:=HA.out
   clear HA
   simp only [rank_Sort.l0] at H
   by_cases c2 : x8_1 < (l0.length : Int)
   ·rw [if_pos c2] at H
    have c2b0 : decide (x8_1 < (l0.length : Int)) = true:=decide_eq_true c2
    clear c2
    by_cases c3 : 0 ≤ x8_1
    ·rw [if_pos c3] at H
     have c3b0 : decide (0 ≤ x8_1) = true:=decide_eq_true c3
     clear c3
     by_cases c4 : x8_1 < (l0.length : Int)
     ·rw [if_pos c4] at H
      have c4b0 : decide (x8_1 < (l0.length : Int)) = true:=decide_eq_true c4
      clear c4
      replace H:=Option.bind_eq_some_iff.mp H
      obtain ⟨t145,A50,H⟩:=H
      replace H : (if x3_1.length < 17592186044416 then (rank_Sort.l0 k1 (x3_1 ++ [t145]) l0 (l0.length : Int) (wrap64 (x8_1 + 1))) else (none)) = some r:=H
      have A5:=Aside0.mk A50
      clear A50
      by_cases c6 : x3_1.length < 17592186044416
      ·rw [if_pos c6] at H
       have LMc6:=Aside0.mk c6
       clear c6
       obtain ⟨y146,hy146⟩ : ∃ y_ : List Nat,y_ = (x3_1 ++ [t145]):=⟨_,rfl⟩
       replace H : (rank_Sort.l0 k1 y146 l0 (l0.length : Int) (wrap64 (x8_1 + 1))) = some r:=by first|(rw [hy146];with_reducible exact H)|(have H2_:=(Option.bind_some _ _).symm.trans H;rw [hy146];with_reducible exact H2_)|(have H2_:=(Option.bind_some _ _).symm.trans H;with_reducible exact H2_)|with_reducible exact H|(rw [hy146];exact H)|exact H
       have Ny146:=Aside0.mk hy146
       clear hy146
       have H':=Aside0.mk H
       clear H
       have p144 : 0 ≤ (x8_1 : Int):=of_decide_eq_true (by first|(with_reducible assumption)|assumption)
       have q144 : x8_1 < (l0.length : Int):=of_decide_eq_true (by first|(with_reducible assumption)|assumption)
       obtain ⟨ad144,e144,hx144_0⟩:=Flt.at_kf HR0.out x8_1 p144 q144
       cases e144
       replace hx144_0:=(HB.out.cell (World.block_lt_of_cell? w _ hx144_0)).trans hx144_0
       replace p144:=eq_true p144
       replace q144:=eq_true q144
       go_wp2_with (first|((with_reducible refine gate_callee (f:=79) rfl ?_);refine goesL_ (some 14) rfl rfl Try.func79 (by kernel_rfl) rfl #[.float .f64 (rdOf (0 : Nat) l0 x8_1)] rfl (by (try simp only [List.map_toArray,List.map_cons,List.map_nil]);first|done|rfl|(simp only [List.length_drop,List.length_take];rfl)) ?_;(with_reducible refine (rank_Clean.calls (rdOf (0 : Nat) l0 x8_1) t145 _ A5.out).mono ?_);rintro e w' ⟨rfl,⟨nd,rfl⟩⟩;refine ⟨_,rfl,?_⟩)|((with_reducible refine gate_builtin (b:=.append) (xs:=#[.tmp 12,.tmp 15]) rfl ?_);at_builtin;refine Kd.R_append Flt.kf (w0:=w) w.heap.size rfl (.tmp 12) (.tmp 15) 30 36 (.float .f64 0) 8 rfl Try.underlying30 info36 rfl (by decide) (by omega) u3 x3_1 t145 [.float .f64 t145] (fun _=>True) (fun _=>False) rfl rfl ?aP (fun _ hk=>hk.elim) ?aF ?aO ?aB ?aS ?aL ?_;(case aP=>exact rfl);(case aB=>exact (by repeat(first|(with_reducible first|exact HB.out|apply below_alloc|apply pw_below_drewN|apply below_drew1)|exact HB.out)));(case aF=>exact (fun _ _=>trivial));(case aO=>exact (by (with_reducible repeat(first|apply Kd.R_alloc|apply Kd.R_drewN|apply Kd.R_drew));exact HO_3.out));(case aS=>exact (below_size (by repeat(first|(with_reducible first|exact HB.out|apply below_alloc|apply pw_below_drewN|apply below_drew1)|exact HB.out))));(case aL=>have:=LMc6.out;omega);intro v147 w7 ho hb hg hat;rw [← Ny146.out] at ho;have n0_:=Aside0.mk (hb);have n1_:=Aside0.mk (ho);clear HB;clear HO_3;have HB:=n0_;have HO148:=n1_;clear n0_ n1_;clear ho hb hg hat))
       go_roundg k1
       case measure=>have:=HK1.out;omega
       case rel=>exact ⟨(y146),(wrap64 (x8_1 + 1)),(by first|rfl|(simp;done)|(simp [*];done)),H',⟨by have:=HK1.out;omega⟩,⟨by (with_reducible repeat(first|apply Kd.R_alloc|apply Kd.R_drewN|apply Kd.R_drew));exact HO148.out⟩,⟨by repeat(first|(with_reducible first|exact HB.out|apply below_alloc|apply pw_below_drewN|apply below_drew1)|exact HB.out)⟩⟩
      ·rw [if_neg c6] at H
       exact absurd H (by simp)
     ·rw [if_neg c4] at H
      exact absurd H (by simp)
    ·rw [if_neg c3] at H
     exact absurd H (by simp)
   ·rw [if_neg c2] at H
    have c2b0 : decide (x8_1 < (l0.length : Int)) = false:=decide_eq_false c2
    clear c2
    by_cases cl_ : x3_1.length < 4611686018427387904
    case neg=>rw [if_neg cl_] at H;exact absurd H (by simp)
    rw [if_pos cl_] at H
    obtain rfl:=Option.some.inj H
    obtain ⟨Ao_,co_,eo_⟩:=Kd.R_slice HO_3.out
    subst eo_
    have LN_:=Aside0.mk cl_
    clear cl_
    go_wp2_with (go_at_call 98;refine (FSort.sort_calls SortF.cf SortF.swo 95 SortF.enters SortF.calls (by (with_reducible repeat(first|apply Kd.R_alloc|apply Kd.R_drewN|apply Kd.R_drew));exact HO_3.out) LN_.out).mono ?_;rintro e w9 ⟨rfl,hR_,hb_⟩;have n0_:=Aside0.mk hR_;have n1_:=Aside0.mk (Below.trans (show Below w.heap.size w _ by repeat(first|(with_reducible first|exact HB.out|apply below_alloc|apply pw_below_drewN|apply below_drew1)|exact HB.out)) hb_);clear hR_ hb_;clear HB;have HB:=n1_;clear n1_)
    go_ret
    exact ⟨_,rfl,by (with_reducible repeat(first|apply Kd.R_alloc|apply Kd.R_drewN|apply Kd.R_drew));exact n0_.out,by repeat(first|(with_reducible first|exact HB.out|apply below_alloc|apply pw_below_drewN|apply below_drew1)|exact HB.out)⟩


end Go.Proofs.Ytnagfbadjbkhmaa.PB
