import Derived.Test.YtnagfbadjbkhmaaPAx0
import Derived.Test.YtnagfbadjbkhmaaPAx27
import Derived.Test.YtnagfbadjbkhmaaPAx29
import Derived.Test.YtnagfbadjbkhmaaPAx37
import Derived.Test.YtnagfbadjbkhmaaPAx42
import Derived.Test.YtnagfbadjbkhmaaPAx43
namespace Go.Proofs.Ytnagfbadjbkhmaa.PA
open Go.RowKit Go.Proofs.YtnagfbadjbkhmaaW.PrintWords Go.Proofs.YtnagfbadjbkhmaaW.PrintLast Go.Proofs.YtnagfbadjbkhmaaW.PrintMore
attribute [local go_sem] max2_int min2_int max_two min_two max_three min_three max_four min_four   -- for this text's walks alone
attribute [local go_sem high] Flt.fold_eq Flt.fold_ne Flt.fold_lt Flt.fold_gt Flt.fold_le Flt.fold_ge Flt.run_bits Flt.run_frombits
set_option linter.unusedVariables false
set_option linter.unusedSimpArgs false

/-! ### hornbeamlaw11_BinsCells: function 11 -/
mutual
def hornbeamlaw11_BinsCells.j0 : Nat → Int → List Int → Bool → Int → Int → List Int → Option (Bool)
 | 0,_,_,_,_,_,_=>none
 | k + 1,x1,x10,x46,x787000,x787001,x787002=>if x46 = true then (some false) else ((hornbeamref11_Cell.f x787000 x787001 x787002 x1 0).bind fun t797=>(if t797 < 0 then ((hornbeamlaw11_fixed.f k).bind fun t798=>(if t798 = true then (some ((x10.length : Int) == 0)) else (some false))) else (hornbeamlaw11_BinsCells.l0 k x1 x10 x10 (x10.length : Int) 0 x787000 x787001 x787002)))
def hornbeamlaw11_BinsCells.l0 : Nat → Int → List Int → List Int → Int → Int → Int → Int → List Int → Option (Bool)
 | 0,_,_,_,_,_,_,_,_=>none
 | k + 1,x1,x10,x57,x58,x59,x787000,x787001,x787002=>if x59 < x58 then (if 0 ≤ x59 then (if x59 < (x57.length : Int) then ((hornbeamref11_Cell.f x787000 x787001 x787002 x1 x59).bind fun t800=>(if (rd x57 x59) = t800 then (hornbeamlaw11_BinsCells.l0 k x1 x10 x57 x58 (wrap64 (x59 + 1)) x787000 x787001 x787002) else (some false))) else (none)) else (none)) else ((hornbeamlaw11_fixed.f k).bind fun t801=>(if t801 = true then (some ((x10.length : Int) == x787001)) else (some false)))
end
def hornbeamlaw11_BinsCells.f (k : Nat) (a0_0 : Int) (a0_1 : Int) (l0_2 : List Int) (a1 : Int) (a2 : Int) : Option (Bool):=(hornbeamlaw11_great.f a0_0 a0_1 l0_2).bind fun t787=>(if t787 = true then ((hornbeamlaw11_fixed.f k).bind fun t788=>(some t788)) else ((bins_Cell.f a0_0 a0_1 l0_2 a1 a2).bind fun bt789=>((hornbeamref11_Cell.f a0_0 a0_1 l0_2 a1 a2).bind fun t791=>((bins_Row.f k a0_0 a0_1 l0_2 a1).bind fun t792=>((bins_Right.f a0_0 a0_1 l0_2).bind fun t795=>((hornbeamref11_Right.f a0_0 a0_1 l0_2).bind fun t796=>(if (t795 != t796) = true then (hornbeamlaw11_BinsCells.j0 k a1 t792 true a0_0 a0_1 l0_2) else (if (bt789.2 != (decide (t791 ≥ 0))) = true then (hornbeamlaw11_BinsCells.j0 k a1 t792 true a0_0 a0_1 l0_2) else (hornbeamlaw11_BinsCells.j0 k a1 t792 (bt789.1 != (mx t791 0)) a0_0 a0_1 l0_2)))))))))
theorem hornbeamlaw11_BinsCells.mono_l : ∀ k,(∀ y0 y1 y2 y3 y4 y5,LeO (hornbeamlaw11_BinsCells.j0 k y0 y1 y2 y3 y4 y5) (hornbeamlaw11_BinsCells.j0 (k + 1) y0 y1 y2 y3 y4 y5)) ∧ (∀ y0 y1 y2 y3 y4 y5 y6 y7,LeO (hornbeamlaw11_BinsCells.l0 k y0 y1 y2 y3 y4 y5 y6 y7) (hornbeamlaw11_BinsCells.l0 (k + 1) y0 y1 y2 y3 y4 y5 y6 y7))
 | 0=>⟨fun _ _ _ _ _ _ r h=>by simp [hornbeamlaw11_BinsCells.j0] at h,fun _ _ _ _ _ _ _ _ r h=>by simp [hornbeamlaw11_BinsCells.l0] at h⟩
 | k + 1=>by
  obtain ⟨ih0,ih1⟩:=hornbeamlaw11_BinsCells.mono_l k
  refine ⟨?_,?_⟩
  ·intro y0 y1 y2 y3 y4 y5
   unfold hornbeamlaw11_BinsCells.j0
   repeat' first
   | (with_reducible exact ih0 _ _ _ _ _ _)
   | (with_reducible exact ih1 _ _ _ _ _ _ _ _)
   | (with_reducible exact bins_Row.mono _ _ _ _ _)
   | (with_reducible exact hornbeamlaw11_fixed.mono _)
   | (with_reducible exact LeO.refl _)
   | (with_reducible exact LeO.none _)
   | (with_reducible refine LeO.ite ?_ ?_)
   | (with_reducible refine LeO.bind ?_ (fun _=>?_))
   | exact ih0 _ _ _ _ _ _
   | exact ih1 _ _ _ _ _ _ _ _
   | exact bins_Row.mono _ _ _ _ _
   | exact hornbeamlaw11_fixed.mono _
   | exact LeO.none _
   | refine LeO.ite ?_ ?_
   | refine LeO.bind ?_ (fun _=>?_)
  ·intro y0 y1 y2 y3 y4 y5 y6 y7
   unfold hornbeamlaw11_BinsCells.l0
   repeat' first
   | (with_reducible exact ih0 _ _ _ _ _ _)
   | (with_reducible exact ih1 _ _ _ _ _ _ _ _)
   | (with_reducible exact bins_Row.mono _ _ _ _ _)
   | (with_reducible exact hornbeamlaw11_fixed.mono _)
   | (with_reducible exact LeO.refl _)
   | (with_reducible exact LeO.none _)
   | (with_reducible refine LeO.ite ?_ ?_)
   | (with_reducible refine LeO.bind ?_ (fun _=>?_))
   | exact ih0 _ _ _ _ _ _
   | exact ih1 _ _ _ _ _ _ _ _
   | exact bins_Row.mono _ _ _ _ _
   | exact hornbeamlaw11_fixed.mono _
   | exact LeO.none _
   | refine LeO.ite ?_ ?_
   | refine LeO.bind ?_ (fun _=>?_)
theorem hornbeamlaw11_BinsCells.mono : ∀ a0 a1 a2 a3 a4 k,LeO (hornbeamlaw11_BinsCells.f k a0 a1 a2 a3 a4) (hornbeamlaw11_BinsCells.f (k + 1) a0 a1 a2 a3 a4):=by
 intro a0 a1 a2 a3 a4 k
 obtain ⟨ih0,ih1⟩:=hornbeamlaw11_BinsCells.mono_l k
 unfold hornbeamlaw11_BinsCells.f
 repeat' first
   | (with_reducible exact ih0 _ _ _ _ _ _)
   | (with_reducible exact ih1 _ _ _ _ _ _ _ _)
   | (with_reducible exact bins_Row.mono _ _ _ _ _)
   | (with_reducible exact hornbeamlaw11_fixed.mono _)
   | (with_reducible exact LeO.refl _)
   | (with_reducible exact LeO.none _)
   | (with_reducible refine LeO.ite ?_ ?_)
   | (with_reducible refine LeO.bind ?_ (fun _=>?_))
   | exact ih0 _ _ _ _ _ _
   | exact ih1 _ _ _ _ _ _ _ _
   | exact bins_Row.mono _ _ _ _ _
   | exact hornbeamlaw11_fixed.mono _
   | exact LeO.none _
   | refine LeO.ite ?_ ?_
   | refine LeO.bind ?_ (fun _=>?_)
def hornbeamlaw11_BinsCells.T6 : Bool × List (List Nat × List Nat):=(true,[([],[]),([0],[0]),([],[]),([2,1],[2]),([1,3],[1,3]),([4,3],[4]),([5],[5]),([5],[5]),([7,5],[5,7]),([6,8,5],[5,6,8]),([5,9],[5,9]),([10,5],[10]),([11],[11]),([11],[11]),([13,11],[11,13]),([12,14,11],[11,12,14]),([11,15],[11,15])])
def hornbeamlaw11_BinsCells.B6 : List Nat:=[0,1,0,7,15,31,63,63,191,511,1023,2047,4095,4095,12287,32767,65535]
theorem hornbeamlaw11_BinsCells.tab6 : rtab .any (opsOf Try.f11 6) = hornbeamlaw11_BinsCells.T6:=by kernel_rfl
theorem hornbeamlaw11_BinsCells.bits6 : waitsOk hornbeamlaw11_BinsCells.T6.2 hornbeamlaw11_BinsCells.B6 = true:=by kernel_rfl
set_option maxHeartbeats 8000000 in
set_option maxRecDepth 100000 in
theorem hornbeamlaw11_BinsCells.calls (k : Nat) (a0_0 : Int) (a0_1 : Int) (A0_2 : Option Addr) (c0_2 : Nat) (l0_2 : List Int) (a1 : Int) (a2 : Int) (r : Bool) (w : World) (hr0_2 : Kd.C (Kd.int .u16) w A0_2 l0_2.length l0_2) (hc0_2 : l0_2.length ≤ c0_2) (h : hornbeamlaw11_BinsCells.f k a0_0 a0_1 l0_2 a1 a2 = some r) :
  Calls Try.prog 11 #[.agg #[.int .i64 a0_0,.int .i64 a0_1,.slice A0_2 l0_2.length c0_2],.int .i64 a1,.int .i64 a2] w fun e w'=>e = .returned (.bool r) ∧ Below w.heap.size w w':=by
 have hu62:=Try.underlying62
 have HR0_2:=Aside0.mk hr0_2
 have HC0_2:=Aside0.mk hc0_2
 clear hr0_2 hc0_2
 have HB:=Aside0.mk (Below.refl w.heap.size w)
 have H : ((hornbeamlaw11_great.f a0_0 a0_1 l0_2).bind fun t787=>(if t787 = true then ((hornbeamlaw11_fixed.f k).bind fun t788=>(some t788)) else ((bins_Cell.f a0_0 a0_1 l0_2 a1 a2).bind fun bt789=>((hornbeamref11_Cell.f a0_0 a0_1 l0_2 a1 a2).bind fun t791=>((bins_Row.f k a0_0 a0_1 l0_2 a1).bind fun t792=>((bins_Right.f a0_0 a0_1 l0_2).bind fun t795=>((hornbeamref11_Right.f a0_0 a0_1 l0_2).bind fun t796=>(if (t795 != t796) = true then (hornbeamlaw11_BinsCells.j0 k a1 t792 true a0_0 a0_1 l0_2) else (if (bt789.2 != (decide (t791 ≥ 0))) = true then (hornbeamlaw11_BinsCells.j0 k a1 t792 true a0_0 a0_1 l0_2) else (hornbeamlaw11_BinsCells.j0 k a1 t792 (bt789.1 != (mx t791 0)) a0_0 a0_1 l0_2)))))))))) = some r:=h
 clear h
 replace H:=Option.bind_eq_some_iff.mp H
 obtain ⟨t787,A40,H⟩:=H
 replace H : (if t787 = true then ((hornbeamlaw11_fixed.f k).bind fun t788=>(some t788)) else ((bins_Cell.f a0_0 a0_1 l0_2 a1 a2).bind fun bt789=>((hornbeamref11_Cell.f a0_0 a0_1 l0_2 a1 a2).bind fun t791=>((bins_Row.f k a0_0 a0_1 l0_2 a1).bind fun t792=>((bins_Right.f a0_0 a0_1 l0_2).bind fun t795=>((hornbeamref11_Right.f a0_0 a0_1 l0_2).bind fun t796=>(if (t795 != t796) = true then (hornbeamlaw11_BinsCells.j0 k a1 t792 true a0_0 a0_1 l0_2) else (if (bt789.2 != (decide (t791 ≥ 0))) = true then (hornbeamlaw11_BinsCells.j0 k a1 t792 true a0_0 a0_1 l0_2) else (hornbeamlaw11_BinsCells.j0 k a1 t792 (bt789.1 != (mx t791 0)) a0_0 a0_1 l0_2))))))))) = some r:=H
 have A4:=Aside0.mk A40
 clear A40
 by_cases c5 : t787 = true
 ·subst c5
  have H1 : ((hornbeamlaw11_fixed.f k).bind fun t788=>(some t788)) = some r:=by rw [if_pos rfl] at H;exact H
  clear H
  have H:=H1
  clear H1
  replace H:=Option.bind_eq_some_iff.mp H
  obtain ⟨t788,A60,H⟩:=H
  replace H : (some t788) = some r:=H
  have A6:=Aside0.mk A60
  clear A60
  obtain rfl:=Option.some.inj H
  go_enter Try.func11,Try.ntmps11
  go_wp2_with (first|((with_reducible refine gate_dst (N:=3) rfl ?_);(try (refine gate_guard (by rfl) ?_;dsimp only));refine box_event ?hg (N:=3) ?hd (cs:=#[.int .i64 a0_0,.int .i64 a0_1,.slice A0_2 l0_2.length c0_2]) (t:=62) ?hr ?_;(case hd=>rfl);(case hg=>rfl);(case hr=>first|(go_simp;done)|(go_simp;rfl));intro gb786 hg w7 hbox hb;have n0_:=Aside0.mk (below_step (by repeat(first|(with_reducible first|exact HB.out|apply below_alloc|apply pw_below_drewN|apply below_drew1)|exact HB.out)) hb);have n1_:=Aside0.mk (hbox);have n2_:=Aside0.mk ((by rw [hg];exact (below_size (by repeat(first|(with_reducible first|exact HB.out|apply below_alloc|apply pw_below_drewN|apply below_drew1)|exact HB.out))) : w.heap.size ≤ gb786));have n3_:=Aside0.mk ((by rw [hg];exact (below_size (by repeat(first|(with_reducible first|exact HB.out|apply below_alloc|apply pw_below_drewN|apply below_drew1)|exact HB.out))) : w.heap.size ≤ gb786));clear HB;have HB:=n0_;have BK786:=n1_;have GW786:=n2_;have GE786:=n3_;clear n0_ n1_ n2_ n3_;clear hb hbox hg;have hcz8_0 : w7.cell? ⟨gb786,0,none⟩ = some (.int .i64 a0_0):=(blk_cell BK786.out 0).trans rfl;have hcz8_1 : w7.cell? ⟨gb786,1,none⟩ = some (.int .i64 a0_1):=(blk_cell BK786.out 1).trans rfl;have hcz8_2 : w7.cell? ⟨gb786,2,none⟩ = some (.slice A0_2 l0_2.length c0_2):=(blk_cell BK786.out 2).trans rfl;have hfz8_0:=blk_frozen BK786.out 0;have hfz8_1:=blk_frozen BK786.out 1;have hfz8_2:=blk_frozen BK786.out 2)|((with_reducible refine gate_callee (f:=32) rfl ?_);refine goesL_ (some 14) rfl rfl Try.func32 (by kernel_rfl) rfl #[.agg #[.int .i64 a0_0,.int .i64 a0_1,.slice A0_2 l0_2.length c0_2]] rfl (by (try simp only [List.map_toArray,List.map_cons,List.map_nil]);first|done|rfl|(simp only [List.length_drop,List.length_take];rfl)) ?_;(with_reducible refine (hornbeamlaw11_great.calls a0_0 a0_1 _ _ l0_2 true _ ?side1 ?side2 A4.out).mono ?_);(case side1=>repeat(first|exact (Kd.C_below HR0_2.out HB.out)|(with_reducible refine Kd.C_alloc ?_ _)|(with_reducible refine Kd.C_drewN ?_ _)|(with_reducible refine Kd.C_drew ?_)));(case side2=>exact HC0_2.out);rintro e w9 ⟨rfl,hb⟩;refine ⟨_,rfl,?_⟩;have n0_:=Aside0.mk (blk_below (g:=gb786) (o:=.cells #[.int .i64 a0_0,.int .i64 a0_1,.slice A0_2 l0_2.length c0_2] 62 (0,0)) (by (with_reducible repeat(first|refine blk_drewN ?_ _|refine blk_drew ?_|refine blk_alloc ?_ _));exact BK786.out) hb);have n1_:=Aside0.mk (below_step (by repeat(first|(with_reducible first|exact HB.out|apply below_alloc|apply pw_below_drewN|apply below_drew1|refine below_set ?_ GE786.out)|exact HB.out)) hb);clear BK786;clear HB;have BK786:=n0_;have HB:=n1_;clear n0_ n1_;(try clear hb);(try clear hb2);(try clear hk);(try clear hi))|((with_reducible refine gate_callee (f:=25) rfl ?_);refine goesL_ (some 15) rfl rfl Try.func25 (by kernel_rfl) rfl #[] rfl (by (try simp only [List.map_toArray,List.map_cons,List.map_nil]);first|done|rfl|(simp only [List.length_drop,List.length_take];rfl)) ?_;(with_reducible refine (hornbeamlaw11_fixed.calls k  t788 _ A6.out).mono ?_);rintro e w10 ⟨rfl,hb⟩;refine ⟨_,rfl,?_⟩;have n0_:=Aside0.mk (blk_below (g:=gb786) (o:=.cells #[.int .i64 a0_0,.int .i64 a0_1,.slice A0_2 l0_2.length c0_2] 62 (0,0)) (by (with_reducible repeat(first|refine blk_drewN ?_ _|refine blk_drew ?_|refine blk_alloc ?_ _));exact BK786.out) hb);have n1_:=Aside0.mk (below_step (by repeat(first|(with_reducible first|exact HB.out|apply below_alloc|apply pw_below_drewN|apply below_drew1|refine below_set ?_ GE786.out)|exact HB.out)) hb);clear BK786;clear HB;have BK786:=n0_;have HB:=n1_;clear n0_ n1_;(try clear hb);(try clear hb2);(try clear hk);(try clear hi)))
  go_ret
  exact ⟨by first|rfl|(simp [errW_none,errW_some] <;> rfl)|(simp [*,errW_none,errW_some] <;> rfl),by repeat(first|(with_reducible first|exact HB.out|apply below_alloc|apply pw_below_drewN|apply below_drew1|refine below_set ?_ GE786.out)|exact HB.out)⟩
 ·replace c5:=Bool.eq_false_iff.mpr c5
  subst c5
  have H1 : ((bins_Cell.f a0_0 a0_1 l0_2 a1 a2).bind fun bt789=>((hornbeamref11_Cell.f a0_0 a0_1 l0_2 a1 a2).bind fun t791=>((bins_Row.f k a0_0 a0_1 l0_2 a1).bind fun t792=>((bins_Right.f a0_0 a0_1 l0_2).bind fun t795=>((hornbeamref11_Right.f a0_0 a0_1 l0_2).bind fun t796=>(if (t795 != t796) = true then (hornbeamlaw11_BinsCells.j0 k a1 t792 true a0_0 a0_1 l0_2) else (if (bt789.2 != (decide (t791 ≥ 0))) = true then (hornbeamlaw11_BinsCells.j0 k a1 t792 true a0_0 a0_1 l0_2) else (hornbeamlaw11_BinsCells.j0 k a1 t792 (bt789.1 != (mx t791 0)) a0_0 a0_1 l0_2)))))))) = some r:=by rw [if_neg (show ¬ (false = true) by decide)] at H;exact H
  clear H
  have H:=H1
  clear H1
  replace H:=Option.bind_eq_some_iff.mp H
  obtain ⟨⟨t789,t790⟩,A110,H⟩:=H
  replace H : ((hornbeamref11_Cell.f a0_0 a0_1 l0_2 a1 a2).bind fun t791=>((bins_Row.f k a0_0 a0_1 l0_2 a1).bind fun t792=>((bins_Right.f a0_0 a0_1 l0_2).bind fun t795=>((hornbeamref11_Right.f a0_0 a0_1 l0_2).bind fun t796=>(if (t795 != t796) = true then (hornbeamlaw11_BinsCells.j0 k a1 t792 true a0_0 a0_1 l0_2) else (if (t790 != (decide (t791 ≥ 0))) = true then (hornbeamlaw11_BinsCells.j0 k a1 t792 true a0_0 a0_1 l0_2) else (hornbeamlaw11_BinsCells.j0 k a1 t792 (t789 != (mx t791 0)) a0_0 a0_1 l0_2))))))) = some r:=H
  have A11:=Aside0.mk A110
  clear A110
  replace H:=Option.bind_eq_some_iff.mp H
  obtain ⟨t791,A120,H⟩:=H
  replace H : ((bins_Row.f k a0_0 a0_1 l0_2 a1).bind fun t792=>((bins_Right.f a0_0 a0_1 l0_2).bind fun t795=>((hornbeamref11_Right.f a0_0 a0_1 l0_2).bind fun t796=>(if (t795 != t796) = true then (hornbeamlaw11_BinsCells.j0 k a1 t792 true a0_0 a0_1 l0_2) else (if (t790 != (decide (t791 ≥ 0))) = true then (hornbeamlaw11_BinsCells.j0 k a1 t792 true a0_0 a0_1 l0_2) else (hornbeamlaw11_BinsCells.j0 k a1 t792 (t789 != (mx t791 0)) a0_0 a0_1 l0_2)))))) = some r:=H
  have A12:=Aside0.mk A120
  clear A120
  replace H:=Option.bind_eq_some_iff.mp H
  obtain ⟨t792,A130,H⟩:=H
  replace H : ((bins_Right.f a0_0 a0_1 l0_2).bind fun t795=>((hornbeamref11_Right.f a0_0 a0_1 l0_2).bind fun t796=>(if (t795 != t796) = true then (hornbeamlaw11_BinsCells.j0 k a1 t792 true a0_0 a0_1 l0_2) else (if (t790 != (decide (t791 ≥ 0))) = true then (hornbeamlaw11_BinsCells.j0 k a1 t792 true a0_0 a0_1 l0_2) else (hornbeamlaw11_BinsCells.j0 k a1 t792 (t789 != (mx t791 0)) a0_0 a0_1 l0_2))))) = some r:=H
  have A13:=Aside0.mk A130
  clear A130
  have HC14:=Aside0.mk H
  clear H
  go_enter Try.func11,Try.ntmps11
  go_upto_region 6 with (first|((with_reducible refine gate_dst (N:=3) rfl ?_);(try (refine gate_guard (by rfl) ?_;dsimp only));refine box_event ?hg (N:=3) ?hd (cs:=#[.int .i64 a0_0,.int .i64 a0_1,.slice A0_2 l0_2.length c0_2]) (t:=62) ?hr ?_;(case hd=>rfl);(case hg=>rfl);(case hr=>first|(go_simp;done)|(go_simp;rfl));intro gb786 hg w15 hbox hb;have n0_:=Aside0.mk (below_step (by repeat(first|(with_reducible first|exact HB.out|apply below_alloc|apply pw_below_drewN|apply below_drew1)|exact HB.out)) hb);have n1_:=Aside0.mk (hbox);have n2_:=Aside0.mk ((by rw [hg];exact (below_size (by repeat(first|(with_reducible first|exact HB.out|apply below_alloc|apply pw_below_drewN|apply below_drew1)|exact HB.out))) : w.heap.size ≤ gb786));have n3_:=Aside0.mk ((by rw [hg];exact (below_size (by repeat(first|(with_reducible first|exact HB.out|apply below_alloc|apply pw_below_drewN|apply below_drew1)|exact HB.out))) : w.heap.size ≤ gb786));clear HB;have HB:=n0_;have BK786:=n1_;have GW786:=n2_;have GE786:=n3_;clear n0_ n1_ n2_ n3_;clear hb hbox hg;have hcz16_0 : w15.cell? ⟨gb786,0,none⟩ = some (.int .i64 a0_0):=(blk_cell BK786.out 0).trans rfl;have hcz16_1 : w15.cell? ⟨gb786,1,none⟩ = some (.int .i64 a0_1):=(blk_cell BK786.out 1).trans rfl;have hcz16_2 : w15.cell? ⟨gb786,2,none⟩ = some (.slice A0_2 l0_2.length c0_2):=(blk_cell BK786.out 2).trans rfl;have hfz16_0:=blk_frozen BK786.out 0;have hfz16_1:=blk_frozen BK786.out 1;have hfz16_2:=blk_frozen BK786.out 2)|((with_reducible refine gate_callee (f:=32) rfl ?_);refine goesL_ (some 14) rfl rfl Try.func32 (by kernel_rfl) rfl #[.agg #[.int .i64 a0_0,.int .i64 a0_1,.slice A0_2 l0_2.length c0_2]] rfl (by (try simp only [List.map_toArray,List.map_cons,List.map_nil]);first|done|rfl|(simp only [List.length_drop,List.length_take];rfl)) ?_;(with_reducible refine (hornbeamlaw11_great.calls a0_0 a0_1 _ _ l0_2 false _ ?side1 ?side2 A4.out).mono ?_);(case side1=>repeat(first|exact (Kd.C_below HR0_2.out HB.out)|(with_reducible refine Kd.C_alloc ?_ _)|(with_reducible refine Kd.C_drewN ?_ _)|(with_reducible refine Kd.C_drew ?_)));(case side2=>exact HC0_2.out);rintro e w17 ⟨rfl,hb⟩;refine ⟨_,rfl,?_⟩;have n0_:=Aside0.mk (blk_below (g:=gb786) (o:=.cells #[.int .i64 a0_0,.int .i64 a0_1,.slice A0_2 l0_2.length c0_2] 62 (0,0)) (by (with_reducible repeat(first|refine blk_drewN ?_ _|refine blk_drew ?_|refine blk_alloc ?_ _));exact BK786.out) hb);have n1_:=Aside0.mk (below_step (by repeat(first|(with_reducible first|exact HB.out|apply below_alloc|apply pw_below_drewN|apply below_drew1|refine below_set ?_ GE786.out)|exact HB.out)) hb);clear BK786;clear HB;have BK786:=n0_;have HB:=n1_;clear n0_ n1_;(try clear hb);(try clear hb2);(try clear hk);(try clear hi);have hcz18_0 : w17.cell? ⟨gb786,0,none⟩ = some (.int .i64 a0_0):=(blk_cell BK786.out 0).trans rfl;have hcz18_1 : w17.cell? ⟨gb786,1,none⟩ = some (.int .i64 a0_1):=(blk_cell BK786.out 1).trans rfl;have hcz18_2 : w17.cell? ⟨gb786,2,none⟩ = some (.slice A0_2 l0_2.length c0_2):=(blk_cell BK786.out 2).trans rfl;have hfz18_0:=blk_frozen BK786.out 0;have hfz18_1:=blk_frozen BK786.out 1;have hfz18_2:=blk_frozen BK786.out 2)|((with_reducible refine gate_callee (f:=37) rfl ?_);refine goesL_ (some 20) rfl rfl Try.func37 (by kernel_rfl) rfl #[.agg #[.int .i64 a0_0,.int .i64 a0_1,.slice A0_2 l0_2.length c0_2],.int .i64 a1,.int .i64 a2] rfl (by (try simp only [List.map_toArray,List.map_cons,List.map_nil]);first|done|rfl|(simp only [List.length_drop,List.length_take];rfl)) ?_;(with_reducible refine (bins_Cell.calls a0_0 a0_1 _ _ l0_2 a1 a2 t789 t790 _ ?side1 ?side2 A11.out).mono ?_);(case side1=>repeat(first|exact (Kd.C_below HR0_2.out HB.out)|(with_reducible refine Kd.C_alloc ?_ _)|(with_reducible refine Kd.C_drewN ?_ _)|(with_reducible refine Kd.C_drew ?_)));(case side2=>exact HC0_2.out);rintro e w19 ⟨rfl,hb⟩;refine ⟨_,rfl,?_⟩;have n0_:=Aside0.mk (blk_below (g:=gb786) (o:=.cells #[.int .i64 a0_0,.int .i64 a0_1,.slice A0_2 l0_2.length c0_2] 62 (0,0)) (by (with_reducible repeat(first|refine blk_drewN ?_ _|refine blk_drew ?_|refine blk_alloc ?_ _));exact BK786.out) hb);have n1_:=Aside0.mk (below_step (by repeat(first|(with_reducible first|exact HB.out|apply below_alloc|apply pw_below_drewN|apply below_drew1|refine below_set ?_ GE786.out)|exact HB.out)) hb);clear BK786;clear HB;have BK786:=n0_;have HB:=n1_;clear n0_ n1_;(try clear hb);(try clear hb2);(try clear hk);(try clear hi);have hcz20_0 : w19.cell? ⟨gb786,0,none⟩ = some (.int .i64 a0_0):=(blk_cell BK786.out 0).trans rfl;have hcz20_1 : w19.cell? ⟨gb786,1,none⟩ = some (.int .i64 a0_1):=(blk_cell BK786.out 1).trans rfl;have hcz20_2 : w19.cell? ⟨gb786,2,none⟩ = some (.slice A0_2 l0_2.length c0_2):=(blk_cell BK786.out 2).trans rfl;have hfz20_0:=blk_frozen BK786.out 0;have hfz20_1:=blk_frozen BK786.out 1;have hfz20_2:=blk_frozen BK786.out 2)|((with_reducible refine gate_callee (f:=40) rfl ?_);refine goesL_ (some 26) rfl rfl Try.func40 (by kernel_rfl) rfl #[.agg #[.int .i64 a0_0,.int .i64 a0_1,.slice A0_2 l0_2.length c0_2],.int .i64 a1,.int .i64 a2] rfl (by (try simp only [List.map_toArray,List.map_cons,List.map_nil]);first|done|rfl|(simp only [List.length_drop,List.length_take];rfl)) ?_;(with_reducible refine (hornbeamref11_Cell.calls a0_0 a0_1 _ _ l0_2 a1 a2 t791 _ ?side1 ?side2 A12.out).mono ?_);(case side1=>repeat(first|exact (Kd.C_below HR0_2.out HB.out)|(with_reducible refine Kd.C_alloc ?_ _)|(with_reducible refine Kd.C_drewN ?_ _)|(with_reducible refine Kd.C_drew ?_)));(case side2=>exact HC0_2.out);rintro e w21 ⟨rfl,hb⟩;refine ⟨_,rfl,?_⟩;have n0_:=Aside0.mk (blk_below (g:=gb786) (o:=.cells #[.int .i64 a0_0,.int .i64 a0_1,.slice A0_2 l0_2.length c0_2] 62 (0,0)) (by (with_reducible repeat(first|refine blk_drewN ?_ _|refine blk_drew ?_|refine blk_alloc ?_ _));exact BK786.out) hb);have n1_:=Aside0.mk (below_step (by repeat(first|(with_reducible first|exact HB.out|apply below_alloc|apply pw_below_drewN|apply below_drew1|refine below_set ?_ GE786.out)|exact HB.out)) hb);clear BK786;clear HB;have BK786:=n0_;have HB:=n1_;clear n0_ n1_;(try clear hb);(try clear hb2);(try clear hk);(try clear hi);have hcz22_0 : w21.cell? ⟨gb786,0,none⟩ = some (.int .i64 a0_0):=(blk_cell BK786.out 0).trans rfl;have hcz22_1 : w21.cell? ⟨gb786,1,none⟩ = some (.int .i64 a0_1):=(blk_cell BK786.out 1).trans rfl;have hcz22_2 : w21.cell? ⟨gb786,2,none⟩ = some (.slice A0_2 l0_2.length c0_2):=(blk_cell BK786.out 2).trans rfl;have hfz22_0:=blk_frozen BK786.out 0;have hfz22_1:=blk_frozen BK786.out 1;have hfz22_2:=blk_frozen BK786.out 2)|((with_reducible refine gate_callee (f:=41) rfl ?_);refine goesL_ (some 29) rfl rfl Try.func41 (by kernel_rfl) rfl #[.agg #[.int .i64 a0_0,.int .i64 a0_1,.slice A0_2 l0_2.length c0_2],.int .i64 a1] rfl (by (try simp only [List.map_toArray,List.map_cons,List.map_nil]);first|done|rfl|(simp only [List.length_drop,List.length_take];rfl)) ?_;(with_reducible refine (bins_Row.calls k a0_0 a0_1 _ _ l0_2 a1 t792 _ ?side1 ?side2 A13.out).mono ?_);(case side1=>repeat(first|exact (Kd.C_below HR0_2.out HB.out)|(with_reducible refine Kd.C_alloc ?_ _)|(with_reducible refine Kd.C_drewN ?_ _)|(with_reducible refine Kd.C_drew ?_)));(case side2=>exact HC0_2.out);rintro e w23 ⟨v793,rfl,ho0,hb⟩;refine ⟨_,rfl,?_⟩;have n0_:=Aside0.mk (Kd.R_lower ho0 (below_size (by repeat(first|(with_reducible first|exact HB.out|apply below_alloc|apply pw_below_drewN|apply below_drew1|refine below_set ?_ GE786.out)|exact HB.out))));have n1_:=Aside0.mk (blk_below (g:=gb786) (o:=.cells #[.int .i64 a0_0,.int .i64 a0_1,.slice A0_2 l0_2.length c0_2] 62 (0,0)) (by (with_reducible repeat(first|refine blk_drewN ?_ _|refine blk_drew ?_|refine blk_alloc ?_ _));exact BK786.out) hb);have n2_:=Aside0.mk (below_step (by repeat(first|(with_reducible first|exact HB.out|apply below_alloc|apply pw_below_drewN|apply below_drew1|refine below_set ?_ GE786.out)|exact HB.out)) hb);clear BK786;clear HB;have HO794:=n0_;have BK786:=n1_;have HB:=n2_;clear n0_ n1_ n2_;(try clear hb);(try clear hb2);(try clear hk);(try clear hi);(try clear ho0)))
  (try simp only [Act.put,List.setIfInBounds_toArray,List.set_cons_zero,List.set_cons_succ])
  go_cut [46] (fun v46 wc=>∃ (kq : Nat) (x46_13 : Bool),v46 = .bool x46_13 ∧ Aside0 (hornbeamlaw11_BinsCells.j0 kq a1 t792 x46_13 a0_0 a0_1 l0_2 = some r) ∧ Aside0 (kq ≤ k) ∧ Aside0 (Kd.R (Kd.int .i64) 3 wc w.heap.size (fun _=>True) v793 t792) ∧ Aside0 (wc.heap[gb786]? = some (.cells #[.int .i64 a0_0,.int .i64 a0_1,(.slice A0_2 l0_2.length c0_2)] 62 (0,0))) ∧ Aside0 (Below w.heap.size w wc))
  case first =>
   have H:=HC14.out
   clear HC14
   replace H:=Option.bind_eq_some_iff.mp H
   obtain ⟨t795,A240,H⟩:=H
   replace H : ((hornbeamref11_Right.f a0_0 a0_1 l0_2).bind fun t796=>(if (t795 != t796) = true then (hornbeamlaw11_BinsCells.j0 k a1 t792 true a0_0 a0_1 l0_2) else (if (t790 != (decide (t791 ≥ 0))) = true then (hornbeamlaw11_BinsCells.j0 k a1 t792 true a0_0 a0_1 l0_2) else (hornbeamlaw11_BinsCells.j0 k a1 t792 (t789 != (mx t791 0)) a0_0 a0_1 l0_2)))) = some r:=H
   have A24:=Aside0.mk A240
   clear A240
   replace H:=Option.bind_eq_some_iff.mp H
   obtain ⟨t796,A250,H⟩:=H
   replace H : (if (t795 != t796) = true then (hornbeamlaw11_BinsCells.j0 k a1 t792 true a0_0 a0_1 l0_2) else (if (t790 != (decide (t791 ≥ 0))) = true then (hornbeamlaw11_BinsCells.j0 k a1 t792 true a0_0 a0_1 l0_2) else (hornbeamlaw11_BinsCells.j0 k a1 t792 (t789 != (mx t791 0)) a0_0 a0_1 l0_2))) = some r:=H
   have A25:=Aside0.mk A250
   clear A250
   by_cases c26 : (t795 != t796) = true
   ·rw [if_pos c26] at H
    have c26b0 : (t795 != t796) = true:=c26
    (try (have c26b1 : decide (t795 = t796) = false:=by simpa using c26))
    (try (have c26b2 : (t795 == t796) = false:=by simpa using c26))
    (try (have c26b3 : ¬ (t795 = t796):=by simpa using c26))
    clear c26
    (first|rw [c26b0]|(simp only [i64_w,i32_w];rw [c26b0])|skip)
    have H':=Aside0.mk H
    clear H
    try go_wp2
    have n0_:=Aside0.mk (Kd.R_drew HO794.out)
    have n1_:=Aside0.mk (blk_drew BK786.out)
    have n2_:=Aside0.mk (below_drew1 HB.out)
    clear HO794
    clear BK786
    clear HB
    have HO794:=n0_
    have BK786:=n1_
    have HB:=n2_
    clear n0_ n1_ n2_
    refine start_ (n:=17) (S:=fun w'=>w'.cell? ⟨gb786,0,none⟩ = some (.int .i64 a0_0) ∧ w'.cell? ⟨gb786,1,none⟩ = some (.int .i64 a0_1) ∧ w'.cell? ⟨gb786,2,none⟩ = some (.slice A0_2 l0_2.length c0_2)) (ds:=[]) #[false,false,false,false,false,false,false,false,false,false,false,false,false,false,false,false,false] (by kernel_rfl) rfl rfl ⟨(blk_cell BK786.out 0).trans rfl,(blk_cell BK786.out 1).trans rfl,(blk_cell BK786.out 2).trans rfl⟩ (fun hHeld=>?_);refine with_tabW hornbeamlaw11_BinsCells.tab6 hornbeamlaw11_BinsCells.bits6 (fun HT_ HW_=>?_)
    generalize w23.drew = w27 at HO794 BK786 HB hHeld ⊢
    refine take_ (i:=0) (N:=some 30) (v:=?_) (a':=?_) #[true,false,false,false,false,false,false,false,false,false,false,false,false,false,false,false,false] rfl rfl (take_ofW HT_.out HW_.out (by kernel_rfl)) (fun _ _ _ h=>h) (Or.inl ⟨by rfl,?_⟩) hHeld ?_ ?_
    rotate_left
    ·rintro w' ⟨s0,s1,s2⟩
     go_simp
     with_reducible rfl
    rotate_left
    ·simp only [Act.put,List.setIfInBounds_toArray,List.set_cons_zero,List.set_cons_succ,i64_w,i32_w]
     rfl
    refine take_ (i:=2) (N:=some 32) (v:=?_) (a':=?_) #[true,false,true,false,false,false,false,false,false,false,false,false,false,false,false,false,false] rfl rfl (take_ofW HT_.out HW_.out (by kernel_rfl)) (fun _ _ _ h=>h) (Or.inl ⟨by rfl,?_⟩) hHeld ?_ ?_
    rotate_left
    ·rintro w' ⟨s0,s1,s2⟩
     go_simp
     with_reducible rfl
    rotate_left
    ·simp only [Act.put,List.setIfInBounds_toArray,List.set_cons_zero,List.set_cons_succ,i64_w,i32_w]
     rfl
    refine one_ (i:=1) (N:=some 31) #[true,true,true,false,false,false,false,false,false,false,false,false,false,false,false,false,false] rfl rfl (one_of HT_.out (by kernel_rfl)) (by decide) (fun K hK=>?_)
    refine goes_ Try.func42 (by kernel_rfl) rfl #[.agg #[.int .i64 a0_0,.int .i64 a0_1,.slice A0_2 l0_2.length c0_2]] (by rfl) rfl rfl (by (try simp only [List.map_toArray,List.map_cons,List.map_nil]);first|done|rfl|(simp only [List.length_drop,List.length_take];rfl)) ?_
    with_reducible refine (bins_Right.calls a0_0 a0_1 _ _ l0_2 t795 _ ?side1 ?side2 A24.out).mono ?_
    (case side1=>repeat(first|exact (Kd.C_below HR0_2.out HB.out)|(with_reducible refine Kd.C_alloc ?_ _)|(with_reducible refine Kd.C_drewN ?_ _)|(with_reducible refine Kd.C_drew ?_)))
    (case side2=>exact HC0_2.out)
    rintro e w28 ⟨rfl,hb⟩
    refine ⟨_,rfl,?_⟩
    have n0_:=Aside0.mk (Kd.R_below (by (with_reducible repeat(first|apply Kd.R_alloc|apply Kd.R_drewN|apply Kd.R_drew));exact HO794.out) hb)
    have n1_:=Aside0.mk (blk_below (g:=gb786) (o:=.cells #[.int .i64 a0_0,.int .i64 a0_1,.slice A0_2 l0_2.length c0_2] 62 (0,0)) (by (with_reducible repeat(first|refine blk_drewN ?_ _|refine blk_drew ?_|refine blk_alloc ?_ _));exact BK786.out) hb)
    have n2_:=Aside0.mk (below_step (by repeat(first|(with_reducible first|exact HB.out|apply below_alloc|apply pw_below_drewN|apply below_drew1|refine below_set ?_ GE786.out)|exact HB.out)) hb)
    clear HO794
    clear BK786
    clear HB
    have HO794:=n0_
    have BK786:=n1_
    have HB:=n2_
    clear n0_ n1_ n2_
    (try clear hb)
    (try clear hb2)
    (try clear hk)
    (try clear hi)
    refine hK.out _ _ ⟨(blk_cell BK786.out 0).trans rfl,(blk_cell BK786.out 1).trans rfl,(blk_cell BK786.out 2).trans rfl⟩ (fun hHeld=>?_)
    clear hK K
    refine norm_ (a':=?_) ?_ ?_
    rotate_left
    ·show Act.put _ (some 31) _ = _
     simp only [Act.put,List.setIfInBounds_toArray,List.set_cons_zero,List.set_cons_succ,i64_w,i32_w]
     rfl
    refine one_ (i:=3) (N:=some 33) #[true,true,true,true,false,false,false,false,false,false,false,false,false,false,false,false,false] rfl rfl (one_of HT_.out (by kernel_rfl)) (by decide) (fun K hK=>?_)
    refine goes_ Try.func35 (by kernel_rfl) rfl #[.agg #[.int .i64 a0_0,.int .i64 a0_1,.slice A0_2 l0_2.length c0_2]] (by rfl) rfl rfl (by (try simp only [List.map_toArray,List.map_cons,List.map_nil]);first|done|rfl|(simp only [List.length_drop,List.length_take];rfl)) ?_
    with_reducible refine (hornbeamref11_Right.calls a0_0 a0_1 _ _ l0_2 t796 _ ?side1 ?side2 A25.out).mono ?_
    (case side1=>repeat(first|exact (Kd.C_below HR0_2.out HB.out)|(with_reducible refine Kd.C_alloc ?_ _)|(with_reducible refine Kd.C_drewN ?_ _)|(with_reducible refine Kd.C_drew ?_)))
    (case side2=>exact HC0_2.out)
    rintro e w29 ⟨rfl,hb⟩
    refine ⟨_,rfl,?_⟩
    have n0_:=Aside0.mk (Kd.R_below (by (with_reducible repeat(first|apply Kd.R_alloc|apply Kd.R_drewN|apply Kd.R_drew));exact HO794.out) hb)
    have n1_:=Aside0.mk (blk_below (g:=gb786) (o:=.cells #[.int .i64 a0_0,.int .i64 a0_1,.slice A0_2 l0_2.length c0_2] 62 (0,0)) (by (with_reducible repeat(first|refine blk_drewN ?_ _|refine blk_drew ?_|refine blk_alloc ?_ _));exact BK786.out) hb)
    have n2_:=Aside0.mk (below_step (by repeat(first|(with_reducible first|exact HB.out|apply below_alloc|apply pw_below_drewN|apply below_drew1|refine below_set ?_ GE786.out)|exact HB.out)) hb)
    clear HO794
    clear BK786
    clear HB
    have HO794:=n0_
    have BK786:=n1_
    have HB:=n2_
    clear n0_ n1_ n2_
    (try clear hb)
    (try clear hb2)
    (try clear hk)
    (try clear hi)
    refine hK.out _ _ ⟨(blk_cell BK786.out 0).trans rfl,(blk_cell BK786.out 1).trans rfl,(blk_cell BK786.out 2).trans rfl⟩ (fun hHeld=>?_)
    clear hK K
    refine norm_ (a':=?_) ?_ ?_
    rotate_left
    ·show Act.put _ (some 33) _ = _
     simp only [Act.put,List.setIfInBounds_toArray,List.set_cons_zero,List.set_cons_succ,i64_w,i32_w]
     rfl
    refine pure_ (i:=4) (N:=some 34) (v:=?_) (a':=?_) #[true,true,true,true,true,false,false,false,false,false,false,false,false,false,false,false,false] rfl rfl (any_of HT_.out (by kernel_rfl)) (fun _ _ _ h=>h) (Or.inl ⟨by rfl,?_⟩) ?_ ?_
    rotate_left
    ·intro w'
     go_simp
     with_reducible rfl
    rotate_left
    ·simp only [Act.put,List.setIfInBounds_toArray,List.set_cons_zero,List.set_cons_succ,i64_w,i32_w]
     rfl
    refine pure_ (i:=5) (N:=some 35) (v:=?_) (a':=?_) #[true,true,true,true,true,true,false,false,false,false,false,false,false,false,false,false,false] rfl rfl (any_of HT_.out (by kernel_rfl)) (fun _ _ _ h=>h) (Or.inl ⟨by rfl,?_⟩) ?_ ?_
    rotate_left
    ·intro w'
     go_simp
     with_reducible rfl
    rotate_left
    ·simp only [Act.put,List.setIfInBounds_toArray,List.set_cons_zero,List.set_cons_succ,i64_w,i32_w]
     rfl
    refine pure_ (i:=6) (N:=some 36) (v:=undef) (a':=?_) #[true,true,true,true,true,true,true,false,false,false,false,false,false,false,false,false,false] rfl rfl (any_of HT_.out (by kernel_rfl)) (fun _ _ _ h=>h) (Or.inr ⟨by rfl,rfl⟩) ?_ ?_
    rotate_left
    ·simp only [Act.put,List.setIfInBounds_toArray,List.set_cons_zero,List.set_cons_succ,i64_w,i32_w]
     rfl
    refine pure_ (i:=7) (N:=some 37) (v:=undef) (a':=?_) #[true,true,true,true,true,true,true,true,false,false,false,false,false,false,false,false,false] rfl rfl (any_of HT_.out (by kernel_rfl)) (fun _ _ _ h=>h) (Or.inr ⟨by rfl,rfl⟩) ?_ ?_
    rotate_left
    ·simp only [Act.put,List.setIfInBounds_toArray,List.set_cons_zero,List.set_cons_succ,i64_w,i32_w]
     rfl
    refine pure_ (i:=8) (N:=some 38) (v:=undef) (a':=?_) #[true,true,true,true,true,true,true,true,true,false,false,false,false,false,false,false,false] rfl rfl (any_of HT_.out (by kernel_rfl)) (fun _ _ _ h=>h) (Or.inr ⟨by rfl,rfl⟩) ?_ ?_
    rotate_left
    ·simp only [Act.put,List.setIfInBounds_toArray,List.set_cons_zero,List.set_cons_succ,i64_w,i32_w]
     rfl
    refine pure_ (i:=9) (N:=some 39) (v:=undef) (a':=?_) #[true,true,true,true,true,true,true,true,true,true,false,false,false,false,false,false,false] rfl rfl (any_of HT_.out (by kernel_rfl)) (fun _ _ _ h=>h) (Or.inr ⟨by rfl,rfl⟩) ?_ ?_
    rotate_left
    ·simp only [Act.put,List.setIfInBounds_toArray,List.set_cons_zero,List.set_cons_succ,i64_w,i32_w]
     rfl
    refine pure_ (i:=10) (N:=some 40) (v:=?_) (a':=?_) #[true,true,true,true,true,true,true,true,true,true,true,false,false,false,false,false,false] rfl rfl (any_of HT_.out (by kernel_rfl)) (fun _ _ _ h=>h) (Or.inl ⟨by rfl,?_⟩) ?_ ?_
    rotate_left
    ·intro w'
     go_simp
     with_reducible rfl
    rotate_left
    ·simp only [Act.put,List.setIfInBounds_toArray,List.set_cons_zero,List.set_cons_succ,i64_w,i32_w]
     rfl
    refine pure_ (i:=11) (N:=some 41) (v:=?_) (a':=?_) #[true,true,true,true,true,true,true,true,true,true,true,true,false,false,false,false,false] rfl rfl (any_of HT_.out (by kernel_rfl)) (fun _ _ _ h=>h) (Or.inl ⟨by rfl,?_⟩) ?_ ?_
    rotate_left
    ·intro w'
     go_simp
     with_reducible rfl
    rotate_left
    ·simp only [Act.put,List.setIfInBounds_toArray,List.set_cons_zero,List.set_cons_succ,i64_w,i32_w]
     rfl
    refine pure_ (i:=12) (N:=some 42) (v:=undef) (a':=?_) #[true,true,true,true,true,true,true,true,true,true,true,true,true,false,false,false,false] rfl rfl (any_of HT_.out (by kernel_rfl)) (fun _ _ _ h=>h) (Or.inr ⟨by rfl,rfl⟩) ?_ ?_
    rotate_left
    ·simp only [Act.put,List.setIfInBounds_toArray,List.set_cons_zero,List.set_cons_succ,i64_w,i32_w]
     rfl
    refine pure_ (i:=13) (N:=some 43) (v:=undef) (a':=?_) #[true,true,true,true,true,true,true,true,true,true,true,true,true,true,false,false,false] rfl rfl (any_of HT_.out (by kernel_rfl)) (fun _ _ _ h=>h) (Or.inr ⟨by rfl,rfl⟩) ?_ ?_
    rotate_left
    ·simp only [Act.put,List.setIfInBounds_toArray,List.set_cons_zero,List.set_cons_succ,i64_w,i32_w]
     rfl
    refine pure_ (i:=14) (N:=some 44) (v:=undef) (a':=?_) #[true,true,true,true,true,true,true,true,true,true,true,true,true,true,true,false,false] rfl rfl (any_of HT_.out (by kernel_rfl)) (fun _ _ _ h=>h) (Or.inr ⟨by rfl,rfl⟩) ?_ ?_
    rotate_left
    ·simp only [Act.put,List.setIfInBounds_toArray,List.set_cons_zero,List.set_cons_succ,i64_w,i32_w]
     rfl
    refine pure_ (i:=15) (N:=some 45) (v:=undef) (a':=?_) #[true,true,true,true,true,true,true,true,true,true,true,true,true,true,true,true,false] rfl rfl (any_of HT_.out (by kernel_rfl)) (fun _ _ _ h=>h) (Or.inr ⟨by rfl,rfl⟩) ?_ ?_
    rotate_left
    ·simp only [Act.put,List.setIfInBounds_toArray,List.set_cons_zero,List.set_cons_succ,i64_w,i32_w]
     rfl
    refine pure_ (i:=16) (N:=some 46) (v:=?_) (a':=?_) #[true,true,true,true,true,true,true,true,true,true,true,true,true,true,true,true,true] rfl rfl (any_of HT_.out (by kernel_rfl)) (fun _ _ _ h=>h) (Or.inl ⟨by rfl,?_⟩) ?_ ?_
    rotate_left
    ·intro w'
     go_simp
     with_reducible rfl
    rotate_left
    ·simp only [Act.put,List.setIfInBounds_toArray,List.set_cons_zero,List.set_cons_succ,i64_w,i32_w]
     rfl
    refine done_ (done_of HT_.out (by kernel_rfl)) ?_
    try go_wp2
    go_meet
    case rel=>exact ⟨_,(true),(by first|rfl|(simp;done)|(simp [*];done)),H',⟨by first|omega|exact Nat.le_refl _⟩,⟨by (with_reducible repeat(first|apply Kd.R_alloc|apply Kd.R_drewN|apply Kd.R_drew));exact HO794.out⟩,⟨by (with_reducible repeat(first|refine blk_drewN ?_ _|refine blk_drew ?_|refine blk_alloc ?_ _));exact BK786.out⟩,⟨by repeat(first|(with_reducible first|exact HB.out|apply below_alloc|apply pw_below_drewN|apply below_drew1|refine below_set ?_ GE786.out)|exact HB.out)⟩⟩
   ·rw [if_neg c26] at H
    have c26b0 : (t795 != t796) = false:=by simpa using c26
    (try (have c26b1 : decide (t795 = t796) = true:=by simpa using c26))
    (try (have c26b2 : (t795 == t796) = true:=by simpa using c26))
    clear c26
    (first|rw [c26b0]|(simp only [i64_w,i32_w];rw [c26b0])|skip)
    by_cases c30 : (t790 != (decide (t791 ≥ 0))) = true
    ·rw [if_pos c30] at H
     have c30b0 : (t790 != (decide (t791 ≥ 0))) = true:=c30
     (try (have c30b1 : decide (t790 = (decide (t791 ≥ 0))) = false:=by simpa using c30))
     (try (have c30b2 : (t790 == (decide (t791 ≥ 0))) = false:=by simpa using c30))
     (try (have c30b3 : ¬ (t790 = (decide (t791 ≥ 0))):=by simpa using c30))
     clear c30
     have H':=Aside0.mk H
     clear H
     try go_wp2
     have n0_:=Aside0.mk (Kd.R_drew HO794.out)
     have n1_:=Aside0.mk (blk_drew BK786.out)
     have n2_:=Aside0.mk (below_drew1 HB.out)
     clear HO794
     clear BK786
     clear HB
     have HO794:=n0_
     have BK786:=n1_
     have HB:=n2_
     clear n0_ n1_ n2_
     refine start_ (n:=17) (S:=fun w'=>w'.cell? ⟨gb786,0,none⟩ = some (.int .i64 a0_0) ∧ w'.cell? ⟨gb786,1,none⟩ = some (.int .i64 a0_1) ∧ w'.cell? ⟨gb786,2,none⟩ = some (.slice A0_2 l0_2.length c0_2)) (ds:=[]) #[false,false,false,false,false,false,false,false,false,false,false,false,false,false,false,false,false] (by kernel_rfl) rfl rfl ⟨(blk_cell BK786.out 0).trans rfl,(blk_cell BK786.out 1).trans rfl,(blk_cell BK786.out 2).trans rfl⟩ (fun hHeld=>?_);refine with_tabW hornbeamlaw11_BinsCells.tab6 hornbeamlaw11_BinsCells.bits6 (fun HT_ HW_=>?_)
     generalize w23.drew = w31 at HO794 BK786 HB hHeld ⊢
     refine take_ (i:=0) (N:=some 30) (v:=?_) (a':=?_) #[true,false,false,false,false,false,false,false,false,false,false,false,false,false,false,false,false] rfl rfl (take_ofW HT_.out HW_.out (by kernel_rfl)) (fun _ _ _ h=>h) (Or.inl ⟨by rfl,?_⟩) hHeld ?_ ?_
     rotate_left
     ·rintro w' ⟨s0,s1,s2⟩
      go_simp
      with_reducible rfl
     rotate_left
     ·simp only [Act.put,List.setIfInBounds_toArray,List.set_cons_zero,List.set_cons_succ,i64_w,i32_w]
      rfl
     refine take_ (i:=2) (N:=some 32) (v:=?_) (a':=?_) #[true,false,true,false,false,false,false,false,false,false,false,false,false,false,false,false,false] rfl rfl (take_ofW HT_.out HW_.out (by kernel_rfl)) (fun _ _ _ h=>h) (Or.inl ⟨by rfl,?_⟩) hHeld ?_ ?_
     rotate_left
     ·rintro w' ⟨s0,s1,s2⟩
      go_simp
      with_reducible rfl
     rotate_left
     ·simp only [Act.put,List.setIfInBounds_toArray,List.set_cons_zero,List.set_cons_succ,i64_w,i32_w]
      rfl
     refine one_ (i:=1) (N:=some 31) #[true,true,true,false,false,false,false,false,false,false,false,false,false,false,false,false,false] rfl rfl (one_of HT_.out (by kernel_rfl)) (by decide) (fun K hK=>?_)
     refine goes_ Try.func42 (by kernel_rfl) rfl #[.agg #[.int .i64 a0_0,.int .i64 a0_1,.slice A0_2 l0_2.length c0_2]] (by rfl) rfl rfl (by (try simp only [List.map_toArray,List.map_cons,List.map_nil]);first|done|rfl|(simp only [List.length_drop,List.length_take];rfl)) ?_
     with_reducible refine (bins_Right.calls a0_0 a0_1 _ _ l0_2 t795 _ ?side1 ?side2 A24.out).mono ?_
     (case side1=>repeat(first|exact (Kd.C_below HR0_2.out HB.out)|(with_reducible refine Kd.C_alloc ?_ _)|(with_reducible refine Kd.C_drewN ?_ _)|(with_reducible refine Kd.C_drew ?_)))
     (case side2=>exact HC0_2.out)
     rintro e w32 ⟨rfl,hb⟩
     refine ⟨_,rfl,?_⟩
     have n0_:=Aside0.mk (Kd.R_below (by (with_reducible repeat(first|apply Kd.R_alloc|apply Kd.R_drewN|apply Kd.R_drew));exact HO794.out) hb)
     have n1_:=Aside0.mk (blk_below (g:=gb786) (o:=.cells #[.int .i64 a0_0,.int .i64 a0_1,.slice A0_2 l0_2.length c0_2] 62 (0,0)) (by (with_reducible repeat(first|refine blk_drewN ?_ _|refine blk_drew ?_|refine blk_alloc ?_ _));exact BK786.out) hb)
     have n2_:=Aside0.mk (below_step (by repeat(first|(with_reducible first|exact HB.out|apply below_alloc|apply pw_below_drewN|apply below_drew1|refine below_set ?_ GE786.out)|exact HB.out)) hb)
     clear HO794
     clear BK786
     clear HB
     have HO794:=n0_
     have BK786:=n1_
     have HB:=n2_
     clear n0_ n1_ n2_
     (try clear hb)
     (try clear hb2)
     (try clear hk)
     (try clear hi)
     refine hK.out _ _ ⟨(blk_cell BK786.out 0).trans rfl,(blk_cell BK786.out 1).trans rfl,(blk_cell BK786.out 2).trans rfl⟩ (fun hHeld=>?_)
     clear hK K
     refine norm_ (a':=?_) ?_ ?_
     rotate_left
     ·show Act.put _ (some 31) _ = _
      simp only [Act.put,List.setIfInBounds_toArray,List.set_cons_zero,List.set_cons_succ,i64_w,i32_w]
      rfl
     refine one_ (i:=3) (N:=some 33) #[true,true,true,true,false,false,false,false,false,false,false,false,false,false,false,false,false] rfl rfl (one_of HT_.out (by kernel_rfl)) (by decide) (fun K hK=>?_)
     refine goes_ Try.func35 (by kernel_rfl) rfl #[.agg #[.int .i64 a0_0,.int .i64 a0_1,.slice A0_2 l0_2.length c0_2]] (by rfl) rfl rfl (by (try simp only [List.map_toArray,List.map_cons,List.map_nil]);first|done|rfl|(simp only [List.length_drop,List.length_take];rfl)) ?_
     with_reducible refine (hornbeamref11_Right.calls a0_0 a0_1 _ _ l0_2 t796 _ ?side1 ?side2 A25.out).mono ?_
     (case side1=>repeat(first|exact (Kd.C_below HR0_2.out HB.out)|(with_reducible refine Kd.C_alloc ?_ _)|(with_reducible refine Kd.C_drewN ?_ _)|(with_reducible refine Kd.C_drew ?_)))
     (case side2=>exact HC0_2.out)
     rintro e w33 ⟨rfl,hb⟩
     refine ⟨_,rfl,?_⟩
     have n0_:=Aside0.mk (Kd.R_below (by (with_reducible repeat(first|apply Kd.R_alloc|apply Kd.R_drewN|apply Kd.R_drew));exact HO794.out) hb)
     have n1_:=Aside0.mk (blk_below (g:=gb786) (o:=.cells #[.int .i64 a0_0,.int .i64 a0_1,.slice A0_2 l0_2.length c0_2] 62 (0,0)) (by (with_reducible repeat(first|refine blk_drewN ?_ _|refine blk_drew ?_|refine blk_alloc ?_ _));exact BK786.out) hb)
     have n2_:=Aside0.mk (below_step (by repeat(first|(with_reducible first|exact HB.out|apply below_alloc|apply pw_below_drewN|apply below_drew1|refine below_set ?_ GE786.out)|exact HB.out)) hb)
     clear HO794
     clear BK786
     clear HB
     have HO794:=n0_
     have BK786:=n1_
     have HB:=n2_
     clear n0_ n1_ n2_
     (try clear hb)
     (try clear hb2)
     (try clear hk)
     (try clear hi)
     refine hK.out _ _ ⟨(blk_cell BK786.out 0).trans rfl,(blk_cell BK786.out 1).trans rfl,(blk_cell BK786.out 2).trans rfl⟩ (fun hHeld=>?_)
     clear hK K
     refine norm_ (a':=?_) ?_ ?_
     rotate_left
     ·show Act.put _ (some 33) _ = _
      simp only [Act.put,List.setIfInBounds_toArray,List.set_cons_zero,List.set_cons_succ,i64_w,i32_w]
      rfl
     refine pure_ (i:=4) (N:=some 34) (v:=?_) (a':=?_) #[true,true,true,true,true,false,false,false,false,false,false,false,false,false,false,false,false] rfl rfl (any_of HT_.out (by kernel_rfl)) (fun _ _ _ h=>h) (Or.inl ⟨by rfl,?_⟩) ?_ ?_
     rotate_left
     ·intro w'
      go_simp
      with_reducible rfl
     rotate_left
     ·simp only [Act.put,List.setIfInBounds_toArray,List.set_cons_zero,List.set_cons_succ,i64_w,i32_w]
      rfl
     refine pure_ (i:=5) (N:=some 35) (v:=?_) (a':=?_) #[true,true,true,true,true,true,false,false,false,false,false,false,false,false,false,false,false] rfl rfl (any_of HT_.out (by kernel_rfl)) (fun _ _ _ h=>h) (Or.inl ⟨by rfl,?_⟩) ?_ ?_
     rotate_left
     ·intro w'
      go_simp
      with_reducible rfl
     rotate_left
     ·simp only [Act.put,List.setIfInBounds_toArray,List.set_cons_zero,List.set_cons_succ,i64_w,i32_w]
      rfl
     refine pure_ (i:=6) (N:=some 36) (v:=?_) (a':=?_) #[true,true,true,true,true,true,true,false,false,false,false,false,false,false,false,false,false] rfl rfl (any_of HT_.out (by kernel_rfl)) (fun _ _ _ h=>h) (Or.inl ⟨by rfl,?_⟩) ?_ ?_
     rotate_left
     ·intro w'
      go_simp
      with_reducible rfl
     rotate_left
     ·simp only [Act.put,List.setIfInBounds_toArray,List.set_cons_zero,List.set_cons_succ,i64_w,i32_w]
      rfl
     refine pure_ (i:=7) (N:=some 37) (v:=?_) (a':=?_) #[true,true,true,true,true,true,true,true,false,false,false,false,false,false,false,false,false] rfl rfl (any_of HT_.out (by kernel_rfl)) (fun _ _ _ h=>h) (Or.inl ⟨by rfl,?_⟩) ?_ ?_
     rotate_left
     ·intro w'
      go_simp
      with_reducible rfl
     rotate_left
     ·simp only [Act.put,List.setIfInBounds_toArray,List.set_cons_zero,List.set_cons_succ,i64_w,i32_w]
      rfl
     refine pure_ (i:=8) (N:=some 38) (v:=?_) (a':=?_) #[true,true,true,true,true,true,true,true,true,false,false,false,false,false,false,false,false] rfl rfl (any_of HT_.out (by kernel_rfl)) (fun _ _ _ h=>h) (Or.inl ⟨by rfl,?_⟩) ?_ ?_
     rotate_left
     ·intro w'
      go_simp
      with_reducible rfl
     rotate_left
     ·simp only [Act.put,List.setIfInBounds_toArray,List.set_cons_zero,List.set_cons_succ,i64_w,i32_w]
      rfl
     refine pure_ (i:=9) (N:=some 39) (v:=?_) (a':=?_) #[true,true,true,true,true,true,true,true,true,true,false,false,false,false,false,false,false] rfl rfl (any_of HT_.out (by kernel_rfl)) (fun _ _ _ h=>h) (Or.inl ⟨by rfl,?_⟩) ?_ ?_
     rotate_left
     ·intro w'
      go_simp
      with_reducible rfl
     rotate_left
     ·simp only [Act.put,List.setIfInBounds_toArray,List.set_cons_zero,List.set_cons_succ,i64_w,i32_w]
      rfl
     refine pure_ (i:=10) (N:=some 40) (v:=?_) (a':=?_) #[true,true,true,true,true,true,true,true,true,true,true,false,false,false,false,false,false] rfl rfl (any_of HT_.out (by kernel_rfl)) (fun _ _ _ h=>h) (Or.inl ⟨by rfl,?_⟩) ?_ ?_
     rotate_left
     ·intro w'
      go_simp
      with_reducible rfl
     rotate_left
     ·simp only [Act.put,List.setIfInBounds_toArray,List.set_cons_zero,List.set_cons_succ,i64_w,i32_w]
      rfl
     refine pure_ (i:=11) (N:=some 41) (v:=?_) (a':=?_) #[true,true,true,true,true,true,true,true,true,true,true,true,false,false,false,false,false] rfl rfl (any_of HT_.out (by kernel_rfl)) (fun _ _ _ h=>h) (Or.inl ⟨by rfl,?_⟩) ?_ ?_
     rotate_left
     ·intro w'
      go_simp
      with_reducible rfl
     rotate_left
     ·simp only [Act.put,List.setIfInBounds_toArray,List.set_cons_zero,List.set_cons_succ,i64_w,i32_w]
      rfl
     refine pure_ (i:=12) (N:=some 42) (v:=undef) (a':=?_) #[true,true,true,true,true,true,true,true,true,true,true,true,true,false,false,false,false] rfl rfl (any_of HT_.out (by kernel_rfl)) (fun _ _ _ h=>h) (Or.inr ⟨by rfl,rfl⟩) ?_ ?_
     rotate_left
     ·simp only [Act.put,List.setIfInBounds_toArray,List.set_cons_zero,List.set_cons_succ,i64_w,i32_w]
      rfl
     refine pure_ (i:=13) (N:=some 43) (v:=undef) (a':=?_) #[true,true,true,true,true,true,true,true,true,true,true,true,true,true,false,false,false] rfl rfl (any_of HT_.out (by kernel_rfl)) (fun _ _ _ h=>h) (Or.inr ⟨by rfl,rfl⟩) ?_ ?_
     rotate_left
     ·simp only [Act.put,List.setIfInBounds_toArray,List.set_cons_zero,List.set_cons_succ,i64_w,i32_w]
      rfl
     refine pure_ (i:=14) (N:=some 44) (v:=undef) (a':=?_) #[true,true,true,true,true,true,true,true,true,true,true,true,true,true,true,false,false] rfl rfl (any_of HT_.out (by kernel_rfl)) (fun _ _ _ h=>h) (Or.inr ⟨by rfl,rfl⟩) ?_ ?_
     rotate_left
     ·simp only [Act.put,List.setIfInBounds_toArray,List.set_cons_zero,List.set_cons_succ,i64_w,i32_w]
      rfl
     refine pure_ (i:=15) (N:=some 45) (v:=undef) (a':=?_) #[true,true,true,true,true,true,true,true,true,true,true,true,true,true,true,true,false] rfl rfl (any_of HT_.out (by kernel_rfl)) (fun _ _ _ h=>h) (Or.inr ⟨by rfl,rfl⟩) ?_ ?_
     rotate_left
     ·simp only [Act.put,List.setIfInBounds_toArray,List.set_cons_zero,List.set_cons_succ,i64_w,i32_w]
      rfl
     refine pure_ (i:=16) (N:=some 46) (v:=?_) (a':=?_) #[true,true,true,true,true,true,true,true,true,true,true,true,true,true,true,true,true] rfl rfl (any_of HT_.out (by kernel_rfl)) (fun _ _ _ h=>h) (Or.inl ⟨by rfl,?_⟩) ?_ ?_
     rotate_left
     ·intro w'
      go_simp
      with_reducible rfl
     rotate_left
     ·simp only [Act.put,List.setIfInBounds_toArray,List.set_cons_zero,List.set_cons_succ,i64_w,i32_w]
      rfl
     refine done_ (done_of HT_.out (by kernel_rfl)) ?_
     try go_wp2
     go_meet
     case rel=>exact ⟨_,(true),(by first|rfl|(simp;done)|(simp [*];done)),H',⟨by first|omega|exact Nat.le_refl _⟩,⟨by (with_reducible repeat(first|apply Kd.R_alloc|apply Kd.R_drewN|apply Kd.R_drew));exact HO794.out⟩,⟨by (with_reducible repeat(first|refine blk_drewN ?_ _|refine blk_drew ?_|refine blk_alloc ?_ _));exact BK786.out⟩,⟨by repeat(first|(with_reducible first|exact HB.out|apply below_alloc|apply pw_below_drewN|apply below_drew1|refine below_set ?_ GE786.out)|exact HB.out)⟩⟩
    ·rw [if_neg c30] at H
     have c30b0 : (t790 != (decide (t791 ≥ 0))) = false:=by simpa using c30
     (try (have c30b1 : decide (t790 = (decide (t791 ≥ 0))) = true:=by simpa using c30))
     (try (have c30b2 : (t790 == (decide (t791 ≥ 0))) = true:=by simpa using c30))
     clear c30
     obtain ⟨ji34,hji34⟩ : ∃ j_ : Int,(mx t791 0) = j_:=⟨_,rfl⟩
     replace H : (hornbeamlaw11_BinsCells.j0 k a1 t792 (t789 != (ji34)) a0_0 a0_1 l0_2) = some r:=by first|(rw [hji34] at H;exact H)|(simp only [hji34] at H ⊢;exact H)
     (try rw [hji34] at A24)
     (try rw [hji34] at A25)
     (try (have hji34l : 0 ≤ ji34:=by (rw [← hji34];unfold mx;(repeat' split) <;> omega)))
     (try (have hji34m : 0 ≤ ji34:=by omega))
     have hji34_ : (if t791 < 0 then 0 else t791) = ji34:=hji34
     have H':=Aside0.mk H
     clear H
     try go_wp2
     have n0_:=Aside0.mk (Kd.R_drew HO794.out)
     have n1_:=Aside0.mk (blk_drew BK786.out)
     have n2_:=Aside0.mk (below_drew1 HB.out)
     clear HO794
     clear BK786
     clear HB
     have HO794:=n0_
     have BK786:=n1_
     have HB:=n2_
     clear n0_ n1_ n2_
     refine start_ (n:=17) (S:=fun w'=>w'.cell? ⟨gb786,0,none⟩ = some (.int .i64 a0_0) ∧ w'.cell? ⟨gb786,1,none⟩ = some (.int .i64 a0_1) ∧ w'.cell? ⟨gb786,2,none⟩ = some (.slice A0_2 l0_2.length c0_2)) (ds:=[]) #[false,false,false,false,false,false,false,false,false,false,false,false,false,false,false,false,false] (by kernel_rfl) rfl rfl ⟨(blk_cell BK786.out 0).trans rfl,(blk_cell BK786.out 1).trans rfl,(blk_cell BK786.out 2).trans rfl⟩ (fun hHeld=>?_);refine with_tabW hornbeamlaw11_BinsCells.tab6 hornbeamlaw11_BinsCells.bits6 (fun HT_ HW_=>?_)
     generalize w23.drew = w35 at HO794 BK786 HB hHeld ⊢
     refine take_ (i:=0) (N:=some 30) (v:=?_) (a':=?_) #[true,false,false,false,false,false,false,false,false,false,false,false,false,false,false,false,false] rfl rfl (take_ofW HT_.out HW_.out (by kernel_rfl)) (fun _ _ _ h=>h) (Or.inl ⟨by rfl,?_⟩) hHeld ?_ ?_
     rotate_left
     ·rintro w' ⟨s0,s1,s2⟩
      go_simp
      with_reducible rfl
     rotate_left
     ·simp only [Act.put,List.setIfInBounds_toArray,List.set_cons_zero,List.set_cons_succ,i64_w,i32_w]
      rfl
     refine take_ (i:=2) (N:=some 32) (v:=?_) (a':=?_) #[true,false,true,false,false,false,false,false,false,false,false,false,false,false,false,false,false] rfl rfl (take_ofW HT_.out HW_.out (by kernel_rfl)) (fun _ _ _ h=>h) (Or.inl ⟨by rfl,?_⟩) hHeld ?_ ?_
     rotate_left
     ·rintro w' ⟨s0,s1,s2⟩
      go_simp
      with_reducible rfl
     rotate_left
     ·simp only [Act.put,List.setIfInBounds_toArray,List.set_cons_zero,List.set_cons_succ,i64_w,i32_w]
      rfl
     refine one_ (i:=1) (N:=some 31) #[true,true,true,false,false,false,false,false,false,false,false,false,false,false,false,false,false] rfl rfl (one_of HT_.out (by kernel_rfl)) (by decide) (fun K hK=>?_)
     refine goes_ Try.func42 (by kernel_rfl) rfl #[.agg #[.int .i64 a0_0,.int .i64 a0_1,.slice A0_2 l0_2.length c0_2]] (by rfl) rfl rfl (by (try simp only [List.map_toArray,List.map_cons,List.map_nil]);first|done|rfl|(simp only [List.length_drop,List.length_take];rfl)) ?_
     with_reducible refine (bins_Right.calls a0_0 a0_1 _ _ l0_2 t795 _ ?side1 ?side2 A24.out).mono ?_
     (case side1=>repeat(first|exact (Kd.C_below HR0_2.out HB.out)|(with_reducible refine Kd.C_alloc ?_ _)|(with_reducible refine Kd.C_drewN ?_ _)|(with_reducible refine Kd.C_drew ?_)))
     (case side2=>exact HC0_2.out)
     rintro e w36 ⟨rfl,hb⟩
     refine ⟨_,rfl,?_⟩
     have n0_:=Aside0.mk (Kd.R_below (by (with_reducible repeat(first|apply Kd.R_alloc|apply Kd.R_drewN|apply Kd.R_drew));exact HO794.out) hb)
     have n1_:=Aside0.mk (blk_below (g:=gb786) (o:=.cells #[.int .i64 a0_0,.int .i64 a0_1,.slice A0_2 l0_2.length c0_2] 62 (0,0)) (by (with_reducible repeat(first|refine blk_drewN ?_ _|refine blk_drew ?_|refine blk_alloc ?_ _));exact BK786.out) hb)
     have n2_:=Aside0.mk (below_step (by repeat(first|(with_reducible first|exact HB.out|apply below_alloc|apply pw_below_drewN|apply below_drew1|refine below_set ?_ GE786.out)|exact HB.out)) hb)
     clear HO794
     clear BK786
     clear HB
     have HO794:=n0_
     have BK786:=n1_
     have HB:=n2_
     clear n0_ n1_ n2_
     (try clear hb)
     (try clear hb2)
     (try clear hk)
     (try clear hi)
     refine hK.out _ _ ⟨(blk_cell BK786.out 0).trans rfl,(blk_cell BK786.out 1).trans rfl,(blk_cell BK786.out 2).trans rfl⟩ (fun hHeld=>?_)
     clear hK K
     refine norm_ (a':=?_) ?_ ?_
     rotate_left
     ·show Act.put _ (some 31) _ = _
      simp only [Act.put,List.setIfInBounds_toArray,List.set_cons_zero,List.set_cons_succ,i64_w,i32_w]
      rfl
     refine one_ (i:=3) (N:=some 33) #[true,true,true,true,false,false,false,false,false,false,false,false,false,false,false,false,false] rfl rfl (one_of HT_.out (by kernel_rfl)) (by decide) (fun K hK=>?_)
     refine goes_ Try.func35 (by kernel_rfl) rfl #[.agg #[.int .i64 a0_0,.int .i64 a0_1,.slice A0_2 l0_2.length c0_2]] (by rfl) rfl rfl (by (try simp only [List.map_toArray,List.map_cons,List.map_nil]);first|done|rfl|(simp only [List.length_drop,List.length_take];rfl)) ?_
     with_reducible refine (hornbeamref11_Right.calls a0_0 a0_1 _ _ l0_2 t796 _ ?side1 ?side2 A25.out).mono ?_
     (case side1=>repeat(first|exact (Kd.C_below HR0_2.out HB.out)|(with_reducible refine Kd.C_alloc ?_ _)|(with_reducible refine Kd.C_drewN ?_ _)|(with_reducible refine Kd.C_drew ?_)))
     (case side2=>exact HC0_2.out)
     rintro e w37 ⟨rfl,hb⟩
     refine ⟨_,rfl,?_⟩
     have n0_:=Aside0.mk (Kd.R_below (by (with_reducible repeat(first|apply Kd.R_alloc|apply Kd.R_drewN|apply Kd.R_drew));exact HO794.out) hb)
     have n1_:=Aside0.mk (blk_below (g:=gb786) (o:=.cells #[.int .i64 a0_0,.int .i64 a0_1,.slice A0_2 l0_2.length c0_2] 62 (0,0)) (by (with_reducible repeat(first|refine blk_drewN ?_ _|refine blk_drew ?_|refine blk_alloc ?_ _));exact BK786.out) hb)
     have n2_:=Aside0.mk (below_step (by repeat(first|(with_reducible first|exact HB.out|apply below_alloc|apply pw_below_drewN|apply below_drew1|refine below_set ?_ GE786.out)|exact HB.out)) hb)
     clear HO794
     clear BK786
     clear HB
     have HO794:=n0_
     have BK786:=n1_
     have HB:=n2_
     clear n0_ n1_ n2_
     (try clear hb)
     (try clear hb2)
     (try clear hk)
     (try clear hi)
     refine hK.out _ _ ⟨(blk_cell BK786.out 0).trans rfl,(blk_cell BK786.out 1).trans rfl,(blk_cell BK786.out 2).trans rfl⟩ (fun hHeld=>?_)
     clear hK K
     refine norm_ (a':=?_) ?_ ?_
     rotate_left
     ·show Act.put _ (some 33) _ = _
      simp only [Act.put,List.setIfInBounds_toArray,List.set_cons_zero,List.set_cons_succ,i64_w,i32_w]
      rfl
     refine pure_ (i:=4) (N:=some 34) (v:=?_) (a':=?_) #[true,true,true,true,true,false,false,false,false,false,false,false,false,false,false,false,false] rfl rfl (any_of HT_.out (by kernel_rfl)) (fun _ _ _ h=>h) (Or.inl ⟨by rfl,?_⟩) ?_ ?_
     rotate_left
     ·intro w'
      go_simp
      with_reducible rfl
     rotate_left
     ·simp only [Act.put,List.setIfInBounds_toArray,List.set_cons_zero,List.set_cons_succ,i64_w,i32_w]
      rfl
     refine pure_ (i:=5) (N:=some 35) (v:=?_) (a':=?_) #[true,true,true,true,true,true,false,false,false,false,false,false,false,false,false,false,false] rfl rfl (any_of HT_.out (by kernel_rfl)) (fun _ _ _ h=>h) (Or.inl ⟨by rfl,?_⟩) ?_ ?_
     rotate_left
     ·intro w'
      go_simp
      with_reducible rfl
     rotate_left
     ·simp only [Act.put,List.setIfInBounds_toArray,List.set_cons_zero,List.set_cons_succ,i64_w,i32_w]
      rfl
     refine pure_ (i:=6) (N:=some 36) (v:=?_) (a':=?_) #[true,true,true,true,true,true,true,false,false,false,false,false,false,false,false,false,false] rfl rfl (any_of HT_.out (by kernel_rfl)) (fun _ _ _ h=>h) (Or.inl ⟨by rfl,?_⟩) ?_ ?_
     rotate_left
     ·intro w'
      go_simp
      with_reducible rfl
     rotate_left
     ·simp only [Act.put,List.setIfInBounds_toArray,List.set_cons_zero,List.set_cons_succ,i64_w,i32_w]
      rfl
     refine pure_ (i:=7) (N:=some 37) (v:=?_) (a':=?_) #[true,true,true,true,true,true,true,true,false,false,false,false,false,false,false,false,false] rfl rfl (any_of HT_.out (by kernel_rfl)) (fun _ _ _ h=>h) (Or.inl ⟨by rfl,?_⟩) ?_ ?_
     rotate_left
     ·intro w'
      go_simp
      with_reducible rfl
     rotate_left
     ·simp only [Act.put,List.setIfInBounds_toArray,List.set_cons_zero,List.set_cons_succ,i64_w,i32_w]
      rfl
     refine pure_ (i:=8) (N:=some 38) (v:=?_) (a':=?_) #[true,true,true,true,true,true,true,true,true,false,false,false,false,false,false,false,false] rfl rfl (any_of HT_.out (by kernel_rfl)) (fun _ _ _ h=>h) (Or.inl ⟨by rfl,?_⟩) ?_ ?_
     rotate_left
     ·intro w'
      go_simp
      with_reducible rfl
     rotate_left
     ·simp only [Act.put,List.setIfInBounds_toArray,List.set_cons_zero,List.set_cons_succ,i64_w,i32_w]
      rfl
     refine pure_ (i:=9) (N:=some 39) (v:=?_) (a':=?_) #[true,true,true,true,true,true,true,true,true,true,false,false,false,false,false,false,false] rfl rfl (any_of HT_.out (by kernel_rfl)) (fun _ _ _ h=>h) (Or.inl ⟨by rfl,?_⟩) ?_ ?_
     rotate_left
     ·intro w'
      go_simp
      with_reducible rfl
     rotate_left
     ·simp only [Act.put,List.setIfInBounds_toArray,List.set_cons_zero,List.set_cons_succ,i64_w,i32_w]
      rfl
     refine pure_ (i:=10) (N:=some 40) (v:=?_) (a':=?_) #[true,true,true,true,true,true,true,true,true,true,true,false,false,false,false,false,false] rfl rfl (any_of HT_.out (by kernel_rfl)) (fun _ _ _ h=>h) (Or.inl ⟨by rfl,?_⟩) ?_ ?_
     rotate_left
     ·intro w'
      go_simp
      with_reducible rfl
     rotate_left
     ·simp only [Act.put,List.setIfInBounds_toArray,List.set_cons_zero,List.set_cons_succ,i64_w,i32_w]
      rfl
     refine pure_ (i:=11) (N:=some 41) (v:=?_) (a':=?_) #[true,true,true,true,true,true,true,true,true,true,true,true,false,false,false,false,false] rfl rfl (any_of HT_.out (by kernel_rfl)) (fun _ _ _ h=>h) (Or.inl ⟨by rfl,?_⟩) ?_ ?_
     rotate_left
     ·intro w'
      go_simp
      with_reducible rfl
     rotate_left
     ·simp only [Act.put,List.setIfInBounds_toArray,List.set_cons_zero,List.set_cons_succ,i64_w,i32_w]
      rfl
     refine pure_ (i:=12) (N:=some 42) (v:=?_) (a':=?_) #[true,true,true,true,true,true,true,true,true,true,true,true,true,false,false,false,false] rfl rfl (any_of HT_.out (by kernel_rfl)) (fun _ _ _ h=>h) (Or.inl ⟨by rfl,?_⟩) ?_ ?_
     rotate_left
     ·intro w'
      go_simp
      with_reducible rfl
     rotate_left
     ·simp only [Act.put,List.setIfInBounds_toArray,List.set_cons_zero,List.set_cons_succ,i64_w,i32_w]
      rfl
     refine pure_ (i:=13) (N:=some 43) (v:=?_) (a':=?_) #[true,true,true,true,true,true,true,true,true,true,true,true,true,true,false,false,false] rfl rfl (any_of HT_.out (by kernel_rfl)) (fun _ _ _ h=>h) (Or.inl ⟨by rfl,?_⟩) ?_ ?_
     rotate_left
     ·intro w'
      go_simp
      with_reducible rfl
     rotate_left
     ·simp only [Act.put,List.setIfInBounds_toArray,List.set_cons_zero,List.set_cons_succ,i64_w,i32_w]
      rfl
     refine pure_ (i:=14) (N:=some 44) (v:=?_) (a':=?_) #[true,true,true,true,true,true,true,true,true,true,true,true,true,true,true,false,false] rfl rfl (any_of HT_.out (by kernel_rfl)) (fun _ _ _ h=>h) (Or.inl ⟨by rfl,?_⟩) ?_ ?_
     rotate_left
     ·intro w'
      go_simp
      with_reducible rfl
     rotate_left
     ·simp only [Act.put,List.setIfInBounds_toArray,List.set_cons_zero,List.set_cons_succ,i64_w,i32_w]
      rfl
     refine pure_ (i:=15) (N:=some 45) (v:=?_) (a':=?_) #[true,true,true,true,true,true,true,true,true,true,true,true,true,true,true,true,false] rfl rfl (any_of HT_.out (by kernel_rfl)) (fun _ _ _ h=>h) (Or.inl ⟨by rfl,?_⟩) ?_ ?_
     rotate_left
     ·intro w'
      go_simp
      with_reducible rfl
     rotate_left
     ·simp only [Act.put,List.setIfInBounds_toArray,List.set_cons_zero,List.set_cons_succ,i64_w,i32_w]
      rfl
     refine pure_ (i:=16) (N:=some 46) (v:=?_) (a':=?_) #[true,true,true,true,true,true,true,true,true,true,true,true,true,true,true,true,true] rfl rfl (any_of HT_.out (by kernel_rfl)) (fun _ _ _ h=>h) (Or.inl ⟨by rfl,?_⟩) ?_ ?_
     rotate_left
     ·intro w'
      go_simp
      with_reducible rfl
     rotate_left
     ·simp only [Act.put,List.setIfInBounds_toArray,List.set_cons_zero,List.set_cons_succ,i64_w,i32_w]
      rfl
     refine done_ (done_of HT_.out (by kernel_rfl)) ?_
     try go_wp2
     go_meet
     case rel=>exact ⟨_,((t789 != (ji34))),(by first|rfl|(simp;done)|(simp only [← hji34] <;> (first|rfl|simp))|(simp [*];done)),H',⟨by first|omega|exact Nat.le_refl _⟩,⟨by (with_reducible repeat(first|apply Kd.R_alloc|apply Kd.R_drewN|apply Kd.R_drew));exact HO794.out⟩,⟨by (with_reducible repeat(first|refine blk_drewN ?_ _|refine blk_drew ?_|refine blk_alloc ?_ _));exact BK786.out⟩,⟨by repeat(first|(with_reducible first|exact HB.out|apply below_alloc|apply pw_below_drewN|apply below_drew1|refine below_set ?_ GE786.out)|exact HB.out)⟩⟩
  case rest =>
   clear HC14
   try clear c1
   try clear c2
   try clear p2
   try clear c3
   try clear c4
   try clear c11
   try clear c26
   try clear c26b0
   try clear c26b1
   try clear c26b2
   try clear c30
   try clear c30b0
   try clear c30b1
   try clear c30b2
   try clear c32
   try clear c35
   try clear c37
   try clear hcz16_0
   try clear hcz16_1
   try clear hcz16_2
   try clear hcz18_0
   try clear hcz18_1
   try clear hcz18_2
   try clear hcz20_0
   try clear hcz20_1
   try clear hcz20_2
   try clear hcz22_0
   try clear hcz22_1
   try clear hcz22_2
   try clear hfz16_0
   try clear hfz16_1
   try clear hfz16_2
   try clear hfz18_0
   try clear hfz18_1
   try clear hfz18_2
   try clear hfz20_0
   try clear hfz20_1
   try clear hfz20_2
   try clear hfz22_0
   try clear hfz22_1
   try clear hfz22_2
   obtain ⟨kq,x46_13,rfl,HA,HJ13,HO_10,BK786,HB⟩:=hcut
   cases kq with
   | zero=>exact absurd HA.out (by simp [hornbeamlaw11_BinsCells.j0])
   | succ kj13 =>
    have H:=HA.out
    clear HA
    simp only [hornbeamlaw11_BinsCells.j0] at H
    by_cases c38 : x46_13 = true
    ·subst c38
     have H1 : (some false) = some r:=by rw [if_pos rfl] at H;exact H
     clear H
     have H:=H1
     clear H1
     obtain rfl:=Option.some.inj H
     go_wp2
     go_ret
     exact ⟨by first|rfl|(simp [errW_none,errW_some] <;> rfl)|(simp [*,errW_none,errW_some] <;> rfl),by repeat(first|(with_reducible first|exact HB.out|apply below_alloc|apply pw_below_drewN|apply below_drew1|refine below_set ?_ GE786.out)|exact HB.out)⟩
    ·replace c38:=Bool.eq_false_iff.mpr c38
     subst c38
     have H1 : ((hornbeamref11_Cell.f a0_0 a0_1 l0_2 a1 0).bind fun t797=>(if t797 < 0 then ((hornbeamlaw11_fixed.f kj13).bind fun t798=>(if t798 = true then (some ((t792.length : Int) == 0)) else (some false))) else (hornbeamlaw11_BinsCells.l0 kj13 a1 t792 t792 (t792.length : Int) 0 a0_0 a0_1 l0_2))) = some r:=by rw [if_neg (show ¬ (false = true) by decide)] at H;exact H
     clear H
     have H:=H1
     clear H1
     replace H:=Option.bind_eq_some_iff.mp H
     obtain ⟨t797,A390,H⟩:=H
     replace H : (if t797 < 0 then ((hornbeamlaw11_fixed.f kj13).bind fun t798=>(if t798 = true then (some ((t792.length : Int) == 0)) else (some false))) else (hornbeamlaw11_BinsCells.l0 kj13 a1 t792 t792 (t792.length : Int) 0 a0_0 a0_1 l0_2)) = some r:=H
     have A39:=Aside0.mk A390
     clear A390
     by_cases c40 : t797 < 0
     ·rw [if_pos c40] at H
      have c40b0 : decide (t797 < 0) = true:=decide_eq_true c40
      clear c40
      replace H:=Option.bind_eq_some_iff.mp H
      obtain ⟨t798,A410,H⟩:=H
      replace H : (if t798 = true then (some ((t792.length : Int) == 0)) else (some false)) = some r:=H
      have A41:=Aside0.mk A410
      clear A410
      by_cases c42 : t798 = true
      ·subst c42
       have H1 : (some ((t792.length : Int) == 0)) = some r:=by rw [if_pos rfl] at H;exact H
       clear H
       have H:=H1
       clear H1
       obtain rfl:=Option.some.inj H
       have hcz43_0 : wc.cell? ⟨gb786,0,none⟩ = some (.int .i64 a0_0):=(blk_cell BK786.out 0).trans rfl
       have hcz43_1 : wc.cell? ⟨gb786,1,none⟩ = some (.int .i64 a0_1):=(blk_cell BK786.out 1).trans rfl
       have hcz43_2 : wc.cell? ⟨gb786,2,none⟩ = some (.slice A0_2 l0_2.length c0_2):=(blk_cell BK786.out 2).trans rfl
       have hfz43_0:=blk_frozen BK786.out 0
       have hfz43_1:=blk_frozen BK786.out 1
       have hfz43_2:=blk_frozen BK786.out 2
       go_wp2_with (first|((with_reducible refine gate_callee (f:=40) rfl ?_);refine goesL_ (some 49) rfl rfl Try.func40 (by kernel_rfl) rfl #[.agg #[.int .i64 a0_0,.int .i64 a0_1,.slice A0_2 l0_2.length c0_2],.int .i64 a1,.int .i64 0] rfl (by (try simp only [List.map_toArray,List.map_cons,List.map_nil]);first|done|rfl|(simp only [List.length_drop,List.length_take];rfl)) ?_;(with_reducible refine (hornbeamref11_Cell.calls a0_0 a0_1 _ _ l0_2 a1 0 t797 _ ?side1 ?side2 A39.out).mono ?_);(case side1=>repeat(first|exact (Kd.C_below HR0_2.out HB.out)|(with_reducible refine Kd.C_alloc ?_ _)|(with_reducible refine Kd.C_drewN ?_ _)|(with_reducible refine Kd.C_drew ?_)));(case side2=>exact HC0_2.out);rintro e w44 ⟨rfl,hb⟩;refine ⟨_,rfl,?_⟩;have n0_:=Aside0.mk (Kd.R_below (by (with_reducible repeat(first|apply Kd.R_alloc|apply Kd.R_drewN|apply Kd.R_drew));exact HO_10.out) hb);have n1_:=Aside0.mk (blk_below (g:=gb786) (o:=.cells #[.int .i64 a0_0,.int .i64 a0_1,.slice A0_2 l0_2.length c0_2] 62 (0,0)) (by (with_reducible repeat(first|refine blk_drewN ?_ _|refine blk_drew ?_|refine blk_alloc ?_ _));exact BK786.out) hb);have n2_:=Aside0.mk (below_step (by repeat(first|(with_reducible first|exact HB.out|apply below_alloc|apply pw_below_drewN|apply below_drew1|refine below_set ?_ GE786.out)|exact HB.out)) hb);clear HO_10;clear BK786;clear HB;have HO_10:=n0_;have BK786:=n1_;have HB:=n2_;clear n0_ n1_ n2_;(try clear hb);(try clear hb2);(try clear hk);(try clear hi))|((with_reducible refine gate_callee (f:=25) rfl ?_);refine goesL_ (some 51) rfl rfl Try.func25 (by kernel_rfl) rfl #[] rfl (by (try simp only [List.map_toArray,List.map_cons,List.map_nil]);first|done|rfl|(simp only [List.length_drop,List.length_take];rfl)) ?_;(with_reducible refine (hornbeamlaw11_fixed.calls kj13  true _ A41.out).mono ?_);rintro e w45 ⟨rfl,hb⟩;refine ⟨_,rfl,?_⟩;have n0_:=Aside0.mk (Kd.R_below (by (with_reducible repeat(first|apply Kd.R_alloc|apply Kd.R_drewN|apply Kd.R_drew));exact HO_10.out) hb);have n1_:=Aside0.mk (blk_below (g:=gb786) (o:=.cells #[.int .i64 a0_0,.int .i64 a0_1,.slice A0_2 l0_2.length c0_2] 62 (0,0)) (by (with_reducible repeat(first|refine blk_drewN ?_ _|refine blk_drew ?_|refine blk_alloc ?_ _));exact BK786.out) hb);have n2_:=Aside0.mk (below_step (by repeat(first|(with_reducible first|exact HB.out|apply below_alloc|apply pw_below_drewN|apply below_drew1|refine below_set ?_ GE786.out)|exact HB.out)) hb);clear HO_10;clear BK786;clear HB;have HO_10:=n0_;have BK786:=n1_;have HB:=n2_;clear n0_ n1_ n2_;(try clear hb);(try clear hb2);(try clear hk);(try clear hi);obtain ⟨Ao46,co46,eo46⟩:=Kd.R_slice HO_10.out;subst eo46))
       go_ret
       exact ⟨by first|rfl|(simp [errW_none,errW_some] <;> rfl)|(simp [*,errW_none,errW_some] <;> rfl),by repeat(first|(with_reducible first|exact HB.out|apply below_alloc|apply pw_below_drewN|apply below_drew1|refine below_set ?_ GE786.out)|exact HB.out)⟩
      ·replace c42:=Bool.eq_false_iff.mpr c42
       subst c42
       have H1 : (some false) = some r:=by rw [if_neg (show ¬ (false = true) by decide)] at H;exact H
       clear H
       have H:=H1
       clear H1
       obtain rfl:=Option.some.inj H
       have hcz47_0 : wc.cell? ⟨gb786,0,none⟩ = some (.int .i64 a0_0):=(blk_cell BK786.out 0).trans rfl
       have hcz47_1 : wc.cell? ⟨gb786,1,none⟩ = some (.int .i64 a0_1):=(blk_cell BK786.out 1).trans rfl
       have hcz47_2 : wc.cell? ⟨gb786,2,none⟩ = some (.slice A0_2 l0_2.length c0_2):=(blk_cell BK786.out 2).trans rfl
       have hfz47_0:=blk_frozen BK786.out 0
       have hfz47_1:=blk_frozen BK786.out 1
       have hfz47_2:=blk_frozen BK786.out 2
       go_wp2_with (first|((with_reducible refine gate_callee (f:=40) rfl ?_);refine goesL_ (some 49) rfl rfl Try.func40 (by kernel_rfl) rfl #[.agg #[.int .i64 a0_0,.int .i64 a0_1,.slice A0_2 l0_2.length c0_2],.int .i64 a1,.int .i64 0] rfl (by (try simp only [List.map_toArray,List.map_cons,List.map_nil]);first|done|rfl|(simp only [List.length_drop,List.length_take];rfl)) ?_;(with_reducible refine (hornbeamref11_Cell.calls a0_0 a0_1 _ _ l0_2 a1 0 t797 _ ?side1 ?side2 A39.out).mono ?_);(case side1=>repeat(first|exact (Kd.C_below HR0_2.out HB.out)|(with_reducible refine Kd.C_alloc ?_ _)|(with_reducible refine Kd.C_drewN ?_ _)|(with_reducible refine Kd.C_drew ?_)));(case side2=>exact HC0_2.out);rintro e w48 ⟨rfl,hb⟩;refine ⟨_,rfl,?_⟩;have n0_:=Aside0.mk (Kd.R_below (by (with_reducible repeat(first|apply Kd.R_alloc|apply Kd.R_drewN|apply Kd.R_drew));exact HO_10.out) hb);have n1_:=Aside0.mk (blk_below (g:=gb786) (o:=.cells #[.int .i64 a0_0,.int .i64 a0_1,.slice A0_2 l0_2.length c0_2] 62 (0,0)) (by (with_reducible repeat(first|refine blk_drewN ?_ _|refine blk_drew ?_|refine blk_alloc ?_ _));exact BK786.out) hb);have n2_:=Aside0.mk (below_step (by repeat(first|(with_reducible first|exact HB.out|apply below_alloc|apply pw_below_drewN|apply below_drew1|refine below_set ?_ GE786.out)|exact HB.out)) hb);clear HO_10;clear BK786;clear HB;have HO_10:=n0_;have BK786:=n1_;have HB:=n2_;clear n0_ n1_ n2_;(try clear hb);(try clear hb2);(try clear hk);(try clear hi))|((with_reducible refine gate_callee (f:=25) rfl ?_);refine goesL_ (some 51) rfl rfl Try.func25 (by kernel_rfl) rfl #[] rfl (by (try simp only [List.map_toArray,List.map_cons,List.map_nil]);first|done|rfl|(simp only [List.length_drop,List.length_take];rfl)) ?_;(with_reducible refine (hornbeamlaw11_fixed.calls kj13  false _ A41.out).mono ?_);rintro e w49 ⟨rfl,hb⟩;refine ⟨_,rfl,?_⟩;have n0_:=Aside0.mk (Kd.R_below (by (with_reducible repeat(first|apply Kd.R_alloc|apply Kd.R_drewN|apply Kd.R_drew));exact HO_10.out) hb);have n1_:=Aside0.mk (blk_below (g:=gb786) (o:=.cells #[.int .i64 a0_0,.int .i64 a0_1,.slice A0_2 l0_2.length c0_2] 62 (0,0)) (by (with_reducible repeat(first|refine blk_drewN ?_ _|refine blk_drew ?_|refine blk_alloc ?_ _));exact BK786.out) hb);have n2_:=Aside0.mk (below_step (by repeat(first|(with_reducible first|exact HB.out|apply below_alloc|apply pw_below_drewN|apply below_drew1|refine below_set ?_ GE786.out)|exact HB.out)) hb);clear HO_10;clear BK786;clear HB;have HO_10:=n0_;have BK786:=n1_;have HB:=n2_;clear n0_ n1_ n2_;(try clear hb);(try clear hb2);(try clear hk);(try clear hi)))
       go_ret
       exact ⟨by first|rfl|(simp [errW_none,errW_some] <;> rfl)|(simp [*,errW_none,errW_some] <;> rfl),by repeat(first|(with_reducible first|exact HB.out|apply below_alloc|apply pw_below_drewN|apply below_drew1|refine below_set ?_ GE786.out)|exact HB.out)⟩
     ·rw [if_neg c40] at H
      have c40b0 : decide (t797 < 0) = false:=decide_eq_false c40
      clear c40
      have H':=Aside0.mk H
      clear H
      have hcz50_0 : wc.cell? ⟨gb786,0,none⟩ = some (.int .i64 a0_0):=(blk_cell BK786.out 0).trans rfl
      have hcz50_1 : wc.cell? ⟨gb786,1,none⟩ = some (.int .i64 a0_1):=(blk_cell BK786.out 1).trans rfl
      have hcz50_2 : wc.cell? ⟨gb786,2,none⟩ = some (.slice A0_2 l0_2.length c0_2):=(blk_cell BK786.out 2).trans rfl
      have hfz50_0:=blk_frozen BK786.out 0
      have hfz50_1:=blk_frozen BK786.out 1
      have hfz50_2:=blk_frozen BK786.out 2
      go_wp2_with (first|((with_reducible refine gate_callee (f:=40) rfl ?_);refine goesL_ (some 49) rfl rfl Try.func40 (by kernel_rfl) rfl #[.agg #[.int .i64 a0_0,.int .i64 a0_1,.slice A0_2 l0_2.length c0_2],.int .i64 a1,.int .i64 0] rfl (by (try simp only [List.map_toArray,List.map_cons,List.map_nil]);first|done|rfl|(simp only [List.length_drop,List.length_take];rfl)) ?_;(with_reducible refine (hornbeamref11_Cell.calls a0_0 a0_1 _ _ l0_2 a1 0 t797 _ ?side1 ?side2 A39.out).mono ?_);(case side1=>repeat(first|exact (Kd.C_below HR0_2.out HB.out)|(with_reducible refine Kd.C_alloc ?_ _)|(with_reducible refine Kd.C_drewN ?_ _)|(with_reducible refine Kd.C_drew ?_)));(case side2=>exact HC0_2.out);rintro e w51 ⟨rfl,hb⟩;refine ⟨_,rfl,?_⟩;have n0_:=Aside0.mk (Kd.R_below (by (with_reducible repeat(first|apply Kd.R_alloc|apply Kd.R_drewN|apply Kd.R_drew));exact HO_10.out) hb);have n1_:=Aside0.mk (blk_below (g:=gb786) (o:=.cells #[.int .i64 a0_0,.int .i64 a0_1,.slice A0_2 l0_2.length c0_2] 62 (0,0)) (by (with_reducible repeat(first|refine blk_drewN ?_ _|refine blk_drew ?_|refine blk_alloc ?_ _));exact BK786.out) hb);have n2_:=Aside0.mk (below_step (by repeat(first|(with_reducible first|exact HB.out|apply below_alloc|apply pw_below_drewN|apply below_drew1|refine below_set ?_ GE786.out)|exact HB.out)) hb);clear HO_10;clear BK786;clear HB;have HO_10:=n0_;have BK786:=n1_;have HB:=n2_;clear n0_ n1_ n2_;(try clear hb);(try clear hb2);(try clear hk);(try clear hi);obtain ⟨Ao52,co52,eo52⟩:=Kd.R_slice HO_10.out;subst eo52))
      go_loopg [59] kj13 (fun kq v59 w'=>∃ (x59_2 : Int),v59 = .int .i64 x59_2 ∧ Aside0 (hornbeamlaw11_BinsCells.l0 kq a1 t792 t792 (t792.length : Int) x59_2 a0_0 a0_1 l0_2 = some r) ∧ Aside0 (kq ≤ kj13) ∧ Aside0 (Kd.R (Kd.int .i64) 3 w' w.heap.size (fun _=>True) (.slice Ao52 t792.length co52) t792) ∧ Aside0 (Kd.R (Kd.int .i64) 3 w' w.heap.size (fun _=>True) (.slice Ao52 t792.length co52) t792) ∧ Aside0 (w'.heap[gb786]? = some (.cells #[.int .i64 a0_0,.int .i64 a0_1,(.slice A0_2 l0_2.length c0_2)] 62 (0,0))) ∧ Aside0 (Below w.heap.size w w'))
      case atStart=>exact ⟨(0),(by first|rfl|(simp;done)|(simp [*];done)),H',⟨Nat.le_refl _⟩,⟨by (with_reducible repeat(first|apply Kd.R_alloc|apply Kd.R_drewN|apply Kd.R_drew));exact HO_10.out⟩,⟨by (with_reducible repeat(first|apply Kd.R_alloc|apply Kd.R_drewN|apply Kd.R_drew));exact HO_10.out⟩,⟨by (with_reducible repeat(first|refine blk_drewN ?_ _|refine blk_drew ?_|refine blk_alloc ?_ _));exact BK786.out⟩,⟨by repeat(first|(with_reducible first|exact HB.out|apply below_alloc|apply pw_below_drewN|apply below_drew1|refine below_set ?_ GE786.out)|exact HB.out)⟩⟩
      case round =>
       clear H'
       try clear c1
       try clear c2
       try clear p2
       try clear c3
       try clear c4
       try clear c11
       try clear c25
       try clear c26
       try clear c26b0
       try clear c26b1
       try clear c26b2
       try clear c30
       try clear c30b0
       try clear c30b1
       try clear c30b2
       try clear c32
       try clear c35
       try clear c37
       try clear c38
       try clear c40
       try clear c40b0
       try clear c42
       try clear hcz16_0
       try clear hcz16_1
       try clear hcz16_2
       try clear hcz18_0
       try clear hcz18_1
       try clear hcz18_2
       try clear hcz20_0
       try clear hcz20_1
       try clear hcz20_2
       try clear hcz22_0
       try clear hcz22_1
       try clear hcz22_2
       try clear hcz43_0
       try clear hcz43_1
       try clear hcz43_2
       try clear hcz47_0
       try clear hcz47_1
       try clear hcz47_2
       try clear hcz50_0
       try clear hcz50_1
       try clear hcz50_2
       try clear hfz16_0
       try clear hfz16_1
       try clear hfz16_2
       try clear hfz18_0
       try clear hfz18_1
       try clear hfz18_2
       try clear hfz20_0
       try clear hfz20_1
       try clear hfz20_2
       try clear hfz22_0
       try clear hfz22_1
       try clear hfz22_2
       try clear hfz43_0
       try clear hfz43_1
       try clear hfz43_2
       try clear hfz47_0
       try clear hfz47_1
       try clear hfz47_2
       try clear hfz50_0
       try clear hfz50_1
       try clear hfz50_2
       try clear p2
       obtain ⟨x59_2,rfl,HA,HK2,HO_10,HO_57,BK786,HB⟩:=hrel
       cases gk with
       | zero=>exact absurd HA.out (by simp [hornbeamlaw11_BinsCells.l0])
       | succ k2 =>
        have H:=HA.out
        clear HA
        simp only [hornbeamlaw11_BinsCells.l0] at H
        by_cases c53 : x59_2 < (t792.length : Int)
        ·rw [if_pos c53] at H
         have c53b0 : decide (x59_2 < (t792.length : Int)) = true:=decide_eq_true c53
         clear c53
         by_cases c54 : 0 ≤ x59_2
         ·rw [if_pos c54] at H
          have c54b0 : decide (0 ≤ x59_2) = true:=decide_eq_true c54
          clear c54
          by_cases c55 : x59_2 < (t792.length : Int)
          ·rw [if_pos c55] at H
           have c55b0 : decide (x59_2 < (t792.length : Int)) = true:=decide_eq_true c55
           clear c55
           replace H:=Option.bind_eq_some_iff.mp H
           obtain ⟨t800,A560,H⟩:=H
           replace H : (if (rd t792 x59_2) = t800 then (hornbeamlaw11_BinsCells.l0 k2 a1 t792 t792 (t792.length : Int) (wrap64 (x59_2 + 1)) a0_0 a0_1 l0_2) else (some false)) = some r:=H
           have A56:=Aside0.mk A560
           clear A560
           by_cases c57 : (rd t792 x59_2) = t800
           ·rw [if_pos c57] at H
            have c57b0 : ((rd t792 x59_2) == t800) = true:=beq_iff_eq.mpr c57
            have c57b1 : ((rd t792 x59_2) != t800) = false:=bne_eq_false_iff_eq.mpr c57
            clear c57
            have H':=Aside0.mk H
            clear H
            have p799 : 0 ≤ (x59_2 : Int):=of_decide_eq_true (by first|(with_reducible assumption)|assumption)
            have q799 : x59_2 < (t792.length : Int):=of_decide_eq_true (by first|(with_reducible assumption)|assumption)
            obtain ⟨ad799,e799,hx799_0⟩:=Kd.at_int (Kd.R_reads' HO_57.out).2.2 x59_2 p799 q799
            cases e799
            replace p799:=eq_true p799
            replace q799:=eq_true q799
            have hcz58_0 : wr.cell? ⟨gb786,0,none⟩ = some (.int .i64 a0_0):=(blk_cell BK786.out 0).trans rfl
            have hcz58_1 : wr.cell? ⟨gb786,1,none⟩ = some (.int .i64 a0_1):=(blk_cell BK786.out 1).trans rfl
            have hcz58_2 : wr.cell? ⟨gb786,2,none⟩ = some (.slice A0_2 l0_2.length c0_2):=(blk_cell BK786.out 2).trans rfl
            have hfz58_0:=blk_frozen BK786.out 0
            have hfz58_1:=blk_frozen BK786.out 1
            have hfz58_2:=blk_frozen BK786.out 2
            go_wp2_with (first|((with_reducible refine gate_callee (f:=40) rfl ?_);refine goesL_ (some 68) rfl rfl Try.func40 (by kernel_rfl) rfl #[.agg #[.int .i64 a0_0,.int .i64 a0_1,.slice A0_2 l0_2.length c0_2],.int .i64 a1,.int .i64 x59_2] rfl (by (try simp only [List.map_toArray,List.map_cons,List.map_nil]);first|done|rfl|(simp only [List.length_drop,List.length_take];rfl)) ?_;(with_reducible refine (hornbeamref11_Cell.calls a0_0 a0_1 _ _ l0_2 a1 x59_2 t800 _ ?side1 ?side2 A56.out).mono ?_);(case side1=>repeat(first|exact (Kd.C_below HR0_2.out HB.out)|(with_reducible refine Kd.C_alloc ?_ _)|(with_reducible refine Kd.C_drewN ?_ _)|(with_reducible refine Kd.C_drew ?_)));(case side2=>exact HC0_2.out);rintro e w59 ⟨rfl,hb⟩;refine ⟨_,rfl,?_⟩;have n0_:=Aside0.mk (Kd.R_below (by (with_reducible repeat(first|apply Kd.R_alloc|apply Kd.R_drewN|apply Kd.R_drew));exact HO_10.out) hb);have n1_:=Aside0.mk (Kd.R_below (by (with_reducible repeat(first|apply Kd.R_alloc|apply Kd.R_drewN|apply Kd.R_drew));exact HO_57.out) hb);have n2_:=Aside0.mk (blk_below (g:=gb786) (o:=.cells #[.int .i64 a0_0,.int .i64 a0_1,.slice A0_2 l0_2.length c0_2] 62 (0,0)) (by (with_reducible repeat(first|refine blk_drewN ?_ _|refine blk_drew ?_|refine blk_alloc ?_ _));exact BK786.out) hb);have n3_:=Aside0.mk (below_step (by repeat(first|(with_reducible first|exact HB.out|apply below_alloc|apply pw_below_drewN|apply below_drew1|refine below_set ?_ GE786.out)|exact HB.out)) hb);clear HO_10;clear HO_57;clear BK786;clear HB;have HO_10:=n0_;have HO_57:=n1_;have BK786:=n2_;have HB:=n3_;clear n0_ n1_ n2_ n3_;(try clear hb);(try clear hb2);(try clear hk);(try clear hi)))
            go_roundg k2
            case measure=>have:=HJ13.out;have:=HK2.out;omega
            case rel=>exact ⟨(wrap64 (x59_2 + 1)),(by first|rfl|(simp;done)|(simp [*];done)),H',⟨by have:=HJ13.out;have:=HK2.out;omega⟩,⟨by (with_reducible repeat(first|apply Kd.R_alloc|apply Kd.R_drewN|apply Kd.R_drew));exact HO_10.out⟩,⟨by (with_reducible repeat(first|apply Kd.R_alloc|apply Kd.R_drewN|apply Kd.R_drew));exact HO_57.out⟩,⟨by (with_reducible repeat(first|refine blk_drewN ?_ _|refine blk_drew ?_|refine blk_alloc ?_ _));exact BK786.out⟩,⟨by repeat(first|(with_reducible first|exact HB.out|apply below_alloc|apply pw_below_drewN|apply below_drew1|refine below_set ?_ GE786.out)|exact HB.out)⟩⟩
           ·rw [if_neg c57] at H
            have c57b0 : ((rd t792 x59_2) == t800) = false:=beq_eq_false_iff_ne.mpr c57
            have c57b1 : ((rd t792 x59_2) != t800) = true:=bne_iff_ne.mpr c57
            obtain rfl:=Option.some.inj H
            have p799 : 0 ≤ (x59_2 : Int):=of_decide_eq_true (by first|(with_reducible assumption)|assumption)
            have q799 : x59_2 < (t792.length : Int):=of_decide_eq_true (by first|(with_reducible assumption)|assumption)
            obtain ⟨ad799,e799,hx799_0⟩:=Kd.at_int (Kd.R_reads' HO_57.out).2.2 x59_2 p799 q799
            cases e799
            replace p799:=eq_true p799
            replace q799:=eq_true q799
            have hcz60_0 : wr.cell? ⟨gb786,0,none⟩ = some (.int .i64 a0_0):=(blk_cell BK786.out 0).trans rfl
            have hcz60_1 : wr.cell? ⟨gb786,1,none⟩ = some (.int .i64 a0_1):=(blk_cell BK786.out 1).trans rfl
            have hcz60_2 : wr.cell? ⟨gb786,2,none⟩ = some (.slice A0_2 l0_2.length c0_2):=(blk_cell BK786.out 2).trans rfl
            have hfz60_0:=blk_frozen BK786.out 0
            have hfz60_1:=blk_frozen BK786.out 1
            have hfz60_2:=blk_frozen BK786.out 2
            go_wp2_with (first|((with_reducible refine gate_callee (f:=40) rfl ?_);refine goesL_ (some 68) rfl rfl Try.func40 (by kernel_rfl) rfl #[.agg #[.int .i64 a0_0,.int .i64 a0_1,.slice A0_2 l0_2.length c0_2],.int .i64 a1,.int .i64 x59_2] rfl (by (try simp only [List.map_toArray,List.map_cons,List.map_nil]);first|done|rfl|(simp only [List.length_drop,List.length_take];rfl)) ?_;(with_reducible refine (hornbeamref11_Cell.calls a0_0 a0_1 _ _ l0_2 a1 x59_2 t800 _ ?side1 ?side2 A56.out).mono ?_);(case side1=>repeat(first|exact (Kd.C_below HR0_2.out HB.out)|(with_reducible refine Kd.C_alloc ?_ _)|(with_reducible refine Kd.C_drewN ?_ _)|(with_reducible refine Kd.C_drew ?_)));(case side2=>exact HC0_2.out);rintro e w61 ⟨rfl,hb⟩;refine ⟨_,rfl,?_⟩;have n0_:=Aside0.mk (Kd.R_below (by (with_reducible repeat(first|apply Kd.R_alloc|apply Kd.R_drewN|apply Kd.R_drew));exact HO_10.out) hb);have n1_:=Aside0.mk (Kd.R_below (by (with_reducible repeat(first|apply Kd.R_alloc|apply Kd.R_drewN|apply Kd.R_drew));exact HO_57.out) hb);have n2_:=Aside0.mk (blk_below (g:=gb786) (o:=.cells #[.int .i64 a0_0,.int .i64 a0_1,.slice A0_2 l0_2.length c0_2] 62 (0,0)) (by (with_reducible repeat(first|refine blk_drewN ?_ _|refine blk_drew ?_|refine blk_alloc ?_ _));exact BK786.out) hb);have n3_:=Aside0.mk (below_step (by repeat(first|(with_reducible first|exact HB.out|apply below_alloc|apply pw_below_drewN|apply below_drew1|refine below_set ?_ GE786.out)|exact HB.out)) hb);clear HO_10;clear HO_57;clear BK786;clear HB;have HO_10:=n0_;have HO_57:=n1_;have BK786:=n2_;have HB:=n3_;clear n0_ n1_ n2_ n3_;(try clear hb);(try clear hb2);(try clear hk);(try clear hi)))
            go_ret
            exact ⟨by first|rfl|(simp [errW_none,errW_some] <;> rfl)|(simp [*,errW_none,errW_some] <;> rfl),by repeat(first|(with_reducible first|exact HB.out|apply below_alloc|apply pw_below_drewN|apply below_drew1|refine below_set ?_ GE786.out)|exact HB.out)⟩
          ·rw [if_neg c55] at H
           exact absurd H (by simp)
         ·rw [if_neg c54] at H
          exact absurd H (by simp)
        ·rw [if_neg c53] at H
         have c53b0 : decide (x59_2 < (t792.length : Int)) = false:=decide_eq_false c53
         clear c53
         replace H:=Option.bind_eq_some_iff.mp H
         obtain ⟨t801,A620,H⟩:=H
         replace H : (if t801 = true then (some ((t792.length : Int) == a0_1)) else (some false)) = some r:=H
         have A62:=Aside0.mk A620
         clear A620
         by_cases c63 : t801 = true
         ·subst c63
          have H1 : (some ((t792.length : Int) == a0_1)) = some r:=by rw [if_pos rfl] at H;exact H
          clear H
          have H:=H1
          clear H1
          obtain rfl:=Option.some.inj H
          go_wp2_with (first|((with_reducible refine gate_callee (f:=25) rfl ?_);refine goesL_ (some 71) rfl rfl Try.func25 (by kernel_rfl) rfl #[] rfl (by (try simp only [List.map_toArray,List.map_cons,List.map_nil]);first|done|rfl|(simp only [List.length_drop,List.length_take];rfl)) ?_;(with_reducible refine (hornbeamlaw11_fixed.calls k2  true _ A62.out).mono ?_);rintro e w64 ⟨rfl,hb⟩;refine ⟨_,rfl,?_⟩;have n0_:=Aside0.mk (Kd.R_below (by (with_reducible repeat(first|apply Kd.R_alloc|apply Kd.R_drewN|apply Kd.R_drew));exact HO_10.out) hb);have n1_:=Aside0.mk (Kd.R_below (by (with_reducible repeat(first|apply Kd.R_alloc|apply Kd.R_drewN|apply Kd.R_drew));exact HO_57.out) hb);have n2_:=Aside0.mk (blk_below (g:=gb786) (o:=.cells #[.int .i64 a0_0,.int .i64 a0_1,.slice A0_2 l0_2.length c0_2] 62 (0,0)) (by (with_reducible repeat(first|refine blk_drewN ?_ _|refine blk_drew ?_|refine blk_alloc ?_ _));exact BK786.out) hb);have n3_:=Aside0.mk (below_step (by repeat(first|(with_reducible first|exact HB.out|apply below_alloc|apply pw_below_drewN|apply below_drew1|refine below_set ?_ GE786.out)|exact HB.out)) hb);clear HO_10;clear HO_57;clear BK786;clear HB;have HO_10:=n0_;have HO_57:=n1_;have BK786:=n2_;have HB:=n3_;clear n0_ n1_ n2_ n3_;(try clear hb);(try clear hb2);(try clear hk);(try clear hi);have hcz65_0 : w64.cell? ⟨gb786,0,none⟩ = some (.int .i64 a0_0):=(blk_cell BK786.out 0).trans rfl;have hcz65_1 : w64.cell? ⟨gb786,1,none⟩ = some (.int .i64 a0_1):=(blk_cell BK786.out 1).trans rfl;have hcz65_2 : w64.cell? ⟨gb786,2,none⟩ = some (.slice A0_2 l0_2.length c0_2):=(blk_cell BK786.out 2).trans rfl;have hfz65_0:=blk_frozen BK786.out 0;have hfz65_1:=blk_frozen BK786.out 1;have hfz65_2:=blk_frozen BK786.out 2))
          go_ret
          exact ⟨by first|rfl|(simp [errW_none,errW_some] <;> rfl)|(simp [*,errW_none,errW_some] <;> rfl),by repeat(first|(with_reducible first|exact HB.out|apply below_alloc|apply pw_below_drewN|apply below_drew1|refine below_set ?_ GE786.out)|exact HB.out)⟩
         ·replace c63:=Bool.eq_false_iff.mpr c63
          subst c63
          have H1 : (some false) = some r:=by rw [if_neg (show ¬ (false = true) by decide)] at H;exact H
          clear H
          have H:=H1
          clear H1
          obtain rfl:=Option.some.inj H
          go_wp2_with (first|((with_reducible refine gate_callee (f:=25) rfl ?_);refine goesL_ (some 71) rfl rfl Try.func25 (by kernel_rfl) rfl #[] rfl (by (try simp only [List.map_toArray,List.map_cons,List.map_nil]);first|done|rfl|(simp only [List.length_drop,List.length_take];rfl)) ?_;(with_reducible refine (hornbeamlaw11_fixed.calls k2  false _ A62.out).mono ?_);rintro e w66 ⟨rfl,hb⟩;refine ⟨_,rfl,?_⟩;have n0_:=Aside0.mk (Kd.R_below (by (with_reducible repeat(first|apply Kd.R_alloc|apply Kd.R_drewN|apply Kd.R_drew));exact HO_10.out) hb);have n1_:=Aside0.mk (Kd.R_below (by (with_reducible repeat(first|apply Kd.R_alloc|apply Kd.R_drewN|apply Kd.R_drew));exact HO_57.out) hb);have n2_:=Aside0.mk (blk_below (g:=gb786) (o:=.cells #[.int .i64 a0_0,.int .i64 a0_1,.slice A0_2 l0_2.length c0_2] 62 (0,0)) (by (with_reducible repeat(first|refine blk_drewN ?_ _|refine blk_drew ?_|refine blk_alloc ?_ _));exact BK786.out) hb);have n3_:=Aside0.mk (below_step (by repeat(first|(with_reducible first|exact HB.out|apply below_alloc|apply pw_below_drewN|apply below_drew1|refine below_set ?_ GE786.out)|exact HB.out)) hb);clear HO_10;clear HO_57;clear BK786;clear HB;have HO_10:=n0_;have HO_57:=n1_;have BK786:=n2_;have HB:=n3_;clear n0_ n1_ n2_ n3_;(try clear hb);(try clear hb2);(try clear hk);(try clear hi)))
          go_ret
          exact ⟨by first|rfl|(simp [errW_none,errW_some] <;> rfl)|(simp [*,errW_none,errW_some] <;> rfl),by repeat(first|(with_reducible first|exact HB.out|apply below_alloc|apply pw_below_drewN|apply below_drew1|refine below_set ?_ GE786.out)|exact HB.out)⟩

/-- What is left to prove of hornbeamlaw11_BinsCells. -/
def hornbeamlaw11_BinsCells.Pure : Prop:=∀ (a0_0 : Int) (a0_1 : Int) (l0_2 : List Int) (a1 : Int) (a2 : Int),((((Lit.int .i64 a0_0).wf = true) ∧ (((Lit.int .i64 a0_1).wf = true) ∧ ((l0_2.length ≤ 9223372036854775807 ∧ l0_2.length * 2 ≤ 140737488351232 ∧ ∀ x ∈ l0_2,(Lit.int .u16 x).wf = true))))) → ((Lit.int .i64 a1).wf = true) → ((Lit.int .i64 a2).wf = true) → ∃ k,hornbeamlaw11_BinsCells.f k a0_0 a0_1 l0_2 a1 a2 = some true

end Go.Proofs.Ytnagfbadjbkhmaa.PA
