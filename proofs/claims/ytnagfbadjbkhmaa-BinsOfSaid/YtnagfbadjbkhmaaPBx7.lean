import Derived.Test.YtnagfbadjbkhmaaPBx0
import Derived.Test.YtnagfbadjbkhmaaPBx6
namespace Go.Proofs.Ytnagfbadjbkhmaa.PB
open Go.RowKit Go.Proofs.YtnagfbadjbkhmaaW.PrintWords Go.Proofs.YtnagfbadjbkhmaaW.PrintLast Go.Proofs.YtnagfbadjbkhmaaW.PrintMore
attribute [local go_sem] max2_int min2_int max_two min_two max_three min_three max_four min_four   -- for this text's walks alone
attribute [local go_sem high] Flt.fold_eq Flt.fold_ne Flt.fold_lt Flt.fold_gt Flt.fold_le Flt.fold_ge Flt.run_bits Flt.run_frombits
set_option linter.unusedVariables false
set_option linter.unusedSimpArgs false

/-! ### bins_Turn: function 33 -/
mutual
def bins_Turn.j0 : Nat → Int → List Int → Bool → Int → Int → List Int → Option (Int × Int × List Int × Int)
 | 0,_,_,_,_,_,_=>none
 | k + 1,x1,x2,x30,x191000,x191001,x191002=>if x30 = true then (some (0,0,([] : List Int),8)) else ((slices_Clone_uint16_uint16.f x191002).bind fun t195=>(bins_Turn.l0 k x1 x2 (x2.length : Int) 0 x191000 x191001 x191002 x191000 x191001 t195))
def bins_Turn.l0 : Nat → Int → List Int → Int → Int → Int → Int → List Int → Int → Int → List Int → Option (Int × Int × List Int × Int)
 | 0,_,_,_,_,_,_,_,_,_,_=>none
 | k + 1,x1,x37,x38,x39,x191000,x191001,x191002,x195000,x195001,x195002=>if x39 < x38 then (if 0 ≤ x39 then (if x39 < (x37.length : Int) then (if 0 ≤ (wrap64 ((wrap64 (x1 * x191000)) + (rd x37 x39))) then (if (wrap64 ((wrap64 (x1 * x191000)) + (rd x37 x39))) < (x191002.length : Int) then (if 0 ≤ (wrap64 ((wrap64 (x1 * x191000)) + x39)) then (if (wrap64 ((wrap64 (x1 * x191000)) + x39)) < (x195002.length : Int) then (bins_Turn.l0 k x1 x37 x38 (wrap64 (x39 + 1)) x191000 x191001 x191002 x195000 x195001 (x195002.set ((wrap64 ((wrap64 (x1 * x191000)) + x39)) : Int).toNat (rd x191002 (wrap64 ((wrap64 (x1 * x191000)) + (rd x37 x39)))))) else (none)) else (none)) else (none)) else (none)) else (none)) else (none)) else (some (x195000,x195001,x195002,0))
end
def bins_Turn.f (k : Nat) (a0_0 : Int) (a0_1 : Int) (l0_2 : List Int) (a1 : Int) (l2 : List Int) : Option (Int × Int × List Int × Int):=(bins_Right.f a0_0 a0_1 l0_2).bind fun t192=>(if t192 = true then (if a1 < 0 then (bins_Turn.j0 k a1 l2 true a0_0 a0_1 l0_2) else (if a1 ≥ a0_1 then (bins_Turn.j0 k a1 l2 true a0_0 a0_1 l0_2) else ((bins_permutes.f l2 a0_0).bind fun t193=>(bins_Turn.j0 k a1 l2 (!t193) a0_0 a0_1 l0_2)))) else (bins_Turn.j0 k a1 l2 true a0_0 a0_1 l0_2))
theorem bins_Turn.mono_l : ∀ k,(∀ y0 y1 y2 y3 y4 y5,LeO (bins_Turn.j0 k y0 y1 y2 y3 y4 y5) (bins_Turn.j0 (k + 1) y0 y1 y2 y3 y4 y5)) ∧ (∀ y0 y1 y2 y3 y4 y5 y6 y7 y8 y9,LeO (bins_Turn.l0 k y0 y1 y2 y3 y4 y5 y6 y7 y8 y9) (bins_Turn.l0 (k + 1) y0 y1 y2 y3 y4 y5 y6 y7 y8 y9))
 | 0=>⟨fun _ _ _ _ _ _ r h=>by simp [bins_Turn.j0] at h,fun _ _ _ _ _ _ _ _ _ _ r h=>by simp [bins_Turn.l0] at h⟩
 | k + 1=>by
  obtain ⟨ih0,ih1⟩:=bins_Turn.mono_l k
  refine ⟨?_,?_⟩
  ·intro y0 y1 y2 y3 y4 y5
   unfold bins_Turn.j0
   repeat' first
   | (with_reducible exact ih0 _ _ _ _ _ _)
   | (with_reducible exact ih1 _ _ _ _ _ _ _ _ _ _)
   | (with_reducible exact LeO.refl _)
   | (with_reducible exact LeO.none _)
   | (with_reducible refine LeO.ite ?_ ?_)
   | (with_reducible refine LeO.bind ?_ (fun _=>?_))
   | exact ih0 _ _ _ _ _ _
   | exact ih1 _ _ _ _ _ _ _ _ _ _
   | exact LeO.none _
   | refine LeO.ite ?_ ?_
   | refine LeO.bind ?_ (fun _=>?_)
  ·intro y0 y1 y2 y3 y4 y5 y6 y7 y8 y9
   unfold bins_Turn.l0
   repeat' first
   | (with_reducible exact ih0 _ _ _ _ _ _)
   | (with_reducible exact ih1 _ _ _ _ _ _ _ _ _ _)
   | (with_reducible exact LeO.refl _)
   | (with_reducible exact LeO.none _)
   | (with_reducible refine LeO.ite ?_ ?_)
   | (with_reducible refine LeO.bind ?_ (fun _=>?_))
   | exact ih0 _ _ _ _ _ _
   | exact ih1 _ _ _ _ _ _ _ _ _ _
   | exact LeO.none _
   | refine LeO.ite ?_ ?_
   | refine LeO.bind ?_ (fun _=>?_)
theorem bins_Turn.mono : ∀ a0 a1 a2 a3 a4 k,LeO (bins_Turn.f k a0 a1 a2 a3 a4) (bins_Turn.f (k + 1) a0 a1 a2 a3 a4):=by
 intro a0 a1 a2 a3 a4 k
 obtain ⟨ih0,ih1⟩:=bins_Turn.mono_l k
 unfold bins_Turn.f
 repeat' first
   | (with_reducible exact ih0 _ _ _ _ _ _)
   | (with_reducible exact ih1 _ _ _ _ _ _ _ _ _ _)
   | (with_reducible exact LeO.refl _)
   | (with_reducible exact LeO.none _)
   | (with_reducible refine LeO.ite ?_ ?_)
   | (with_reducible refine LeO.bind ?_ (fun _=>?_))
   | exact ih0 _ _ _ _ _ _
   | exact ih1 _ _ _ _ _ _ _ _ _ _
   | exact LeO.none _
   | refine LeO.ite ?_ ?_
   | refine LeO.bind ?_ (fun _=>?_)
def bins_Turn.T8 : Bool × List (List Nat × List Nat):=(true,[([],[]),([0],[0]),([],[]),([],[]),([3],[3]),([2,4],[2,4]),([],[]),([5,6],[5,6]),([],[]),([8],[8]),([],[]),([],[]),([11],[11]),([10,12],[10,12]),([],[]),([13,14],[13,14]),([9,15],[9,15]),([16],[16]),([1,7,0,1,2,3,4,5,6,7,8,9,10,11,12,13,14,15,16,17],[1,7]),([18,17,0,1,2,3,4,5,6,7,8,9,10,11,12,13,14,15,16,17],[17,18])])
def bins_Turn.B8 : List Nat:=[0,1,0,0,8,28,0,124,0,256,0,0,2048,7168,0,31744,65280,130816,262143,524287]
theorem bins_Turn.tab8 : rtab .any (opsOf Try.f33 8) = bins_Turn.T8:=by kernel_rfl
theorem bins_Turn.bits8 : waitsOk bins_Turn.T8.2 bins_Turn.B8 = true:=by kernel_rfl
set_option maxHeartbeats 8000000 in
set_option maxRecDepth 100000 in
theorem bins_Turn.calls (k : Nat) (a0_0 : Int) (a0_1 : Int) (A0_2 : Option Addr) (c0_2 : Nat) (l0_2 : List Int) (a1 : Int) (A2 : Option Addr) (c2 : Nat) (l2 : List Int) (r1 : Int) (r2 : Int) (r3 : List Int) (r4 : Int) (w : World) (hr0_2 : Kd.C (Kd.int .u16) w A0_2 l0_2.length l0_2) (hc0_2 : l0_2.length ≤ c0_2) (hr2 : Kd.C (Kd.int .i64) w A2 l2.length l2) (hc2 : l2.length ≤ c2) (h : bins_Turn.f k a0_0 a0_1 l0_2 a1 l2 = some (r1,r2,r3,r4)) :
  Calls Try.prog 33 #[.agg #[.int .i64 a0_0,.int .i64 a0_1,.slice A0_2 l0_2.length c0_2],.int .i64 a1,.slice A2 l2.length c2] w fun e w'=>∃ v2_ : Value,e = .returned (.tuple #[.agg #[.int .i64 r1,.int .i64 r2,v2_],.int .i64 r4]) ∧ Kd.R (Kd.int .u16) 53 w' w.heap.size (fun _=>True) v2_ r3 ∧ Below w.heap.size w w':=by
 have hu62:=Try.underlying62
 have HR0_2:=Aside0.mk hr0_2
 have HC0_2:=Aside0.mk hc0_2
 clear hr0_2 hc0_2
 have HR2:=Aside0.mk hr2
 have HC2:=Aside0.mk hc2
 clear hr2 hc2
 have HB:=Aside0.mk (Below.refl w.heap.size w)
 have H : ((bins_Right.f a0_0 a0_1 l0_2).bind fun t192=>(if t192 = true then (if a1 < 0 then (bins_Turn.j0 k a1 l2 true a0_0 a0_1 l0_2) else (if a1 ≥ a0_1 then (bins_Turn.j0 k a1 l2 true a0_0 a0_1 l0_2) else ((bins_permutes.f l2 a0_0).bind fun t193=>(bins_Turn.j0 k a1 l2 (!t193) a0_0 a0_1 l0_2)))) else (bins_Turn.j0 k a1 l2 true a0_0 a0_1 l0_2))) = some (r1,r2,r3,r4):=h
 clear h
 have HC4:=Aside0.mk H
 clear H
 go_enter Try.func33,Try.ntmps33
 go_upto_region 1 with (first|((with_reducible refine gate_dst (N:=3) rfl ?_);refine box_event ?hg (N:=3) ?hd (cs:=#[.int .i64 a0_0,.int .i64 a0_1,.slice A0_2 l0_2.length c0_2]) (t:=62) ?hr ?_;(case hd=>rfl);(case hg=>rfl);(case hr=>first|(go_simp;done)|(go_simp;rfl));intro gb190 hg w5 hbox hb;have n0_:=Aside0.mk (below_step (by repeat(first|(with_reducible first|exact HB.out|apply below_alloc|apply pw_below_drewN|apply below_drew1)|exact HB.out)) hb);have n1_:=Aside0.mk (hbox);have n2_:=Aside0.mk ((by rw [hg];exact (below_size (by repeat(first|(with_reducible first|exact HB.out|apply below_alloc|apply pw_below_drewN|apply below_drew1)|exact HB.out))) : w.heap.size ≤ gb190));have n3_:=Aside0.mk ((by rw [hg];exact (below_size (by repeat(first|(with_reducible first|exact HB.out|apply below_alloc|apply pw_below_drewN|apply below_drew1)|exact HB.out))) : w.heap.size ≤ gb190));clear HB;have HB:=n0_;have BK190:=n1_;have GW190:=n2_;have GE190:=n3_;clear n0_ n1_ n2_ n3_;clear hb hbox hg)|((with_reducible refine gate_dst (N:=6) rfl ?_);refine box_event ?hg (N:=6) ?hd (cs:=#[.int .i64 0,.int .i64 0,.slice none 0 0]) (t:=62) ?hr ?_;(case hd=>rfl);(case hg=>rfl);(case hr=>first|(go_simp;done)|(go_simp;rfl));intro gb191 hg w6 hbox hb;have n0_:=Aside0.mk (blk_below (g:=gb190) (o:=.cells #[.int .i64 a0_0,.int .i64 a0_1,.slice A0_2 l0_2.length c0_2] 62 (0,0)) (by (with_reducible repeat(first|refine blk_drewN ?_ _|refine blk_drew ?_|refine blk_alloc ?_ _));exact BK190.out) hb);have n1_:=Aside0.mk (below_step (by repeat(first|(with_reducible first|exact HB.out|apply below_alloc|apply pw_below_drewN|apply below_drew1|refine below_set ?_ GE190.out)|exact HB.out)) hb);have n2_:=Aside0.mk (hbox);have n3_:=Aside0.mk ((by rw [hg];exact (below_size (by repeat(first|(with_reducible first|exact HB.out|apply below_alloc|apply pw_below_drewN|apply below_drew1|refine below_set ?_ GE190.out)|exact HB.out))) : w.heap.size ≤ gb191));have n4_:=Aside0.mk ((by rw [hg];exact (below_size (by repeat(first|(with_reducible first|exact HB.out|apply below_alloc|apply pw_below_drewN|apply below_drew1|refine below_set ?_ GE190.out)|exact HB.out))) : w.heap.size ≤ gb191));have n5_:=Aside0.mk ((by rw [hg];exact Nat.ne_of_lt (blk_lt (g:=gb190) (o:=.cells #[.int .i64 a0_0,.int .i64 a0_1,.slice A0_2 l0_2.length c0_2] 62 (0,0)) (by (with_reducible repeat(first|refine blk_drewN ?_ _|refine blk_drew ?_|refine blk_alloc ?_ _));exact BK190.out)) : gb190 ≠ gb191));have n6_:=Aside0.mk ((by rw [hg];exact Nat.ne_of_gt (blk_lt (g:=gb190) (o:=.cells #[.int .i64 a0_0,.int .i64 a0_1,.slice A0_2 l0_2.length c0_2] 62 (0,0)) (by (with_reducible repeat(first|refine blk_drewN ?_ _|refine blk_drew ?_|refine blk_alloc ?_ _));exact BK190.out)) : gb191 ≠ gb190));clear BK190;clear HB;have BK190:=n0_;have HB:=n1_;have BK191:=n2_;have GW191:=n3_;have GE191:=n4_;have NB190_191:=n5_;have NB191_190:=n6_;clear n0_ n1_ n2_ n3_ n4_ n5_ n6_;clear hb hbox hg))
 (try simp only [Act.put,List.setIfInBounds_toArray,List.set_cons_zero,List.set_cons_succ])
 go_cut [30] (fun v30 wc=>∃ (kq : Nat) (x30_3 : Bool),v30 = .bool x30_3 ∧ Aside0 (bins_Turn.j0 kq a1 l2 x30_3 a0_0 a0_1 l0_2 = some (r1,r2,r3,r4)) ∧ Aside0 (kq ≤ k) ∧ Aside0 (wc.heap[gb190]? = some (.cells #[.int .i64 a0_0,.int .i64 a0_1,(.slice A0_2 l0_2.length c0_2)] 62 (0,0))) ∧ Aside0 (wc.heap[gb191]? = some (.cells #[.int .i64 0,.int .i64 0,(.slice none 0 0)] 62 (0,0))) ∧ Aside0 (Below w.heap.size w wc))
 case first =>
  have H:=HC4.out
  clear HC4
  replace H:=Option.bind_eq_some_iff.mp H
  obtain ⟨t192,A70,H⟩:=H
  replace H : (if t192 = true then (if a1 < 0 then (bins_Turn.j0 k a1 l2 true a0_0 a0_1 l0_2) else (if a1 ≥ a0_1 then (bins_Turn.j0 k a1 l2 true a0_0 a0_1 l0_2) else ((bins_permutes.f l2 a0_0).bind fun t193=>(bins_Turn.j0 k a1 l2 (!t193) a0_0 a0_1 l0_2)))) else (bins_Turn.j0 k a1 l2 true a0_0 a0_1 l0_2)) = some (r1,r2,r3,r4):=H
  have A7:=Aside0.mk A70
  clear A70
  by_cases c8 : t192 = true
  ·subst c8
   have H1 : (if a1 < 0 then (bins_Turn.j0 k a1 l2 true a0_0 a0_1 l0_2) else (if a1 ≥ a0_1 then (bins_Turn.j0 k a1 l2 true a0_0 a0_1 l0_2) else ((bins_permutes.f l2 a0_0).bind fun t193=>(bins_Turn.j0 k a1 l2 (!t193) a0_0 a0_1 l0_2)))) = some (r1,r2,r3,r4):=by rw [if_pos rfl] at H;exact H
   clear H
   have H:=H1
   clear H1
   by_cases c9 : a1 < 0
   ·rw [if_pos c9] at H
    have c9b0 : decide (a1 < 0) = true:=decide_eq_true c9
    clear c9
    (first|rw [c9b0]|(simp only [i64_w,i32_w];rw [c9b0])|skip)
    have H':=Aside0.mk H
    clear H
    have hnb10:=NB190_191.out
    have hnc10:=NB191_190.out
    have hcz11_0 : w6.cell? ⟨gb190,0,none⟩ = some (.int .i64 a0_0):=(blk_cell BK190.out 0).trans rfl
    have hcz11_1 : w6.cell? ⟨gb190,1,none⟩ = some (.int .i64 a0_1):=(blk_cell BK190.out 1).trans rfl
    have hcz11_2 : w6.cell? ⟨gb190,2,none⟩ = some (.slice A0_2 l0_2.length c0_2):=(blk_cell BK190.out 2).trans rfl
    have hfz11_0:=blk_frozen BK190.out 0
    have hfz11_1:=blk_frozen BK190.out 1
    have hfz11_2:=blk_frozen BK190.out 2
    go_wp2_with (first|((with_reducible refine gate_callee (f:=42) rfl ?_);refine goesL_ (some 12) rfl rfl Try.func42 (by kernel_rfl) rfl #[.agg #[.int .i64 a0_0,.int .i64 a0_1,.slice A0_2 l0_2.length c0_2]] rfl (by (try simp only [List.map_toArray,List.map_cons,List.map_nil]);first|done|rfl|(simp only [List.length_drop,List.length_take];rfl)) ?_;(with_reducible refine (bins_Right.calls a0_0 a0_1 _ _ l0_2 true _ ?side1 ?side2 A7.out).mono ?_);(case side1=>repeat(first|exact (Kd.C_below HR0_2.out HB.out)|(with_reducible refine Kd.C_alloc ?_ _)|(with_reducible refine Kd.C_drewN ?_ _)|(with_reducible refine Kd.C_drew ?_)));(case side2=>exact HC0_2.out);rintro e w12 ⟨rfl,hb⟩;refine ⟨_,rfl,?_⟩;have n0_:=Aside0.mk (blk_below (g:=gb190) (o:=.cells #[.int .i64 a0_0,.int .i64 a0_1,.slice A0_2 l0_2.length c0_2] 62 (0,0)) (by (with_reducible repeat(first|refine blk_drewN ?_ _|refine blk_drew ?_|refine blk_alloc ?_ _));exact BK190.out) hb);have n1_:=Aside0.mk (blk_below (g:=gb191) (o:=.cells #[.int .i64 0,.int .i64 0,.slice none 0 0] 62 (0,0)) (by (with_reducible repeat(first|refine blk_drewN ?_ _|refine blk_drew ?_|refine blk_alloc ?_ _));exact BK191.out) hb);have n2_:=Aside0.mk (below_step (by repeat(first|(with_reducible first|exact HB.out|apply below_alloc|apply pw_below_drewN|apply below_drew1|refine below_set ?_ GE190.out|refine below_set ?_ GE191.out)|exact HB.out)) hb);clear BK190;clear BK191;clear HB;have BK190:=n0_;have BK191:=n1_;have HB:=n2_;clear n0_ n1_ n2_;(try clear hb);(try clear hb2);(try clear hk);(try clear hi)))
    go_meet
    case rel=>exact ⟨_,(true),(by first|rfl|(simp;done)|(simp [*];done)),H',⟨by first|omega|exact Nat.le_refl _⟩,⟨by (with_reducible repeat(first|refine blk_drewN ?_ _|refine blk_drew ?_|refine blk_alloc ?_ _));exact BK190.out⟩,⟨by (with_reducible repeat(first|refine blk_drewN ?_ _|refine blk_drew ?_|refine blk_alloc ?_ _));exact BK191.out⟩,⟨by repeat(first|(with_reducible first|exact HB.out|apply below_alloc|apply pw_below_drewN|apply below_drew1|refine below_set ?_ GE190.out|refine below_set ?_ GE191.out)|exact HB.out)⟩⟩
   ·rw [if_neg c9] at H
    have c9b0 : decide (a1 < 0) = false:=decide_eq_false c9
    clear c9
    (first|rw [c9b0]|(simp only [i64_w,i32_w];rw [c9b0])|skip)
    by_cases c13 : a1 ≥ a0_1
    ·rw [if_pos c13] at H
     have c13b0 : decide (a0_1 ≤ a1) = true:=decide_eq_true c13
     clear c13
     have H':=Aside0.mk H
     clear H
     have hnb14:=NB190_191.out
     have hnc14:=NB191_190.out
     have hcz15_0 : w6.cell? ⟨gb190,0,none⟩ = some (.int .i64 a0_0):=(blk_cell BK190.out 0).trans rfl
     have hcz15_1 : w6.cell? ⟨gb190,1,none⟩ = some (.int .i64 a0_1):=(blk_cell BK190.out 1).trans rfl
     have hcz15_2 : w6.cell? ⟨gb190,2,none⟩ = some (.slice A0_2 l0_2.length c0_2):=(blk_cell BK190.out 2).trans rfl
     have hfz15_0:=blk_frozen BK190.out 0
     have hfz15_1:=blk_frozen BK190.out 1
     have hfz15_2:=blk_frozen BK190.out 2
     go_wp2_with (first|((with_reducible refine gate_callee (f:=42) rfl ?_);refine goesL_ (some 12) rfl rfl Try.func42 (by kernel_rfl) rfl #[.agg #[.int .i64 a0_0,.int .i64 a0_1,.slice A0_2 l0_2.length c0_2]] rfl (by (try simp only [List.map_toArray,List.map_cons,List.map_nil]);first|done|rfl|(simp only [List.length_drop,List.length_take];rfl)) ?_;(with_reducible refine (bins_Right.calls a0_0 a0_1 _ _ l0_2 true _ ?side1 ?side2 A7.out).mono ?_);(case side1=>repeat(first|exact (Kd.C_below HR0_2.out HB.out)|(with_reducible refine Kd.C_alloc ?_ _)|(with_reducible refine Kd.C_drewN ?_ _)|(with_reducible refine Kd.C_drew ?_)));(case side2=>exact HC0_2.out);rintro e w16 ⟨rfl,hb⟩;refine ⟨_,rfl,?_⟩;have n0_:=Aside0.mk (blk_below (g:=gb190) (o:=.cells #[.int .i64 a0_0,.int .i64 a0_1,.slice A0_2 l0_2.length c0_2] 62 (0,0)) (by (with_reducible repeat(first|refine blk_drewN ?_ _|refine blk_drew ?_|refine blk_alloc ?_ _));exact BK190.out) hb);have n1_:=Aside0.mk (blk_below (g:=gb191) (o:=.cells #[.int .i64 0,.int .i64 0,.slice none 0 0] 62 (0,0)) (by (with_reducible repeat(first|refine blk_drewN ?_ _|refine blk_drew ?_|refine blk_alloc ?_ _));exact BK191.out) hb);have n2_:=Aside0.mk (below_step (by repeat(first|(with_reducible first|exact HB.out|apply below_alloc|apply pw_below_drewN|apply below_drew1|refine below_set ?_ GE190.out|refine below_set ?_ GE191.out)|exact HB.out)) hb);clear BK190;clear BK191;clear HB;have BK190:=n0_;have BK191:=n1_;have HB:=n2_;clear n0_ n1_ n2_;(try clear hb);(try clear hb2);(try clear hk);(try clear hi);have hcz17_0 : w16.cell? ⟨gb190,0,none⟩ = some (.int .i64 a0_0):=(blk_cell BK190.out 0).trans rfl;have hcz17_1 : w16.cell? ⟨gb190,1,none⟩ = some (.int .i64 a0_1):=(blk_cell BK190.out 1).trans rfl;have hcz17_2 : w16.cell? ⟨gb190,2,none⟩ = some (.slice A0_2 l0_2.length c0_2):=(blk_cell BK190.out 2).trans rfl;have hfz17_0:=blk_frozen BK190.out 0;have hfz17_1:=blk_frozen BK190.out 1;have hfz17_2:=blk_frozen BK190.out 2))
     go_meet
     case rel=>exact ⟨_,(true),(by first|rfl|(simp;done)|(simp [*];done)),H',⟨by first|omega|exact Nat.le_refl _⟩,⟨by (with_reducible repeat(first|refine blk_drewN ?_ _|refine blk_drew ?_|refine blk_alloc ?_ _));exact BK190.out⟩,⟨by (with_reducible repeat(first|refine blk_drewN ?_ _|refine blk_drew ?_|refine blk_alloc ?_ _));exact BK191.out⟩,⟨by repeat(first|(with_reducible first|exact HB.out|apply below_alloc|apply pw_below_drewN|apply below_drew1|refine below_set ?_ GE190.out|refine below_set ?_ GE191.out)|exact HB.out)⟩⟩
    ·rw [if_neg c13] at H
     have c13b0 : decide (a0_1 ≤ a1) = false:=decide_eq_false c13
     clear c13
     replace H:=Option.bind_eq_some_iff.mp H
     obtain ⟨t193,A180,H⟩:=H
     replace H : (bins_Turn.j0 k a1 l2 (!t193) a0_0 a0_1 l0_2) = some (r1,r2,r3,r4):=H
     have A18:=Aside0.mk A180
     clear A180
     have H':=Aside0.mk H
     clear H
     have hnb19:=NB190_191.out
     have hnc19:=NB191_190.out
     have hcz20_0 : w6.cell? ⟨gb190,0,none⟩ = some (.int .i64 a0_0):=(blk_cell BK190.out 0).trans rfl
     have hcz20_1 : w6.cell? ⟨gb190,1,none⟩ = some (.int .i64 a0_1):=(blk_cell BK190.out 1).trans rfl
     have hcz20_2 : w6.cell? ⟨gb190,2,none⟩ = some (.slice A0_2 l0_2.length c0_2):=(blk_cell BK190.out 2).trans rfl
     have hfz20_0:=blk_frozen BK190.out 0
     have hfz20_1:=blk_frozen BK190.out 1
     have hfz20_2:=blk_frozen BK190.out 2
     go_wp2_with (first|((with_reducible refine gate_callee (f:=42) rfl ?_);refine goesL_ (some 12) rfl rfl Try.func42 (by kernel_rfl) rfl #[.agg #[.int .i64 a0_0,.int .i64 a0_1,.slice A0_2 l0_2.length c0_2]] rfl (by (try simp only [List.map_toArray,List.map_cons,List.map_nil]);first|done|rfl|(simp only [List.length_drop,List.length_take];rfl)) ?_;(with_reducible refine (bins_Right.calls a0_0 a0_1 _ _ l0_2 true _ ?side1 ?side2 A7.out).mono ?_);(case side1=>repeat(first|exact (Kd.C_below HR0_2.out HB.out)|(with_reducible refine Kd.C_alloc ?_ _)|(with_reducible refine Kd.C_drewN ?_ _)|(with_reducible refine Kd.C_drew ?_)));(case side2=>exact HC0_2.out);rintro e w21 ⟨rfl,hb⟩;refine ⟨_,rfl,?_⟩;have n0_:=Aside0.mk (blk_below (g:=gb190) (o:=.cells #[.int .i64 a0_0,.int .i64 a0_1,.slice A0_2 l0_2.length c0_2] 62 (0,0)) (by (with_reducible repeat(first|refine blk_drewN ?_ _|refine blk_drew ?_|refine blk_alloc ?_ _));exact BK190.out) hb);have n1_:=Aside0.mk (blk_below (g:=gb191) (o:=.cells #[.int .i64 0,.int .i64 0,.slice none 0 0] 62 (0,0)) (by (with_reducible repeat(first|refine blk_drewN ?_ _|refine blk_drew ?_|refine blk_alloc ?_ _));exact BK191.out) hb);have n2_:=Aside0.mk (below_step (by repeat(first|(with_reducible first|exact HB.out|apply below_alloc|apply pw_below_drewN|apply below_drew1|refine below_set ?_ GE190.out|refine below_set ?_ GE191.out)|exact HB.out)) hb);clear BK190;clear BK191;clear HB;have BK190:=n0_;have BK191:=n1_;have HB:=n2_;clear n0_ n1_ n2_;(try clear hb);(try clear hb2);(try clear hk);(try clear hi);have hcz22_0 : w21.cell? ⟨gb190,0,none⟩ = some (.int .i64 a0_0):=(blk_cell BK190.out 0).trans rfl;have hcz22_1 : w21.cell? ⟨gb190,1,none⟩ = some (.int .i64 a0_1):=(blk_cell BK190.out 1).trans rfl;have hcz22_2 : w21.cell? ⟨gb190,2,none⟩ = some (.slice A0_2 l0_2.length c0_2):=(blk_cell BK190.out 2).trans rfl;have hfz22_0:=blk_frozen BK190.out 0;have hfz22_1:=blk_frozen BK190.out 1;have hfz22_2:=blk_frozen BK190.out 2)|(go_at_call 73;(with_reducible refine (bins_permutes.calls _ _ l2 a0_0 t193 _ ?side1 ?side2 A18.out).mono ?_);(case side1=>repeat(first|exact (Kd.C_below HR2.out HB.out)|(with_reducible refine Kd.C_alloc ?_ _)|(with_reducible refine Kd.C_drewN ?_ _)|(with_reducible refine Kd.C_drew ?_)));(case side2=>exact HC2.out);rintro e w23 ⟨rfl,hb⟩;have n0_:=Aside0.mk (blk_below (g:=gb190) (o:=.cells #[.int .i64 a0_0,.int .i64 a0_1,.slice A0_2 l0_2.length c0_2] 62 (0,0)) (by (with_reducible repeat(first|refine blk_drewN ?_ _|refine blk_drew ?_|refine blk_alloc ?_ _));exact BK190.out) hb);have n1_:=Aside0.mk (blk_below (g:=gb191) (o:=.cells #[.int .i64 0,.int .i64 0,.slice none 0 0] 62 (0,0)) (by (with_reducible repeat(first|refine blk_drewN ?_ _|refine blk_drew ?_|refine blk_alloc ?_ _));exact BK191.out) hb);have n2_:=Aside0.mk (below_step (by repeat(first|(with_reducible first|exact HB.out|apply below_alloc|apply pw_below_drewN|apply below_drew1|refine below_set ?_ GE190.out|refine below_set ?_ GE191.out)|exact HB.out)) hb);clear BK190;clear BK191;clear HB;have BK190:=n0_;have BK191:=n1_;have HB:=n2_;clear n0_ n1_ n2_;(try clear hb);(try clear hb2);(try clear hk);(try clear hi)))
     go_meet
     case rel=>exact ⟨_,(!t193),(by first|rfl|(simp;done)|(simp [*];done)),H',⟨by first|omega|exact Nat.le_refl _⟩,⟨by (with_reducible repeat(first|refine blk_drewN ?_ _|refine blk_drew ?_|refine blk_alloc ?_ _));exact BK190.out⟩,⟨by (with_reducible repeat(first|refine blk_drewN ?_ _|refine blk_drew ?_|refine blk_alloc ?_ _));exact BK191.out⟩,⟨by repeat(first|(with_reducible first|exact HB.out|apply below_alloc|apply pw_below_drewN|apply below_drew1|refine below_set ?_ GE190.out|refine below_set ?_ GE191.out)|exact HB.out)⟩⟩
  ·replace c8:=Bool.eq_false_iff.mpr c8
   subst c8
   have H1 : (bins_Turn.j0 k a1 l2 true a0_0 a0_1 l0_2) = some (r1,r2,r3,r4):=by rw [if_neg (show ¬ (false = true) by decide)] at H;exact H
   clear H
   have H:=H1
   clear H1
   have H':=Aside0.mk H
   clear H
   have hnb24:=NB190_191.out
   have hnc24:=NB191_190.out
   have hcz25_0 : w6.cell? ⟨gb190,0,none⟩ = some (.int .i64 a0_0):=(blk_cell BK190.out 0).trans rfl
   have hcz25_1 : w6.cell? ⟨gb190,1,none⟩ = some (.int .i64 a0_1):=(blk_cell BK190.out 1).trans rfl
   have hcz25_2 : w6.cell? ⟨gb190,2,none⟩ = some (.slice A0_2 l0_2.length c0_2):=(blk_cell BK190.out 2).trans rfl
   have hfz25_0:=blk_frozen BK190.out 0
   have hfz25_1:=blk_frozen BK190.out 1
   have hfz25_2:=blk_frozen BK190.out 2
   go_wp2_with (first|((with_reducible refine gate_callee (f:=42) rfl ?_);refine goesL_ (some 12) rfl rfl Try.func42 (by kernel_rfl) rfl #[.agg #[.int .i64 a0_0,.int .i64 a0_1,.slice A0_2 l0_2.length c0_2]] rfl (by (try simp only [List.map_toArray,List.map_cons,List.map_nil]);first|done|rfl|(simp only [List.length_drop,List.length_take];rfl)) ?_;(with_reducible refine (bins_Right.calls a0_0 a0_1 _ _ l0_2 false _ ?side1 ?side2 A7.out).mono ?_);(case side1=>repeat(first|exact (Kd.C_below HR0_2.out HB.out)|(with_reducible refine Kd.C_alloc ?_ _)|(with_reducible refine Kd.C_drewN ?_ _)|(with_reducible refine Kd.C_drew ?_)));(case side2=>exact HC0_2.out);rintro e w26 ⟨rfl,hb⟩;refine ⟨_,rfl,?_⟩;have n0_:=Aside0.mk (blk_below (g:=gb190) (o:=.cells #[.int .i64 a0_0,.int .i64 a0_1,.slice A0_2 l0_2.length c0_2] 62 (0,0)) (by (with_reducible repeat(first|refine blk_drewN ?_ _|refine blk_drew ?_|refine blk_alloc ?_ _));exact BK190.out) hb);have n1_:=Aside0.mk (blk_below (g:=gb191) (o:=.cells #[.int .i64 0,.int .i64 0,.slice none 0 0] 62 (0,0)) (by (with_reducible repeat(first|refine blk_drewN ?_ _|refine blk_drew ?_|refine blk_alloc ?_ _));exact BK191.out) hb);have n2_:=Aside0.mk (below_step (by repeat(first|(with_reducible first|exact HB.out|apply below_alloc|apply pw_below_drewN|apply below_drew1|refine below_set ?_ GE190.out|refine below_set ?_ GE191.out)|exact HB.out)) hb);clear BK190;clear BK191;clear HB;have BK190:=n0_;have BK191:=n1_;have HB:=n2_;clear n0_ n1_ n2_;(try clear hb);(try clear hb2);(try clear hk);(try clear hi)))
   go_meet
   case rel=>exact ⟨_,(true),(by first|rfl|(simp;done)|(simp [*];done)),H',⟨by first|omega|exact Nat.le_refl _⟩,⟨by (with_reducible repeat(first|refine blk_drewN ?_ _|refine blk_drew ?_|refine blk_alloc ?_ _));exact BK190.out⟩,⟨by (with_reducible repeat(first|refine blk_drewN ?_ _|refine blk_drew ?_|refine blk_alloc ?_ _));exact BK191.out⟩,⟨by repeat(first|(with_reducible first|exact HB.out|apply below_alloc|apply pw_below_drewN|apply below_drew1|refine below_set ?_ GE190.out|refine below_set ?_ GE191.out)|exact HB.out)⟩⟩
 case rest =>
  clear HC4
  try clear c1
  try clear c2
  try clear p2
  try clear c3
  try clear c4
  try clear c8
  try clear c9
  try clear c9b0
  try clear c10
  try clear c13
  try clear c13b0
  try clear c14
  try clear c19
  try clear c24
  try clear hcz11_0
  try clear hcz11_1
  try clear hcz11_2
  try clear hcz15_0
  try clear hcz15_1
  try clear hcz15_2
  try clear hcz17_0
  try clear hcz17_1
  try clear hcz17_2
  try clear hcz20_0
  try clear hcz20_1
  try clear hcz20_2
  try clear hcz22_0
  try clear hcz22_1
  try clear hcz22_2
  try clear hcz25_0
  try clear hcz25_1
  try clear hcz25_2
  try clear hfz11_0
  try clear hfz11_1
  try clear hfz11_2
  try clear hfz15_0
  try clear hfz15_1
  try clear hfz15_2
  try clear hfz17_0
  try clear hfz17_1
  try clear hfz17_2
  try clear hfz20_0
  try clear hfz20_1
  try clear hfz20_2
  try clear hfz22_0
  try clear hfz22_1
  try clear hfz22_2
  try clear hfz25_0
  try clear hfz25_1
  try clear hfz25_2
  obtain ⟨kq,x30_3,rfl,HA,HJ3,BK190,BK191,HB⟩:=hcut
  cases kq with
  | zero=>exact absurd HA.out (by simp [bins_Turn.j0])
  | succ kj3 =>
   have H:=HA.out
   clear HA
   simp only [bins_Turn.j0] at H
   by_cases c27 : x30_3 = true
   ·subst c27
    have H1 : (some (0,0,([] : List Int),8)) = some (r1,r2,r3,r4):=by rw [if_pos rfl] at H;exact H
    clear H
    have H:=H1
    clear H1
    simp only [Option.some.injEq,Prod.mk.injEq] at H
    obtain ⟨rfl,rfl,rfl,rfl⟩:=H
    have hnb28:=NB191_190.out
    have hnc28:=NB190_191.out
    have hcz29_0 : wc.cell? ⟨gb191,0,none⟩ = some (.int .i64 0):=(blk_cell BK191.out 0).trans rfl
    have hcz29_1 : wc.cell? ⟨gb191,1,none⟩ = some (.int .i64 0):=(blk_cell BK191.out 1).trans rfl
    have hcz29_2 : wc.cell? ⟨gb191,2,none⟩ = some (.slice none 0 0):=(blk_cell BK191.out 2).trans rfl
    have hfz29_0:=blk_frozen BK191.out 0
    have hfz29_1:=blk_frozen BK191.out 1
    have hfz29_2:=blk_frozen BK191.out 2
    go_wp2
    refine bodyPost_ret (results_ct rfl _ _ gb191 62 #[.int .i64 0,.int .i64 0,.slice none 0 0] (0,0) _ rfl (by (with_reducible repeat(first|refine blk_drewN ?_ _|refine blk_drew ?_|refine blk_alloc ?_ _));refine blk_put (cs:=#[.int .i64 0,.int .i64 0,.slice none 0 0]) ?_ 2 _ rfl;(with_reducible repeat(first|refine blk_drewN ?_ _|refine blk_drew ?_|refine blk_alloc ?_ _));refine blk_put (cs:=#[.int .i64 0,.int .i64 0,.slice none 0 0]) ?_ 1 _ rfl;(with_reducible repeat(first|refine blk_drewN ?_ _|refine blk_drew ?_|refine blk_alloc ?_ _));refine blk_put (cs:=#[.int .i64 0,.int .i64 0,.slice none 0 0]) ?_ 0 _ rfl;(with_reducible repeat(first|refine blk_drewN ?_ _|refine blk_drew ?_|refine blk_alloc ?_ _));exact BK191.out) Try.underlying62 rfl (by kernel_rfl)) rfl ?_
    exact ⟨_,by first|rfl|(simp [errW_none,errW_some] <;> rfl)|(simp [*,errW_none,errW_some] <;> rfl),by first|exact Kd.R_nil _ _ _ _ _|exact Kd.N_nil _ _ _ _ _|exact Kd.V_nil _ _ _ _ _|exact Kd.Q_nil _ _ _ _ _|exact Kd.S_nil _ _ _ _ _,by repeat(first|(with_reducible first|exact HB.out|apply below_alloc|apply pw_below_drewN|apply below_drew1|refine below_set ?_ GE190.out|refine below_set ?_ GE191.out)|exact HB.out)⟩
   ·replace c27:=Bool.eq_false_iff.mpr c27
    subst c27
    have H1 : ((slices_Clone_uint16_uint16.f l0_2).bind fun t195=>(bins_Turn.l0 kj3 a1 l2 (l2.length : Int) 0 a0_0 a0_1 l0_2 a0_0 a0_1 t195)) = some (r1,r2,r3,r4):=by rw [if_neg (show ¬ (false = true) by decide)] at H;exact H
    clear H
    have H:=H1
    clear H1
    replace H:=Option.bind_eq_some_iff.mp H
    obtain ⟨t195,A300,H⟩:=H
    replace H : (bins_Turn.l0 kj3 a1 l2 (l2.length : Int) 0 a0_0 a0_1 l0_2 a0_0 a0_1 t195) = some (r1,r2,r3,r4):=H
    have A30:=Aside0.mk A300
    clear A300
    have H':=Aside0.mk H
    clear H
    have hnb31:=NB190_191.out
    have hnc31:=NB191_190.out
    have hcz32_0 : wc.cell? ⟨gb190,0,none⟩ = some (.int .i64 a0_0):=(blk_cell BK190.out 0).trans rfl
    have hcz32_1 : wc.cell? ⟨gb190,1,none⟩ = some (.int .i64 a0_1):=(blk_cell BK190.out 1).trans rfl
    have hcz32_2 : wc.cell? ⟨gb190,2,none⟩ = some (.slice A0_2 l0_2.length c0_2):=(blk_cell BK190.out 2).trans rfl
    have hfz32_0:=blk_frozen BK190.out 0
    have hfz32_1:=blk_frozen BK190.out 1
    have hfz32_2:=blk_frozen BK190.out 2
    go_wp2_with (first|((with_reducible refine gate_dst (N:=8) rfl ?_);refine box_event ?hg (N:=8) ?hd (cs:=#[.int .i64 0,.int .i64 0,.slice none 0 0]) (t:=62) ?hr ?_;(case hd=>rfl);(case hg=>rfl);(case hr=>first|(go_simp;done)|(go_simp;rfl));intro gb194 hg w33 hbox hb;have n0_:=Aside0.mk (blk_below (g:=gb190) (o:=.cells #[.int .i64 a0_0,.int .i64 a0_1,.slice A0_2 l0_2.length c0_2] 62 (0,0)) (by (with_reducible repeat(first|refine blk_drewN ?_ _|refine blk_drew ?_|refine blk_alloc ?_ _));exact BK190.out) hb);have n1_:=Aside0.mk (blk_below (g:=gb191) (o:=.cells #[.int .i64 0,.int .i64 0,.slice none 0 0] 62 (0,0)) (by (with_reducible repeat(first|refine blk_drewN ?_ _|refine blk_drew ?_|refine blk_alloc ?_ _));exact BK191.out) hb);have n2_:=Aside0.mk (below_step (by repeat(first|(with_reducible first|exact HB.out|apply below_alloc|apply pw_below_drewN|apply below_drew1|refine below_set ?_ GE190.out|refine below_set ?_ GE191.out)|exact HB.out)) hb);have n3_:=Aside0.mk (hbox);have n4_:=Aside0.mk ((by rw [hg];exact (below_size (by repeat(first|(with_reducible first|exact HB.out|apply below_alloc|apply pw_below_drewN|apply below_drew1|refine below_set ?_ GE190.out|refine below_set ?_ GE191.out)|exact HB.out))) : w.heap.size ≤ gb194));have n5_:=Aside0.mk ((by rw [hg];exact (below_size (by repeat(first|(with_reducible first|exact HB.out|apply below_alloc|apply pw_below_drewN|apply below_drew1|refine below_set ?_ GE190.out|refine below_set ?_ GE191.out)|exact HB.out))) : w.heap.size ≤ gb194));have n6_:=Aside0.mk ((by rw [hg];exact Nat.ne_of_lt (blk_lt (g:=gb190) (o:=.cells #[.int .i64 a0_0,.int .i64 a0_1,.slice A0_2 l0_2.length c0_2] 62 (0,0)) (by (with_reducible repeat(first|refine blk_drewN ?_ _|refine blk_drew ?_|refine blk_alloc ?_ _));exact BK190.out)) : gb190 ≠ gb194));have n7_:=Aside0.mk ((by rw [hg];exact Nat.ne_of_gt (blk_lt (g:=gb190) (o:=.cells #[.int .i64 a0_0,.int .i64 a0_1,.slice A0_2 l0_2.length c0_2] 62 (0,0)) (by (with_reducible repeat(first|refine blk_drewN ?_ _|refine blk_drew ?_|refine blk_alloc ?_ _));exact BK190.out)) : gb194 ≠ gb190));have n8_:=Aside0.mk ((by rw [hg];exact Nat.ne_of_lt (blk_lt (g:=gb191) (o:=.cells #[.int .i64 0,.int .i64 0,.slice none 0 0] 62 (0,0)) (by (with_reducible repeat(first|refine blk_drewN ?_ _|refine blk_drew ?_|refine blk_alloc ?_ _));exact BK191.out)) : gb191 ≠ gb194));have n9_:=Aside0.mk ((by rw [hg];exact Nat.ne_of_gt (blk_lt (g:=gb191) (o:=.cells #[.int .i64 0,.int .i64 0,.slice none 0 0] 62 (0,0)) (by (with_reducible repeat(first|refine blk_drewN ?_ _|refine blk_drew ?_|refine blk_alloc ?_ _));exact BK191.out)) : gb194 ≠ gb191));clear BK190;clear BK191;clear HB;have BK190:=n0_;have BK191:=n1_;have HB:=n2_;have BK194:=n3_;have GW194:=n4_;have GE194:=n5_;have NB190_194:=n6_;have NB194_190:=n7_;have NB191_194:=n8_;have NB194_191:=n9_;clear n0_ n1_ n2_ n3_ n4_ n5_ n6_ n7_ n8_ n9_;clear hb hbox hg;have hnb34:=NB194_190.out;have hnc34:=NB190_194.out;have hnb35:=NB194_191.out;have hnc35:=NB191_194.out;have hcz36_0 : w33.cell? ⟨gb194,0,none⟩ = some (.int .i64 0):=(blk_cell BK194.out 0).trans rfl;have hcz36_1 : w33.cell? ⟨gb194,1,none⟩ = some (.int .i64 0):=(blk_cell BK194.out 1).trans rfl;have hcz36_2 : w33.cell? ⟨gb194,2,none⟩ = some (.slice none 0 0):=(blk_cell BK194.out 2).trans rfl;have hfz36_0:=blk_frozen BK194.out 0;have hfz36_1:=blk_frozen BK194.out 1;have hfz36_2:=blk_frozen BK194.out 2;have hcz37_0 : w33.cell? ⟨gb190,0,none⟩ = some (.int .i64 a0_0):=(blk_cell BK190.out 0).trans rfl;have hcz37_1 : w33.cell? ⟨gb190,1,none⟩ = some (.int .i64 a0_1):=(blk_cell BK190.out 1).trans rfl;have hcz37_2 : w33.cell? ⟨gb190,2,none⟩ = some (.slice A0_2 l0_2.length c0_2):=(blk_cell BK190.out 2).trans rfl;have hfz37_0:=blk_frozen BK190.out 0;have hfz37_1:=blk_frozen BK190.out 1;have hfz37_2:=blk_frozen BK190.out 2)|((with_reducible refine gate_callee (f:=74) rfl ?_);refine goesL_ (some 35) rfl rfl Try.func74 (by kernel_rfl) rfl #[.slice A0_2 l0_2.length c0_2] rfl (by (try simp only [List.map_toArray,List.map_cons,List.map_nil]);first|done|rfl|(simp only [List.length_drop,List.length_take];rfl)) ?_;(with_reducible refine (slices_Clone_uint16_uint16.calls _ _ l0_2 t195 _ ?side1 ?side2 A30.out).mono ?_);(case side1=>exact Kd.C_below HR0_2.out (by repeat(first|(with_reducible first|exact HB.out|apply below_alloc|apply pw_below_drewN|apply below_drew1|refine below_set ?_ GE190.out|refine below_set ?_ GE191.out|refine below_set ?_ GE194.out)|exact HB.out)));(case side2=>exact HC0_2.out);rintro e w38 ⟨v196,rfl,ho0,hb⟩;refine ⟨_,rfl,?_⟩;have n0_:=Aside0.mk (Kd.R_lower ho0 (below_size (by repeat(first|(with_reducible first|exact HB.out|apply below_alloc|apply pw_below_drewN|apply below_drew1|refine below_set ?_ GE190.out|refine below_set ?_ GE191.out|refine below_set ?_ GE194.out)|exact HB.out))));have n1_:=Aside0.mk (blk_below (g:=gb190) (o:=.cells #[.int .i64 a0_0,.int .i64 a0_1,.slice A0_2 l0_2.length c0_2] 62 (0,0)) (by (with_reducible repeat(first|refine blk_drewN ?_ _|refine blk_drew ?_|refine blk_alloc ?_ _));refine blk_far ?_ NB190_194.out _;(with_reducible repeat(first|refine blk_drewN ?_ _|refine blk_drew ?_|refine blk_alloc ?_ _));refine blk_far ?_ NB190_194.out _;(with_reducible repeat(first|refine blk_drewN ?_ _|refine blk_drew ?_|refine blk_alloc ?_ _));refine blk_far ?_ NB190_194.out _;(with_reducible repeat(first|refine blk_drewN ?_ _|refine blk_drew ?_|refine blk_alloc ?_ _));exact BK190.out) hb);have n2_:=Aside0.mk (blk_below (g:=gb191) (o:=.cells #[.int .i64 0,.int .i64 0,.slice none 0 0] 62 (0,0)) (by (with_reducible repeat(first|refine blk_drewN ?_ _|refine blk_drew ?_|refine blk_alloc ?_ _));refine blk_far ?_ NB191_194.out _;(with_reducible repeat(first|refine blk_drewN ?_ _|refine blk_drew ?_|refine blk_alloc ?_ _));refine blk_far ?_ NB191_194.out _;(with_reducible repeat(first|refine blk_drewN ?_ _|refine blk_drew ?_|refine blk_alloc ?_ _));refine blk_far ?_ NB191_194.out _;(with_reducible repeat(first|refine blk_drewN ?_ _|refine blk_drew ?_|refine blk_alloc ?_ _));exact BK191.out) hb);have n3_:=Aside0.mk (blk_below (g:=gb194) (o:=.cells #[.int .i64 a0_0,.int .i64 a0_1,.slice A0_2 l0_2.length c0_2] 62 (0,0)) (by (with_reducible repeat(first|refine blk_drewN ?_ _|refine blk_drew ?_|refine blk_alloc ?_ _));refine blk_put (cs:=#[.int .i64 a0_0,.int .i64 a0_1,.slice none 0 0]) ?_ 2 _ rfl;(with_reducible repeat(first|refine blk_drewN ?_ _|refine blk_drew ?_|refine blk_alloc ?_ _));refine blk_put (cs:=#[.int .i64 a0_0,.int .i64 0,.slice none 0 0]) ?_ 1 _ rfl;(with_reducible repeat(first|refine blk_drewN ?_ _|refine blk_drew ?_|refine blk_alloc ?_ _));refine blk_put (cs:=#[.int .i64 0,.int .i64 0,.slice none 0 0]) ?_ 0 _ rfl;(with_reducible repeat(first|refine blk_drewN ?_ _|refine blk_drew ?_|refine blk_alloc ?_ _));exact BK194.out) hb);have n4_:=Aside0.mk (below_step (by repeat(first|(with_reducible first|exact HB.out|apply below_alloc|apply pw_below_drewN|apply below_drew1|refine below_set ?_ GE190.out|refine below_set ?_ GE191.out|refine below_set ?_ GE194.out)|exact HB.out)) hb);clear BK190;clear BK191;clear BK194;clear HB;have HO197:=n0_;have BK190:=n1_;have BK191:=n2_;have BK194:=n3_;have HB:=n4_;clear n0_ n1_ n2_ n3_ n4_;(try clear hb);(try clear hb2);(try clear hk);(try clear hi);(try clear ho0);obtain ⟨Ao39,co39,eo39⟩:=Kd.R_slice HO197.out;subst eo39;have hcz40_0 : w38.cell? ⟨gb194,0,none⟩ = some (.int .i64 a0_0):=(blk_cell BK194.out 0).trans rfl;have hcz40_1 : w38.cell? ⟨gb194,1,none⟩ = some (.int .i64 a0_1):=(blk_cell BK194.out 1).trans rfl;have hcz40_2 : w38.cell? ⟨gb194,2,none⟩ = some (.slice A0_2 l0_2.length c0_2):=(blk_cell BK194.out 2).trans rfl;have hfz40_0:=blk_frozen BK194.out 0;have hfz40_1:=blk_frozen BK194.out 1;have hfz40_2:=blk_frozen BK194.out 2))
    go_loopg [39] kj3 (fun kq v39 w'=>∃ (x39_2 : Int) (x195002_2 : List Int) (u195002 : Value),v39 = .int .i64 x39_2 ∧ Aside0 (bins_Turn.l0 kq a1 l2 (l2.length : Int) x39_2 a0_0 a0_1 l0_2 a0_0 a0_1 x195002_2 = some (r1,r2,r3,r4)) ∧ Aside0 (kq ≤ kj3) ∧ Aside0 (Kd.R (Kd.int .u16) 53 w' w.heap.size (fun _=>True) u195002 x195002_2) ∧ Aside0 (w'.heap[gb190]? = some (.cells #[.int .i64 a0_0,.int .i64 a0_1,(.slice A0_2 l0_2.length c0_2)] 62 (0,0))) ∧ Aside0 (w'.heap[gb191]? = some (.cells #[.int .i64 0,.int .i64 0,(.slice none 0 0)] 62 (0,0))) ∧ Aside0 (w'.heap[gb194]? = some (.cells #[.int .i64 a0_0,.int .i64 a0_1,u195002] 62 (0,0))) ∧ Aside0 (Below w.heap.size w w'))
    case atStart=>exact ⟨(0),(t195),(.slice Ao39 t195.length co39),(by first|rfl|(simp;done)|(simp [*];done)),H',⟨Nat.le_refl _⟩,⟨by (with_reducible repeat(first|apply Kd.R_alloc|apply Kd.R_drewN|apply Kd.R_drew));exact Kd.R_mono (Kd.R_far (p:=⟨gb194,2,none⟩) (Kd.R_types HO197.out BK194.out (by decide)) (fun _ hk=>hk.2) (.slice Ao39 t195.length co39)) (fun _ hk=>trivial)⟩,⟨by (with_reducible repeat(first|refine blk_drewN ?_ _|refine blk_drew ?_|refine blk_alloc ?_ _));refine blk_far ?_ NB190_194.out _;(with_reducible repeat(first|refine blk_drewN ?_ _|refine blk_drew ?_|refine blk_alloc ?_ _));exact BK190.out⟩,⟨by (with_reducible repeat(first|refine blk_drewN ?_ _|refine blk_drew ?_|refine blk_alloc ?_ _));refine blk_far ?_ NB191_194.out _;(with_reducible repeat(first|refine blk_drewN ?_ _|refine blk_drew ?_|refine blk_alloc ?_ _));exact BK191.out⟩,⟨by (with_reducible repeat(first|refine blk_drewN ?_ _|refine blk_drew ?_|refine blk_alloc ?_ _));refine blk_put (cs:=#[.int .i64 a0_0,.int .i64 a0_1,.slice A0_2 l0_2.length c0_2]) ?_ 2 _ rfl;(with_reducible repeat(first|refine blk_drewN ?_ _|refine blk_drew ?_|refine blk_alloc ?_ _));exact BK194.out⟩,⟨by repeat(first|(with_reducible first|exact HB.out|apply below_alloc|apply pw_below_drewN|apply below_drew1|refine below_set ?_ GE190.out|refine below_set ?_ GE191.out|refine below_set ?_ GE194.out)|exact HB.out)⟩⟩
    case round =>
     clear H'
     try clear c1
     try clear c2
     try clear p2
     try clear c3
     try clear c4
     try clear c7
     try clear c8
     try clear c9
     try clear c9b0
     try clear c10
     try clear c13
     try clear c13b0
     try clear c14
     try clear c19
     try clear c24
     try clear c27
     try clear c28
     try clear c31
     try clear c33
     try clear c34
     try clear c35
     try clear hcz11_0
     try clear hcz11_1
     try clear hcz11_2
     try clear hcz15_0
     try clear hcz15_1
     try clear hcz15_2
     try clear hcz17_0
     try clear hcz17_1
     try clear hcz17_2
     try clear hcz20_0
     try clear hcz20_1
     try clear hcz20_2
     try clear hcz22_0
     try clear hcz22_1
     try clear hcz22_2
     try clear hcz25_0
     try clear hcz25_1
     try clear hcz25_2
     try clear hcz29_0
     try clear hcz29_1
     try clear hcz29_2
     try clear hcz32_0
     try clear hcz32_1
     try clear hcz32_2
     try clear hcz36_0
     try clear hcz36_1
     try clear hcz36_2
     try clear hcz37_0
     try clear hcz37_1
     try clear hcz37_2
     try clear hcz40_0
     try clear hcz40_1
     try clear hcz40_2
     try clear hfz11_0
     try clear hfz11_1
     try clear hfz11_2
     try clear hfz15_0
     try clear hfz15_1
     try clear hfz15_2
     try clear hfz17_0
     try clear hfz17_1
     try clear hfz17_2
     try clear hfz20_0
     try clear hfz20_1
     try clear hfz20_2
     try clear hfz22_0
     try clear hfz22_1
     try clear hfz22_2
     try clear hfz25_0
     try clear hfz25_1
     try clear hfz25_2
     try clear hfz29_0
     try clear hfz29_1
     try clear hfz29_2
     try clear hfz32_0
     try clear hfz32_1
     try clear hfz32_2
     try clear hfz36_0
     try clear hfz36_1
     try clear hfz36_2
     try clear hfz37_0
     try clear hfz37_1
     try clear hfz37_2
     try clear hfz40_0
     try clear hfz40_1
     try clear hfz40_2
     try clear p2
     obtain ⟨x39_2,x195002_2,u195002,rfl,HA,HK2,HO_195002,BK190,BK191,BK194,HB⟩:=hrel
     cases gk with
     | zero=>exact absurd HA.out (by simp [bins_Turn.l0])
     | succ k2 =>
      have H:=HA.out
      clear HA
      simp only [bins_Turn.l0] at H
      by_cases c41 : x39_2 < (l2.length : Int)
      ·rw [if_pos c41] at H
       have c41b0 : decide (x39_2 < (l2.length : Int)) = true:=decide_eq_true c41
       clear c41
       by_cases c42 : 0 ≤ x39_2
       ·rw [if_pos c42] at H
        have c42b0 : decide (0 ≤ x39_2) = true:=decide_eq_true c42
        clear c42
        by_cases c43 : x39_2 < (l2.length : Int)
        ·rw [if_pos c43] at H
         have c43b0 : decide (x39_2 < (l2.length : Int)) = true:=decide_eq_true c43
         clear c43
         obtain ⟨ji44,hji44⟩ : ∃ j_ : Int,(wrap64 ((wrap64 (a1 * a0_0)) + (rd l2 x39_2))) = j_:=⟨_,rfl⟩
         replace H : (if 0 ≤ (ji44) then (if (ji44) < (l0_2.length : Int) then (if 0 ≤ (wrap64 ((wrap64 (a1 * a0_0)) + x39_2)) then (if (wrap64 ((wrap64 (a1 * a0_0)) + x39_2)) < (x195002_2.length : Int) then (bins_Turn.l0 k2 a1 l2 (l2.length : Int) (wrap64 (x39_2 + 1)) a0_0 a0_1 l0_2 a0_0 a0_1 (x195002_2.set ((wrap64 ((wrap64 (a1 * a0_0)) + x39_2)) : Int).toNat (rd l0_2 (ji44)))) else (none)) else (none)) else (none)) else (none)) = some (r1,r2,r3,r4):=by first|(rw [hji44] at H;exact H)|(simp only [hji44] at H ⊢;exact H)
         have hji44w : (IntKind.i64.wrap ((wrap64 (a1 * a0_0)) + (rd l2 x39_2))) = ji44:=(i64_w _).trans hji44
         by_cases c45 : 0 ≤ (ji44)
         ·rw [if_pos c45] at H
          have c45b0 : decide (0 ≤ (ji44)) = true:=decide_eq_true c45
          clear c45
          by_cases c46 : (ji44) < (l0_2.length : Int)
          ·rw [if_pos c46] at H
           have c46b0 : decide ((ji44) < (l0_2.length : Int)) = true:=decide_eq_true c46
           clear c46
           obtain ⟨ji47,hji47⟩ : ∃ j_ : Int,(wrap64 ((wrap64 (a1 * a0_0)) + x39_2)) = j_:=⟨_,rfl⟩
           replace H : (if 0 ≤ (ji47) then (if (ji47) < (x195002_2.length : Int) then (bins_Turn.l0 k2 a1 l2 (l2.length : Int) (wrap64 (x39_2 + 1)) a0_0 a0_1 l0_2 a0_0 a0_1 (x195002_2.set ((ji47) : Int).toNat (rd l0_2 (ji44)))) else (none)) else (none)) = some (r1,r2,r3,r4):=by first|(rw [hji47] at H;exact H)|(simp only [hji47] at H ⊢;exact H)
           have hji47w : (IntKind.i64.wrap ((wrap64 (a1 * a0_0)) + x39_2)) = ji47:=(i64_w _).trans hji47
           by_cases c48 : 0 ≤ (ji47)
           ·rw [if_pos c48] at H
            have c48b0 : decide (0 ≤ (ji47)) = true:=decide_eq_true c48
            clear c48
            by_cases c49 : (ji47) < (x195002_2.length : Int)
            ·rw [if_pos c49] at H
             have c49b0 : decide ((ji47) < (x195002_2.length : Int)) = true:=decide_eq_true c49
             clear c49
             obtain ⟨y200,hy200⟩ : ∃ y_ : List Int,y_ = (x195002_2.set ((ji47) : Int).toNat (rd l0_2 (ji44))):=⟨_,rfl⟩
             replace H : (bins_Turn.l0 k2 a1 l2 (l2.length : Int) (wrap64 (x39_2 + 1)) a0_0 a0_1 l0_2 a0_0 a0_1 y200) = some (r1,r2,r3,r4):=by first|(rw [hy200];with_reducible exact H)|(have H2_:=(Option.bind_some _ _).symm.trans H;rw [hy200];with_reducible exact H2_)|(have H2_:=(Option.bind_some _ _).symm.trans H;with_reducible exact H2_)|with_reducible exact H|(rw [hy200];exact H)|exact H
             have Ny200:=Aside0.mk hy200
             clear hy200
             have H':=Aside0.mk H
             clear H
             have p198 : 0 ≤ (x39_2 : Int):=of_decide_eq_true (by first|(with_reducible assumption)|assumption)
             have q198 : x39_2 < (l2.length : Int):=of_decide_eq_true (by first|(with_reducible assumption)|assumption)
             obtain ⟨ad198,e198,hx198_0⟩:=Kd.at_int HR2.out x39_2 p198 q198
             cases e198
             replace hx198_0:=(HB.out.cell (World.block_lt_of_cell? w _ hx198_0)).trans hx198_0
             replace p198:=eq_true p198
             replace q198:=eq_true q198
             try go_wp2
             have n0_:=Aside0.mk (Kd.R_drew HO_195002.out)
             have n1_:=Aside0.mk (blk_drew BK190.out)
             have n2_:=Aside0.mk (blk_drew BK191.out)
             have n3_:=Aside0.mk (blk_drew BK194.out)
             have n4_:=Aside0.mk (below_drew1 HB.out)
             clear HO_195002
             clear BK190
             clear BK191
             clear BK194
             clear HB
             have HO_195002:=n0_
             have BK190:=n1_
             have BK191:=n2_
             have BK194:=n3_
             have HB:=n4_
             clear n0_ n1_ n2_ n3_ n4_
             have p199 : 0 ≤ ((ji44) : Int):=of_decide_eq_true (by first|(with_reducible assumption)|assumption)
             have q199 : (ji44) < (l0_2.length : Int):=of_decide_eq_true (by first|(with_reducible assumption)|assumption)
             obtain ⟨ad199,e199,hx199_0⟩:=Kd.at_int HR0_2.out (ji44) p199 q199
             have hw199_0:=hx199_0
             cases e199
             replace hx199_0:=(HB.out.cell (World.block_lt_of_cell? w _ hx199_0)).trans hx199_0
             replace p199:=eq_true p199
             replace q199:=eq_true q199
             have p50 : 0 ≤ ((ji47) : Int):=of_decide_eq_true (by first|(with_reducible assumption)|assumption)
             have q50 : ((ji47) : Int) < ((x195002_2.length : Int) : Int):=of_decide_eq_true (by first|(with_reducible assumption)|assumption)
             obtain ⟨go50,co50,eo50,gb50,gl50,cl50,HG50⟩:=Kd.R_form HO_195002.out (by omega)
             (first|cases eo50|(injection eo50 with ea_ en_ ec_;(first|subst ea_|(injection ea_ with ea_;subst ea_));subst ec_;clear en_))
             have GB50:=Aside0.mk gb50
             have GG50:=Aside0.mk HG50
             clear gb50 gl50 HG50
             obtain ⟨hx50_0,hf50_0⟩:=Kd.R_celln 0 HO_195002.out ((ji47) : Int) p50 q50
             replace p50:=eq_true p50
             replace q50:=eq_true q50
             have HP52:=Kd.R_putn HO_195002.out ((ji47) : Int) (rd l0_2 (ji44))
             rw [← Ny200.out] at HP52
             have HQ52:=Aside0.mk HP52
             clear HP52
             refine start_ (n:=20) (S:=fun w'=>w'.cell? ⟨gb194,0,none⟩ = some (.int .i64 a0_0) ∧ w'.cell? ⟨gb194,1,none⟩ = some (.int .i64 a0_1) ∧ w'.cell? ⟨gb194,2,none⟩ = some (.slice (some ⟨go50,0,none⟩) x195002_2.length co50) ∧ w'.cell? ⟨gb190,0,none⟩ = some (.int .i64 a0_0) ∧ w'.cell? ⟨gb190,1,none⟩ = some (.int .i64 a0_1) ∧ w'.cell? ⟨gb190,2,none⟩ = some (.slice (some ad199) l0_2.length c0_2) ∧ w'.cell? (ad199.add ((ji44)).toNat) = some (.int .u16 (rd l0_2 (ji44)))) (ds:=[19]) #[false,false,false,false,false,false,false,false,false,false,false,false,false,false,false,false,false,false,false,false] (by kernel_rfl) rfl rfl ⟨(blk_cell BK194.out 0).trans rfl,(blk_cell BK194.out 1).trans rfl,(blk_cell BK194.out 2).trans rfl,(blk_cell BK190.out 0).trans rfl,(blk_cell BK190.out 1).trans rfl,(blk_cell BK190.out 2).trans rfl,((HB.out.cell (World.block_lt_of_cell? w _ hw199_0)).trans hw199_0)⟩ (fun hHeld=>?_);refine with_tabW bins_Turn.tab8 bins_Turn.bits8 (fun HT_ HW_=>?_)
             generalize wr.drew = w51 at HO_195002 BK190 BK191 BK194 HB GG50 HQ52 hf50_0 hx199_0 hx50_0 hHeld ⊢
             refine pure_ (i:=0) (N:=some 44) (v:=?_) (a':=?_) #[true,false,false,false,false,false,false,false,false,false,false,false,false,false,false,false,false,false,false,false] rfl rfl (any_of HT_.out (by kernel_rfl)) (fun _ _ _ h=>h) (Or.inl ⟨by rfl,?_⟩) ?_ ?_
             rotate_left
             ·intro w'
              go_simp
              with_reducible rfl
             rotate_left
             ·simp only [Act.put,List.setIfInBounds_toArray,List.set_cons_zero,List.set_cons_succ,i64_w,i32_w]
              rfl
             refine pure_ (i:=2) (N:=some 46) (v:=?_) (a':=?_) #[true,false,true,false,false,false,false,false,false,false,false,false,false,false,false,false,false,false,false,false] rfl rfl (any_of HT_.out (by kernel_rfl)) (fun _ _ _ h=>h) (Or.inl ⟨by rfl,?_⟩) ?_ ?_
             rotate_left
             ·intro w'
              go_simp
              with_reducible rfl
             rotate_left
             ·simp only [Act.put,List.setIfInBounds_toArray,List.set_cons_zero,List.set_cons_succ,i64_w,i32_w]
              rfl
             refine pure_ (i:=3) (N:=some 47) (v:=?_) (a':=?_) #[true,false,true,true,false,false,false,false,false,false,false,false,false,false,false,false,false,false,false,false] rfl rfl (any_of HT_.out (by kernel_rfl)) (fun _ _ _ h=>h) (Or.inl ⟨by rfl,?_⟩) ?_ ?_
             rotate_left
             ·intro w'
              go_simp
              with_reducible rfl
             rotate_left
             ·simp only [Act.put,List.setIfInBounds_toArray,List.set_cons_zero,List.set_cons_succ,i64_w,i32_w]
              rfl
             refine pure_ (i:=6) (N:=some 50) (v:=?_) (a':=?_) #[true,false,true,true,false,false,true,false,false,false,false,false,false,false,false,false,false,false,false,false] rfl rfl (any_of HT_.out (by kernel_rfl)) (fun _ _ _ h=>h) (Or.inl ⟨by rfl,?_⟩) ?_ ?_
             rotate_left
             ·intro w'
              go_simp
              with_reducible rfl
             rotate_left
             ·simp only [Act.put,List.setIfInBounds_toArray,List.set_cons_zero,List.set_cons_succ,i64_w,i32_w]
              rfl
             refine pure_ (i:=8) (N:=some 52) (v:=?_) (a':=?_) #[true,false,true,true,false,false,true,false,true,false,false,false,false,false,false,false,false,false,false,false] rfl rfl (any_of HT_.out (by kernel_rfl)) (fun _ _ _ h=>h) (Or.inl ⟨by rfl,?_⟩) ?_ ?_
             rotate_left
             ·intro w'
              go_simp
              with_reducible rfl
             rotate_left
             ·simp only [Act.put,List.setIfInBounds_toArray,List.set_cons_zero,List.set_cons_succ,i64_w,i32_w]
              rfl
             refine pure_ (i:=10) (N:=some 54) (v:=?_) (a':=?_) #[true,false,true,true,false,false,true,false,true,false,true,false,false,false,false,false,false,false,false,false] rfl rfl (any_of HT_.out (by kernel_rfl)) (fun _ _ _ h=>h) (Or.inl ⟨by rfl,?_⟩) ?_ ?_
             rotate_left
             ·intro w'
              go_simp
              with_reducible rfl
             rotate_left
             ·simp only [Act.put,List.setIfInBounds_toArray,List.set_cons_zero,List.set_cons_succ,i64_w,i32_w]
              rfl
             refine pure_ (i:=11) (N:=some 55) (v:=?_) (a':=?_) #[true,false,true,true,false,false,true,false,true,false,true,true,false,false,false,false,false,false,false,false] rfl rfl (any_of HT_.out (by kernel_rfl)) (fun _ _ _ h=>h) (Or.inl ⟨by rfl,?_⟩) ?_ ?_
             rotate_left
             ·intro w'
              go_simp
              with_reducible rfl
             rotate_left
             ·simp only [Act.put,List.setIfInBounds_toArray,List.set_cons_zero,List.set_cons_succ,i64_w,i32_w]
              rfl
             refine pure_ (i:=14) (N:=some 58) (v:=?_) (a':=?_) #[true,false,true,true,false,false,true,false,true,false,true,true,false,false,true,false,false,false,false,false] rfl rfl (any_of HT_.out (by kernel_rfl)) (fun _ _ _ h=>h) (Or.inl ⟨by rfl,?_⟩) ?_ ?_
             rotate_left
             ·intro w'
              go_simp
              with_reducible rfl
             rotate_left
             ·simp only [Act.put,List.setIfInBounds_toArray,List.set_cons_zero,List.set_cons_succ,i64_w,i32_w]
              rfl
             refine take_ (i:=1) (N:=some 45) (v:=?_) (a':=?_) #[true,true,true,true,false,false,true,false,true,false,true,true,false,false,true,false,false,false,false,false] rfl rfl (take_ofW HT_.out HW_.out (by kernel_rfl)) (fun _ _ _ h=>h) (Or.inl ⟨by rfl,?_⟩) hHeld ?_ ?_
             rotate_left
             ·rintro w' ⟨s0,s1,s2,s3,s4,s5,s6⟩
              go_simp
              with_reducible rfl
             rotate_left
             ·simp only [Act.put,List.setIfInBounds_toArray,List.set_cons_zero,List.set_cons_succ,i64_w,i32_w]
              rfl
             refine take_ (i:=4) (N:=some 48) (v:=?_) (a':=?_) #[true,true,true,true,true,false,true,false,true,false,true,true,false,false,true,false,false,false,false,false] rfl rfl (take_ofW HT_.out HW_.out (by kernel_rfl)) (fun _ _ _ h=>h) (Or.inl ⟨by rfl,?_⟩) hHeld ?_ ?_
             rotate_left
             ·rintro w' ⟨s0,s1,s2,s3,s4,s5,s6⟩
              go_simp
              with_reducible rfl
             rotate_left
             ·simp only [Act.put,List.setIfInBounds_toArray,List.set_cons_zero,List.set_cons_succ,i64_w,i32_w]
              rfl
             refine pure_ (i:=5) (N:=some 49) (v:=?_) (a':=?_) #[true,true,true,true,true,true,true,false,true,false,true,true,false,false,true,false,false,false,false,false] rfl rfl (any_of HT_.out (by kernel_rfl)) (fun _ _ _ h=>h) (Or.inl ⟨by rfl,?_⟩) ?_ ?_
             rotate_left
             ·intro w'
              go_simp
              with_reducible rfl
             rotate_left
             ·simp only [Act.put,List.setIfInBounds_toArray,List.set_cons_zero,List.set_cons_succ,i64_w,i32_w]
              rfl
             refine pure_ (i:=7) (N:=some 51) (v:=?_) (a':=?_) #[true,true,true,true,true,true,true,true,true,false,true,true,false,false,true,false,false,false,false,false] rfl rfl (any_of HT_.out (by kernel_rfl)) (fun _ _ _ h=>h) (Or.inl ⟨by rfl,?_⟩) ?_ ?_
             rotate_left
             ·intro w'
              go_simp
              with_reducible rfl
             rotate_left
             ·simp only [Act.put,List.setIfInBounds_toArray,List.set_cons_zero,List.set_cons_succ,i64_w,i32_w]
              rfl
             refine take_ (i:=9) (N:=some 53) (v:=?_) (a':=?_) #[true,true,true,true,true,true,true,true,true,true,true,true,false,false,true,false,false,false,false,false] rfl rfl (take_ofW HT_.out HW_.out (by kernel_rfl)) (fun _ _ _ h=>h) (Or.inl ⟨by rfl,?_⟩) hHeld ?_ ?_
             rotate_left
             ·rintro w' ⟨s0,s1,s2,s3,s4,s5,s6⟩
              go_simp
              with_reducible rfl
             rotate_left
             ·simp only [Act.put,List.setIfInBounds_toArray,List.set_cons_zero,List.set_cons_succ,i64_w,i32_w]
              rfl
             refine take_ (i:=12) (N:=some 56) (v:=?_) (a':=?_) #[true,true,true,true,true,true,true,true,true,true,true,true,true,false,true,false,false,false,false,false] rfl rfl (take_ofW HT_.out HW_.out (by kernel_rfl)) (fun _ _ _ h=>h) (Or.inl ⟨by rfl,?_⟩) hHeld ?_ ?_
             rotate_left
             ·rintro w' ⟨s0,s1,s2,s3,s4,s5,s6⟩
              go_simp
              with_reducible rfl
             rotate_left
             ·simp only [Act.put,List.setIfInBounds_toArray,List.set_cons_zero,List.set_cons_succ,i64_w,i32_w]
              rfl
             refine pure_ (i:=13) (N:=some 57) (v:=?_) (a':=?_) #[true,true,true,true,true,true,true,true,true,true,true,true,true,true,true,false,false,false,false,false] rfl rfl (any_of HT_.out (by kernel_rfl)) (fun _ _ _ h=>h) (Or.inl ⟨by rfl,?_⟩) ?_ ?_
             rotate_left
             ·intro w'
              go_simp
              with_reducible rfl
             rotate_left
             ·simp only [Act.put,List.setIfInBounds_toArray,List.set_cons_zero,List.set_cons_succ,i64_w,i32_w]
              rfl
             refine pure_ (i:=15) (N:=some 59) (v:=?_) (a':=?_) #[true,true,true,true,true,true,true,true,true,true,true,true,true,true,true,true,false,false,false,false] rfl rfl (any_of HT_.out (by kernel_rfl)) (fun _ _ _ h=>h) (Or.inl ⟨by rfl,?_⟩) ?_ ?_
             rotate_left
             ·intro w'
              go_simp
              with_reducible rfl
             rotate_left
             ·simp only [Act.put,List.setIfInBounds_toArray,List.set_cons_zero,List.set_cons_succ,i64_w,i32_w]
              rfl
             refine pure_ (i:=16) (N:=some 60) (v:=?_) (a':=?_) #[true,true,true,true,true,true,true,true,true,true,true,true,true,true,true,true,true,false,false,false] rfl rfl (any_of HT_.out (by kernel_rfl)) (fun _ _ _ h=>h) (Or.inl ⟨by rfl,?_⟩) ?_ ?_
             rotate_left
             ·intro w'
              go_simp
              with_reducible rfl
             rotate_left
             ·simp only [Act.put,List.setIfInBounds_toArray,List.set_cons_zero,List.set_cons_succ,i64_w,i32_w]
              rfl
             refine take_ (i:=17) (N:=some 61) (v:=?_) (a':=?_) #[true,true,true,true,true,true,true,true,true,true,true,true,true,true,true,true,true,true,false,false] rfl rfl (take_ofW HT_.out HW_.out (by kernel_rfl)) (fun _ _ _ h=>h) (Or.inl ⟨by rfl,?_⟩) hHeld ?_ ?_
             rotate_left
             ·rintro w' ⟨s0,s1,s2,s3,s4,s5,s6⟩
              go_simp
              with_reducible rfl
             rotate_left
             ·simp only [Act.put,List.setIfInBounds_toArray,List.set_cons_zero,List.set_cons_succ,i64_w,i32_w]
              rfl
             refine pure_ (i:=18) (N:=some 62) (v:=?_) (a':=?_) #[true,true,true,true,true,true,true,true,true,true,true,true,true,true,true,true,true,true,true,false] rfl rfl (any_of HT_.out (by kernel_rfl)) (fun _ _ _ h=>h) (Or.inl ⟨by rfl,?_⟩) ?_ ?_
             rotate_left
             ·intro w'
              go_simp
              with_reducible rfl
             rotate_left
             ·simp only [Act.put,List.setIfInBounds_toArray,List.set_cons_zero,List.set_cons_succ,i64_w,i32_w]
              rfl
             refine last_ (i:=19) (N:=none) #[true,true,true,true,true,true,true,true,true,true,true,true,true,true,true,true,true,true,true,true] rfl rfl (one_of HT_.out (by kernel_rfl)) (by decide) (fun K hK=>?_)
             refine skip_ (w1:=?_) (by rfl) rfl ?_ ?_
             rotate_left
             ·go_simp
              rfl
             refine hK.out _ _ ?_
             clear hK K
             refine done_ (done_of HT_.out (by kernel_rfl)) ?_
             try go_wp2
             go_roundg k2
             case measure=>have:=HJ3.out;have:=HK2.out;omega
             case rel=>exact ⟨(wrap64 (x39_2 + 1)),(y200),(.slice (some ⟨go50,0,none⟩) x195002_2.length co50),(by first|rfl|(simp;done)|(simp [*];done)),H',⟨by have:=HJ3.out;have:=HK2.out;omega⟩,⟨by (with_reducible repeat(first|apply Kd.R_alloc|apply Kd.R_drewN|apply Kd.R_drew));exact HQ52.out⟩,⟨by (with_reducible repeat(first|refine blk_drewN ?_ _|refine blk_drew ?_|refine blk_alloc ?_ _));refine blk_far ?_ (by have h_:=Kd.R_ne HO_195002.out BK190.out (by decide);intro e_;exact h_ (by rw [e_];rfl)) _;(with_reducible repeat(first|refine blk_drewN ?_ _|refine blk_drew ?_|refine blk_alloc ?_ _));exact BK190.out⟩,⟨by (with_reducible repeat(first|refine blk_drewN ?_ _|refine blk_drew ?_|refine blk_alloc ?_ _));refine blk_far ?_ (by have h_:=Kd.R_ne HO_195002.out BK191.out (by decide);intro e_;exact h_ (by rw [e_];rfl)) _;(with_reducible repeat(first|refine blk_drewN ?_ _|refine blk_drew ?_|refine blk_alloc ?_ _));exact BK191.out⟩,⟨by (with_reducible repeat(first|refine blk_drewN ?_ _|refine blk_drew ?_|refine blk_alloc ?_ _));refine blk_far ?_ (by have h_:=Kd.R_ne HO_195002.out BK194.out (by decide);intro e_;exact h_ (by rw [e_];rfl)) _;(with_reducible repeat(first|refine blk_drewN ?_ _|refine blk_drew ?_|refine blk_alloc ?_ _));exact BK194.out⟩,⟨by repeat(first|(with_reducible first|exact HB.out|apply below_alloc|apply pw_below_drewN|apply below_drew1|refine below_set ?_ GB50.out|refine below_set ?_ GE190.out|refine below_set ?_ GE191.out|refine below_set ?_ GE194.out)|exact HB.out)⟩⟩
            ·rw [if_neg c49] at H
             exact absurd H (by simp)
           ·rw [if_neg c48] at H
            exact absurd H (by simp)
          ·rw [if_neg c46] at H
           exact absurd H (by simp)
         ·rw [if_neg c45] at H
          exact absurd H (by simp)
        ·rw [if_neg c43] at H
         exact absurd H (by simp)
       ·rw [if_neg c42] at H
        exact absurd H (by simp)
      ·rw [if_neg c41] at H
       have c41b0 : decide (x39_2 < (l2.length : Int)) = false:=decide_eq_false c41
       clear c41
       simp only [Option.some.injEq,Prod.mk.injEq] at H
       obtain ⟨rfl,rfl,rfl,rfl⟩:=H
       have hnb53:=NB194_190.out
       have hnc53:=NB190_194.out
       have hnb54:=NB194_191.out
       have hnc54:=NB191_194.out
       have hcz55_0 : wr.cell? ⟨gb194,0,none⟩ = some (.int .i64 a0_0):=(blk_cell BK194.out 0).trans rfl
       have hcz55_1 : wr.cell? ⟨gb194,1,none⟩ = some (.int .i64 a0_1):=(blk_cell BK194.out 1).trans rfl
       have hcz55_2 : wr.cell? ⟨gb194,2,none⟩ = some (u195002):=(blk_cell BK194.out 2).trans rfl
       have hfz55_0:=blk_frozen BK194.out 0
       have hfz55_1:=blk_frozen BK194.out 1
       have hfz55_2:=blk_frozen BK194.out 2
       have hnb56:=NB191_190.out
       have hnc56:=NB190_191.out
       have hcz57_0 : wr.cell? ⟨gb191,0,none⟩ = some (.int .i64 0):=(blk_cell BK191.out 0).trans rfl
       have hcz57_1 : wr.cell? ⟨gb191,1,none⟩ = some (.int .i64 0):=(blk_cell BK191.out 1).trans rfl
       have hcz57_2 : wr.cell? ⟨gb191,2,none⟩ = some (.slice none 0 0):=(blk_cell BK191.out 2).trans rfl
       have hfz57_0:=blk_frozen BK191.out 0
       have hfz57_1:=blk_frozen BK191.out 1
       have hfz57_2:=blk_frozen BK191.out 2
       obtain ⟨Ao58,co58,eo58⟩:=Kd.R_slice HO_195002.out
       subst eo58
       go_wp2
       refine bodyPost_ret (results_ct rfl _ _ gb191 62 #[.int .i64 a0_0,.int .i64 a0_1,.slice Ao58 x195002_2.length co58] (0,0) _ rfl (by (with_reducible repeat(first|refine blk_drewN ?_ _|refine blk_drew ?_|refine blk_alloc ?_ _));refine blk_put (cs:=#[.int .i64 a0_0,.int .i64 a0_1,.slice none 0 0]) ?_ 2 _ rfl;(with_reducible repeat(first|refine blk_drewN ?_ _|refine blk_drew ?_|refine blk_alloc ?_ _));refine blk_put (cs:=#[.int .i64 a0_0,.int .i64 0,.slice none 0 0]) ?_ 1 _ rfl;(with_reducible repeat(first|refine blk_drewN ?_ _|refine blk_drew ?_|refine blk_alloc ?_ _));refine blk_put (cs:=#[.int .i64 0,.int .i64 0,.slice none 0 0]) ?_ 0 _ rfl;(with_reducible repeat(first|refine blk_drewN ?_ _|refine blk_drew ?_|refine blk_alloc ?_ _));exact BK191.out) Try.underlying62 rfl (by kernel_rfl)) rfl ?_
       exact ⟨_,by first|rfl|(simp [errW_none,errW_some] <;> rfl)|(simp [*,errW_none,errW_some] <;> rfl),by (with_reducible repeat(first|apply Kd.R_alloc|apply Kd.R_drewN|apply Kd.R_drew));exact Kd.R_mono (Kd.R_far (p:=⟨gb191,2,none⟩) (Kd.R_far (p:=⟨gb191,1,none⟩) (Kd.R_far (p:=⟨gb191,0,none⟩) (Kd.R_types HO_195002.out BK191.out (by decide)) (fun _ hk=>hk.2) (.int .i64 a0_0)) (fun _ hk=>hk.2) (.int .i64 a0_1)) (fun _ hk=>hk.2) (.slice Ao58 x195002_2.length co58)) (fun _ hk=>trivial),by repeat(first|(with_reducible first|exact HB.out|apply below_alloc|apply pw_below_drewN|apply below_drew1|refine below_set ?_ GE190.out|refine below_set ?_ GE191.out|refine below_set ?_ GE194.out)|exact HB.out)⟩

end Go.Proofs.Ytnagfbadjbkhmaa.PB
