import Derived.Test.YtnagfbadjbkhmaaPAx0
import Derived.Test.YtnagfbadjbkhmaaPAx37
import Derived.Test.YtnagfbadjbkhmaaPAx38
namespace Go.Proofs.Ytnagfbadjbkhmaa.PA
open Go.RowKit Go.Proofs.YtnagfbadjbkhmaaW.PrintWords Go.Proofs.YtnagfbadjbkhmaaW.PrintLast Go.Proofs.YtnagfbadjbkhmaaW.PrintMore
attribute [local go_sem] max2_int min2_int max_two min_two max_three min_three max_four min_four   -- for this text's walks alone
attribute [local go_sem high] Flt.fold_eq Flt.fold_ne Flt.fold_lt Flt.fold_gt Flt.fold_le Flt.fold_ge Flt.run_bits Flt.run_frombits
set_option linter.unusedVariables false
set_option linter.unusedSimpArgs false

/-! ### hornbeamref11_Turn: function 34 -/
mutual
def hornbeamref11_Turn.j0 : Nat → Int → List Int → Bool → Int → Int → List Int → Option (Int × Int × List Int × Int)
 | 0,_,_,_,_,_,_=>none
 | k + 1,x1,x2,x31,x666000,x666001,x666002=>if x31 = true then (some (0,0,([] : List Int),8)) else (hornbeamref11_Turn.l0 k x1 x2 0 x666000 x666001 x666002 x666000 x666001 ([] : List Int))
def hornbeamref11_Turn.l0 : Nat → Int → List Int → Int → Int → Int → List Int → Int → Int → List Int → Option (Int × Int × List Int × Int)
 | 0,_,_,_,_,_,_,_,_,_=>none
 | k + 1,x1,x2,x9,x666000,x666001,x666002,x670000,x670001,x670002=>if x9 < x666001 then (hornbeamref11_Turn.l1 k x1 x2 x9 0 x666000 x666001 x666002 x670000 x670001 x670002) else (some (x670000,x670001,x670002,0))
def hornbeamref11_Turn.l1 : Nat → Int → List Int → Int → Int → Int → Int → List Int → Int → Int → List Int → Option (Int × Int × List Int × Int)
 | 0,_,_,_,_,_,_,_,_,_,_=>none
 | k + 1,x1,x2,x9,x10,x666000,x666001,x666002,x670000,x670001,x670002=>if x10 < x666000 then (if x9 = x1 then (if 0 ≤ x10 then (if x10 < (x2.length : Int) then (if 0 ≤ (wrap64 ((wrap64 (x9 * x666000)) + (rd x2 x10))) then (if (wrap64 ((wrap64 (x9 * x666000)) + (rd x2 x10))) < (x666002.length : Int) then (if x670002.length < 70368744177664 then (hornbeamref11_Turn.l1 k x1 x2 x9 (wrap64 (x10 + 1)) x666000 x666001 x666002 x670000 x670001 (x670002 ++ [rd x666002 (wrap64 ((wrap64 (x9 * x666000)) + (rd x2 x10)))])) else (none)) else (none)) else (none)) else (none)) else (none)) else (if 0 ≤ (wrap64 ((wrap64 (x9 * x666000)) + x10)) then (if (wrap64 ((wrap64 (x9 * x666000)) + x10)) < (x666002.length : Int) then (if x670002.length < 70368744177664 then (hornbeamref11_Turn.l1 k x1 x2 x9 (wrap64 (x10 + 1)) x666000 x666001 x666002 x670000 x670001 (x670002 ++ [rd x666002 (wrap64 ((wrap64 (x9 * x666000)) + x10))])) else (none)) else (none)) else (none))) else (hornbeamref11_Turn.l0 k x1 x2 (wrap64 (x9 + 1)) x666000 x666001 x666002 x670000 x670001 x670002)
end
def hornbeamref11_Turn.f (k : Nat) (a0_0 : Int) (a0_1 : Int) (l0_2 : List Int) (a1 : Int) (l2 : List Int) : Option (Int × Int × List Int × Int):=(hornbeamref11_Right.f a0_0 a0_1 l0_2).bind fun t667=>(if t667 = true then (if a1 < 0 then (hornbeamref11_Turn.j0 k a1 l2 true a0_0 a0_1 l0_2) else (if a1 ≥ a0_1 then (hornbeamref11_Turn.j0 k a1 l2 true a0_0 a0_1 l0_2) else ((hornbeamref11_Permutes.f k l2 a0_0).bind fun t668=>(hornbeamref11_Turn.j0 k a1 l2 (!t668) a0_0 a0_1 l0_2)))) else (hornbeamref11_Turn.j0 k a1 l2 true a0_0 a0_1 l0_2))
theorem hornbeamref11_Turn.mono_l : ∀ k,(∀ y0 y1 y2 y3 y4 y5,LeO (hornbeamref11_Turn.j0 k y0 y1 y2 y3 y4 y5) (hornbeamref11_Turn.j0 (k + 1) y0 y1 y2 y3 y4 y5)) ∧ (∀ y0 y1 y2 y3 y4 y5 y6 y7 y8,LeO (hornbeamref11_Turn.l0 k y0 y1 y2 y3 y4 y5 y6 y7 y8) (hornbeamref11_Turn.l0 (k + 1) y0 y1 y2 y3 y4 y5 y6 y7 y8)) ∧ (∀ y0 y1 y2 y3 y4 y5 y6 y7 y8 y9,LeO (hornbeamref11_Turn.l1 k y0 y1 y2 y3 y4 y5 y6 y7 y8 y9) (hornbeamref11_Turn.l1 (k + 1) y0 y1 y2 y3 y4 y5 y6 y7 y8 y9))
 | 0=>⟨fun _ _ _ _ _ _ r h=>by simp [hornbeamref11_Turn.j0] at h,fun _ _ _ _ _ _ _ _ _ r h=>by simp [hornbeamref11_Turn.l0] at h,fun _ _ _ _ _ _ _ _ _ _ r h=>by simp [hornbeamref11_Turn.l1] at h⟩
 | k + 1=>by
  obtain ⟨ih0,ih1,ih2⟩:=hornbeamref11_Turn.mono_l k
  refine ⟨?_,?_,?_⟩
  ·intro y0 y1 y2 y3 y4 y5
   unfold hornbeamref11_Turn.j0
   repeat' first
   | (with_reducible exact ih0 _ _ _ _ _ _)
   | (with_reducible exact ih1 _ _ _ _ _ _ _ _ _)
   | (with_reducible exact ih2 _ _ _ _ _ _ _ _ _ _)
   | (with_reducible exact hornbeamref11_Permutes.mono _ _ _)
   | (with_reducible exact LeO.refl _)
   | (with_reducible exact LeO.none _)
   | (with_reducible refine LeO.ite ?_ ?_)
   | (with_reducible refine LeO.bind ?_ (fun _=>?_))
   | exact ih0 _ _ _ _ _ _
   | exact ih1 _ _ _ _ _ _ _ _ _
   | exact ih2 _ _ _ _ _ _ _ _ _ _
   | exact hornbeamref11_Permutes.mono _ _ _
   | exact LeO.none _
   | refine LeO.ite ?_ ?_
   | refine LeO.bind ?_ (fun _=>?_)
  ·intro y0 y1 y2 y3 y4 y5 y6 y7 y8
   unfold hornbeamref11_Turn.l0
   repeat' first
   | (with_reducible exact ih0 _ _ _ _ _ _)
   | (with_reducible exact ih1 _ _ _ _ _ _ _ _ _)
   | (with_reducible exact ih2 _ _ _ _ _ _ _ _ _ _)
   | (with_reducible exact hornbeamref11_Permutes.mono _ _ _)
   | (with_reducible exact LeO.refl _)
   | (with_reducible exact LeO.none _)
   | (with_reducible refine LeO.ite ?_ ?_)
   | (with_reducible refine LeO.bind ?_ (fun _=>?_))
   | exact ih0 _ _ _ _ _ _
   | exact ih1 _ _ _ _ _ _ _ _ _
   | exact ih2 _ _ _ _ _ _ _ _ _ _
   | exact hornbeamref11_Permutes.mono _ _ _
   | exact LeO.none _
   | refine LeO.ite ?_ ?_
   | refine LeO.bind ?_ (fun _=>?_)
  ·intro y0 y1 y2 y3 y4 y5 y6 y7 y8 y9
   unfold hornbeamref11_Turn.l1
   repeat' first
   | (with_reducible exact ih0 _ _ _ _ _ _)
   | (with_reducible exact ih1 _ _ _ _ _ _ _ _ _)
   | (with_reducible exact ih2 _ _ _ _ _ _ _ _ _ _)
   | (with_reducible exact hornbeamref11_Permutes.mono _ _ _)
   | (with_reducible exact LeO.refl _)
   | (with_reducible exact LeO.none _)
   | (with_reducible refine LeO.ite ?_ ?_)
   | (with_reducible refine LeO.bind ?_ (fun _=>?_))
   | exact ih0 _ _ _ _ _ _
   | exact ih1 _ _ _ _ _ _ _ _ _
   | exact ih2 _ _ _ _ _ _ _ _ _ _
   | exact hornbeamref11_Permutes.mono _ _ _
   | exact LeO.none _
   | refine LeO.ite ?_ ?_
   | refine LeO.bind ?_ (fun _=>?_)
theorem hornbeamref11_Turn.mono : ∀ a0 a1 a2 a3 a4 k,LeO (hornbeamref11_Turn.f k a0 a1 a2 a3 a4) (hornbeamref11_Turn.f (k + 1) a0 a1 a2 a3 a4):=by
 intro a0 a1 a2 a3 a4 k
 obtain ⟨ih0,ih1,ih2⟩:=hornbeamref11_Turn.mono_l k
 unfold hornbeamref11_Turn.f
 repeat' first
   | (with_reducible exact ih0 _ _ _ _ _ _)
   | (with_reducible exact ih1 _ _ _ _ _ _ _ _ _)
   | (with_reducible exact ih2 _ _ _ _ _ _ _ _ _ _)
   | (with_reducible exact hornbeamref11_Permutes.mono _ _ _)
   | (with_reducible exact LeO.refl _)
   | (with_reducible exact LeO.none _)
   | (with_reducible refine LeO.ite ?_ ?_)
   | (with_reducible refine LeO.bind ?_ (fun _=>?_))
   | exact ih0 _ _ _ _ _ _
   | exact ih1 _ _ _ _ _ _ _ _ _
   | exact ih2 _ _ _ _ _ _ _ _ _ _
   | exact hornbeamref11_Permutes.mono _ _ _
   | exact LeO.none _
   | refine LeO.ite ?_ ?_
   | refine LeO.bind ?_ (fun _=>?_)
def hornbeamref11_Turn.T13 : Bool × List (List Nat × List Nat):=(true,[([],[]),([0],[0]),([],[]),([2],[2]),([],[]),([],[]),([5],[5]),([4,6],[4,6]),([],[]),([7,8],[7,8]),([3,9],[3,9]),([10],[10]),([11],[11]),([1,12],[1,12]),([0,1,2,3,4,5,6,7,8,9,10,11,12,13],[]),([14,13,13,0,1,2,3,4,5,6,7,8,9,10,11,12,13],[13,14])])
def hornbeamref11_Turn.B13 : List Nat:=[0,1,0,4,0,0,32,112,0,496,1020,2044,4092,8191,16383,32767]
theorem hornbeamref11_Turn.tab13 : rtab .any (opsOf Try.f34 13) = hornbeamref11_Turn.T13:=by kernel_rfl
theorem hornbeamref11_Turn.bits13 : waitsOk hornbeamref11_Turn.T13.2 hornbeamref11_Turn.B13 = true:=by kernel_rfl
set_option maxHeartbeats 8000000 in
set_option maxRecDepth 100000 in
theorem hornbeamref11_Turn.calls (k : Nat) (a0_0 : Int) (a0_1 : Int) (A0_2 : Option Addr) (c0_2 : Nat) (l0_2 : List Int) (a1 : Int) (A2 : Option Addr) (c2 : Nat) (l2 : List Int) (r1 : Int) (r2 : Int) (r3 : List Int) (r4 : Int) (w : World) (hr0_2 : Kd.C (Kd.int .u16) w A0_2 l0_2.length l0_2) (hc0_2 : l0_2.length ≤ c0_2) (hr2 : Kd.C (Kd.int .i64) w A2 l2.length l2) (hc2 : l2.length ≤ c2) (h : hornbeamref11_Turn.f k a0_0 a0_1 l0_2 a1 l2 = some (r1,r2,r3,r4)) :
  Calls Try.prog 34 #[.agg #[.int .i64 a0_0,.int .i64 a0_1,.slice A0_2 l0_2.length c0_2],.int .i64 a1,.slice A2 l2.length c2] w fun e w'=>∃ v2_ : Value,e = .returned (.tuple #[.agg #[.int .i64 r1,.int .i64 r2,v2_],.int .i64 r4]) ∧ Kd.R (Kd.int .u16) 53 w' w.heap.size (fun _=>True) v2_ r3 ∧ Below w.heap.size w w':=by
 have hu62:=Try.underlying62
 have HR0_2:=Aside0.mk hr0_2
 have HC0_2:=Aside0.mk hc0_2
 clear hr0_2 hc0_2
 have HR2:=Aside0.mk hr2
 have HC2:=Aside0.mk hc2
 clear hr2 hc2
 have HB:=Aside0.mk (Below.refl w.heap.size w)
 have H : ((hornbeamref11_Right.f a0_0 a0_1 l0_2).bind fun t667=>(if t667 = true then (if a1 < 0 then (hornbeamref11_Turn.j0 k a1 l2 true a0_0 a0_1 l0_2) else (if a1 ≥ a0_1 then (hornbeamref11_Turn.j0 k a1 l2 true a0_0 a0_1 l0_2) else ((hornbeamref11_Permutes.f k l2 a0_0).bind fun t668=>(hornbeamref11_Turn.j0 k a1 l2 (!t668) a0_0 a0_1 l0_2)))) else (hornbeamref11_Turn.j0 k a1 l2 true a0_0 a0_1 l0_2))) = some (r1,r2,r3,r4):=h
 clear h
 have HC4:=Aside0.mk H
 clear H
 go_enter Try.func34,Try.ntmps34
 go_upto_region 1 with (first|((with_reducible refine gate_dst (N:=3) rfl ?_);refine box_event ?hg (N:=3) ?hd (cs:=#[.int .i64 a0_0,.int .i64 a0_1,.slice A0_2 l0_2.length c0_2]) (t:=62) ?hr ?_;(case hd=>rfl);(case hg=>rfl);(case hr=>first|(go_simp;done)|(go_simp;rfl));intro gb665 hg w5 hbox hb;have n0_:=Aside0.mk (below_step (by repeat(first|(with_reducible first|exact HB.out|apply below_alloc|apply pw_below_drewN|apply below_drew1)|exact HB.out)) hb);have n1_:=Aside0.mk (hbox);have n2_:=Aside0.mk ((by rw [hg];exact (below_size (by repeat(first|(with_reducible first|exact HB.out|apply below_alloc|apply pw_below_drewN|apply below_drew1)|exact HB.out))) : w.heap.size ≤ gb665));have n3_:=Aside0.mk ((by rw [hg];exact (below_size (by repeat(first|(with_reducible first|exact HB.out|apply below_alloc|apply pw_below_drewN|apply below_drew1)|exact HB.out))) : w.heap.size ≤ gb665));clear HB;have HB:=n0_;have BK665:=n1_;have GW665:=n2_;have GE665:=n3_;clear n0_ n1_ n2_ n3_;clear hb hbox hg)|((with_reducible refine gate_dst (N:=6) rfl ?_);refine box_event ?hg (N:=6) ?hd (cs:=#[.int .i64 0,.int .i64 0,.slice none 0 0]) (t:=62) ?hr ?_;(case hd=>rfl);(case hg=>rfl);(case hr=>first|(go_simp;done)|(go_simp;rfl));intro gb666 hg w6 hbox hb;have n0_:=Aside0.mk (blk_below (g:=gb665) (o:=.cells #[.int .i64 a0_0,.int .i64 a0_1,.slice A0_2 l0_2.length c0_2] 62 (0,0)) (by (with_reducible repeat(first|refine blk_drewN ?_ _|refine blk_drew ?_|refine blk_alloc ?_ _));exact BK665.out) hb);have n1_:=Aside0.mk (below_step (by repeat(first|(with_reducible first|exact HB.out|apply below_alloc|apply pw_below_drewN|apply below_drew1|refine below_set ?_ GE665.out)|exact HB.out)) hb);have n2_:=Aside0.mk (hbox);have n3_:=Aside0.mk ((by rw [hg];exact (below_size (by repeat(first|(with_reducible first|exact HB.out|apply below_alloc|apply pw_below_drewN|apply below_drew1|refine below_set ?_ GE665.out)|exact HB.out))) : w.heap.size ≤ gb666));have n4_:=Aside0.mk ((by rw [hg];exact (below_size (by repeat(first|(with_reducible first|exact HB.out|apply below_alloc|apply pw_below_drewN|apply below_drew1|refine below_set ?_ GE665.out)|exact HB.out))) : w.heap.size ≤ gb666));have n5_:=Aside0.mk ((by rw [hg];exact Nat.ne_of_lt (blk_lt (g:=gb665) (o:=.cells #[.int .i64 a0_0,.int .i64 a0_1,.slice A0_2 l0_2.length c0_2] 62 (0,0)) (by (with_reducible repeat(first|refine blk_drewN ?_ _|refine blk_drew ?_|refine blk_alloc ?_ _));exact BK665.out)) : gb665 ≠ gb666));have n6_:=Aside0.mk ((by rw [hg];exact Nat.ne_of_gt (blk_lt (g:=gb665) (o:=.cells #[.int .i64 a0_0,.int .i64 a0_1,.slice A0_2 l0_2.length c0_2] 62 (0,0)) (by (with_reducible repeat(first|refine blk_drewN ?_ _|refine blk_drew ?_|refine blk_alloc ?_ _));exact BK665.out)) : gb666 ≠ gb665));clear BK665;clear HB;have BK665:=n0_;have HB:=n1_;have BK666:=n2_;have GW666:=n3_;have GE666:=n4_;have NB665_666:=n5_;have NB666_665:=n6_;clear n0_ n1_ n2_ n3_ n4_ n5_ n6_;clear hb hbox hg))
 (try simp only [Act.put,List.setIfInBounds_toArray,List.set_cons_zero,List.set_cons_succ])
 go_cut [31] (fun v31 wc=>∃ (kq : Nat) (x31_3 : Bool),v31 = .bool x31_3 ∧ Aside0 (hornbeamref11_Turn.j0 kq a1 l2 x31_3 a0_0 a0_1 l0_2 = some (r1,r2,r3,r4)) ∧ Aside0 (kq ≤ k) ∧ Aside0 (wc.heap[gb665]? = some (.cells #[.int .i64 a0_0,.int .i64 a0_1,(.slice A0_2 l0_2.length c0_2)] 62 (0,0))) ∧ Aside0 (wc.heap[gb666]? = some (.cells #[.int .i64 0,.int .i64 0,(.slice none 0 0)] 62 (0,0))) ∧ Aside0 (Below w.heap.size w wc))
 case first =>
  have H:=HC4.out
  clear HC4
  replace H:=Option.bind_eq_some_iff.mp H
  obtain ⟨t667,A70,H⟩:=H
  replace H : (if t667 = true then (if a1 < 0 then (hornbeamref11_Turn.j0 k a1 l2 true a0_0 a0_1 l0_2) else (if a1 ≥ a0_1 then (hornbeamref11_Turn.j0 k a1 l2 true a0_0 a0_1 l0_2) else ((hornbeamref11_Permutes.f k l2 a0_0).bind fun t668=>(hornbeamref11_Turn.j0 k a1 l2 (!t668) a0_0 a0_1 l0_2)))) else (hornbeamref11_Turn.j0 k a1 l2 true a0_0 a0_1 l0_2)) = some (r1,r2,r3,r4):=H
  have A7:=Aside0.mk A70
  clear A70
  by_cases c8 : t667 = true
  ·subst c8
   have H1 : (if a1 < 0 then (hornbeamref11_Turn.j0 k a1 l2 true a0_0 a0_1 l0_2) else (if a1 ≥ a0_1 then (hornbeamref11_Turn.j0 k a1 l2 true a0_0 a0_1 l0_2) else ((hornbeamref11_Permutes.f k l2 a0_0).bind fun t668=>(hornbeamref11_Turn.j0 k a1 l2 (!t668) a0_0 a0_1 l0_2)))) = some (r1,r2,r3,r4):=by rw [if_pos rfl] at H;exact H
   clear H
   have H:=H1
   clear H1
   by_cases c9 : a1 < 0
   ·rw [if_pos c9] at H
    have c9b0 : decide (a1 < 0) = true:=decide_eq_true c9
    clear c9
    (first|rw [c9b0]|(simp only [i64_w,i32_w];rw [c9b0])|skip)
    have H':=Aside0.mk H
    clear H
    have hnb10:=NB665_666.out
    have hnc10:=NB666_665.out
    have hcz11_0 : w6.cell? ⟨gb665,0,none⟩ = some (.int .i64 a0_0):=(blk_cell BK665.out 0).trans rfl
    have hcz11_1 : w6.cell? ⟨gb665,1,none⟩ = some (.int .i64 a0_1):=(blk_cell BK665.out 1).trans rfl
    have hcz11_2 : w6.cell? ⟨gb665,2,none⟩ = some (.slice A0_2 l0_2.length c0_2):=(blk_cell BK665.out 2).trans rfl
    have hfz11_0:=blk_frozen BK665.out 0
    have hfz11_1:=blk_frozen BK665.out 1
    have hfz11_2:=blk_frozen BK665.out 2
    go_wp2_with (first|((with_reducible refine gate_callee (f:=35) rfl ?_);refine goesL_ (some 13) rfl rfl Try.func35 (by kernel_rfl) rfl #[.agg #[.int .i64 a0_0,.int .i64 a0_1,.slice A0_2 l0_2.length c0_2]] rfl (by (try simp only [List.map_toArray,List.map_cons,List.map_nil]);first|done|rfl|(simp only [List.length_drop,List.length_take];rfl)) ?_;(with_reducible refine (hornbeamref11_Right.calls a0_0 a0_1 _ _ l0_2 true _ ?side1 ?side2 A7.out).mono ?_);(case side1=>repeat(first|exact (Kd.C_below HR0_2.out HB.out)|(with_reducible refine Kd.C_alloc ?_ _)|(with_reducible refine Kd.C_drewN ?_ _)|(with_reducible refine Kd.C_drew ?_)));(case side2=>exact HC0_2.out);rintro e w12 ⟨rfl,hb⟩;refine ⟨_,rfl,?_⟩;have n0_:=Aside0.mk (blk_below (g:=gb665) (o:=.cells #[.int .i64 a0_0,.int .i64 a0_1,.slice A0_2 l0_2.length c0_2] 62 (0,0)) (by (with_reducible repeat(first|refine blk_drewN ?_ _|refine blk_drew ?_|refine blk_alloc ?_ _));exact BK665.out) hb);have n1_:=Aside0.mk (blk_below (g:=gb666) (o:=.cells #[.int .i64 0,.int .i64 0,.slice none 0 0] 62 (0,0)) (by (with_reducible repeat(first|refine blk_drewN ?_ _|refine blk_drew ?_|refine blk_alloc ?_ _));exact BK666.out) hb);have n2_:=Aside0.mk (below_step (by repeat(first|(with_reducible first|exact HB.out|apply below_alloc|apply pw_below_drewN|apply below_drew1|refine below_set ?_ GE665.out|refine below_set ?_ GE666.out)|exact HB.out)) hb);clear BK665;clear BK666;clear HB;have BK665:=n0_;have BK666:=n1_;have HB:=n2_;clear n0_ n1_ n2_;(try clear hb);(try clear hb2);(try clear hk);(try clear hi)))
    go_meet
    case rel=>exact ⟨_,(true),(by first|rfl|(simp;done)|(simp [*];done)),H',⟨by first|omega|exact Nat.le_refl _⟩,⟨by (with_reducible repeat(first|refine blk_drewN ?_ _|refine blk_drew ?_|refine blk_alloc ?_ _));exact BK665.out⟩,⟨by (with_reducible repeat(first|refine blk_drewN ?_ _|refine blk_drew ?_|refine blk_alloc ?_ _));exact BK666.out⟩,⟨by repeat(first|(with_reducible first|exact HB.out|apply below_alloc|apply pw_below_drewN|apply below_drew1|refine below_set ?_ GE665.out|refine below_set ?_ GE666.out)|exact HB.out)⟩⟩
   ·rw [if_neg c9] at H
    have c9b0 : decide (a1 < 0) = false:=decide_eq_false c9
    clear c9
    (first|rw [c9b0]|(simp only [i64_w,i32_w];rw [c9b0])|skip)
    by_cases c13 : a1 ≥ a0_1
    ·rw [if_pos c13] at H
     have c13b0 : decide (a0_1 ≤ a1) = true:=decide_eq_true c13
     clear c13
     have H':=Aside0.mk H
     clear H
     have hnb14:=NB665_666.out
     have hnc14:=NB666_665.out
     have hcz15_0 : w6.cell? ⟨gb665,0,none⟩ = some (.int .i64 a0_0):=(blk_cell BK665.out 0).trans rfl
     have hcz15_1 : w6.cell? ⟨gb665,1,none⟩ = some (.int .i64 a0_1):=(blk_cell BK665.out 1).trans rfl
     have hcz15_2 : w6.cell? ⟨gb665,2,none⟩ = some (.slice A0_2 l0_2.length c0_2):=(blk_cell BK665.out 2).trans rfl
     have hfz15_0:=blk_frozen BK665.out 0
     have hfz15_1:=blk_frozen BK665.out 1
     have hfz15_2:=blk_frozen BK665.out 2
     go_wp2_with (first|((with_reducible refine gate_callee (f:=35) rfl ?_);refine goesL_ (some 13) rfl rfl Try.func35 (by kernel_rfl) rfl #[.agg #[.int .i64 a0_0,.int .i64 a0_1,.slice A0_2 l0_2.length c0_2]] rfl (by (try simp only [List.map_toArray,List.map_cons,List.map_nil]);first|done|rfl|(simp only [List.length_drop,List.length_take];rfl)) ?_;(with_reducible refine (hornbeamref11_Right.calls a0_0 a0_1 _ _ l0_2 true _ ?side1 ?side2 A7.out).mono ?_);(case side1=>repeat(first|exact (Kd.C_below HR0_2.out HB.out)|(with_reducible refine Kd.C_alloc ?_ _)|(with_reducible refine Kd.C_drewN ?_ _)|(with_reducible refine Kd.C_drew ?_)));(case side2=>exact HC0_2.out);rintro e w16 ⟨rfl,hb⟩;refine ⟨_,rfl,?_⟩;have n0_:=Aside0.mk (blk_below (g:=gb665) (o:=.cells #[.int .i64 a0_0,.int .i64 a0_1,.slice A0_2 l0_2.length c0_2] 62 (0,0)) (by (with_reducible repeat(first|refine blk_drewN ?_ _|refine blk_drew ?_|refine blk_alloc ?_ _));exact BK665.out) hb);have n1_:=Aside0.mk (blk_below (g:=gb666) (o:=.cells #[.int .i64 0,.int .i64 0,.slice none 0 0] 62 (0,0)) (by (with_reducible repeat(first|refine blk_drewN ?_ _|refine blk_drew ?_|refine blk_alloc ?_ _));exact BK666.out) hb);have n2_:=Aside0.mk (below_step (by repeat(first|(with_reducible first|exact HB.out|apply below_alloc|apply pw_below_drewN|apply below_drew1|refine below_set ?_ GE665.out|refine below_set ?_ GE666.out)|exact HB.out)) hb);clear BK665;clear BK666;clear HB;have BK665:=n0_;have BK666:=n1_;have HB:=n2_;clear n0_ n1_ n2_;(try clear hb);(try clear hb2);(try clear hk);(try clear hi);have hcz17_0 : w16.cell? ⟨gb665,0,none⟩ = some (.int .i64 a0_0):=(blk_cell BK665.out 0).trans rfl;have hcz17_1 : w16.cell? ⟨gb665,1,none⟩ = some (.int .i64 a0_1):=(blk_cell BK665.out 1).trans rfl;have hcz17_2 : w16.cell? ⟨gb665,2,none⟩ = some (.slice A0_2 l0_2.length c0_2):=(blk_cell BK665.out 2).trans rfl;have hfz17_0:=blk_frozen BK665.out 0;have hfz17_1:=blk_frozen BK665.out 1;have hfz17_2:=blk_frozen BK665.out 2))
     go_meet
     case rel=>exact ⟨_,(true),(by first|rfl|(simp;done)|(simp [*];done)),H',⟨by first|omega|exact Nat.le_refl _⟩,⟨by (with_reducible repeat(first|refine blk_drewN ?_ _|refine blk_drew ?_|refine blk_alloc ?_ _));exact BK665.out⟩,⟨by (with_reducible repeat(first|refine blk_drewN ?_ _|refine blk_drew ?_|refine blk_alloc ?_ _));exact BK666.out⟩,⟨by repeat(first|(with_reducible first|exact HB.out|apply below_alloc|apply pw_below_drewN|apply below_drew1|refine below_set ?_ GE665.out|refine below_set ?_ GE666.out)|exact HB.out)⟩⟩
    ·rw [if_neg c13] at H
     have c13b0 : decide (a0_1 ≤ a1) = false:=decide_eq_false c13
     clear c13
     replace H:=Option.bind_eq_some_iff.mp H
     obtain ⟨t668,A180,H⟩:=H
     replace H : (hornbeamref11_Turn.j0 k a1 l2 (!t668) a0_0 a0_1 l0_2) = some (r1,r2,r3,r4):=H
     have A18:=Aside0.mk A180
     clear A180
     have H':=Aside0.mk H
     clear H
     have hnb19:=NB665_666.out
     have hnc19:=NB666_665.out
     have hcz20_0 : w6.cell? ⟨gb665,0,none⟩ = some (.int .i64 a0_0):=(blk_cell BK665.out 0).trans rfl
     have hcz20_1 : w6.cell? ⟨gb665,1,none⟩ = some (.int .i64 a0_1):=(blk_cell BK665.out 1).trans rfl
     have hcz20_2 : w6.cell? ⟨gb665,2,none⟩ = some (.slice A0_2 l0_2.length c0_2):=(blk_cell BK665.out 2).trans rfl
     have hfz20_0:=blk_frozen BK665.out 0
     have hfz20_1:=blk_frozen BK665.out 1
     have hfz20_2:=blk_frozen BK665.out 2
     go_wp2_with (first|((with_reducible refine gate_callee (f:=35) rfl ?_);refine goesL_ (some 13) rfl rfl Try.func35 (by kernel_rfl) rfl #[.agg #[.int .i64 a0_0,.int .i64 a0_1,.slice A0_2 l0_2.length c0_2]] rfl (by (try simp only [List.map_toArray,List.map_cons,List.map_nil]);first|done|rfl|(simp only [List.length_drop,List.length_take];rfl)) ?_;(with_reducible refine (hornbeamref11_Right.calls a0_0 a0_1 _ _ l0_2 true _ ?side1 ?side2 A7.out).mono ?_);(case side1=>repeat(first|exact (Kd.C_below HR0_2.out HB.out)|(with_reducible refine Kd.C_alloc ?_ _)|(with_reducible refine Kd.C_drewN ?_ _)|(with_reducible refine Kd.C_drew ?_)));(case side2=>exact HC0_2.out);rintro e w21 ⟨rfl,hb⟩;refine ⟨_,rfl,?_⟩;have n0_:=Aside0.mk (blk_below (g:=gb665) (o:=.cells #[.int .i64 a0_0,.int .i64 a0_1,.slice A0_2 l0_2.length c0_2] 62 (0,0)) (by (with_reducible repeat(first|refine blk_drewN ?_ _|refine blk_drew ?_|refine blk_alloc ?_ _));exact BK665.out) hb);have n1_:=Aside0.mk (blk_below (g:=gb666) (o:=.cells #[.int .i64 0,.int .i64 0,.slice none 0 0] 62 (0,0)) (by (with_reducible repeat(first|refine blk_drewN ?_ _|refine blk_drew ?_|refine blk_alloc ?_ _));exact BK666.out) hb);have n2_:=Aside0.mk (below_step (by repeat(first|(with_reducible first|exact HB.out|apply below_alloc|apply pw_below_drewN|apply below_drew1|refine below_set ?_ GE665.out|refine below_set ?_ GE666.out)|exact HB.out)) hb);clear BK665;clear BK666;clear HB;have BK665:=n0_;have BK666:=n1_;have HB:=n2_;clear n0_ n1_ n2_;(try clear hb);(try clear hb2);(try clear hk);(try clear hi);have hcz22_0 : w21.cell? ⟨gb665,0,none⟩ = some (.int .i64 a0_0):=(blk_cell BK665.out 0).trans rfl;have hcz22_1 : w21.cell? ⟨gb665,1,none⟩ = some (.int .i64 a0_1):=(blk_cell BK665.out 1).trans rfl;have hcz22_2 : w21.cell? ⟨gb665,2,none⟩ = some (.slice A0_2 l0_2.length c0_2):=(blk_cell BK665.out 2).trans rfl;have hfz22_0:=blk_frozen BK665.out 0;have hfz22_1:=blk_frozen BK665.out 1;have hfz22_2:=blk_frozen BK665.out 2)|(go_at_call 36;(with_reducible refine (hornbeamref11_Permutes.calls k _ _ l2 a0_0 t668 _ ?side1 ?side2 A18.out).mono ?_);(case side1=>repeat(first|exact (Kd.C_below HR2.out HB.out)|(with_reducible refine Kd.C_alloc ?_ _)|(with_reducible refine Kd.C_drewN ?_ _)|(with_reducible refine Kd.C_drew ?_)));(case side2=>exact HC2.out);rintro e w' ⟨rfl,⟨nd,rfl⟩⟩))
     go_meet
     case rel=>exact ⟨_,(!t668),(by first|rfl|(simp;done)|(simp [*];done)),H',⟨by first|omega|exact Nat.le_refl _⟩,⟨by (with_reducible repeat(first|refine blk_drewN ?_ _|refine blk_drew ?_|refine blk_alloc ?_ _));exact BK665.out⟩,⟨by (with_reducible repeat(first|refine blk_drewN ?_ _|refine blk_drew ?_|refine blk_alloc ?_ _));exact BK666.out⟩,⟨by repeat(first|(with_reducible first|exact HB.out|apply below_alloc|apply pw_below_drewN|apply below_drew1|refine below_set ?_ GE665.out|refine below_set ?_ GE666.out)|exact HB.out)⟩⟩
  ·replace c8:=Bool.eq_false_iff.mpr c8
   subst c8
   have H1 : (hornbeamref11_Turn.j0 k a1 l2 true a0_0 a0_1 l0_2) = some (r1,r2,r3,r4):=by rw [if_neg (show ¬ (false = true) by decide)] at H;exact H
   clear H
   have H:=H1
   clear H1
   have H':=Aside0.mk H
   clear H
   have hnb23:=NB665_666.out
   have hnc23:=NB666_665.out
   have hcz24_0 : w6.cell? ⟨gb665,0,none⟩ = some (.int .i64 a0_0):=(blk_cell BK665.out 0).trans rfl
   have hcz24_1 : w6.cell? ⟨gb665,1,none⟩ = some (.int .i64 a0_1):=(blk_cell BK665.out 1).trans rfl
   have hcz24_2 : w6.cell? ⟨gb665,2,none⟩ = some (.slice A0_2 l0_2.length c0_2):=(blk_cell BK665.out 2).trans rfl
   have hfz24_0:=blk_frozen BK665.out 0
   have hfz24_1:=blk_frozen BK665.out 1
   have hfz24_2:=blk_frozen BK665.out 2
   go_wp2_with (first|((with_reducible refine gate_callee (f:=35) rfl ?_);refine goesL_ (some 13) rfl rfl Try.func35 (by kernel_rfl) rfl #[.agg #[.int .i64 a0_0,.int .i64 a0_1,.slice A0_2 l0_2.length c0_2]] rfl (by (try simp only [List.map_toArray,List.map_cons,List.map_nil]);first|done|rfl|(simp only [List.length_drop,List.length_take];rfl)) ?_;(with_reducible refine (hornbeamref11_Right.calls a0_0 a0_1 _ _ l0_2 false _ ?side1 ?side2 A7.out).mono ?_);(case side1=>repeat(first|exact (Kd.C_below HR0_2.out HB.out)|(with_reducible refine Kd.C_alloc ?_ _)|(with_reducible refine Kd.C_drewN ?_ _)|(with_reducible refine Kd.C_drew ?_)));(case side2=>exact HC0_2.out);rintro e w25 ⟨rfl,hb⟩;refine ⟨_,rfl,?_⟩;have n0_:=Aside0.mk (blk_below (g:=gb665) (o:=.cells #[.int .i64 a0_0,.int .i64 a0_1,.slice A0_2 l0_2.length c0_2] 62 (0,0)) (by (with_reducible repeat(first|refine blk_drewN ?_ _|refine blk_drew ?_|refine blk_alloc ?_ _));exact BK665.out) hb);have n1_:=Aside0.mk (blk_below (g:=gb666) (o:=.cells #[.int .i64 0,.int .i64 0,.slice none 0 0] 62 (0,0)) (by (with_reducible repeat(first|refine blk_drewN ?_ _|refine blk_drew ?_|refine blk_alloc ?_ _));exact BK666.out) hb);have n2_:=Aside0.mk (below_step (by repeat(first|(with_reducible first|exact HB.out|apply below_alloc|apply pw_below_drewN|apply below_drew1|refine below_set ?_ GE665.out|refine below_set ?_ GE666.out)|exact HB.out)) hb);clear BK665;clear BK666;clear HB;have BK665:=n0_;have BK666:=n1_;have HB:=n2_;clear n0_ n1_ n2_;(try clear hb);(try clear hb2);(try clear hk);(try clear hi)))
   go_meet
   case rel=>exact ⟨_,(true),(by first|rfl|(simp;done)|(simp [*];done)),H',⟨by first|omega|exact Nat.le_refl _⟩,⟨by (with_reducible repeat(first|refine blk_drewN ?_ _|refine blk_drew ?_|refine blk_alloc ?_ _));exact BK665.out⟩,⟨by (with_reducible repeat(first|refine blk_drewN ?_ _|refine blk_drew ?_|refine blk_alloc ?_ _));exact BK666.out⟩,⟨by repeat(first|(with_reducible first|exact HB.out|apply below_alloc|apply pw_below_drewN|apply below_drew1|refine below_set ?_ GE665.out|refine below_set ?_ GE666.out)|exact HB.out)⟩⟩
 case rest =>
  clear HC4
  try clear c1
  try clear c2
  try clear p2
  try clear c3
  try clear c8
  try clear c9
  try clear c9b0
  try clear c10
  try clear c13
  try clear c13b0
  try clear c14
  try clear c19
  try clear c23
  try clear hcz11_0
  try clear hcz11_1
  try clear hcz11_2
  try clear hcz15_0
  try clear hcz15_1
  try clear hcz15_2
  try clear hcz17_0
  try clear hcz17_1
  try clear hcz17_2
  try clear hcz20_0
  try clear hcz20_1
  try clear hcz20_2
  try clear hcz22_0
  try clear hcz22_1
  try clear hcz22_2
  try clear hcz24_0
  try clear hcz24_1
  try clear hcz24_2
  try clear hfz11_0
  try clear hfz11_1
  try clear hfz11_2
  try clear hfz15_0
  try clear hfz15_1
  try clear hfz15_2
  try clear hfz17_0
  try clear hfz17_1
  try clear hfz17_2
  try clear hfz20_0
  try clear hfz20_1
  try clear hfz20_2
  try clear hfz22_0
  try clear hfz22_1
  try clear hfz22_2
  try clear hfz24_0
  try clear hfz24_1
  try clear hfz24_2
  obtain ⟨kq,x31_3,rfl,HA,HJ3,BK665,BK666,HB⟩:=hcut
  cases kq with
  | zero=>exact absurd HA.out (by simp [hornbeamref11_Turn.j0])
  | succ kj3 =>
   have H:=HA.out
   clear HA
   simp only [hornbeamref11_Turn.j0] at H
   by_cases c26 : x31_3 = true
   ·subst c26
    have H1 : (some (0,0,([] : List Int),8)) = some (r1,r2,r3,r4):=by rw [if_pos rfl] at H;exact H
    clear H
    have H:=H1
    clear H1
    simp only [Option.some.injEq,Prod.mk.injEq] at H
    obtain ⟨rfl,rfl,rfl,rfl⟩:=H
    have hnb27:=NB666_665.out
    have hnc27:=NB665_666.out
    have hcz28_0 : wc.cell? ⟨gb666,0,none⟩ = some (.int .i64 0):=(blk_cell BK666.out 0).trans rfl
    have hcz28_1 : wc.cell? ⟨gb666,1,none⟩ = some (.int .i64 0):=(blk_cell BK666.out 1).trans rfl
    have hcz28_2 : wc.cell? ⟨gb666,2,none⟩ = some (.slice none 0 0):=(blk_cell BK666.out 2).trans rfl
    have hfz28_0:=blk_frozen BK666.out 0
    have hfz28_1:=blk_frozen BK666.out 1
    have hfz28_2:=blk_frozen BK666.out 2
    go_wp2
    refine bodyPost_ret (results_ct rfl _ _ gb666 62 #[.int .i64 0,.int .i64 0,.slice none 0 0] (0,0) _ rfl (by (with_reducible repeat(first|refine blk_drewN ?_ _|refine blk_drew ?_|refine blk_alloc ?_ _));refine blk_put (cs:=#[.int .i64 0,.int .i64 0,.slice none 0 0]) ?_ 2 _ rfl;(with_reducible repeat(first|refine blk_drewN ?_ _|refine blk_drew ?_|refine blk_alloc ?_ _));refine blk_put (cs:=#[.int .i64 0,.int .i64 0,.slice none 0 0]) ?_ 1 _ rfl;(with_reducible repeat(first|refine blk_drewN ?_ _|refine blk_drew ?_|refine blk_alloc ?_ _));refine blk_put (cs:=#[.int .i64 0,.int .i64 0,.slice none 0 0]) ?_ 0 _ rfl;(with_reducible repeat(first|refine blk_drewN ?_ _|refine blk_drew ?_|refine blk_alloc ?_ _));exact BK666.out) Try.underlying62 rfl (by kernel_rfl)) rfl ?_
    exact ⟨_,by first|rfl|(simp [errW_none,errW_some] <;> rfl)|(simp [*,errW_none,errW_some] <;> rfl),by first|exact Kd.R_nil _ _ _ _ _|exact Kd.N_nil _ _ _ _ _|exact Kd.V_nil _ _ _ _ _|exact Kd.Q_nil _ _ _ _ _|exact Kd.S_nil _ _ _ _ _,by repeat(first|(with_reducible first|exact HB.out|apply below_alloc|apply pw_below_drewN|apply below_drew1|refine below_set ?_ GE665.out|refine below_set ?_ GE666.out)|exact HB.out)⟩
   ·replace c26:=Bool.eq_false_iff.mpr c26
    subst c26
    have H1 : (hornbeamref11_Turn.l0 kj3 a1 l2 0 a0_0 a0_1 l0_2 a0_0 a0_1 ([] : List Int)) = some (r1,r2,r3,r4):=by rw [if_neg (show ¬ (false = true) by decide)] at H;exact H
    clear H
    have H:=H1
    clear H1
    have H':=Aside0.mk H
    clear H
    have hnb29:=NB665_666.out
    have hnc29:=NB666_665.out
    have hcz30_0 : wc.cell? ⟨gb665,0,none⟩ = some (.int .i64 a0_0):=(blk_cell BK665.out 0).trans rfl
    have hcz30_1 : wc.cell? ⟨gb665,1,none⟩ = some (.int .i64 a0_1):=(blk_cell BK665.out 1).trans rfl
    have hcz30_2 : wc.cell? ⟨gb665,2,none⟩ = some (.slice A0_2 l0_2.length c0_2):=(blk_cell BK665.out 2).trans rfl
    have hfz30_0:=blk_frozen BK665.out 0
    have hfz30_1:=blk_frozen BK665.out 1
    have hfz30_2:=blk_frozen BK665.out 2
    go_wp2_with (first|((with_reducible refine gate_dst (N:=8) rfl ?_);refine box_event ?hg (N:=8) ?hd (cs:=#[.int .i64 0,.int .i64 0,.slice none 0 0]) (t:=62) ?hr ?_;(case hd=>rfl);(case hg=>rfl);(case hr=>first|(go_simp;done)|(go_simp;rfl));intro gb669 hg w31 hbox hb;have n0_:=Aside0.mk (blk_below (g:=gb665) (o:=.cells #[.int .i64 a0_0,.int .i64 a0_1,.slice A0_2 l0_2.length c0_2] 62 (0,0)) (by (with_reducible repeat(first|refine blk_drewN ?_ _|refine blk_drew ?_|refine blk_alloc ?_ _));exact BK665.out) hb);have n1_:=Aside0.mk (blk_below (g:=gb666) (o:=.cells #[.int .i64 0,.int .i64 0,.slice none 0 0] 62 (0,0)) (by (with_reducible repeat(first|refine blk_drewN ?_ _|refine blk_drew ?_|refine blk_alloc ?_ _));exact BK666.out) hb);have n2_:=Aside0.mk (below_step (by repeat(first|(with_reducible first|exact HB.out|apply below_alloc|apply pw_below_drewN|apply below_drew1|refine below_set ?_ GE665.out|refine below_set ?_ GE666.out)|exact HB.out)) hb);have n3_:=Aside0.mk (hbox);have n4_:=Aside0.mk ((by rw [hg];exact (below_size (by repeat(first|(with_reducible first|exact HB.out|apply below_alloc|apply pw_below_drewN|apply below_drew1|refine below_set ?_ GE665.out|refine below_set ?_ GE666.out)|exact HB.out))) : w.heap.size ≤ gb669));have n5_:=Aside0.mk ((by rw [hg];exact (below_size (by repeat(first|(with_reducible first|exact HB.out|apply below_alloc|apply pw_below_drewN|apply below_drew1|refine below_set ?_ GE665.out|refine below_set ?_ GE666.out)|exact HB.out))) : w.heap.size ≤ gb669));have n6_:=Aside0.mk ((by rw [hg];exact Nat.ne_of_lt (blk_lt (g:=gb665) (o:=.cells #[.int .i64 a0_0,.int .i64 a0_1,.slice A0_2 l0_2.length c0_2] 62 (0,0)) (by (with_reducible repeat(first|refine blk_drewN ?_ _|refine blk_drew ?_|refine blk_alloc ?_ _));exact BK665.out)) : gb665 ≠ gb669));have n7_:=Aside0.mk ((by rw [hg];exact Nat.ne_of_gt (blk_lt (g:=gb665) (o:=.cells #[.int .i64 a0_0,.int .i64 a0_1,.slice A0_2 l0_2.length c0_2] 62 (0,0)) (by (with_reducible repeat(first|refine blk_drewN ?_ _|refine blk_drew ?_|refine blk_alloc ?_ _));exact BK665.out)) : gb669 ≠ gb665));have n8_:=Aside0.mk ((by rw [hg];exact Nat.ne_of_lt (blk_lt (g:=gb666) (o:=.cells #[.int .i64 0,.int .i64 0,.slice none 0 0] 62 (0,0)) (by (with_reducible repeat(first|refine blk_drewN ?_ _|refine blk_drew ?_|refine blk_alloc ?_ _));exact BK666.out)) : gb666 ≠ gb669));have n9_:=Aside0.mk ((by rw [hg];exact Nat.ne_of_gt (blk_lt (g:=gb666) (o:=.cells #[.int .i64 0,.int .i64 0,.slice none 0 0] 62 (0,0)) (by (with_reducible repeat(first|refine blk_drewN ?_ _|refine blk_drew ?_|refine blk_alloc ?_ _));exact BK666.out)) : gb669 ≠ gb666));clear BK665;clear BK666;clear HB;have BK665:=n0_;have BK666:=n1_;have HB:=n2_;have BK669:=n3_;have GW669:=n4_;have GE669:=n5_;have NB665_669:=n6_;have NB669_665:=n7_;have NB666_669:=n8_;have NB669_666:=n9_;clear n0_ n1_ n2_ n3_ n4_ n5_ n6_ n7_ n8_ n9_;clear hb hbox hg;have hnb32:=NB669_665.out;have hnc32:=NB665_669.out;have hnb33:=NB669_666.out;have hnc33:=NB666_669.out;have hcz34_0 : w31.cell? ⟨gb669,0,none⟩ = some (.int .i64 0):=(blk_cell BK669.out 0).trans rfl;have hcz34_1 : w31.cell? ⟨gb669,1,none⟩ = some (.int .i64 0):=(blk_cell BK669.out 1).trans rfl;have hcz34_2 : w31.cell? ⟨gb669,2,none⟩ = some (.slice none 0 0):=(blk_cell BK669.out 2).trans rfl;have hfz34_0:=blk_frozen BK669.out 0;have hfz34_1:=blk_frozen BK669.out 1;have hfz34_2:=blk_frozen BK669.out 2))
    go_loopg [9] kj3 (fun kq v9 w'=>∃ (x9_2 : Int) (x670002_2 : List Int) (u670002 : Value),v9 = .int .i64 x9_2 ∧ Aside0 (hornbeamref11_Turn.l0 kq a1 l2 x9_2 a0_0 a0_1 l0_2 a0_0 a0_1 x670002_2 = some (r1,r2,r3,r4)) ∧ Aside0 (kq ≤ kj3) ∧ Aside0 (Kd.R (Kd.int .u16) 53 w' w.heap.size (fun _=>True) u670002 x670002_2) ∧ Aside0 (w'.heap[gb665]? = some (.cells #[.int .i64 a0_0,.int .i64 a0_1,(.slice A0_2 l0_2.length c0_2)] 62 (0,0))) ∧ Aside0 (w'.heap[gb666]? = some (.cells #[.int .i64 0,.int .i64 0,(.slice none 0 0)] 62 (0,0))) ∧ Aside0 (w'.heap[gb669]? = some (.cells #[.int .i64 a0_0,.int .i64 a0_1,u670002] 62 (0,0))) ∧ Aside0 (Below w.heap.size w w'))
    case atStart=>exact ⟨(0),(([] : List Int)),(.slice none 0 0),(by first|rfl|(simp;done)|(simp [*];done)),H',⟨Nat.le_refl _⟩,⟨by first|exact Kd.R_nil _ _ _ _ _|exact Kd.N_nil _ _ _ _ _|exact Kd.V_nil _ _ _ _ _|exact Kd.Q_nil _ _ _ _ _|exact Kd.S_nil _ _ _ _ _⟩,⟨by (with_reducible repeat(first|refine blk_drewN ?_ _|refine blk_drew ?_|refine blk_alloc ?_ _));refine blk_far ?_ NB665_669.out _;(with_reducible repeat(first|refine blk_drewN ?_ _|refine blk_drew ?_|refine blk_alloc ?_ _));refine blk_far ?_ NB665_669.out _;(with_reducible repeat(first|refine blk_drewN ?_ _|refine blk_drew ?_|refine blk_alloc ?_ _));refine blk_far ?_ NB665_669.out _;(with_reducible repeat(first|refine blk_drewN ?_ _|refine blk_drew ?_|refine blk_alloc ?_ _));exact BK665.out⟩,⟨by (with_reducible repeat(first|refine blk_drewN ?_ _|refine blk_drew ?_|refine blk_alloc ?_ _));refine blk_far ?_ NB666_669.out _;(with_reducible repeat(first|refine blk_drewN ?_ _|refine blk_drew ?_|refine blk_alloc ?_ _));refine blk_far ?_ NB666_669.out _;(with_reducible repeat(first|refine blk_drewN ?_ _|refine blk_drew ?_|refine blk_alloc ?_ _));refine blk_far ?_ NB666_669.out _;(with_reducible repeat(first|refine blk_drewN ?_ _|refine blk_drew ?_|refine blk_alloc ?_ _));exact BK666.out⟩,⟨by (with_reducible repeat(first|refine blk_drewN ?_ _|refine blk_drew ?_|refine blk_alloc ?_ _));refine blk_put (cs:=#[.int .i64 a0_0,.int .i64 a0_1,.slice none 0 0]) ?_ 2 _ rfl;(with_reducible repeat(first|refine blk_drewN ?_ _|refine blk_drew ?_|refine blk_alloc ?_ _));refine blk_put (cs:=#[.int .i64 a0_0,.int .i64 0,.slice none 0 0]) ?_ 1 _ rfl;(with_reducible repeat(first|refine blk_drewN ?_ _|refine blk_drew ?_|refine blk_alloc ?_ _));refine blk_put (cs:=#[.int .i64 0,.int .i64 0,.slice none 0 0]) ?_ 0 _ rfl;(with_reducible repeat(first|refine blk_drewN ?_ _|refine blk_drew ?_|refine blk_alloc ?_ _));exact BK669.out⟩,⟨by repeat(first|(with_reducible first|exact HB.out|apply below_alloc|apply pw_below_drewN|apply below_drew1|refine below_set ?_ GE665.out|refine below_set ?_ GE666.out|refine below_set ?_ GE669.out)|exact HB.out)⟩⟩
    case round =>
     clear H'
     try clear c1
     try clear c2
     try clear p2
     try clear c3
     try clear c8
     try clear c9
     try clear c9b0
     try clear c10
     try clear c13
     try clear c13b0
     try clear c14
     try clear c19
     try clear c23
     try clear c26
     try clear c27
     try clear c29
     try clear c32
     try clear c33
     try clear c34
     try clear hcz11_0
     try clear hcz11_1
     try clear hcz11_2
     try clear hcz15_0
     try clear hcz15_1
     try clear hcz15_2
     try clear hcz17_0
     try clear hcz17_1
     try clear hcz17_2
     try clear hcz20_0
     try clear hcz20_1
     try clear hcz20_2
     try clear hcz22_0
     try clear hcz22_1
     try clear hcz22_2
     try clear hcz24_0
     try clear hcz24_1
     try clear hcz24_2
     try clear hcz28_0
     try clear hcz28_1
     try clear hcz28_2
     try clear hcz30_0
     try clear hcz30_1
     try clear hcz30_2
     try clear hcz34_0
     try clear hcz34_1
     try clear hcz34_2
     try clear hfz11_0
     try clear hfz11_1
     try clear hfz11_2
     try clear hfz15_0
     try clear hfz15_1
     try clear hfz15_2
     try clear hfz17_0
     try clear hfz17_1
     try clear hfz17_2
     try clear hfz20_0
     try clear hfz20_1
     try clear hfz20_2
     try clear hfz22_0
     try clear hfz22_1
     try clear hfz22_2
     try clear hfz24_0
     try clear hfz24_1
     try clear hfz24_2
     try clear hfz28_0
     try clear hfz28_1
     try clear hfz28_2
     try clear hfz30_0
     try clear hfz30_1
     try clear hfz30_2
     try clear hfz34_0
     try clear hfz34_1
     try clear hfz34_2
     try clear p2
     obtain ⟨x9_2,x670002_2,u670002,rfl,HA,HK2,HO_670002,BK665,BK666,BK669,HB⟩:=hrel
     cases gk with
     | zero=>exact absurd HA.out (by simp [hornbeamref11_Turn.l0])
     | succ k2 =>
      have H:=HA.out
      clear HA
      simp only [hornbeamref11_Turn.l0] at H
      by_cases c35 : x9_2 < a0_1
      ·rw [if_pos c35] at H
       have c35b0 : decide (x9_2 < a0_1) = true:=decide_eq_true c35
       clear c35
       have H':=Aside0.mk H
       clear H
       have hnb36:=NB665_666.out
       have hnc36:=NB666_665.out
       have hnb37:=NB665_669.out
       have hnc37:=NB669_665.out
       have hcz38_0 : wr.cell? ⟨gb665,0,none⟩ = some (.int .i64 a0_0):=(blk_cell BK665.out 0).trans rfl
       have hcz38_1 : wr.cell? ⟨gb665,1,none⟩ = some (.int .i64 a0_1):=(blk_cell BK665.out 1).trans rfl
       have hcz38_2 : wr.cell? ⟨gb665,2,none⟩ = some (.slice A0_2 l0_2.length c0_2):=(blk_cell BK665.out 2).trans rfl
       have hfz38_0:=blk_frozen BK665.out 0
       have hfz38_1:=blk_frozen BK665.out 1
       have hfz38_2:=blk_frozen BK665.out 2
       go_wp2
       go_loopg [10] k2 (fun kq v10 w'=>∃ (x10_3 : Int) (x670002_3 : List Int) (u670002 : Value),v10 = .int .i64 x10_3 ∧ Aside0 (hornbeamref11_Turn.l1 kq a1 l2 x9_2 x10_3 a0_0 a0_1 l0_2 a0_0 a0_1 x670002_3 = some (r1,r2,r3,r4)) ∧ Aside0 (kq ≤ k2) ∧ Aside0 (Kd.R (Kd.int .u16) 53 w' w.heap.size (fun _=>True) u670002 x670002_3) ∧ Aside0 (w'.heap[gb665]? = some (.cells #[.int .i64 a0_0,.int .i64 a0_1,(.slice A0_2 l0_2.length c0_2)] 62 (0,0))) ∧ Aside0 (w'.heap[gb666]? = some (.cells #[.int .i64 0,.int .i64 0,(.slice none 0 0)] 62 (0,0))) ∧ Aside0 (w'.heap[gb669]? = some (.cells #[.int .i64 a0_0,.int .i64 a0_1,u670002] 62 (0,0))) ∧ Aside0 (Below w.heap.size w w'))
       case atStart=>exact ⟨(0),(x670002_2),(u670002),(by first|rfl|(simp;done)|(simp [*];done)),H',⟨Nat.le_refl _⟩,⟨by (with_reducible repeat(first|apply Kd.R_alloc|apply Kd.R_drewN|apply Kd.R_drew));exact HO_670002.out⟩,⟨by (with_reducible repeat(first|refine blk_drewN ?_ _|refine blk_drew ?_|refine blk_alloc ?_ _));exact BK665.out⟩,⟨by (with_reducible repeat(first|refine blk_drewN ?_ _|refine blk_drew ?_|refine blk_alloc ?_ _));exact BK666.out⟩,⟨by (with_reducible repeat(first|refine blk_drewN ?_ _|refine blk_drew ?_|refine blk_alloc ?_ _));exact BK669.out⟩,⟨by repeat(first|(with_reducible first|exact HB.out|apply below_alloc|apply pw_below_drewN|apply below_drew1|refine below_set ?_ GE665.out|refine below_set ?_ GE666.out|refine below_set ?_ GE669.out)|exact HB.out)⟩⟩
       case round =>
        clear H'
        try clear c1
        try clear c2
        try clear p2
        try clear c3
        try clear c8
        try clear c9
        try clear c9b0
        try clear c10
        try clear c13
        try clear c13b0
        try clear c14
        try clear c19
        try clear c23
        try clear c26
        try clear c27
        try clear c29
        try clear c32
        try clear c33
        try clear c34
        try clear c35
        try clear c35b0
        try clear c36
        try clear c37
        try clear hcz11_0
        try clear hcz11_1
        try clear hcz11_2
        try clear hcz15_0
        try clear hcz15_1
        try clear hcz15_2
        try clear hcz17_0
        try clear hcz17_1
        try clear hcz17_2
        try clear hcz20_0
        try clear hcz20_1
        try clear hcz20_2
        try clear hcz22_0
        try clear hcz22_1
        try clear hcz22_2
        try clear hcz24_0
        try clear hcz24_1
        try clear hcz24_2
        try clear hcz28_0
        try clear hcz28_1
        try clear hcz28_2
        try clear hcz30_0
        try clear hcz30_1
        try clear hcz30_2
        try clear hcz34_0
        try clear hcz34_1
        try clear hcz34_2
        try clear hcz38_0
        try clear hcz38_1
        try clear hcz38_2
        try clear hfz11_0
        try clear hfz11_1
        try clear hfz11_2
        try clear hfz15_0
        try clear hfz15_1
        try clear hfz15_2
        try clear hfz17_0
        try clear hfz17_1
        try clear hfz17_2
        try clear hfz20_0
        try clear hfz20_1
        try clear hfz20_2
        try clear hfz22_0
        try clear hfz22_1
        try clear hfz22_2
        try clear hfz24_0
        try clear hfz24_1
        try clear hfz24_2
        try clear hfz28_0
        try clear hfz28_1
        try clear hfz28_2
        try clear hfz30_0
        try clear hfz30_1
        try clear hfz30_2
        try clear hfz34_0
        try clear hfz34_1
        try clear hfz34_2
        try clear hfz38_0
        try clear hfz38_1
        try clear hfz38_2
        try clear p2
        obtain ⟨x10_3,x670002_3,u670002,rfl,HA,HK3,HO_670002,BK665,BK666,BK669,HB⟩:=hrel
        cases gk with
        | zero=>exact absurd HA.out (by simp [hornbeamref11_Turn.l1])
        | succ k3 =>
         have H:=HA.out
         clear HA
         simp only [hornbeamref11_Turn.l1] at H
         by_cases c39 : x10_3 < a0_0
         ·rw [if_pos c39] at H
          have c39b0 : decide (x10_3 < a0_0) = true:=decide_eq_true c39
          clear c39
          by_cases c40 : x9_2 = a1
          ·rw [if_pos c40] at H
           have c40b0 : (x9_2 == a1) = true:=beq_iff_eq.mpr c40
           have c40b1 : (x9_2 != a1) = false:=bne_eq_false_iff_eq.mpr c40
           clear c40
           by_cases c41 : 0 ≤ x10_3
           ·rw [if_pos c41] at H
            have c41b0 : decide (0 ≤ x10_3) = true:=decide_eq_true c41
            clear c41
            by_cases c42 : x10_3 < (l2.length : Int)
            ·rw [if_pos c42] at H
             have c42b0 : decide (x10_3 < (l2.length : Int)) = true:=decide_eq_true c42
             clear c42
             obtain ⟨ji43,hji43⟩ : ∃ j_ : Int,(wrap64 ((wrap64 (x9_2 * a0_0)) + (rd l2 x10_3))) = j_:=⟨_,rfl⟩
             replace H : (if 0 ≤ (ji43) then (if (ji43) < (l0_2.length : Int) then (if x670002_3.length < 70368744177664 then (hornbeamref11_Turn.l1 k3 a1 l2 x9_2 (wrap64 (x10_3 + 1)) a0_0 a0_1 l0_2 a0_0 a0_1 (x670002_3 ++ [rd l0_2 (ji43)])) else (none)) else (none)) else (none)) = some (r1,r2,r3,r4):=by first|(rw [hji43] at H;exact H)|(simp only [hji43] at H ⊢;exact H)
             have hji43w : (IntKind.i64.wrap ((wrap64 (x9_2 * a0_0)) + (rd l2 x10_3))) = ji43:=(i64_w _).trans hji43
             by_cases c44 : 0 ≤ (ji43)
             ·rw [if_pos c44] at H
              have c44b0 : decide (0 ≤ (ji43)) = true:=decide_eq_true c44
              clear c44
              by_cases c45 : (ji43) < (l0_2.length : Int)
              ·rw [if_pos c45] at H
               have c45b0 : decide ((ji43) < (l0_2.length : Int)) = true:=decide_eq_true c45
               clear c45
               by_cases c46 : x670002_3.length < 70368744177664
               ·rw [if_pos c46] at H
                have LMc46:=Aside0.mk c46
                clear c46
                obtain ⟨y672,hy672⟩ : ∃ y_ : List Int,y_ = (x670002_3 ++ [rd l0_2 (ji43)]):=⟨_,rfl⟩
                replace H : (hornbeamref11_Turn.l1 k3 a1 l2 x9_2 (wrap64 (x10_3 + 1)) a0_0 a0_1 l0_2 a0_0 a0_1 y672) = some (r1,r2,r3,r4):=by first|(rw [hy672];with_reducible exact H)|(have H2_:=(Option.bind_some _ _).symm.trans H;rw [hy672];with_reducible exact H2_)|(have H2_:=(Option.bind_some _ _).symm.trans H;with_reducible exact H2_)|with_reducible exact H|(rw [hy672];exact H)|exact H
                have Ny672:=Aside0.mk hy672
                clear hy672
                have H':=Aside0.mk H
                clear H
                have hnb47:=NB665_666.out
                have hnc47:=NB666_665.out
                have hnb48:=NB665_669.out
                have hnc48:=NB669_665.out
                have hcz49_0 : wr.cell? ⟨gb665,0,none⟩ = some (.int .i64 a0_0):=(blk_cell BK665.out 0).trans rfl
                have hcz49_1 : wr.cell? ⟨gb665,1,none⟩ = some (.int .i64 a0_1):=(blk_cell BK665.out 1).trans rfl
                have hcz49_2 : wr.cell? ⟨gb665,2,none⟩ = some (.slice A0_2 l0_2.length c0_2):=(blk_cell BK665.out 2).trans rfl
                have hfz49_0:=blk_frozen BK665.out 0
                have hfz49_1:=blk_frozen BK665.out 1
                have hfz49_2:=blk_frozen BK665.out 2
                have p670 : 0 ≤ (x10_3 : Int):=of_decide_eq_true (by first|(with_reducible assumption)|assumption)
                have q670 : x10_3 < (l2.length : Int):=of_decide_eq_true (by first|(with_reducible assumption)|assumption)
                obtain ⟨ad670,e670,hx670_0⟩:=Kd.at_int HR2.out x10_3 p670 q670
                cases e670
                replace hx670_0:=(HB.out.cell (World.block_lt_of_cell? w _ hx670_0)).trans hx670_0
                replace p670:=eq_true p670
                replace q670:=eq_true q670
                try go_wp2
                have n0_:=Aside0.mk (Kd.R_drew HO_670002.out)
                have n1_:=Aside0.mk (blk_drew BK665.out)
                have n2_:=Aside0.mk (blk_drew BK666.out)
                have n3_:=Aside0.mk (blk_drew BK669.out)
                have n4_:=Aside0.mk (below_drew1 HB.out)
                clear HO_670002
                clear BK665
                clear BK666
                clear BK669
                clear HB
                have HO_670002:=n0_
                have BK665:=n1_
                have BK666:=n2_
                have BK669:=n3_
                have HB:=n4_
                clear n0_ n1_ n2_ n3_ n4_
                have p671 : 0 ≤ ((ji43) : Int):=of_decide_eq_true (by first|(with_reducible assumption)|assumption)
                have q671 : (ji43) < (l0_2.length : Int):=of_decide_eq_true (by first|(with_reducible assumption)|assumption)
                obtain ⟨ad671,e671,hx671_0⟩:=Kd.at_int HR0_2.out (ji43) p671 q671
                have hw671_0:=hx671_0
                cases e671
                replace hx671_0:=(HB.out.cell (World.block_lt_of_cell? w _ hx671_0)).trans hx671_0
                replace p671:=eq_true p671
                replace q671:=eq_true q671
                refine start_ (n:=16) (S:=fun w'=>w'.cell? ⟨gb669,0,none⟩ = some (.int .i64 a0_0) ∧ w'.cell? ⟨gb669,1,none⟩ = some (.int .i64 a0_1) ∧ w'.cell? ⟨gb669,2,none⟩ = some (u670002) ∧ w'.cell? ⟨gb665,0,none⟩ = some (.int .i64 a0_0) ∧ w'.cell? ⟨gb665,1,none⟩ = some (.int .i64 a0_1) ∧ w'.cell? ⟨gb665,2,none⟩ = some (.slice (some ad671) l0_2.length c0_2) ∧ w'.cell? (ad671.add ((ji43)).toNat) = some (.int .u16 (rd l0_2 (ji43)))) (ds:=[15]) #[false,false,false,false,false,false,false,false,false,false,false,false,false,false,false,false] (by kernel_rfl) rfl rfl ⟨(blk_cell BK669.out 0).trans rfl,(blk_cell BK669.out 1).trans rfl,(blk_cell BK669.out 2).trans rfl,(blk_cell BK665.out 0).trans rfl,(blk_cell BK665.out 1).trans rfl,(blk_cell BK665.out 2).trans rfl,((HB.out.cell (World.block_lt_of_cell? w _ hw671_0)).trans hw671_0)⟩ (fun hHeld=>?_);refine with_tabW hornbeamref11_Turn.tab13 hornbeamref11_Turn.bits13 (fun HT_ HW_=>?_)
                generalize wr.drew = w50 at HO_670002 BK665 BK666 BK669 HB hx671_0 hHeld ⊢
                refine pure_ (i:=0) (N:=some 58) (v:=?_) (a':=?_) #[true,false,false,false,false,false,false,false,false,false,false,false,false,false,false,false] rfl rfl (any_of HT_.out (by kernel_rfl)) (fun _ _ _ h=>h) (Or.inl ⟨by rfl,?_⟩) ?_ ?_
                rotate_left
                ·intro w'
                 go_simp
                 with_reducible rfl
                rotate_left
                ·simp only [Act.put,List.setIfInBounds_toArray,List.set_cons_zero,List.set_cons_succ,i64_w,i32_w]
                 rfl
                refine pure_ (i:=2) (N:=some 60) (v:=?_) (a':=?_) #[true,false,true,false,false,false,false,false,false,false,false,false,false,false,false,false] rfl rfl (any_of HT_.out (by kernel_rfl)) (fun _ _ _ h=>h) (Or.inl ⟨by rfl,?_⟩) ?_ ?_
                rotate_left
                ·intro w'
                 go_simp
                 with_reducible rfl
                rotate_left
                ·simp only [Act.put,List.setIfInBounds_toArray,List.set_cons_zero,List.set_cons_succ,i64_w,i32_w]
                 rfl
                refine pure_ (i:=4) (N:=some 62) (v:=?_) (a':=?_) #[true,false,true,false,true,false,false,false,false,false,false,false,false,false,false,false] rfl rfl (any_of HT_.out (by kernel_rfl)) (fun _ _ _ h=>h) (Or.inl ⟨by rfl,?_⟩) ?_ ?_
                rotate_left
                ·intro w'
                 go_simp
                 with_reducible rfl
                rotate_left
                ·simp only [Act.put,List.setIfInBounds_toArray,List.set_cons_zero,List.set_cons_succ,i64_w,i32_w]
                 rfl
                refine pure_ (i:=5) (N:=some 63) (v:=?_) (a':=?_) #[true,false,true,false,true,true,false,false,false,false,false,false,false,false,false,false] rfl rfl (any_of HT_.out (by kernel_rfl)) (fun _ _ _ h=>h) (Or.inl ⟨by rfl,?_⟩) ?_ ?_
                rotate_left
                ·intro w'
                 go_simp
                 with_reducible rfl
                rotate_left
                ·simp only [Act.put,List.setIfInBounds_toArray,List.set_cons_zero,List.set_cons_succ,i64_w,i32_w]
                 rfl
                refine pure_ (i:=8) (N:=some 66) (v:=?_) (a':=?_) #[true,false,true,false,true,true,false,false,true,false,false,false,false,false,false,false] rfl rfl (any_of HT_.out (by kernel_rfl)) (fun _ _ _ h=>h) (Or.inl ⟨by rfl,?_⟩) ?_ ?_
                rotate_left
                ·intro w'
                 go_simp
                 with_reducible rfl
                rotate_left
                ·simp only [Act.put,List.setIfInBounds_toArray,List.set_cons_zero,List.set_cons_succ,i64_w,i32_w]
                 rfl
                refine take_ (i:=1) (N:=some 59) (v:=?_) (a':=?_) #[true,true,true,false,true,true,false,false,true,false,false,false,false,false,false,false] rfl rfl (take_ofW HT_.out HW_.out (by kernel_rfl)) (fun _ _ _ h=>h) (Or.inl ⟨by rfl,?_⟩) hHeld ?_ ?_
                rotate_left
                ·rintro w' ⟨s0,s1,s2,s3,s4,s5,s6⟩
                 go_simp
                 with_reducible rfl
                rotate_left
                ·simp only [Act.put,List.setIfInBounds_toArray,List.set_cons_zero,List.set_cons_succ,i64_w,i32_w]
                 rfl
                refine take_ (i:=3) (N:=some 61) (v:=?_) (a':=?_) #[true,true,true,true,true,true,false,false,true,false,false,false,false,false,false,false] rfl rfl (take_ofW HT_.out HW_.out (by kernel_rfl)) (fun _ _ _ h=>h) (Or.inl ⟨by rfl,?_⟩) hHeld ?_ ?_
                rotate_left
                ·rintro w' ⟨s0,s1,s2,s3,s4,s5,s6⟩
                 go_simp
                 with_reducible rfl
                rotate_left
                ·simp only [Act.put,List.setIfInBounds_toArray,List.set_cons_zero,List.set_cons_succ,i64_w,i32_w]
                 rfl
                refine take_ (i:=6) (N:=some 64) (v:=?_) (a':=?_) #[true,true,true,true,true,true,true,false,true,false,false,false,false,false,false,false] rfl rfl (take_ofW HT_.out HW_.out (by kernel_rfl)) (fun _ _ _ h=>h) (Or.inl ⟨by rfl,?_⟩) hHeld ?_ ?_
                rotate_left
                ·rintro w' ⟨s0,s1,s2,s3,s4,s5,s6⟩
                 go_simp
                 with_reducible rfl
                rotate_left
                ·simp only [Act.put,List.setIfInBounds_toArray,List.set_cons_zero,List.set_cons_succ,i64_w,i32_w]
                 rfl
                refine pure_ (i:=7) (N:=some 65) (v:=?_) (a':=?_) #[true,true,true,true,true,true,true,true,true,false,false,false,false,false,false,false] rfl rfl (any_of HT_.out (by kernel_rfl)) (fun _ _ _ h=>h) (Or.inl ⟨by rfl,?_⟩) ?_ ?_
                rotate_left
                ·intro w'
                 go_simp
                 with_reducible rfl
                rotate_left
                ·simp only [Act.put,List.setIfInBounds_toArray,List.set_cons_zero,List.set_cons_succ,i64_w,i32_w]
                 rfl
                refine pure_ (i:=9) (N:=some 67) (v:=?_) (a':=?_) #[true,true,true,true,true,true,true,true,true,true,false,false,false,false,false,false] rfl rfl (any_of HT_.out (by kernel_rfl)) (fun _ _ _ h=>h) (Or.inl ⟨by rfl,?_⟩) ?_ ?_
                rotate_left
                ·intro w'
                 go_simp
                 with_reducible rfl
                rotate_left
                ·simp only [Act.put,List.setIfInBounds_toArray,List.set_cons_zero,List.set_cons_succ,i64_w,i32_w]
                 rfl
                refine pure_ (i:=10) (N:=some 68) (v:=?_) (a':=?_) #[true,true,true,true,true,true,true,true,true,true,true,false,false,false,false,false] rfl rfl (any_of HT_.out (by kernel_rfl)) (fun _ _ _ h=>h) (Or.inl ⟨by rfl,?_⟩) ?_ ?_
                rotate_left
                ·intro w'
                 go_simp
                 with_reducible rfl
                rotate_left
                ·simp only [Act.put,List.setIfInBounds_toArray,List.set_cons_zero,List.set_cons_succ,i64_w,i32_w]
                 rfl
                refine take_ (i:=11) (N:=some 69) (v:=?_) (a':=?_) #[true,true,true,true,true,true,true,true,true,true,true,true,false,false,false,false] rfl rfl (take_ofW HT_.out HW_.out (by kernel_rfl)) (fun _ _ _ h=>h) (Or.inl ⟨by rfl,?_⟩) hHeld ?_ ?_
                rotate_left
                ·rintro w' ⟨s0,s1,s2,s3,s4,s5,s6⟩
                 go_simp
                 with_reducible rfl
                rotate_left
                ·simp only [Act.put,List.setIfInBounds_toArray,List.set_cons_zero,List.set_cons_succ,i64_w,i32_w]
                 rfl
                refine one_ (i:=12) (N:=some 70) #[true,true,true,true,true,true,true,true,true,true,true,true,true,false,false,false] rfl rfl (one_of HT_.out (by kernel_rfl)) (by decide) (fun K hK=>?_)
                refine value_ (w1:=?_) (v:=?_) (by rfl) rfl ?_ ?_
                rotate_left 2
                ·go_simp
                 constructor
                 ·rfl
                 ·rfl
                refine hK.out _ _ ⟨(blk_cell (blk_alloc BK669.out _) 0).trans rfl,(blk_cell (blk_alloc BK669.out _) 1).trans rfl,(blk_cell (blk_alloc BK669.out _) 2).trans rfl,(blk_cell (blk_alloc BK665.out _) 0).trans rfl,(blk_cell (blk_alloc BK665.out _) 1).trans rfl,(blk_cell (blk_alloc BK665.out _) 2).trans rfl,(World.cell?_alloc_lt _ _ _ (World.block_lt_of_cell? _ _ (((HB.out.cell (World.block_lt_of_cell? w _ hw671_0)).trans hw671_0)))).trans (((HB.out.cell (World.block_lt_of_cell? w _ hw671_0)).trans hw671_0))⟩ (fun hHeld=>?_)
                clear hK K
                refine norm_ (a':=?_) ?_ ?_
                rotate_left
                ·show Act.put _ (some 70) _ = _
                 simp only [Act.put,List.setIfInBounds_toArray,List.set_cons_zero,List.set_cons_succ,i64_w,i32_w]
                 rfl
                refine one_ (i:=13) (N:=some 71) #[true,true,true,true,true,true,true,true,true,true,true,true,true,true,false,false] rfl rfl (one_of HT_.out (by kernel_rfl)) (by decide) (fun K hK=>?_)
                refine Kd.R_append_step (Kd.int .u16) (w0:=w) w.heap.size (by rfl) (.tmp 59) (.tmp 70) 60 53 (.int .u16 0) 2 rfl Try.underlying60 info53 rfl (by decide) (by omega) u670002 x670002_3 (rd l0_2 (ji43)) [.int .u16 (rd l0_2 (ji43))] (fun _=>True) (fun _=>False) rfl rfl ?aP (fun _ hk=>hk.elim) ?aF ?aO ?aB ?aS ?aL ?_
                (case aP=>exact rfl)
                (case aB=>exact (by repeat(first|(with_reducible first|exact HB.out|apply below_alloc|apply pw_below_drewN|apply below_drew1|refine below_set ?_ GE665.out|refine below_set ?_ GE666.out|refine below_set ?_ GE669.out)|exact HB.out)))
                (case aF=>exact (fun _ _=>trivial))
                (case aO=>exact (by (with_reducible repeat(first|apply Kd.R_alloc|apply Kd.R_drewN|apply Kd.R_drew));exact HO_670002.out))
                (case aS=>exact (below_size (by repeat(first|(with_reducible first|exact HB.out|apply below_alloc|apply pw_below_drewN|apply below_drew1|refine below_set ?_ GE665.out|refine below_set ?_ GE666.out|refine below_set ?_ GE669.out)|exact HB.out))))
                (case aL=>have:=LMc46.out;omega)
                intro v673 w51 ho hb hg hat
                rw [← Ny672.out] at ho
                have n0_:=Aside0.mk (blk_grown (g:=gb665) (o:=.cells #[.int .i64 a0_0,.int .i64 a0_1,.slice (some ad671) l0_2.length c0_2] 62 (0,0)) (by (with_reducible repeat(first|refine blk_drewN ?_ _|refine blk_drew ?_|refine blk_alloc ?_ _));exact BK665.out) hg (Kd.R_ne HO_670002.out BK665.out (by decide)))
                have n1_:=Aside0.mk (blk_grown (g:=gb666) (o:=.cells #[.int .i64 0,.int .i64 0,.slice none 0 0] 62 (0,0)) (by (with_reducible repeat(first|refine blk_drewN ?_ _|refine blk_drew ?_|refine blk_alloc ?_ _));exact BK666.out) hg (Kd.R_ne HO_670002.out BK666.out (by decide)))
                have n2_:=Aside0.mk (blk_grown (g:=gb669) (o:=.cells #[.int .i64 a0_0,.int .i64 a0_1,u670002] 62 (0,0)) (by (with_reducible repeat(first|refine blk_drewN ?_ _|refine blk_drew ?_|refine blk_alloc ?_ _));exact BK669.out) hg (Kd.R_ne HO_670002.out BK669.out (by decide)))
                have n3_:=Aside0.mk (hb)
                have n4_:=Aside0.mk (ho)
                clear BK665
                clear BK666
                clear BK669
                clear HB
                clear HO_670002
                have BK665:=n0_
                have BK666:=n1_
                have BK669:=n2_
                have HB:=n3_
                have HO674:=n4_
                clear n0_ n1_ n2_ n3_ n4_
                clear ho hb hg hat
                obtain ⟨Ao52,co52,eo52⟩:=Kd.R_slice HO674.out
                (first|subst eo52|(injection eo52 with f1_ f2_ f3_;have f4_:=f1_.symm;have f5_:=f3_.symm;clear f1_ f2_ f3_;subst f4_;subst f5_))
                refine hK.out _ _ ⟨(blk_cell BK669.out 0).trans rfl,(blk_cell BK669.out 1).trans rfl,(blk_cell BK669.out 2).trans rfl,(blk_cell BK665.out 0).trans rfl,(blk_cell BK665.out 1).trans rfl,(blk_cell BK665.out 2).trans rfl,((HB.out.cell (World.block_lt_of_cell? w _ hw671_0)).trans hw671_0)⟩ (fun hHeld=>?_)
                clear hK K
                refine norm_ (a':=?_) ?_ ?_
                rotate_left
                ·show Act.put _ (some 71) _ = _
                 simp only [Act.put,List.setIfInBounds_toArray,List.set_cons_zero,List.set_cons_succ,i64_w,i32_w]
                 rfl
                refine pure_ (i:=14) (N:=some 72) (v:=?_) (a':=?_) #[true,true,true,true,true,true,true,true,true,true,true,true,true,true,true,false] rfl rfl (any_of HT_.out (by kernel_rfl)) (fun _ _ _ h=>h) (Or.inl ⟨by rfl,?_⟩) ?_ ?_
                rotate_left
                ·intro w'
                 go_simp
                 with_reducible rfl
                rotate_left
                ·simp only [Act.put,List.setIfInBounds_toArray,List.set_cons_zero,List.set_cons_succ,i64_w,i32_w]
                 rfl
                refine last_ (i:=15) (N:=none) #[true,true,true,true,true,true,true,true,true,true,true,true,true,true,true,true] rfl rfl (one_of HT_.out (by kernel_rfl)) (by decide) (fun K hK=>?_)
                have hs53 : w51.cell? ⟨gb669,2,none⟩ = some (u670002):=(blk_cell BK669.out 2).trans rfl
                have hfs53:=blk_frozen BK669.out 2
                have hns53_0:=NB665_669.out
                have hns53_1:=NB666_669.out
                have hms53_0:=NB669_665.out
                have hms53_1:=NB669_666.out
                refine skip_ (w1:=?_) (by rfl) rfl ?_ ?_
                rotate_left
                ·go_simp
                 rfl
                refine hK.out _ _ ?_
                clear hK K
                refine done_ (done_of HT_.out (by kernel_rfl)) ?_
                try go_wp2
                go_roundg k3
                case measure=>have:=HJ3.out;have:=HK2.out;have:=HK3.out;omega
                case rel=>exact ⟨(wrap64 (x10_3 + 1)),(y672),(.slice Ao52 y672.length co52),(by first|rfl|(simp;done)|(simp [*];done)),H',⟨by have:=HJ3.out;have:=HK2.out;have:=HK3.out;omega⟩,⟨by (with_reducible repeat(first|apply Kd.R_alloc|apply Kd.R_drewN|apply Kd.R_drew));exact Kd.R_mono (Kd.R_far (p:=⟨gb669,2,none⟩) (Kd.R_types HO674.out BK669.out (by decide)) (fun _ hk=>hk.2) (.slice Ao52 y672.length co52)) (fun _ hk=>trivial)⟩,⟨by (with_reducible repeat(first|refine blk_drewN ?_ _|refine blk_drew ?_|refine blk_alloc ?_ _));refine blk_far ?_ NB665_669.out _;(with_reducible repeat(first|refine blk_drewN ?_ _|refine blk_drew ?_|refine blk_alloc ?_ _));exact BK665.out⟩,⟨by (with_reducible repeat(first|refine blk_drewN ?_ _|refine blk_drew ?_|refine blk_alloc ?_ _));refine blk_far ?_ NB666_669.out _;(with_reducible repeat(first|refine blk_drewN ?_ _|refine blk_drew ?_|refine blk_alloc ?_ _));exact BK666.out⟩,⟨by (with_reducible repeat(first|refine blk_drewN ?_ _|refine blk_drew ?_|refine blk_alloc ?_ _));refine blk_put (cs:=#[.int .i64 a0_0,.int .i64 a0_1,u670002]) ?_ 2 _ rfl;(with_reducible repeat(first|refine blk_drewN ?_ _|refine blk_drew ?_|refine blk_alloc ?_ _));exact BK669.out⟩,⟨by repeat(first|(with_reducible first|exact HB.out|apply below_alloc|apply pw_below_drewN|apply below_drew1|refine below_set ?_ GE665.out|refine below_set ?_ GE666.out|refine below_set ?_ GE669.out)|exact HB.out)⟩⟩
               ·rw [if_neg c46] at H
                exact absurd H (by simp)
              ·rw [if_neg c45] at H
               exact absurd H (by simp)
             ·rw [if_neg c44] at H
              exact absurd H (by simp)
            ·rw [if_neg c42] at H
             exact absurd H (by simp)
           ·rw [if_neg c41] at H
            exact absurd H (by simp)
          ·rw [if_neg c40] at H
           have c40b0 : (x9_2 == a1) = false:=beq_eq_false_iff_ne.mpr c40
           have c40b1 : (x9_2 != a1) = true:=bne_iff_ne.mpr c40
           obtain ⟨ji54,hji54⟩ : ∃ j_ : Int,(wrap64 ((wrap64 (x9_2 * a0_0)) + x10_3)) = j_:=⟨_,rfl⟩
           replace H : (if 0 ≤ (ji54) then (if (ji54) < (l0_2.length : Int) then (if x670002_3.length < 70368744177664 then (hornbeamref11_Turn.l1 k3 a1 l2 x9_2 (wrap64 (x10_3 + 1)) a0_0 a0_1 l0_2 a0_0 a0_1 (x670002_3 ++ [rd l0_2 (ji54)])) else (none)) else (none)) else (none)) = some (r1,r2,r3,r4):=by first|(rw [hji54] at H;exact H)|(simp only [hji54] at H ⊢;exact H)
           have hji54w : (IntKind.i64.wrap ((wrap64 (x9_2 * a0_0)) + x10_3)) = ji54:=(i64_w _).trans hji54
           by_cases c55 : 0 ≤ (ji54)
           ·rw [if_pos c55] at H
            have c55b0 : decide (0 ≤ (ji54)) = true:=decide_eq_true c55
            clear c55
            by_cases c56 : (ji54) < (l0_2.length : Int)
            ·rw [if_pos c56] at H
             have c56b0 : decide ((ji54) < (l0_2.length : Int)) = true:=decide_eq_true c56
             clear c56
             by_cases c57 : x670002_3.length < 70368744177664
             ·rw [if_pos c57] at H
              have LMc57:=Aside0.mk c57
              clear c57
              obtain ⟨y676,hy676⟩ : ∃ y_ : List Int,y_ = (x670002_3 ++ [rd l0_2 (ji54)]):=⟨_,rfl⟩
              replace H : (hornbeamref11_Turn.l1 k3 a1 l2 x9_2 (wrap64 (x10_3 + 1)) a0_0 a0_1 l0_2 a0_0 a0_1 y676) = some (r1,r2,r3,r4):=by first|(rw [hy676];with_reducible exact H)|(have H2_:=(Option.bind_some _ _).symm.trans H;rw [hy676];with_reducible exact H2_)|(have H2_:=(Option.bind_some _ _).symm.trans H;with_reducible exact H2_)|with_reducible exact H|(rw [hy676];exact H)|exact H
              have Ny676:=Aside0.mk hy676
              clear hy676
              have H':=Aside0.mk H
              clear H
              have hnb58:=NB665_666.out
              have hnc58:=NB666_665.out
              have hnb59:=NB665_669.out
              have hnc59:=NB669_665.out
              have hcz60_0 : wr.cell? ⟨gb665,0,none⟩ = some (.int .i64 a0_0):=(blk_cell BK665.out 0).trans rfl
              have hcz60_1 : wr.cell? ⟨gb665,1,none⟩ = some (.int .i64 a0_1):=(blk_cell BK665.out 1).trans rfl
              have hcz60_2 : wr.cell? ⟨gb665,2,none⟩ = some (.slice A0_2 l0_2.length c0_2):=(blk_cell BK665.out 2).trans rfl
              have hfz60_0:=blk_frozen BK665.out 0
              have hfz60_1:=blk_frozen BK665.out 1
              have hfz60_2:=blk_frozen BK665.out 2
              try go_wp2
              have n0_:=Aside0.mk (Kd.R_drew HO_670002.out)
              have n1_:=Aside0.mk (blk_drew BK665.out)
              have n2_:=Aside0.mk (blk_drew BK666.out)
              have n3_:=Aside0.mk (blk_drew BK669.out)
              have n4_:=Aside0.mk (below_drew1 HB.out)
              clear HO_670002
              clear BK665
              clear BK666
              clear BK669
              clear HB
              have HO_670002:=n0_
              have BK665:=n1_
              have BK666:=n2_
              have BK669:=n3_
              have HB:=n4_
              clear n0_ n1_ n2_ n3_ n4_
              have p675 : 0 ≤ ((ji54) : Int):=of_decide_eq_true (by first|(with_reducible assumption)|assumption)
              have q675 : (ji54) < (l0_2.length : Int):=of_decide_eq_true (by first|(with_reducible assumption)|assumption)
              obtain ⟨ad675,e675,hx675_0⟩:=Kd.at_int HR0_2.out (ji54) p675 q675
              have hw675_0:=hx675_0
              cases e675
              replace hx675_0:=(HB.out.cell (World.block_lt_of_cell? w _ hx675_0)).trans hx675_0
              replace p675:=eq_true p675
              replace q675:=eq_true q675
              refine start_ (n:=16) (S:=fun w'=>w'.cell? ⟨gb669,0,none⟩ = some (.int .i64 a0_0) ∧ w'.cell? ⟨gb669,1,none⟩ = some (.int .i64 a0_1) ∧ w'.cell? ⟨gb669,2,none⟩ = some (u670002) ∧ w'.cell? ⟨gb665,0,none⟩ = some (.int .i64 a0_0) ∧ w'.cell? ⟨gb665,1,none⟩ = some (.int .i64 a0_1) ∧ w'.cell? ⟨gb665,2,none⟩ = some (.slice (some ad675) l0_2.length c0_2) ∧ w'.cell? (ad675.add ((ji54)).toNat) = some (.int .u16 (rd l0_2 (ji54)))) (ds:=[15]) #[false,false,false,false,false,false,false,false,false,false,false,false,false,false,false,false] (by kernel_rfl) rfl rfl ⟨(blk_cell BK669.out 0).trans rfl,(blk_cell BK669.out 1).trans rfl,(blk_cell BK669.out 2).trans rfl,(blk_cell BK665.out 0).trans rfl,(blk_cell BK665.out 1).trans rfl,(blk_cell BK665.out 2).trans rfl,((HB.out.cell (World.block_lt_of_cell? w _ hw675_0)).trans hw675_0)⟩ (fun hHeld=>?_);refine with_tabW hornbeamref11_Turn.tab13 hornbeamref11_Turn.bits13 (fun HT_ HW_=>?_)
              generalize wr.drew = w61 at HO_670002 BK665 BK666 BK669 HB hx675_0 hHeld ⊢
              refine pure_ (i:=0) (N:=some 58) (v:=?_) (a':=?_) #[true,false,false,false,false,false,false,false,false,false,false,false,false,false,false,false] rfl rfl (any_of HT_.out (by kernel_rfl)) (fun _ _ _ h=>h) (Or.inl ⟨by rfl,?_⟩) ?_ ?_
              rotate_left
              ·intro w'
               go_simp
               with_reducible rfl
              rotate_left
              ·simp only [Act.put,List.setIfInBounds_toArray,List.set_cons_zero,List.set_cons_succ,i64_w,i32_w]
               rfl
              refine pure_ (i:=2) (N:=some 60) (v:=?_) (a':=?_) #[true,false,true,false,false,false,false,false,false,false,false,false,false,false,false,false] rfl rfl (any_of HT_.out (by kernel_rfl)) (fun _ _ _ h=>h) (Or.inl ⟨by rfl,?_⟩) ?_ ?_
              rotate_left
              ·intro w'
               go_simp
               with_reducible rfl
              rotate_left
              ·simp only [Act.put,List.setIfInBounds_toArray,List.set_cons_zero,List.set_cons_succ,i64_w,i32_w]
               rfl
              refine pure_ (i:=4) (N:=some 62) (v:=?_) (a':=?_) #[true,false,true,false,true,false,false,false,false,false,false,false,false,false,false,false] rfl rfl (any_of HT_.out (by kernel_rfl)) (fun _ _ _ h=>h) (Or.inl ⟨by rfl,?_⟩) ?_ ?_
              rotate_left
              ·intro w'
               go_simp
               with_reducible rfl
              rotate_left
              ·simp only [Act.put,List.setIfInBounds_toArray,List.set_cons_zero,List.set_cons_succ,i64_w,i32_w]
               rfl
              refine pure_ (i:=5) (N:=some 63) (v:=?_) (a':=?_) #[true,false,true,false,true,true,false,false,false,false,false,false,false,false,false,false] rfl rfl (any_of HT_.out (by kernel_rfl)) (fun _ _ _ h=>h) (Or.inl ⟨by rfl,?_⟩) ?_ ?_
              rotate_left
              ·intro w'
               go_simp
               with_reducible rfl
              rotate_left
              ·simp only [Act.put,List.setIfInBounds_toArray,List.set_cons_zero,List.set_cons_succ,i64_w,i32_w]
               rfl
              refine pure_ (i:=8) (N:=some 66) (v:=?_) (a':=?_) #[true,false,true,false,true,true,false,false,true,false,false,false,false,false,false,false] rfl rfl (any_of HT_.out (by kernel_rfl)) (fun _ _ _ h=>h) (Or.inl ⟨by rfl,?_⟩) ?_ ?_
              rotate_left
              ·intro w'
               go_simp
               with_reducible rfl
              rotate_left
              ·simp only [Act.put,List.setIfInBounds_toArray,List.set_cons_zero,List.set_cons_succ,i64_w,i32_w]
               rfl
              refine take_ (i:=1) (N:=some 59) (v:=?_) (a':=?_) #[true,true,true,false,true,true,false,false,true,false,false,false,false,false,false,false] rfl rfl (take_ofW HT_.out HW_.out (by kernel_rfl)) (fun _ _ _ h=>h) (Or.inl ⟨by rfl,?_⟩) hHeld ?_ ?_
              rotate_left
              ·rintro w' ⟨s0,s1,s2,s3,s4,s5,s6⟩
               go_simp
               with_reducible rfl
              rotate_left
              ·simp only [Act.put,List.setIfInBounds_toArray,List.set_cons_zero,List.set_cons_succ,i64_w,i32_w]
               rfl
              refine take_ (i:=3) (N:=some 61) (v:=?_) (a':=?_) #[true,true,true,true,true,true,false,false,true,false,false,false,false,false,false,false] rfl rfl (take_ofW HT_.out HW_.out (by kernel_rfl)) (fun _ _ _ h=>h) (Or.inl ⟨by rfl,?_⟩) hHeld ?_ ?_
              rotate_left
              ·rintro w' ⟨s0,s1,s2,s3,s4,s5,s6⟩
               go_simp
               with_reducible rfl
              rotate_left
              ·simp only [Act.put,List.setIfInBounds_toArray,List.set_cons_zero,List.set_cons_succ,i64_w,i32_w]
               rfl
              refine take_ (i:=6) (N:=some 64) (v:=?_) (a':=?_) #[true,true,true,true,true,true,true,false,true,false,false,false,false,false,false,false] rfl rfl (take_ofW HT_.out HW_.out (by kernel_rfl)) (fun _ _ _ h=>h) (Or.inl ⟨by rfl,?_⟩) hHeld ?_ ?_
              rotate_left
              ·rintro w' ⟨s0,s1,s2,s3,s4,s5,s6⟩
               go_simp
               with_reducible rfl
              rotate_left
              ·simp only [Act.put,List.setIfInBounds_toArray,List.set_cons_zero,List.set_cons_succ,i64_w,i32_w]
               rfl
              refine pure_ (i:=7) (N:=some 65) (v:=?_) (a':=?_) #[true,true,true,true,true,true,true,true,true,false,false,false,false,false,false,false] rfl rfl (any_of HT_.out (by kernel_rfl)) (fun _ _ _ h=>h) (Or.inl ⟨by rfl,?_⟩) ?_ ?_
              rotate_left
              ·intro w'
               go_simp
               with_reducible rfl
              rotate_left
              ·simp only [Act.put,List.setIfInBounds_toArray,List.set_cons_zero,List.set_cons_succ,i64_w,i32_w]
               rfl
              refine pure_ (i:=9) (N:=some 67) (v:=?_) (a':=?_) #[true,true,true,true,true,true,true,true,true,true,false,false,false,false,false,false] rfl rfl (any_of HT_.out (by kernel_rfl)) (fun _ _ _ h=>h) (Or.inl ⟨by rfl,?_⟩) ?_ ?_
              rotate_left
              ·intro w'
               go_simp
               with_reducible rfl
              rotate_left
              ·simp only [Act.put,List.setIfInBounds_toArray,List.set_cons_zero,List.set_cons_succ,i64_w,i32_w]
               rfl
              refine pure_ (i:=10) (N:=some 68) (v:=?_) (a':=?_) #[true,true,true,true,true,true,true,true,true,true,true,false,false,false,false,false] rfl rfl (any_of HT_.out (by kernel_rfl)) (fun _ _ _ h=>h) (Or.inl ⟨by rfl,?_⟩) ?_ ?_
              rotate_left
              ·intro w'
               go_simp
               with_reducible rfl
              rotate_left
              ·simp only [Act.put,List.setIfInBounds_toArray,List.set_cons_zero,List.set_cons_succ,i64_w,i32_w]
               rfl
              refine take_ (i:=11) (N:=some 69) (v:=?_) (a':=?_) #[true,true,true,true,true,true,true,true,true,true,true,true,false,false,false,false] rfl rfl (take_ofW HT_.out HW_.out (by kernel_rfl)) (fun _ _ _ h=>h) (Or.inl ⟨by rfl,?_⟩) hHeld ?_ ?_
              rotate_left
              ·rintro w' ⟨s0,s1,s2,s3,s4,s5,s6⟩
               go_simp
               with_reducible rfl
              rotate_left
              ·simp only [Act.put,List.setIfInBounds_toArray,List.set_cons_zero,List.set_cons_succ,i64_w,i32_w]
               rfl
              refine one_ (i:=12) (N:=some 70) #[true,true,true,true,true,true,true,true,true,true,true,true,true,false,false,false] rfl rfl (one_of HT_.out (by kernel_rfl)) (by decide) (fun K hK=>?_)
              refine value_ (w1:=?_) (v:=?_) (by rfl) rfl ?_ ?_
              rotate_left 2
              ·go_simp
               constructor
               ·rfl
               ·rfl
              refine hK.out _ _ ⟨(blk_cell (blk_alloc BK669.out _) 0).trans rfl,(blk_cell (blk_alloc BK669.out _) 1).trans rfl,(blk_cell (blk_alloc BK669.out _) 2).trans rfl,(blk_cell (blk_alloc BK665.out _) 0).trans rfl,(blk_cell (blk_alloc BK665.out _) 1).trans rfl,(blk_cell (blk_alloc BK665.out _) 2).trans rfl,(World.cell?_alloc_lt _ _ _ (World.block_lt_of_cell? _ _ (((HB.out.cell (World.block_lt_of_cell? w _ hw675_0)).trans hw675_0)))).trans (((HB.out.cell (World.block_lt_of_cell? w _ hw675_0)).trans hw675_0))⟩ (fun hHeld=>?_)
              clear hK K
              refine norm_ (a':=?_) ?_ ?_
              rotate_left
              ·show Act.put _ (some 70) _ = _
               simp only [Act.put,List.setIfInBounds_toArray,List.set_cons_zero,List.set_cons_succ,i64_w,i32_w]
               rfl
              refine one_ (i:=13) (N:=some 71) #[true,true,true,true,true,true,true,true,true,true,true,true,true,true,false,false] rfl rfl (one_of HT_.out (by kernel_rfl)) (by decide) (fun K hK=>?_)
              refine Kd.R_append_step (Kd.int .u16) (w0:=w) w.heap.size (by rfl) (.tmp 59) (.tmp 70) 60 53 (.int .u16 0) 2 rfl Try.underlying60 info53 rfl (by decide) (by omega) u670002 x670002_3 (rd l0_2 (ji54)) [.int .u16 (rd l0_2 (ji54))] (fun _=>True) (fun _=>False) rfl rfl ?aP (fun _ hk=>hk.elim) ?aF ?aO ?aB ?aS ?aL ?_
              (case aP=>exact rfl)
              (case aB=>exact (by repeat(first|(with_reducible first|exact HB.out|apply below_alloc|apply pw_below_drewN|apply below_drew1|refine below_set ?_ GE665.out|refine below_set ?_ GE666.out|refine below_set ?_ GE669.out)|exact HB.out)))
              (case aF=>exact (fun _ _=>trivial))
              (case aO=>exact (by (with_reducible repeat(first|apply Kd.R_alloc|apply Kd.R_drewN|apply Kd.R_drew));exact HO_670002.out))
              (case aS=>exact (below_size (by repeat(first|(with_reducible first|exact HB.out|apply below_alloc|apply pw_below_drewN|apply below_drew1|refine below_set ?_ GE665.out|refine below_set ?_ GE666.out|refine below_set ?_ GE669.out)|exact HB.out))))
              (case aL=>have:=LMc57.out;omega)
              intro v677 w62 ho hb hg hat
              rw [← Ny676.out] at ho
              have n0_:=Aside0.mk (blk_grown (g:=gb665) (o:=.cells #[.int .i64 a0_0,.int .i64 a0_1,.slice (some ad675) l0_2.length c0_2] 62 (0,0)) (by (with_reducible repeat(first|refine blk_drewN ?_ _|refine blk_drew ?_|refine blk_alloc ?_ _));exact BK665.out) hg (Kd.R_ne HO_670002.out BK665.out (by decide)))
              have n1_:=Aside0.mk (blk_grown (g:=gb666) (o:=.cells #[.int .i64 0,.int .i64 0,.slice none 0 0] 62 (0,0)) (by (with_reducible repeat(first|refine blk_drewN ?_ _|refine blk_drew ?_|refine blk_alloc ?_ _));exact BK666.out) hg (Kd.R_ne HO_670002.out BK666.out (by decide)))
              have n2_:=Aside0.mk (blk_grown (g:=gb669) (o:=.cells #[.int .i64 a0_0,.int .i64 a0_1,u670002] 62 (0,0)) (by (with_reducible repeat(first|refine blk_drewN ?_ _|refine blk_drew ?_|refine blk_alloc ?_ _));exact BK669.out) hg (Kd.R_ne HO_670002.out BK669.out (by decide)))
              have n3_:=Aside0.mk (hb)
              have n4_:=Aside0.mk (ho)
              clear BK665
              clear BK666
              clear BK669
              clear HB
              clear HO_670002
              have BK665:=n0_
              have BK666:=n1_
              have BK669:=n2_
              have HB:=n3_
              have HO678:=n4_
              clear n0_ n1_ n2_ n3_ n4_
              clear ho hb hg hat
              obtain ⟨Ao63,co63,eo63⟩:=Kd.R_slice HO678.out
              (first|subst eo63|(injection eo63 with f1_ f2_ f3_;have f4_:=f1_.symm;have f5_:=f3_.symm;clear f1_ f2_ f3_;subst f4_;subst f5_))
              refine hK.out _ _ ⟨(blk_cell BK669.out 0).trans rfl,(blk_cell BK669.out 1).trans rfl,(blk_cell BK669.out 2).trans rfl,(blk_cell BK665.out 0).trans rfl,(blk_cell BK665.out 1).trans rfl,(blk_cell BK665.out 2).trans rfl,((HB.out.cell (World.block_lt_of_cell? w _ hw675_0)).trans hw675_0)⟩ (fun hHeld=>?_)
              clear hK K
              refine norm_ (a':=?_) ?_ ?_
              rotate_left
              ·show Act.put _ (some 71) _ = _
               simp only [Act.put,List.setIfInBounds_toArray,List.set_cons_zero,List.set_cons_succ,i64_w,i32_w]
               rfl
              refine pure_ (i:=14) (N:=some 72) (v:=?_) (a':=?_) #[true,true,true,true,true,true,true,true,true,true,true,true,true,true,true,false] rfl rfl (any_of HT_.out (by kernel_rfl)) (fun _ _ _ h=>h) (Or.inl ⟨by rfl,?_⟩) ?_ ?_
              rotate_left
              ·intro w'
               go_simp
               with_reducible rfl
              rotate_left
              ·simp only [Act.put,List.setIfInBounds_toArray,List.set_cons_zero,List.set_cons_succ,i64_w,i32_w]
               rfl
              refine last_ (i:=15) (N:=none) #[true,true,true,true,true,true,true,true,true,true,true,true,true,true,true,true] rfl rfl (one_of HT_.out (by kernel_rfl)) (by decide) (fun K hK=>?_)
              have hs64 : w62.cell? ⟨gb669,2,none⟩ = some (u670002):=(blk_cell BK669.out 2).trans rfl
              have hfs64:=blk_frozen BK669.out 2
              have hns64_0:=NB665_669.out
              have hns64_1:=NB666_669.out
              have hms64_0:=NB669_665.out
              have hms64_1:=NB669_666.out
              refine skip_ (w1:=?_) (by rfl) rfl ?_ ?_
              rotate_left
              ·go_simp
               rfl
              refine hK.out _ _ ?_
              clear hK K
              refine done_ (done_of HT_.out (by kernel_rfl)) ?_
              try go_wp2
              go_roundg k3
              case measure=>have:=HJ3.out;have:=HK2.out;have:=HK3.out;omega
              case rel=>exact ⟨(wrap64 (x10_3 + 1)),(y676),(.slice Ao63 y676.length co63),(by first|rfl|(simp;done)|(simp [*];done)),H',⟨by have:=HJ3.out;have:=HK2.out;have:=HK3.out;omega⟩,⟨by (with_reducible repeat(first|apply Kd.R_alloc|apply Kd.R_drewN|apply Kd.R_drew));exact Kd.R_mono (Kd.R_far (p:=⟨gb669,2,none⟩) (Kd.R_types HO678.out BK669.out (by decide)) (fun _ hk=>hk.2) (.slice Ao63 y676.length co63)) (fun _ hk=>trivial)⟩,⟨by (with_reducible repeat(first|refine blk_drewN ?_ _|refine blk_drew ?_|refine blk_alloc ?_ _));refine blk_far ?_ NB665_669.out _;(with_reducible repeat(first|refine blk_drewN ?_ _|refine blk_drew ?_|refine blk_alloc ?_ _));exact BK665.out⟩,⟨by (with_reducible repeat(first|refine blk_drewN ?_ _|refine blk_drew ?_|refine blk_alloc ?_ _));refine blk_far ?_ NB666_669.out _;(with_reducible repeat(first|refine blk_drewN ?_ _|refine blk_drew ?_|refine blk_alloc ?_ _));exact BK666.out⟩,⟨by (with_reducible repeat(first|refine blk_drewN ?_ _|refine blk_drew ?_|refine blk_alloc ?_ _));refine blk_put (cs:=#[.int .i64 a0_0,.int .i64 a0_1,u670002]) ?_ 2 _ rfl;(with_reducible repeat(first|refine blk_drewN ?_ _|refine blk_drew ?_|refine blk_alloc ?_ _));exact BK669.out⟩,⟨by repeat(first|(with_reducible first|exact HB.out|apply below_alloc|apply pw_below_drewN|apply below_drew1|refine below_set ?_ GE665.out|refine below_set ?_ GE666.out|refine below_set ?_ GE669.out)|exact HB.out)⟩⟩
             ·rw [if_neg c57] at H
              exact absurd H (by simp)
            ·rw [if_neg c56] at H
             exact absurd H (by simp)
           ·rw [if_neg c55] at H
            exact absurd H (by simp)
         ·rw [if_neg c39] at H
          have c39b0 : decide (x10_3 < a0_0) = false:=decide_eq_false c39
          clear c39
          have H':=Aside0.mk H
          clear H
          have hnb65:=NB665_666.out
          have hnc65:=NB666_665.out
          have hnb66:=NB665_669.out
          have hnc66:=NB669_665.out
          have hcz67_0 : wr.cell? ⟨gb665,0,none⟩ = some (.int .i64 a0_0):=(blk_cell BK665.out 0).trans rfl
          have hcz67_1 : wr.cell? ⟨gb665,1,none⟩ = some (.int .i64 a0_1):=(blk_cell BK665.out 1).trans rfl
          have hcz67_2 : wr.cell? ⟨gb665,2,none⟩ = some (.slice A0_2 l0_2.length c0_2):=(blk_cell BK665.out 2).trans rfl
          have hfz67_0:=blk_frozen BK665.out 0
          have hfz67_1:=blk_frozen BK665.out 1
          have hfz67_2:=blk_frozen BK665.out 2
          go_wp2
          go_roundg k3
          case measure=>have:=HJ3.out;have:=HK2.out;have:=HK3.out;omega
          case rel=>exact ⟨(wrap64 (x9_2 + 1)),(x670002_3),(u670002),(by first|rfl|(simp;done)|(simp [*];done)),H',⟨by have:=HJ3.out;have:=HK2.out;have:=HK3.out;omega⟩,⟨by (with_reducible repeat(first|apply Kd.R_alloc|apply Kd.R_drewN|apply Kd.R_drew));exact HO_670002.out⟩,⟨by (with_reducible repeat(first|refine blk_drewN ?_ _|refine blk_drew ?_|refine blk_alloc ?_ _));exact BK665.out⟩,⟨by (with_reducible repeat(first|refine blk_drewN ?_ _|refine blk_drew ?_|refine blk_alloc ?_ _));exact BK666.out⟩,⟨by (with_reducible repeat(first|refine blk_drewN ?_ _|refine blk_drew ?_|refine blk_alloc ?_ _));exact BK669.out⟩,⟨by repeat(first|(with_reducible first|exact HB.out|apply below_alloc|apply pw_below_drewN|apply below_drew1|refine below_set ?_ GE665.out|refine below_set ?_ GE666.out|refine below_set ?_ GE669.out)|exact HB.out)⟩⟩
      ·rw [if_neg c35] at H
       have c35b0 : decide (x9_2 < a0_1) = false:=decide_eq_false c35
       clear c35
       simp only [Option.some.injEq,Prod.mk.injEq] at H
       obtain ⟨rfl,rfl,rfl,rfl⟩:=H
       have hnb68:=NB665_666.out
       have hnc68:=NB666_665.out
       have hnb69:=NB665_669.out
       have hnc69:=NB669_665.out
       have hcz70_0 : wr.cell? ⟨gb665,0,none⟩ = some (.int .i64 a0_0):=(blk_cell BK665.out 0).trans rfl
       have hcz70_1 : wr.cell? ⟨gb665,1,none⟩ = some (.int .i64 a0_1):=(blk_cell BK665.out 1).trans rfl
       have hcz70_2 : wr.cell? ⟨gb665,2,none⟩ = some (.slice A0_2 l0_2.length c0_2):=(blk_cell BK665.out 2).trans rfl
       have hfz70_0:=blk_frozen BK665.out 0
       have hfz70_1:=blk_frozen BK665.out 1
       have hfz70_2:=blk_frozen BK665.out 2
       have hnb71:=NB669_666.out
       have hnc71:=NB666_669.out
       have hcz72_0 : wr.cell? ⟨gb669,0,none⟩ = some (.int .i64 a0_0):=(blk_cell BK669.out 0).trans rfl
       have hcz72_1 : wr.cell? ⟨gb669,1,none⟩ = some (.int .i64 a0_1):=(blk_cell BK669.out 1).trans rfl
       have hcz72_2 : wr.cell? ⟨gb669,2,none⟩ = some (u670002):=(blk_cell BK669.out 2).trans rfl
       have hfz72_0:=blk_frozen BK669.out 0
       have hfz72_1:=blk_frozen BK669.out 1
       have hfz72_2:=blk_frozen BK669.out 2
       have hcz73_0 : wr.cell? ⟨gb666,0,none⟩ = some (.int .i64 0):=(blk_cell BK666.out 0).trans rfl
       have hcz73_1 : wr.cell? ⟨gb666,1,none⟩ = some (.int .i64 0):=(blk_cell BK666.out 1).trans rfl
       have hcz73_2 : wr.cell? ⟨gb666,2,none⟩ = some (.slice none 0 0):=(blk_cell BK666.out 2).trans rfl
       have hfz73_0:=blk_frozen BK666.out 0
       have hfz73_1:=blk_frozen BK666.out 1
       have hfz73_2:=blk_frozen BK666.out 2
       obtain ⟨Ao74,co74,eo74⟩:=Kd.R_slice HO_670002.out
       subst eo74
       go_wp2
       refine bodyPost_ret (results_ct rfl _ _ gb666 62 #[.int .i64 a0_0,.int .i64 a0_1,.slice Ao74 x670002_2.length co74] (0,0) _ rfl (by (with_reducible repeat(first|refine blk_drewN ?_ _|refine blk_drew ?_|refine blk_alloc ?_ _));refine blk_put (cs:=#[.int .i64 a0_0,.int .i64 a0_1,.slice none 0 0]) ?_ 2 _ rfl;(with_reducible repeat(first|refine blk_drewN ?_ _|refine blk_drew ?_|refine blk_alloc ?_ _));refine blk_put (cs:=#[.int .i64 a0_0,.int .i64 0,.slice none 0 0]) ?_ 1 _ rfl;(with_reducible repeat(first|refine blk_drewN ?_ _|refine blk_drew ?_|refine blk_alloc ?_ _));refine blk_put (cs:=#[.int .i64 0,.int .i64 0,.slice none 0 0]) ?_ 0 _ rfl;(with_reducible repeat(first|refine blk_drewN ?_ _|refine blk_drew ?_|refine blk_alloc ?_ _));exact BK666.out) Try.underlying62 rfl (by kernel_rfl)) rfl ?_
       exact ⟨_,by first|rfl|(simp [errW_none,errW_some] <;> rfl)|(simp [*,errW_none,errW_some] <;> rfl),by (with_reducible repeat(first|apply Kd.R_alloc|apply Kd.R_drewN|apply Kd.R_drew));exact Kd.R_mono (Kd.R_far (p:=⟨gb666,2,none⟩) (Kd.R_far (p:=⟨gb666,1,none⟩) (Kd.R_far (p:=⟨gb666,0,none⟩) (Kd.R_types HO_670002.out BK666.out (by decide)) (fun _ hk=>hk.2) (.int .i64 a0_0)) (fun _ hk=>hk.2) (.int .i64 a0_1)) (fun _ hk=>hk.2) (.slice Ao74 x670002_2.length co74)) (fun _ hk=>trivial),by repeat(first|(with_reducible first|exact HB.out|apply below_alloc|apply pw_below_drewN|apply below_drew1|refine below_set ?_ GE665.out|refine below_set ?_ GE666.out|refine below_set ?_ GE669.out)|exact HB.out)⟩

end Go.Proofs.Ytnagfbadjbkhmaa.PA
