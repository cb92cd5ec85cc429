import Derived.Test.YtnagfbadjbkhmaaPAx0
import Derived.Test.YtnagfbadjbkhmaaPAx26
import Derived.Test.YtnagfbadjbkhmaaPAx28
import Derived.Test.YtnagfbadjbkhmaaPAx29
import Derived.Test.YtnagfbadjbkhmaaPAx37
import Derived.Test.YtnagfbadjbkhmaaPAx39
namespace Go.Proofs.Ytnagfbadjbkhmaa.PA
open Go.RowKit Go.Proofs.YtnagfbadjbkhmaaW.PrintWords Go.Proofs.YtnagfbadjbkhmaaW.PrintLast Go.Proofs.YtnagfbadjbkhmaaW.PrintMore
attribute [local go_sem] max2_int min2_int max_two min_two max_three min_three max_four min_four   -- for this text's walks alone
attribute [local go_sem high] Flt.fold_eq Flt.fold_ne Flt.fold_lt Flt.fold_gt Flt.fold_le Flt.fold_ge Flt.run_bits Flt.run_frombits
set_option linter.unusedVariables false
set_option linter.unusedSimpArgs false

/-! ### hornbeamlaw11_BinsTurns: function 8 -/
mutual
def hornbeamlaw11_BinsTurns.j0 : Nat → Int → List Int → Bool → Int → Int → List Int → Option (Bool)
 | 0,_,_,_,_,_,_=>none
 | k + 1,x1,x2,x19,x680000,x680001,x680002=>if x19 = true then ((hornbeamlaw11_fixed.f k).bind fun t681=>(some t681)) else ((some (([] : List Int) : List Int)).bind fun y682=>(if y682.length + x680002.length < 70368744177664 then ((some (y682 ++ x680002 : List Int)).bind fun y685=>((bins_Turn.f k x680000 x680001 x680002 x1 x2).bind fun bt689=>((hornbeamref11_Turn.f k x680000 x680001 x680002 x1 x2).bind fun bt696=>((hornbeamref11_Same.f k bt689.1 bt689.2.1 bt689.2.2.1 bt696.1 bt696.2.1 bt696.2.2.1).bind fun t703=>(if t703 = true then (hornbeamlaw11_BinsTurns.j1 k (bt689.2.2.2 != bt696.2.2.2) x680000 x680001 x680002 x680000 x680001 y685 bt689.1 bt689.2.1 bt689.2.2.1) else (hornbeamlaw11_BinsTurns.j1 k true x680000 x680001 x680002 x680000 x680001 y685 bt689.1 bt689.2.1 bt689.2.2.1)))))) else (none)))
def hornbeamlaw11_BinsTurns.j1 : Nat → Bool → Int → Int → List Int → Int → Int → List Int → Int → Int → List Int → Option (Bool)
 | 0,_,_,_,_,_,_,_,_,_,_=>none
 | k + 1,x52,x680000,x680001,x680002,x689000,x689001,x689002,x696000,x696001,x696002=>if x52 = true then (some false) else (hornbeamlaw11_BinsTurns.l0 k (x696002.length : Int) 0 x680000 x680001 x680002 x689000 x689001 x689002 x696000 x696001 x696002)
def hornbeamlaw11_BinsTurns.l0 : Nat → Int → Int → Int → Int → List Int → Int → Int → List Int → Int → Int → List Int → Option (Bool)
 | 0,_,_,_,_,_,_,_,_,_,_,_=>none
 | k + 1,x55,x56,x680000,x680001,x680002,x689000,x689001,x689002,x696000,x696001,x696002=>if x56 < x55 then (if 0 ≤ x56 then (if x56 < (x696002.length : Int) then (hornbeamlaw11_BinsTurns.l0 k x55 (wrap64 (x56 + 1)) x680000 x680001 x680002 x689000 x689001 x689002 x696000 x696001 (x696002.set (x56 : Int).toNat (IntKind.u16.wrap ((rd x696002 x56) + 1)))) else (none)) else (none)) else ((hornbeamlaw11_fixed.f k).bind fun t706=>(if t706 = true then ((hornbeamref11_Same.f k x680000 x680001 x680002 x689000 x689001 x689002).bind fun t707=>(some t707)) else (some false)))
end
def hornbeamlaw11_BinsTurns.f (k : Nat) (a0_0 : Int) (a0_1 : Int) (l0_2 : List Int) (a1 : Int) (l2 : List Int) : Option (Bool):=(hornbeamlaw11_great.f a0_0 a0_1 l0_2).bind fun t680=>(if t680 = true then (hornbeamlaw11_BinsTurns.j0 k a1 l2 true a0_0 a0_1 l0_2) else (hornbeamlaw11_BinsTurns.j0 k a1 l2 (decide ((l2.length : Int) > 200)) a0_0 a0_1 l0_2))
theorem hornbeamlaw11_BinsTurns.mono_l : ∀ k,(∀ y0 y1 y2 y3 y4 y5,LeO (hornbeamlaw11_BinsTurns.j0 k y0 y1 y2 y3 y4 y5) (hornbeamlaw11_BinsTurns.j0 (k + 1) y0 y1 y2 y3 y4 y5)) ∧ (∀ y0 y1 y2 y3 y4 y5 y6 y7 y8 y9,LeO (hornbeamlaw11_BinsTurns.j1 k y0 y1 y2 y3 y4 y5 y6 y7 y8 y9) (hornbeamlaw11_BinsTurns.j1 (k + 1) y0 y1 y2 y3 y4 y5 y6 y7 y8 y9)) ∧ (∀ y0 y1 y2 y3 y4 y5 y6 y7 y8 y9 y10,LeO (hornbeamlaw11_BinsTurns.l0 k y0 y1 y2 y3 y4 y5 y6 y7 y8 y9 y10) (hornbeamlaw11_BinsTurns.l0 (k + 1) y0 y1 y2 y3 y4 y5 y6 y7 y8 y9 y10))
 | 0=>⟨fun _ _ _ _ _ _ r h=>by simp [hornbeamlaw11_BinsTurns.j0] at h,fun _ _ _ _ _ _ _ _ _ _ r h=>by simp [hornbeamlaw11_BinsTurns.j1] at h,fun _ _ _ _ _ _ _ _ _ _ _ r h=>by simp [hornbeamlaw11_BinsTurns.l0] at h⟩
 | k + 1=>by
  obtain ⟨ih0,ih1,ih2⟩:=hornbeamlaw11_BinsTurns.mono_l k
  refine ⟨?_,?_,?_⟩
  ·intro y0 y1 y2 y3 y4 y5
   unfold hornbeamlaw11_BinsTurns.j0
   repeat' first
   | (with_reducible exact ih0 _ _ _ _ _ _)
   | (with_reducible exact ih1 _ _ _ _ _ _ _ _ _ _)
   | (with_reducible exact ih2 _ _ _ _ _ _ _ _ _ _ _)
   | (with_reducible exact bins_Turn.mono _ _ _ _ _ _)
   | (with_reducible exact hornbeamlaw11_fixed.mono _)
   | (with_reducible exact hornbeamref11_Same.mono _ _ _ _ _ _ _)
   | (with_reducible exact hornbeamref11_Turn.mono _ _ _ _ _ _)
   | (with_reducible exact LeO.refl _)
   | (with_reducible exact LeO.none _)
   | (with_reducible refine LeO.ite ?_ ?_)
   | (with_reducible refine LeO.bind ?_ (fun _=>?_))
   | exact ih0 _ _ _ _ _ _
   | exact ih1 _ _ _ _ _ _ _ _ _ _
   | exact ih2 _ _ _ _ _ _ _ _ _ _ _
   | exact bins_Turn.mono _ _ _ _ _ _
   | exact hornbeamlaw11_fixed.mono _
   | exact hornbeamref11_Same.mono _ _ _ _ _ _ _
   | exact hornbeamref11_Turn.mono _ _ _ _ _ _
   | exact LeO.none _
   | refine LeO.ite ?_ ?_
   | refine LeO.bind ?_ (fun _=>?_)
  ·intro y0 y1 y2 y3 y4 y5 y6 y7 y8 y9
   unfold hornbeamlaw11_BinsTurns.j1
   repeat' first
   | (with_reducible exact ih0 _ _ _ _ _ _)
   | (with_reducible exact ih1 _ _ _ _ _ _ _ _ _ _)
   | (with_reducible exact ih2 _ _ _ _ _ _ _ _ _ _ _)
   | (with_reducible exact bins_Turn.mono _ _ _ _ _ _)
   | (with_reducible exact hornbeamlaw11_fixed.mono _)
   | (with_reducible exact hornbeamref11_Same.mono _ _ _ _ _ _ _)
   | (with_reducible exact hornbeamref11_Turn.mono _ _ _ _ _ _)
   | (with_reducible exact LeO.refl _)
   | (with_reducible exact LeO.none _)
   | (with_reducible refine LeO.ite ?_ ?_)
   | (with_reducible refine LeO.bind ?_ (fun _=>?_))
   | exact ih0 _ _ _ _ _ _
   | exact ih1 _ _ _ _ _ _ _ _ _ _
   | exact ih2 _ _ _ _ _ _ _ _ _ _ _
   | exact bins_Turn.mono _ _ _ _ _ _
   | exact hornbeamlaw11_fixed.mono _
   | exact hornbeamref11_Same.mono _ _ _ _ _ _ _
   | exact hornbeamref11_Turn.mono _ _ _ _ _ _
   | exact LeO.none _
   | refine LeO.ite ?_ ?_
   | refine LeO.bind ?_ (fun _=>?_)
  ·intro y0 y1 y2 y3 y4 y5 y6 y7 y8 y9 y10
   unfold hornbeamlaw11_BinsTurns.l0
   repeat' first
   | (with_reducible exact ih0 _ _ _ _ _ _)
   | (with_reducible exact ih1 _ _ _ _ _ _ _ _ _ _)
   | (with_reducible exact ih2 _ _ _ _ _ _ _ _ _ _ _)
   | (with_reducible exact bins_Turn.mono _ _ _ _ _ _)
   | (with_reducible exact hornbeamlaw11_fixed.mono _)
   | (with_reducible exact hornbeamref11_Same.mono _ _ _ _ _ _ _)
   | (with_reducible exact hornbeamref11_Turn.mono _ _ _ _ _ _)
   | (with_reducible exact LeO.refl _)
   | (with_reducible exact LeO.none _)
   | (with_reducible refine LeO.ite ?_ ?_)
   | (with_reducible refine LeO.bind ?_ (fun _=>?_))
   | exact ih0 _ _ _ _ _ _
   | exact ih1 _ _ _ _ _ _ _ _ _ _
   | exact ih2 _ _ _ _ _ _ _ _ _ _ _
   | exact bins_Turn.mono _ _ _ _ _ _
   | exact hornbeamlaw11_fixed.mono _
   | exact hornbeamref11_Same.mono _ _ _ _ _ _ _
   | exact hornbeamref11_Turn.mono _ _ _ _ _ _
   | exact LeO.none _
   | refine LeO.ite ?_ ?_
   | refine LeO.bind ?_ (fun _=>?_)
theorem hornbeamlaw11_BinsTurns.mono : ∀ a0 a1 a2 a3 a4 k,LeO (hornbeamlaw11_BinsTurns.f k a0 a1 a2 a3 a4) (hornbeamlaw11_BinsTurns.f (k + 1) a0 a1 a2 a3 a4):=by
 intro a0 a1 a2 a3 a4 k
 obtain ⟨ih0,ih1,ih2⟩:=hornbeamlaw11_BinsTurns.mono_l k
 unfold hornbeamlaw11_BinsTurns.f
 repeat' first
   | (with_reducible exact ih0 _ _ _ _ _ _)
   | (with_reducible exact ih1 _ _ _ _ _ _ _ _ _ _)
   | (with_reducible exact ih2 _ _ _ _ _ _ _ _ _ _ _)
   | (with_reducible exact bins_Turn.mono _ _ _ _ _ _)
   | (with_reducible exact hornbeamlaw11_fixed.mono _)
   | (with_reducible exact hornbeamref11_Same.mono _ _ _ _ _ _ _)
   | (with_reducible exact hornbeamref11_Turn.mono _ _ _ _ _ _)
   | (with_reducible exact LeO.refl _)
   | (with_reducible exact LeO.none _)
   | (with_reducible refine LeO.ite ?_ ?_)
   | (with_reducible refine LeO.bind ?_ (fun _=>?_))
   | exact ih0 _ _ _ _ _ _
   | exact ih1 _ _ _ _ _ _ _ _ _ _
   | exact ih2 _ _ _ _ _ _ _ _ _ _ _
   | exact bins_Turn.mono _ _ _ _ _ _
   | exact hornbeamlaw11_fixed.mono _
   | exact hornbeamref11_Same.mono _ _ _ _ _ _ _
   | exact hornbeamref11_Turn.mono _ _ _ _ _ _
   | exact LeO.none _
   | refine LeO.ite ?_ ?_
   | refine LeO.bind ?_ (fun _=>?_)
def hornbeamlaw11_BinsTurns.T3 : Bool × List (List Nat × List Nat):=(true,[([],[]),([0],[0]),([],[]),([2],[2]),([],[]),([],[]),([5],[5]),([4,6],[4,6]),([1,3,7],[1,3,7]),([],[]),([9,8,7,0,1,2,3,4,5,6,7,8,9],[8,9])])
def hornbeamlaw11_BinsTurns.B3 : List Nat:=[0,1,0,4,0,0,32,112,255,0,1023]
theorem hornbeamlaw11_BinsTurns.tab3 : rtab .any (opsOf Try.f8 3) = hornbeamlaw11_BinsTurns.T3:=by kernel_rfl
theorem hornbeamlaw11_BinsTurns.bits3 : waitsOk hornbeamlaw11_BinsTurns.T3.2 hornbeamlaw11_BinsTurns.B3 = true:=by kernel_rfl
set_option maxHeartbeats 8000000 in
set_option maxRecDepth 100000 in
theorem hornbeamlaw11_BinsTurns.calls (k : Nat) (a0_0 : Int) (a0_1 : Int) (A0_2 : Option Addr) (c0_2 : Nat) (l0_2 : List Int) (a1 : Int) (A2 : Option Addr) (c2 : Nat) (l2 : List Int) (r : Bool) (w : World) (hr0_2 : Kd.C (Kd.int .u16) w A0_2 l0_2.length l0_2) (hc0_2 : l0_2.length ≤ c0_2) (hr2 : Kd.C (Kd.int .i64) w A2 l2.length l2) (hc2 : l2.length ≤ c2) (h : hornbeamlaw11_BinsTurns.f k a0_0 a0_1 l0_2 a1 l2 = some r) :
  Calls Try.prog 8 #[.agg #[.int .i64 a0_0,.int .i64 a0_1,.slice A0_2 l0_2.length c0_2],.int .i64 a1,.slice A2 l2.length c2] w fun e w'=>e = .returned (.bool r) ∧ Below w.heap.size w w':=by
 have hu62:=Try.underlying62
 have HR0_2:=Aside0.mk hr0_2
 have HC0_2:=Aside0.mk hc0_2
 clear hr0_2 hc0_2
 have HR2:=Aside0.mk hr2
 have HC2:=Aside0.mk hc2
 clear hr2 hc2
 have HB:=Aside0.mk (Below.refl w.heap.size w)
 have H : ((hornbeamlaw11_great.f a0_0 a0_1 l0_2).bind fun t680=>(if t680 = true then (hornbeamlaw11_BinsTurns.j0 k a1 l2 true a0_0 a0_1 l0_2) else (hornbeamlaw11_BinsTurns.j0 k a1 l2 (decide ((l2.length : Int) > 200)) a0_0 a0_1 l0_2))) = some r:=h
 clear h
 have HC4:=Aside0.mk H
 clear H
 go_enter Try.func8,Try.ntmps8
 go_upto_region 1 with (first|((with_reducible refine gate_dst (N:=3) rfl ?_);(try (refine gate_guard (by rfl) ?_;dsimp only));refine box_event ?hg (N:=3) ?hd (cs:=#[.int .i64 a0_0,.int .i64 a0_1,.slice A0_2 l0_2.length c0_2]) (t:=62) ?hr ?_;(case hd=>rfl);(case hg=>rfl);(case hr=>first|(go_simp;done)|(go_simp;rfl));intro gb679 hg w5 hbox hb;have n0_:=Aside0.mk (below_step (by repeat(first|(with_reducible first|exact HB.out|apply below_alloc|apply pw_below_drewN|apply below_drew1)|exact HB.out)) hb);have n1_:=Aside0.mk (hbox);have n2_:=Aside0.mk ((by rw [hg];exact (below_size (by repeat(first|(with_reducible first|exact HB.out|apply below_alloc|apply pw_below_drewN|apply below_drew1)|exact HB.out))) : w.heap.size ≤ gb679));have n3_:=Aside0.mk ((by rw [hg];exact (below_size (by repeat(first|(with_reducible first|exact HB.out|apply below_alloc|apply pw_below_drewN|apply below_drew1)|exact HB.out))) : w.heap.size ≤ gb679));clear HB;have HB:=n0_;have BK679:=n1_;have GW679:=n2_;have GE679:=n3_;clear n0_ n1_ n2_ n3_;clear hb hbox hg))
 (try simp only [Act.put,List.setIfInBounds_toArray,List.set_cons_zero,List.set_cons_succ])
 go_cut [19] (fun v19 wc=>∃ (kq : Nat) (x19_3 : Bool),v19 = .bool x19_3 ∧ Aside0 (hornbeamlaw11_BinsTurns.j0 kq a1 l2 x19_3 a0_0 a0_1 l0_2 = some r) ∧ Aside0 (kq ≤ k) ∧ Aside0 (wc.heap[gb679]? = some (.cells #[.int .i64 a0_0,.int .i64 a0_1,(.slice A0_2 l0_2.length c0_2)] 62 (0,0))) ∧ Aside0 (Below w.heap.size w wc))
 case first =>
  have H:=HC4.out
  clear HC4
  replace H:=Option.bind_eq_some_iff.mp H
  obtain ⟨t680,A60,H⟩:=H
  replace H : (if t680 = true then (hornbeamlaw11_BinsTurns.j0 k a1 l2 true a0_0 a0_1 l0_2) else (hornbeamlaw11_BinsTurns.j0 k a1 l2 (decide ((l2.length : Int) > 200)) a0_0 a0_1 l0_2)) = some r:=H
  have A6:=Aside0.mk A60
  clear A60
  by_cases c7 : t680 = true
  ·subst c7
   have H1 : (hornbeamlaw11_BinsTurns.j0 k a1 l2 true a0_0 a0_1 l0_2) = some r:=by rw [if_pos rfl] at H;exact H
   clear H
   have H:=H1
   clear H1
   have H':=Aside0.mk H
   clear H
   have hcz8_0 : w5.cell? ⟨gb679,0,none⟩ = some (.int .i64 a0_0):=(blk_cell BK679.out 0).trans rfl
   have hcz8_1 : w5.cell? ⟨gb679,1,none⟩ = some (.int .i64 a0_1):=(blk_cell BK679.out 1).trans rfl
   have hcz8_2 : w5.cell? ⟨gb679,2,none⟩ = some (.slice A0_2 l0_2.length c0_2):=(blk_cell BK679.out 2).trans rfl
   have hfz8_0:=blk_frozen BK679.out 0
   have hfz8_1:=blk_frozen BK679.out 1
   have hfz8_2:=blk_frozen BK679.out 2
   go_wp2_with (first|((with_reducible refine gate_callee (f:=32) rfl ?_);refine goesL_ (some 14) rfl rfl Try.func32 (by kernel_rfl) rfl #[.agg #[.int .i64 a0_0,.int .i64 a0_1,.slice A0_2 l0_2.length c0_2]] rfl (by (try simp only [List.map_toArray,List.map_cons,List.map_nil]);first|done|rfl|(simp only [List.length_drop,List.length_take];rfl)) ?_;(with_reducible refine (hornbeamlaw11_great.calls a0_0 a0_1 _ _ l0_2 true _ ?side1 ?side2 A6.out).mono ?_);(case side1=>repeat(first|exact (Kd.C_below HR0_2.out HB.out)|(with_reducible refine Kd.C_alloc ?_ _)|(with_reducible refine Kd.C_drewN ?_ _)|(with_reducible refine Kd.C_drew ?_)));(case side2=>exact HC0_2.out);rintro e w9 ⟨rfl,hb⟩;refine ⟨_,rfl,?_⟩;have n0_:=Aside0.mk (blk_below (g:=gb679) (o:=.cells #[.int .i64 a0_0,.int .i64 a0_1,.slice A0_2 l0_2.length c0_2] 62 (0,0)) (by (with_reducible repeat(first|refine blk_drewN ?_ _|refine blk_drew ?_|refine blk_alloc ?_ _));exact BK679.out) hb);have n1_:=Aside0.mk (below_step (by repeat(first|(with_reducible first|exact HB.out|apply below_alloc|apply pw_below_drewN|apply below_drew1|refine below_set ?_ GE679.out)|exact HB.out)) hb);clear BK679;clear HB;have BK679:=n0_;have HB:=n1_;clear n0_ n1_;(try clear hb);(try clear hb2);(try clear hk);(try clear hi)))
   go_meet
   case rel=>exact ⟨_,(true),(by first|rfl|(simp;done)|(simp [*];done)),H',⟨by first|omega|exact Nat.le_refl _⟩,⟨by (with_reducible repeat(first|refine blk_drewN ?_ _|refine blk_drew ?_|refine blk_alloc ?_ _));exact BK679.out⟩,⟨by repeat(first|(with_reducible first|exact HB.out|apply below_alloc|apply pw_below_drewN|apply below_drew1|refine below_set ?_ GE679.out)|exact HB.out)⟩⟩
  ·replace c7:=Bool.eq_false_iff.mpr c7
   subst c7
   have H1 : (hornbeamlaw11_BinsTurns.j0 k a1 l2 (decide ((l2.length : Int) > 200)) a0_0 a0_1 l0_2) = some r:=by rw [if_neg (show ¬ (false = true) by decide)] at H;exact H
   clear H
   have H:=H1
   clear H1
   have H':=Aside0.mk H
   clear H
   have hcz10_0 : w5.cell? ⟨gb679,0,none⟩ = some (.int .i64 a0_0):=(blk_cell BK679.out 0).trans rfl
   have hcz10_1 : w5.cell? ⟨gb679,1,none⟩ = some (.int .i64 a0_1):=(blk_cell BK679.out 1).trans rfl
   have hcz10_2 : w5.cell? ⟨gb679,2,none⟩ = some (.slice A0_2 l0_2.length c0_2):=(blk_cell BK679.out 2).trans rfl
   have hfz10_0:=blk_frozen BK679.out 0
   have hfz10_1:=blk_frozen BK679.out 1
   have hfz10_2:=blk_frozen BK679.out 2
   go_wp2_with (first|((with_reducible refine gate_callee (f:=32) rfl ?_);refine goesL_ (some 14) rfl rfl Try.func32 (by kernel_rfl) rfl #[.agg #[.int .i64 a0_0,.int .i64 a0_1,.slice A0_2 l0_2.length c0_2]] rfl (by (try simp only [List.map_toArray,List.map_cons,List.map_nil]);first|done|rfl|(simp only [List.length_drop,List.length_take];rfl)) ?_;(with_reducible refine (hornbeamlaw11_great.calls a0_0 a0_1 _ _ l0_2 false _ ?side1 ?side2 A6.out).mono ?_);(case side1=>repeat(first|exact (Kd.C_below HR0_2.out HB.out)|(with_reducible refine Kd.C_alloc ?_ _)|(with_reducible refine Kd.C_drewN ?_ _)|(with_reducible refine Kd.C_drew ?_)));(case side2=>exact HC0_2.out);rintro e w11 ⟨rfl,hb⟩;refine ⟨_,rfl,?_⟩;have n0_:=Aside0.mk (blk_below (g:=gb679) (o:=.cells #[.int .i64 a0_0,.int .i64 a0_1,.slice A0_2 l0_2.length c0_2] 62 (0,0)) (by (with_reducible repeat(first|refine blk_drewN ?_ _|refine blk_drew ?_|refine blk_alloc ?_ _));exact BK679.out) hb);have n1_:=Aside0.mk (below_step (by repeat(first|(with_reducible first|exact HB.out|apply below_alloc|apply pw_below_drewN|apply below_drew1|refine below_set ?_ GE679.out)|exact HB.out)) hb);clear BK679;clear HB;have BK679:=n0_;have HB:=n1_;clear n0_ n1_;(try clear hb);(try clear hb2);(try clear hk);(try clear hi)))
   go_meet
   case rel=>exact ⟨_,(decide ((l2.length : Int) > 200)),(by first|rfl|(simp;done)|(simp [*];done)),H',⟨by first|omega|exact Nat.le_refl _⟩,⟨by (with_reducible repeat(first|refine blk_drewN ?_ _|refine blk_drew ?_|refine blk_alloc ?_ _));exact BK679.out⟩,⟨by repeat(first|(with_reducible first|exact HB.out|apply below_alloc|apply pw_below_drewN|apply below_drew1|refine below_set ?_ GE679.out)|exact HB.out)⟩⟩
 case rest =>
  clear HC4
  try clear c2
  try clear p2
  try clear c3
  try clear c7
  try clear c8
  try clear hcz10_0
  try clear hcz10_1
  try clear hcz10_2
  try clear hcz8_0
  try clear hcz8_1
  try clear hcz8_2
  try clear hfz10_0
  try clear hfz10_1
  try clear hfz10_2
  try clear hfz8_0
  try clear hfz8_1
  try clear hfz8_2
  obtain ⟨kq,x19_3,rfl,HA,HJ3,BK679,HB⟩:=hcut
  cases kq with
  | zero=>exact absurd HA.out (by simp [hornbeamlaw11_BinsTurns.j0])
  | succ kj3 =>
   have H:=HA.out
   clear HA
   simp only [hornbeamlaw11_BinsTurns.j0] at H
   by_cases c12 : x19_3 = true
   ·subst c12
    have H1 : ((hornbeamlaw11_fixed.f kj3).bind fun t681=>(some t681)) = some r:=by rw [if_pos rfl] at H;exact H
    clear H
    have H:=H1
    clear H1
    replace H:=Option.bind_eq_some_iff.mp H
    obtain ⟨t681,A130,H⟩:=H
    replace H : (some t681) = some r:=H
    have A13:=Aside0.mk A130
    clear A130
    obtain rfl:=Option.some.inj H
    go_wp2_with (first|((with_reducible refine gate_callee (f:=25) rfl ?_);refine goesL_ (some 20) rfl rfl Try.func25 (by kernel_rfl) rfl #[] rfl (by (try simp only [List.map_toArray,List.map_cons,List.map_nil]);first|done|rfl|(simp only [List.length_drop,List.length_take];rfl)) ?_;(with_reducible refine (hornbeamlaw11_fixed.calls kj3  t681 _ A13.out).mono ?_);rintro e w14 ⟨rfl,hb⟩;refine ⟨_,rfl,?_⟩;have n0_:=Aside0.mk (blk_below (g:=gb679) (o:=.cells #[.int .i64 a0_0,.int .i64 a0_1,.slice A0_2 l0_2.length c0_2] 62 (0,0)) (by (with_reducible repeat(first|refine blk_drewN ?_ _|refine blk_drew ?_|refine blk_alloc ?_ _));exact BK679.out) hb);have n1_:=Aside0.mk (below_step (by repeat(first|(with_reducible first|exact HB.out|apply below_alloc|apply pw_below_drewN|apply below_drew1|refine below_set ?_ GE679.out)|exact HB.out)) hb);clear BK679;clear HB;have BK679:=n0_;have HB:=n1_;clear n0_ n1_;(try clear hb);(try clear hb2);(try clear hk);(try clear hi)))
    go_ret
    exact ⟨by first|rfl|(simp [errW_none,errW_some] <;> rfl)|(simp [*,errW_none,errW_some] <;> rfl),by repeat(first|(with_reducible first|exact HB.out|apply below_alloc|apply pw_below_drewN|apply below_drew1|refine below_set ?_ GE679.out)|exact HB.out)⟩
   ·replace c12:=Bool.eq_false_iff.mpr c12
    subst c12
    have H1 : ((some (([] : List Int) : List Int)).bind fun y682=>(if y682.length + l0_2.length < 70368744177664 then ((some (y682 ++ l0_2 : List Int)).bind fun y685=>((bins_Turn.f kj3 a0_0 a0_1 l0_2 a1 l2).bind fun bt689=>((hornbeamref11_Turn.f kj3 a0_0 a0_1 l0_2 a1 l2).bind fun bt696=>((hornbeamref11_Same.f kj3 bt689.1 bt689.2.1 bt689.2.2.1 bt696.1 bt696.2.1 bt696.2.2.1).bind fun t703=>(if t703 = true then (hornbeamlaw11_BinsTurns.j1 kj3 (bt689.2.2.2 != bt696.2.2.2) a0_0 a0_1 l0_2 a0_0 a0_1 y685 bt689.1 bt689.2.1 bt689.2.2.1) else (hornbeamlaw11_BinsTurns.j1 kj3 true a0_0 a0_1 l0_2 a0_0 a0_1 y685 bt689.1 bt689.2.1 bt689.2.2.1)))))) else (none))) = some r:=by rw [if_neg (show ¬ (false = true) by decide)] at H;exact H
    clear H
    have H:=H1
    clear H1
    obtain ⟨y682,hy682⟩ : ∃ y_ : List Int,y_ = (([] : List Int)):=⟨_,rfl⟩
    replace H : (if y682.length + l0_2.length < 70368744177664 then ((some (y682 ++ l0_2 : List Int)).bind fun y685=>((bins_Turn.f kj3 a0_0 a0_1 l0_2 a1 l2).bind fun bt689=>((hornbeamref11_Turn.f kj3 a0_0 a0_1 l0_2 a1 l2).bind fun bt696=>((hornbeamref11_Same.f kj3 bt689.1 bt689.2.1 bt689.2.2.1 bt696.1 bt696.2.1 bt696.2.2.1).bind fun t703=>(if t703 = true then (hornbeamlaw11_BinsTurns.j1 kj3 (bt689.2.2.2 != bt696.2.2.2) a0_0 a0_1 l0_2 a0_0 a0_1 y685 bt689.1 bt689.2.1 bt689.2.2.1) else (hornbeamlaw11_BinsTurns.j1 kj3 true a0_0 a0_1 l0_2 a0_0 a0_1 y685 bt689.1 bt689.2.1 bt689.2.2.1)))))) else (none)) = some r:=by first|(rw [hy682];with_reducible exact H)|(have H2_:=(Option.bind_some _ _).symm.trans H;rw [hy682];with_reducible exact H2_)|(have H2_:=(Option.bind_some _ _).symm.trans H;with_reducible exact H2_)|with_reducible exact H|(rw [hy682];exact H)|exact H
    have Ny682:=Aside0.mk hy682
    clear hy682
    by_cases c15 : y682.length + l0_2.length < 70368744177664
    ·rw [if_pos c15] at H
     have LMc15:=Aside0.mk c15
     clear c15
     obtain ⟨y685,hy685⟩ : ∃ y_ : List Int,y_ = (y682 ++ l0_2):=⟨_,rfl⟩
     replace H : ((bins_Turn.f kj3 a0_0 a0_1 l0_2 a1 l2).bind fun bt689=>((hornbeamref11_Turn.f kj3 a0_0 a0_1 l0_2 a1 l2).bind fun bt696=>((hornbeamref11_Same.f kj3 bt689.1 bt689.2.1 bt689.2.2.1 bt696.1 bt696.2.1 bt696.2.2.1).bind fun t703=>(if t703 = true then (hornbeamlaw11_BinsTurns.j1 kj3 (bt689.2.2.2 != bt696.2.2.2) a0_0 a0_1 l0_2 a0_0 a0_1 y685 bt689.1 bt689.2.1 bt689.2.2.1) else (hornbeamlaw11_BinsTurns.j1 kj3 true a0_0 a0_1 l0_2 a0_0 a0_1 y685 bt689.1 bt689.2.1 bt689.2.2.1))))) = some r:=by first|(rw [hy685];with_reducible exact H)|(have H2_:=(Option.bind_some _ _).symm.trans H;rw [hy685];with_reducible exact H2_)|(have H2_:=(Option.bind_some _ _).symm.trans H;with_reducible exact H2_)|with_reducible exact H|(rw [hy685];exact H)|exact H
     have Ny685:=Aside0.mk hy685
     clear hy685
     replace H:=Option.bind_eq_some_iff.mp H
     obtain ⟨⟨t689,t690,t691,t694⟩,A160,H⟩:=H
     replace H : ((hornbeamref11_Turn.f kj3 a0_0 a0_1 l0_2 a1 l2).bind fun bt696=>((hornbeamref11_Same.f kj3 t689 t690 t691 bt696.1 bt696.2.1 bt696.2.2.1).bind fun t703=>(if t703 = true then (hornbeamlaw11_BinsTurns.j1 kj3 (t694 != bt696.2.2.2) a0_0 a0_1 l0_2 a0_0 a0_1 y685 t689 t690 t691) else (hornbeamlaw11_BinsTurns.j1 kj3 true a0_0 a0_1 l0_2 a0_0 a0_1 y685 t689 t690 t691)))) = some r:=H
     have A16:=Aside0.mk A160
     clear A160
     replace H:=Option.bind_eq_some_iff.mp H
     obtain ⟨⟨t696,t697,t698,t701⟩,A170,H⟩:=H
     replace H : ((hornbeamref11_Same.f kj3 t689 t690 t691 t696 t697 t698).bind fun t703=>(if t703 = true then (hornbeamlaw11_BinsTurns.j1 kj3 (t694 != t701) a0_0 a0_1 l0_2 a0_0 a0_1 y685 t689 t690 t691) else (hornbeamlaw11_BinsTurns.j1 kj3 true a0_0 a0_1 l0_2 a0_0 a0_1 y685 t689 t690 t691))) = some r:=H
     have A17:=Aside0.mk A170
     clear A170
     have HC18:=Aside0.mk H
     clear H
     try go_wp2
     have n0_:=Aside0.mk (blk_drew BK679.out)
     have n1_:=Aside0.mk (below_drew1 HB.out)
     clear BK679
     clear HB
     have BK679:=n0_
     have HB:=n1_
     clear n0_ n1_
     refine start_ (n:=11) (S:=fun w'=>w'.cell? ⟨gb679,0,none⟩ = some (.int .i64 a0_0) ∧ w'.cell? ⟨gb679,1,none⟩ = some (.int .i64 a0_1) ∧ w'.cell? ⟨gb679,2,none⟩ = some (.slice A0_2 l0_2.length c0_2)) (ds:=[]) #[false,false,false,false,false,false,false,false,false,false,false] (by kernel_rfl) rfl rfl ⟨(blk_cell BK679.out 0).trans rfl,(blk_cell BK679.out 1).trans rfl,(blk_cell BK679.out 2).trans rfl⟩ (fun hHeld=>?_);refine with_tabW hornbeamlaw11_BinsTurns.tab3 hornbeamlaw11_BinsTurns.bits3 (fun HT_ HW_=>?_)
     generalize wc.drew = w19 at BK679 HB hHeld ⊢
     refine pure_ (i:=0) (N:=some 21) (v:=?_) (a':=?_) #[true,false,false,false,false,false,false,false,false,false,false] rfl rfl (any_of HT_.out (by kernel_rfl)) (fun _ _ _ h=>h) (Or.inl ⟨by rfl,?_⟩) ?_ ?_
     rotate_left
     ·intro w'
      go_simp
      with_reducible rfl
     rotate_left
     ·simp only [Act.put,List.setIfInBounds_toArray,List.set_cons_zero,List.set_cons_succ,i64_w,i32_w]
      rfl
     refine pure_ (i:=2) (N:=some 23) (v:=?_) (a':=?_) #[true,false,true,false,false,false,false,false,false,false,false] rfl rfl (any_of HT_.out (by kernel_rfl)) (fun _ _ _ h=>h) (Or.inl ⟨by rfl,?_⟩) ?_ ?_
     rotate_left
     ·intro w'
      go_simp
      with_reducible rfl
     rotate_left
     ·simp only [Act.put,List.setIfInBounds_toArray,List.set_cons_zero,List.set_cons_succ,i64_w,i32_w]
      rfl
     refine pure_ (i:=5) (N:=some 26) (v:=?_) (a':=?_) #[true,false,true,false,false,true,false,false,false,false,false] rfl rfl (any_of HT_.out (by kernel_rfl)) (fun _ _ _ h=>h) (Or.inl ⟨by rfl,?_⟩) ?_ ?_
     rotate_left
     ·intro w'
      go_simp
      with_reducible rfl
     rotate_left
     ·simp only [Act.put,List.setIfInBounds_toArray,List.set_cons_zero,List.set_cons_succ,i64_w,i32_w]
      rfl
     refine take_ (i:=1) (N:=some 22) (v:=?_) (a':=?_) #[true,true,true,false,false,true,false,false,false,false,false] rfl rfl (take_ofW HT_.out HW_.out (by kernel_rfl)) (fun _ _ _ h=>h) (Or.inl ⟨by rfl,?_⟩) hHeld ?_ ?_
     rotate_left
     ·rintro w' ⟨s0,s1,s2⟩
      go_simp
      with_reducible rfl
     rotate_left
     ·simp only [Act.put,List.setIfInBounds_toArray,List.set_cons_zero,List.set_cons_succ,i64_w,i32_w]
      rfl
     refine take_ (i:=3) (N:=some 24) (v:=?_) (a':=?_) #[true,true,true,true,false,true,false,false,false,false,false] rfl rfl (take_ofW HT_.out HW_.out (by kernel_rfl)) (fun _ _ _ h=>h) (Or.inl ⟨by rfl,?_⟩) hHeld ?_ ?_
     rotate_left
     ·rintro w' ⟨s0,s1,s2⟩
      go_simp
      with_reducible rfl
     rotate_left
     ·simp only [Act.put,List.setIfInBounds_toArray,List.set_cons_zero,List.set_cons_succ,i64_w,i32_w]
      rfl
     refine take_ (i:=6) (N:=some 27) (v:=?_) (a':=?_) #[true,true,true,true,false,true,true,false,false,false,false] rfl rfl (take_ofW HT_.out HW_.out (by kernel_rfl)) (fun _ _ _ h=>h) (Or.inl ⟨by rfl,?_⟩) hHeld ?_ ?_
     rotate_left
     ·rintro w' ⟨s0,s1,s2⟩
      go_simp
      with_reducible rfl
     rotate_left
     ·simp only [Act.put,List.setIfInBounds_toArray,List.set_cons_zero,List.set_cons_succ,i64_w,i32_w]
      rfl
     refine join_ (σ:=Value × Value × Nat) 1 #[true,true,true,true,true,true,true,true,true,true,false] (fun s_=>[(25,s_.1),(28,s_.2.1),(7,.pointer (some ⟨s_.2.2,0,none⟩)),(29,.agg #[.int .i64 a0_0,.int .i64 a0_1,s_.2.1])]) (fun s_ w'=>(w'.cell? ⟨gb679,0,none⟩ = some (.int .i64 a0_0) ∧ w'.cell? ⟨gb679,1,none⟩ = some (.int .i64 a0_1) ∧ w'.cell? ⟨gb679,2,none⟩ = some (.slice A0_2 l0_2.length c0_2)) ∧ (Kd.R (Kd.int .u16) 53 w' w.heap.size (fun _=>True) s_.2.1 y685) ∧ (w'.heap[gb679]? = some (.cells #[.int .i64 a0_0,.int .i64 a0_1,.slice A0_2 l0_2.length c0_2] 62 (0,0))) ∧ (w'.heap[s_.2.2]? = some (.cells #[.int .i64 0,.int .i64 0,.slice none 0 0] 62 (0,0))) ∧ (w.heap.size ≤ s_.2.2) ∧ (w.heap.size ≤ s_.2.2) ∧ (gb679 ≠ s_.2.2) ∧ (s_.2.2 ≠ gb679) ∧ (Below w.heap.size w w')) ?_ ?_
     rotate_left
     ·intro hCont
      refine two_ (i:=4) (j:=9) (Ni:=some 25) (Nj:=some 7) #[true,true,true,true,true,true,true,false,false,false,false] #[true,true,true,true,false,true,true,false,false,true,false] rfl rfl rfl rfl (two_of HT_.out (by kernel_rfl)) (by decide) (by decide) (fun K hK=>?_) (fun K hK=>?_)
      ·skip
       refine Kd.R_lit_step (Kd.int .u16) _ 53 ?hg (N:=25) ?hd (xs:=([] : List Int)) (inner:=[]) (ok:=fun _=>True) (okp:=fun _=>True) ?hr ?hp (fun _ hk=>hk) trivial (Below.refl _ _) (Nat.le_refl _) (by simp) ?_;(case hd=>rfl);(case hg=>rfl);(case hr=>first|(go_simp;done)|(go_simp;rfl));(case hp=>exact (Reps.none _ _))
       intro v683 w20 ho21 hb hg_ hnew_
       clear hg_ hnew_
       (first|rw [← Ny682.out] at ho21|(simp only [Int.reduceToNat] at ho21;rw [← Ny682.out] at ho21))
       have n0_:=Aside0.mk (Kd.R_lower ho21 (below_size (by repeat(first|(with_reducible first|exact HB.out|apply below_alloc|apply pw_below_drewN|apply below_drew1|refine below_set ?_ GE679.out)|exact HB.out))))
       have n1_:=Aside0.mk (blk_below (g:=gb679) (o:=.cells #[.int .i64 a0_0,.int .i64 a0_1,.slice A0_2 l0_2.length c0_2] 62 (0,0)) (by (with_reducible repeat(first|refine blk_drewN ?_ _|refine blk_drew ?_|refine blk_alloc ?_ _));exact BK679.out) hb)
       have n2_:=Aside0.mk (below_step (by repeat(first|(with_reducible first|exact HB.out|apply below_alloc|apply pw_below_drewN|apply below_drew1|refine below_set ?_ GE679.out)|exact HB.out)) hb)
       clear BK679
       clear HB
       have HO684:=n0_
       have BK679:=n1_
       have HB:=n2_
       clear n0_ n1_ n2_
       clear hb ho21
       refine hK.out _ _ ⟨(blk_cell BK679.out 0).trans rfl,(blk_cell BK679.out 1).trans rfl,(blk_cell BK679.out 2).trans rfl⟩ (fun hHeld=>?_)
       clear hK K
       refine norm_ (a':=?_) ?_ ?_
       rotate_left
       ·show Act.put _ (some 25) _ = _
        simp only [Act.put,List.setIfInBounds_toArray,List.set_cons_zero,List.set_cons_succ,i64_w,i32_w]
        rfl
       refine two_ (i:=7) (j:=9) (Ni:=some 28) (Nj:=some 7) #[true,true,true,true,true,true,true,true,false,false,false] #[true,true,true,true,true,true,true,false,false,true,false] rfl rfl rfl rfl (two_of HT_.out (by kernel_rfl)) (by decide) (by decide) (fun K hK=>?_) (fun K hK=>?_)
       ·skip
        refine Kd.R_append_rows_step (Kd.int .u16) (w0:=w) w.heap.size (by rfl) (.tmp 25) (.tmp 27) 60 53 (.int .u16 0) 2 rfl Try.underlying60 info53 rfl (by decide) (by omega) v683 y682 l0_2 _ _ _ (fun _=>True) (fun _=>False) rfl rfl ?aO ?aR (fun _ _ h=>h) (fun _ h=>h.elim) ?aF ?aB ?aS ?aL ?_
        (case aR=>repeat(first|exact (Kd.C_below HR0_2.out HB.out)|(with_reducible refine Kd.C_alloc ?_ _)|(with_reducible refine Kd.C_drewN ?_ _)|(with_reducible refine Kd.C_drew ?_)))
        (case aB=>exact (by repeat(first|(with_reducible first|exact HB.out|apply below_alloc|apply pw_below_drewN|apply below_drew1|refine below_set ?_ GE679.out)|exact HB.out)))
        (case aF=>exact (fun _ _=>trivial))
        (case aO=>exact (by (with_reducible repeat(first|apply Kd.R_alloc|apply Kd.R_drewN|apply Kd.R_drew));exact HO684.out))
        (case aS=>exact (below_size (by repeat(first|(with_reducible first|exact HB.out|apply below_alloc|apply pw_below_drewN|apply below_drew1|refine below_set ?_ GE679.out)|exact HB.out))))
        (case aL=>have:=LMc15.out;omega)
        intro v686 w22 ho hb hg hat
        rw [← Ny685.out] at ho
        have n0_:=Aside0.mk (blk_grown (g:=gb679) (o:=.cells #[.int .i64 a0_0,.int .i64 a0_1,.slice A0_2 l0_2.length c0_2] 62 (0,0)) (by (with_reducible repeat(first|refine blk_drewN ?_ _|refine blk_drew ?_|refine blk_alloc ?_ _));exact BK679.out) hg (Kd.R_ne HO684.out BK679.out (by decide)))
        have n1_:=Aside0.mk (hb)
        have n2_:=Aside0.mk (ho)
        clear BK679
        clear HB
        clear HO684
        have BK679:=n0_
        have HB:=n1_
        have HO687:=n2_
        clear n0_ n1_ n2_
        clear ho hb hg hat
        obtain ⟨Ao23,co23,eo23⟩:=Kd.R_slice HO687.out
        (first|subst eo23|(injection eo23 with f1_ f2_ f3_;have f4_:=f1_.symm;have f5_:=f3_.symm;clear f1_ f2_ f3_;subst f4_;subst f5_))
        refine hK.out _ _ ⟨(blk_cell BK679.out 0).trans rfl,(blk_cell BK679.out 1).trans rfl,(blk_cell BK679.out 2).trans rfl⟩ (fun hHeld=>?_)
        clear hK K
        refine norm_ (a':=?_) ?_ ?_
        rotate_left
        ·show Act.put _ (some 28) _ = _
         simp only [Act.put,List.setIfInBounds_toArray,List.set_cons_zero,List.set_cons_succ,i64_w,i32_w]
         rfl
        refine pure_ (i:=8) (N:=some 29) (v:=?_) (a':=?_) #[true,true,true,true,true,true,true,true,true,false,false] rfl rfl (any_of HT_.out (by kernel_rfl)) (fun _ _ _ h=>h) (Or.inl ⟨by rfl,?_⟩) ?_ ?_
        rotate_left
        ·intro w'
         go_simp
         with_reducible rfl
        rotate_left
        ·simp only [Act.put,List.setIfInBounds_toArray,List.set_cons_zero,List.set_cons_succ,i64_w,i32_w]
         rfl
        refine one_ (i:=9) (N:=some 7) #[true,true,true,true,true,true,true,true,true,true,false] rfl rfl (one_of HT_.out (by kernel_rfl)) (by decide) (fun K hK=>?_)
        refine box_step ?hg (N:=7) ?hd (cs:=#[.int .i64 0,.int .i64 0,.slice none 0 0]) (t:=62) ?hr ?_;(case hd=>rfl);(case hg=>rfl);(case hr=>first|(go_simp;done)|(go_simp;rfl))
        intro gb688 hg w24 hbox hb
        have n0_:=Aside0.mk (Kd.R_below (by (with_reducible repeat(first|apply Kd.R_alloc|apply Kd.R_drewN|apply Kd.R_drew));exact HO687.out) hb)
        have n1_:=Aside0.mk (blk_below (g:=gb679) (o:=.cells #[.int .i64 a0_0,.int .i64 a0_1,.slice A0_2 l0_2.length c0_2] 62 (0,0)) (by (with_reducible repeat(first|refine blk_drewN ?_ _|refine blk_drew ?_|refine blk_alloc ?_ _));exact BK679.out) hb)
        have n2_:=Aside0.mk (below_step (by repeat(first|(with_reducible first|exact HB.out|apply below_alloc|apply pw_below_drewN|apply below_drew1|refine below_set ?_ GE679.out)|exact HB.out)) hb)
        have n3_:=Aside0.mk (hbox)
        have n4_:=Aside0.mk ((by rw [hg];exact (below_size (by repeat(first|(with_reducible first|exact HB.out|apply below_alloc|apply pw_below_drewN|apply below_drew1|refine below_set ?_ GE679.out)|exact HB.out))) : w.heap.size ≤ gb688))
        have n5_:=Aside0.mk ((by rw [hg];exact (below_size (by repeat(first|(with_reducible first|exact HB.out|apply below_alloc|apply pw_below_drewN|apply below_drew1|refine below_set ?_ GE679.out)|exact HB.out))) : w.heap.size ≤ gb688))
        have n6_:=Aside0.mk ((by rw [hg];exact Nat.ne_of_lt (blk_lt (g:=gb679) (o:=.cells #[.int .i64 a0_0,.int .i64 a0_1,.slice A0_2 l0_2.length c0_2] 62 (0,0)) (by (with_reducible repeat(first|refine blk_drewN ?_ _|refine blk_drew ?_|refine blk_alloc ?_ _));exact BK679.out)) : gb679 ≠ gb688))
        have n7_:=Aside0.mk ((by rw [hg];exact Nat.ne_of_gt (blk_lt (g:=gb679) (o:=.cells #[.int .i64 a0_0,.int .i64 a0_1,.slice A0_2 l0_2.length c0_2] 62 (0,0)) (by (with_reducible repeat(first|refine blk_drewN ?_ _|refine blk_drew ?_|refine blk_alloc ?_ _));exact BK679.out)) : gb688 ≠ gb679))
        clear HO687
        clear BK679
        clear HB
        have HO687:=n0_
        have BK679:=n1_
        have HB:=n2_
        have BK688:=n3_
        have GW688:=n4_
        have GE688:=n5_
        have NB679_688:=n6_
        have NB688_679:=n7_
        clear n0_ n1_ n2_ n3_ n4_ n5_ n6_ n7_
        clear hb hbox hg
        refine hK.out _ _ ⟨(blk_cell BK679.out 0).trans rfl,(blk_cell BK679.out 1).trans rfl,(blk_cell BK679.out 2).trans rfl⟩ (fun hHeld=>?_)
        clear hK K
        refine norm_ (a':=?_) ?_ ?_
        rotate_left
        ·show Act.put _ (some 7) _ = _
         simp only [Act.put,List.setIfInBounds_toArray,List.set_cons_zero,List.set_cons_succ,i64_w,i32_w]
         rfl
        exact norm_ (by simp only [putAll,Act.put,List.setIfInBounds_toArray,List.set_cons_zero,List.set_cons_succ]) (hCont (v683,.slice Ao23 y685.length co23,gb688) _ ⟨hHeld,(by (with_reducible repeat(first|apply Kd.R_alloc|apply Kd.R_drewN|apply Kd.R_drew));exact HO687.out),(by (with_reducible repeat(first|refine blk_drewN ?_ _|refine blk_drew ?_|refine blk_alloc ?_ _));exact BK679.out),(by (with_reducible repeat(first|refine blk_drewN ?_ _|refine blk_drew ?_|refine blk_alloc ?_ _));exact BK688.out),GW688.out,GE688.out,NB679_688.out,NB688_679.out,(by repeat(first|(with_reducible first|exact HB.out|apply below_alloc|apply pw_below_drewN|apply below_drew1|refine below_set ?_ GE679.out|refine below_set ?_ GE688.out)|exact HB.out))⟩)
       ·skip
        refine box_step ?hg (N:=7) ?hd (cs:=#[.int .i64 0,.int .i64 0,.slice none 0 0]) (t:=62) ?hr ?_;(case hd=>rfl);(case hg=>rfl);(case hr=>first|(go_simp;done)|(go_simp;rfl))
        intro gb688 hg w22 hbox hb
        have n0_:=Aside0.mk (Kd.R_below (by (with_reducible repeat(first|apply Kd.R_alloc|apply Kd.R_drewN|apply Kd.R_drew));exact HO684.out) hb)
        have n1_:=Aside0.mk (blk_below (g:=gb679) (o:=.cells #[.int .i64 a0_0,.int .i64 a0_1,.slice A0_2 l0_2.length c0_2] 62 (0,0)) (by (with_reducible repeat(first|refine blk_drewN ?_ _|refine blk_drew ?_|refine blk_alloc ?_ _));exact BK679.out) hb)
        have n2_:=Aside0.mk (below_step (by repeat(first|(with_reducible first|exact HB.out|apply below_alloc|apply pw_below_drewN|apply below_drew1|refine below_set ?_ GE679.out)|exact HB.out)) hb)
        have n3_:=Aside0.mk (hbox)
        have n4_:=Aside0.mk ((by rw [hg];exact (below_size (by repeat(first|(with_reducible first|exact HB.out|apply below_alloc|apply pw_below_drewN|apply below_drew1|refine below_set ?_ GE679.out)|exact HB.out))) : w.heap.size ≤ gb688))
        have n5_:=Aside0.mk ((by rw [hg];exact (below_size (by repeat(first|(with_reducible first|exact HB.out|apply below_alloc|apply pw_below_drewN|apply below_drew1|refine below_set ?_ GE679.out)|exact HB.out))) : w.heap.size ≤ gb688))
        have n6_:=Aside0.mk ((by rw [hg];exact Nat.ne_of_lt (blk_lt (g:=gb679) (o:=.cells #[.int .i64 a0_0,.int .i64 a0_1,.slice A0_2 l0_2.length c0_2] 62 (0,0)) (by (with_reducible repeat(first|refine blk_drewN ?_ _|refine blk_drew ?_|refine blk_alloc ?_ _));exact BK679.out)) : gb679 ≠ gb688))
        have n7_:=Aside0.mk ((by rw [hg];exact Nat.ne_of_gt (blk_lt (g:=gb679) (o:=.cells #[.int .i64 a0_0,.int .i64 a0_1,.slice A0_2 l0_2.length c0_2] 62 (0,0)) (by (with_reducible repeat(first|refine blk_drewN ?_ _|refine blk_drew ?_|refine blk_alloc ?_ _));exact BK679.out)) : gb688 ≠ gb679))
        clear HO684
        clear BK679
        clear HB
        have HO684:=n0_
        have BK679:=n1_
        have HB:=n2_
        have BK688:=n3_
        have GW688:=n4_
        have GE688:=n5_
        have NB679_688:=n6_
        have NB688_679:=n7_
        clear n0_ n1_ n2_ n3_ n4_ n5_ n6_ n7_
        clear hb hbox hg
        refine hK.out _ _ ⟨(blk_cell BK679.out 0).trans rfl,(blk_cell BK679.out 1).trans rfl,(blk_cell BK679.out 2).trans rfl⟩ (fun hHeld=>?_)
        clear hK K
        refine norm_ (a':=?_) ?_ ?_
        rotate_left
        ·show Act.put _ (some 7) _ = _
         simp only [Act.put,List.setIfInBounds_toArray,List.set_cons_zero,List.set_cons_succ,i64_w,i32_w]
         rfl
        refine one_ (i:=7) (N:=some 28) #[true,true,true,true,true,true,true,true,false,true,false] rfl rfl (one_of HT_.out (by kernel_rfl)) (by decide) (fun K hK=>?_)
        refine Kd.R_append_rows_step (Kd.int .u16) (w0:=w) w.heap.size (by rfl) (.tmp 25) (.tmp 27) 60 53 (.int .u16 0) 2 rfl Try.underlying60 info53 rfl (by decide) (by omega) v683 y682 l0_2 _ _ _ (fun _=>True) (fun _=>False) rfl rfl ?aO ?aR (fun _ _ h=>h) (fun _ h=>h.elim) ?aF ?aB ?aS ?aL ?_
        (case aR=>repeat(first|exact (Kd.C_below HR0_2.out HB.out)|(with_reducible refine Kd.C_alloc ?_ _)|(with_reducible refine Kd.C_drewN ?_ _)|(with_reducible refine Kd.C_drew ?_)))
        (case aB=>exact (by repeat(first|(with_reducible first|exact HB.out|apply below_alloc|apply pw_below_drewN|apply below_drew1|refine below_set ?_ GE679.out|refine below_set ?_ GE688.out)|exact HB.out)))
        (case aF=>exact (fun _ _=>trivial))
        (case aO=>exact (by (with_reducible repeat(first|apply Kd.R_alloc|apply Kd.R_drewN|apply Kd.R_drew));exact HO684.out))
        (case aS=>exact (below_size (by repeat(first|(with_reducible first|exact HB.out|apply below_alloc|apply pw_below_drewN|apply below_drew1|refine below_set ?_ GE679.out|refine below_set ?_ GE688.out)|exact HB.out))))
        (case aL=>have:=LMc15.out;omega)
        intro v686 w23 ho hb hg hat
        rw [← Ny685.out] at ho
        have n0_:=Aside0.mk (blk_grown (g:=gb679) (o:=.cells #[.int .i64 a0_0,.int .i64 a0_1,.slice A0_2 l0_2.length c0_2] 62 (0,0)) (by (with_reducible repeat(first|refine blk_drewN ?_ _|refine blk_drew ?_|refine blk_alloc ?_ _));exact BK679.out) hg (Kd.R_ne HO684.out BK679.out (by decide)))
        have n1_:=Aside0.mk (blk_grown (g:=gb688) (o:=.cells #[.int .i64 0,.int .i64 0,.slice none 0 0] 62 (0,0)) (by (with_reducible repeat(first|refine blk_drewN ?_ _|refine blk_drew ?_|refine blk_alloc ?_ _));exact BK688.out) hg (Kd.R_ne HO684.out BK688.out (by decide)))
        have n2_:=Aside0.mk (hb)
        have n3_:=Aside0.mk (ho)
        clear BK679
        clear BK688
        clear HB
        clear HO684
        have BK679:=n0_
        have BK688:=n1_
        have HB:=n2_
        have HO687:=n3_
        clear n0_ n1_ n2_ n3_
        clear ho hb hg hat
        obtain ⟨Ao24,co24,eo24⟩:=Kd.R_slice HO687.out
        (first|subst eo24|(injection eo24 with f1_ f2_ f3_;have f4_:=f1_.symm;have f5_:=f3_.symm;clear f1_ f2_ f3_;subst f4_;subst f5_))
        refine hK.out _ _ ⟨(blk_cell BK679.out 0).trans rfl,(blk_cell BK679.out 1).trans rfl,(blk_cell BK679.out 2).trans rfl⟩ (fun hHeld=>?_)
        clear hK K
        refine norm_ (a':=?_) ?_ ?_
        rotate_left
        ·show Act.put _ (some 28) _ = _
         simp only [Act.put,List.setIfInBounds_toArray,List.set_cons_zero,List.set_cons_succ,i64_w,i32_w]
         rfl
        refine pure_ (i:=8) (N:=some 29) (v:=?_) (a':=?_) #[true,true,true,true,true,true,true,true,true,true,false] rfl rfl (any_of HT_.out (by kernel_rfl)) (fun _ _ _ h=>h) (Or.inl ⟨by rfl,?_⟩) ?_ ?_
        rotate_left
        ·intro w'
         go_simp
         with_reducible rfl
        rotate_left
        ·simp only [Act.put,List.setIfInBounds_toArray,List.set_cons_zero,List.set_cons_succ,i64_w,i32_w]
         rfl
        exact norm_ (by simp only [putAll,Act.put,List.setIfInBounds_toArray,List.set_cons_zero,List.set_cons_succ]) (hCont (v683,.slice Ao24 y685.length co24,gb688) _ ⟨hHeld,(by (with_reducible repeat(first|apply Kd.R_alloc|apply Kd.R_drewN|apply Kd.R_drew));exact HO687.out),(by (with_reducible repeat(first|refine blk_drewN ?_ _|refine blk_drew ?_|refine blk_alloc ?_ _));exact BK679.out),(by (with_reducible repeat(first|refine blk_drewN ?_ _|refine blk_drew ?_|refine blk_alloc ?_ _));exact BK688.out),GW688.out,GE688.out,NB679_688.out,NB688_679.out,(by repeat(first|(with_reducible first|exact HB.out|apply below_alloc|apply pw_below_drewN|apply below_drew1|refine below_set ?_ GE679.out|refine below_set ?_ GE688.out)|exact HB.out))⟩)
      ·skip
       refine box_step ?hg (N:=7) ?hd (cs:=#[.int .i64 0,.int .i64 0,.slice none 0 0]) (t:=62) ?hr ?_;(case hd=>rfl);(case hg=>rfl);(case hr=>first|(go_simp;done)|(go_simp;rfl))
       intro gb688 hg w20 hbox hb
       have n0_:=Aside0.mk (blk_below (g:=gb679) (o:=.cells #[.int .i64 a0_0,.int .i64 a0_1,.slice A0_2 l0_2.length c0_2] 62 (0,0)) (by (with_reducible repeat(first|refine blk_drewN ?_ _|refine blk_drew ?_|refine blk_alloc ?_ _));exact BK679.out) hb)
       have n1_:=Aside0.mk (below_step (by repeat(first|(with_reducible first|exact HB.out|apply below_alloc|apply pw_below_drewN|apply below_drew1|refine below_set ?_ GE679.out)|exact HB.out)) hb)
       have n2_:=Aside0.mk (hbox)
       have n3_:=Aside0.mk ((by rw [hg];exact (below_size (by repeat(first|(with_reducible first|exact HB.out|apply below_alloc|apply pw_below_drewN|apply below_drew1|refine below_set ?_ GE679.out)|exact HB.out))) : w.heap.size ≤ gb688))
       have n4_:=Aside0.mk ((by rw [hg];exact (below_size (by repeat(first|(with_reducible first|exact HB.out|apply below_alloc|apply pw_below_drewN|apply below_drew1|refine below_set ?_ GE679.out)|exact HB.out))) : w.heap.size ≤ gb688))
       have n5_:=Aside0.mk ((by rw [hg];exact Nat.ne_of_lt (blk_lt (g:=gb679) (o:=.cells #[.int .i64 a0_0,.int .i64 a0_1,.slice A0_2 l0_2.length c0_2] 62 (0,0)) (by (with_reducible repeat(first|refine blk_drewN ?_ _|refine blk_drew ?_|refine blk_alloc ?_ _));exact BK679.out)) : gb679 ≠ gb688))
       have n6_:=Aside0.mk ((by rw [hg];exact Nat.ne_of_gt (blk_lt (g:=gb679) (o:=.cells #[.int .i64 a0_0,.int .i64 a0_1,.slice A0_2 l0_2.length c0_2] 62 (0,0)) (by (with_reducible repeat(first|refine blk_drewN ?_ _|refine blk_drew ?_|refine blk_alloc ?_ _));exact BK679.out)) : gb688 ≠ gb679))
       clear BK679
       clear HB
       have BK679:=n0_
       have HB:=n1_
       have BK688:=n2_
       have GW688:=n3_
       have GE688:=n4_
       have NB679_688:=n5_
       have NB688_679:=n6_
       clear n0_ n1_ n2_ n3_ n4_ n5_ n6_
       clear hb hbox hg
       refine hK.out _ _ ⟨(blk_cell BK679.out 0).trans rfl,(blk_cell BK679.out 1).trans rfl,(blk_cell BK679.out 2).trans rfl⟩ (fun hHeld=>?_)
       clear hK K
       refine norm_ (a':=?_) ?_ ?_
       rotate_left
       ·show Act.put _ (some 7) _ = _
        simp only [Act.put,List.setIfInBounds_toArray,List.set_cons_zero,List.set_cons_succ,i64_w,i32_w]
        rfl
       refine one_ (i:=4) (N:=some 25) #[true,true,true,true,true,true,true,false,false,true,false] rfl rfl (one_of HT_.out (by kernel_rfl)) (by decide) (fun K hK=>?_)
       refine Kd.R_lit_step (Kd.int .u16) _ 53 ?hg (N:=25) ?hd (xs:=([] : List Int)) (inner:=[]) (ok:=fun _=>True) (okp:=fun _=>True) ?hr ?hp (fun _ hk=>hk) trivial (Below.refl _ _) (Nat.le_refl _) (by simp) ?_;(case hd=>rfl);(case hg=>rfl);(case hr=>first|(go_simp;done)|(go_simp;rfl));(case hp=>exact (Reps.none _ _))
       intro v683 w21 ho22 hb hg_ hnew_
       clear hg_ hnew_
       (first|rw [← Ny682.out] at ho22|(simp only [Int.reduceToNat] at ho22;rw [← Ny682.out] at ho22))
       have n0_:=Aside0.mk (Kd.R_lower ho22 (below_size (by repeat(first|(with_reducible first|exact HB.out|apply below_alloc|apply pw_below_drewN|apply below_drew1|refine below_set ?_ GE679.out|refine below_set ?_ GE688.out)|exact HB.out))))
       have n1_:=Aside0.mk (blk_below (g:=gb679) (o:=.cells #[.int .i64 a0_0,.int .i64 a0_1,.slice A0_2 l0_2.length c0_2] 62 (0,0)) (by (with_reducible repeat(first|refine blk_drewN ?_ _|refine blk_drew ?_|refine blk_alloc ?_ _));exact BK679.out) hb)
       have n2_:=Aside0.mk (blk_below (g:=gb688) (o:=.cells #[.int .i64 0,.int .i64 0,.slice none 0 0] 62 (0,0)) (by (with_reducible repeat(first|refine blk_drewN ?_ _|refine blk_drew ?_|refine blk_alloc ?_ _));exact BK688.out) hb)
       have n3_:=Aside0.mk (below_step (by repeat(first|(with_reducible first|exact HB.out|apply below_alloc|apply pw_below_drewN|apply below_drew1|refine below_set ?_ GE679.out|refine below_set ?_ GE688.out)|exact HB.out)) hb)
       clear BK679
       clear BK688
       clear HB
       have HO684:=n0_
       have BK679:=n1_
       have BK688:=n2_
       have HB:=n3_
       clear n0_ n1_ n2_ n3_
       clear hb ho22
       refine hK.out _ _ ⟨(blk_cell BK679.out 0).trans rfl,(blk_cell BK679.out 1).trans rfl,(blk_cell BK679.out 2).trans rfl⟩ (fun hHeld=>?_)
       clear hK K
       refine norm_ (a':=?_) ?_ ?_
       rotate_left
       ·show Act.put _ (some 25) _ = _
        simp only [Act.put,List.setIfInBounds_toArray,List.set_cons_zero,List.set_cons_succ,i64_w,i32_w]
        rfl
       refine one_ (i:=7) (N:=some 28) #[true,true,true,true,true,true,true,true,false,true,false] rfl rfl (one_of HT_.out (by kernel_rfl)) (by decide) (fun K hK=>?_)
       refine Kd.R_append_rows_step (Kd.int .u16) (w0:=w) w.heap.size (by rfl) (.tmp 25) (.tmp 27) 60 53 (.int .u16 0) 2 rfl Try.underlying60 info53 rfl (by decide) (by omega) v683 y682 l0_2 _ _ _ (fun _=>True) (fun _=>False) rfl rfl ?aO ?aR (fun _ _ h=>h) (fun _ h=>h.elim) ?aF ?aB ?aS ?aL ?_
       (case aR=>repeat(first|exact (Kd.C_below HR0_2.out HB.out)|(with_reducible refine Kd.C_alloc ?_ _)|(with_reducible refine Kd.C_drewN ?_ _)|(with_reducible refine Kd.C_drew ?_)))
       (case aB=>exact (by repeat(first|(with_reducible first|exact HB.out|apply below_alloc|apply pw_below_drewN|apply below_drew1|refine below_set ?_ GE679.out|refine below_set ?_ GE688.out)|exact HB.out)))
       (case aF=>exact (fun _ _=>trivial))
       (case aO=>exact (by (with_reducible repeat(first|apply Kd.R_alloc|apply Kd.R_drewN|apply Kd.R_drew));exact HO684.out))
       (case aS=>exact (below_size (by repeat(first|(with_reducible first|exact HB.out|apply below_alloc|apply pw_below_drewN|apply below_drew1|refine below_set ?_ GE679.out|refine below_set ?_ GE688.out)|exact HB.out))))
       (case aL=>have:=LMc15.out;omega)
       intro v686 w23 ho hb hg hat
       rw [← Ny685.out] at ho
       have n0_:=Aside0.mk (blk_grown (g:=gb679) (o:=.cells #[.int .i64 a0_0,.int .i64 a0_1,.slice A0_2 l0_2.length c0_2] 62 (0,0)) (by (with_reducible repeat(first|refine blk_drewN ?_ _|refine blk_drew ?_|refine blk_alloc ?_ _));exact BK679.out) hg (Kd.R_ne HO684.out BK679.out (by decide)))
       have n1_:=Aside0.mk (blk_grown (g:=gb688) (o:=.cells #[.int .i64 0,.int .i64 0,.slice none 0 0] 62 (0,0)) (by (with_reducible repeat(first|refine blk_drewN ?_ _|refine blk_drew ?_|refine blk_alloc ?_ _));exact BK688.out) hg (Kd.R_ne HO684.out BK688.out (by decide)))
       have n2_:=Aside0.mk (hb)
       have n3_:=Aside0.mk (ho)
       clear BK679
       clear BK688
       clear HB
       clear HO684
       have BK679:=n0_
       have BK688:=n1_
       have HB:=n2_
       have HO687:=n3_
       clear n0_ n1_ n2_ n3_
       clear ho hb hg hat
       obtain ⟨Ao24,co24,eo24⟩:=Kd.R_slice HO687.out
       (first|subst eo24|(injection eo24 with f1_ f2_ f3_;have f4_:=f1_.symm;have f5_:=f3_.symm;clear f1_ f2_ f3_;subst f4_;subst f5_))
       refine hK.out _ _ ⟨(blk_cell BK679.out 0).trans rfl,(blk_cell BK679.out 1).trans rfl,(blk_cell BK679.out 2).trans rfl⟩ (fun hHeld=>?_)
       clear hK K
       refine norm_ (a':=?_) ?_ ?_
       rotate_left
       ·show Act.put _ (some 28) _ = _
        simp only [Act.put,List.setIfInBounds_toArray,List.set_cons_zero,List.set_cons_succ,i64_w,i32_w]
        rfl
       refine pure_ (i:=8) (N:=some 29) (v:=?_) (a':=?_) #[true,true,true,true,true,true,true,true,true,true,false] rfl rfl (any_of HT_.out (by kernel_rfl)) (fun _ _ _ h=>h) (Or.inl ⟨by rfl,?_⟩) ?_ ?_
       rotate_left
       ·intro w'
        go_simp
        with_reducible rfl
       rotate_left
       ·simp only [Act.put,List.setIfInBounds_toArray,List.set_cons_zero,List.set_cons_succ,i64_w,i32_w]
        rfl
       exact norm_ (by simp only [putAll,Act.put,List.setIfInBounds_toArray,List.set_cons_zero,List.set_cons_succ]) (hCont (v683,.slice Ao24 y685.length co24,gb688) _ ⟨hHeld,(by (with_reducible repeat(first|apply Kd.R_alloc|apply Kd.R_drewN|apply Kd.R_drew));exact HO687.out),(by (with_reducible repeat(first|refine blk_drewN ?_ _|refine blk_drew ?_|refine blk_alloc ?_ _));exact BK679.out),(by (with_reducible repeat(first|refine blk_drewN ?_ _|refine blk_drew ?_|refine blk_alloc ?_ _));exact BK688.out),GW688.out,GE688.out,NB679_688.out,NB688_679.out,(by repeat(first|(with_reducible first|exact HB.out|apply below_alloc|apply pw_below_drewN|apply below_drew1|refine below_set ?_ GE679.out|refine below_set ?_ GE688.out)|exact HB.out))⟩)
     rintro ⟨v683,v686,gb688⟩ w25 ⟨hS_,h0_,h1_,h2_,h3_,h4_,h5_,h6_,h7_⟩
     have n0_ : Aside0 (Kd.R (Kd.int .u16) 53 w25 w.heap.size (fun _=>True) v686 y685):=⟨h0_⟩
     have n1_ : Aside0 (w25.heap[gb679]? = some (.cells #[.int .i64 a0_0,.int .i64 a0_1,.slice A0_2 l0_2.length c0_2] 62 (0,0))):=⟨h1_⟩
     have n2_ : Aside0 (w25.heap[gb688]? = some (.cells #[.int .i64 0,.int .i64 0,.slice none 0 0] 62 (0,0))):=⟨h2_⟩
     have n3_ : Aside0 (w.heap.size ≤ gb688):=⟨h3_⟩
     have n4_ : Aside0 (w.heap.size ≤ gb688):=⟨h4_⟩
     have n5_ : Aside0 (gb679 ≠ gb688):=⟨h5_⟩
     have n6_ : Aside0 (gb688 ≠ gb679):=⟨h6_⟩
     have n7_ : Aside0 (Below w.heap.size w w25):=⟨h7_⟩
     clear BK679
     clear HB
     clear h0_ h1_ h2_ h3_ h4_ h5_ h6_ h7_
     have HO687:=n0_
     have BK679:=n1_
     have BK688:=n2_
     have GW688:=n3_
     have GE688:=n4_
     have NB679_688:=n5_
     have NB688_679:=n6_
     have HB:=n7_
     clear n0_ n1_ n2_ n3_ n4_ n5_ n6_ n7_
     have hHeld : w25.cell? ⟨gb679,0,none⟩ = some (.int .i64 a0_0) ∧ w25.cell? ⟨gb679,1,none⟩ = some (.int .i64 a0_1) ∧ w25.cell? ⟨gb679,2,none⟩ = some (.slice A0_2 l0_2.length c0_2):=hS_
     obtain ⟨Ao26,co26,eo26⟩:=Kd.R_slice HO687.out
     (first|subst eo26|(injection eo26 with f1_ f2_ f3_;have f4_:=f1_.symm;have f5_:=f3_.symm;clear f1_ f2_ f3_;subst f4_;subst f5_))
     refine norm_ (a':=?_) ?_ ?_
     rotate_left
     ·simp only [putAll,Act.put,List.setIfInBounds_toArray,List.set_cons_zero,List.set_cons_succ]
      rfl
     refine one_ (i:=10) (N:=none) #[true,true,true,true,true,true,true,true,true,true,true] rfl rfl (one_of HT_.out (by kernel_rfl)) (by decide) (fun K hK=>?_)
     have hs27 : w25.cell? ⟨gb688,0,none⟩ = some (.int .i64 0):=(blk_cell BK688.out 0).trans rfl
     have hfs27:=blk_frozen BK688.out 0
     have hns27_0:=NB679_688.out
     have hms27_0:=NB688_679.out
     have hs28 : w25.cell? ⟨gb688,1,none⟩ = some (.int .i64 0):=(blk_cell BK688.out 1).trans rfl
     have hfs28:=blk_frozen BK688.out 1
     have hns28_0:=NB679_688.out
     have hms28_0:=NB688_679.out
     have hs29 : w25.cell? ⟨gb688,2,none⟩ = some (.slice none 0 0):=(blk_cell BK688.out 2).trans rfl
     have hfs29:=blk_frozen BK688.out 2
     have hns29_0:=NB679_688.out
     have hms29_0:=NB688_679.out
     refine skip_ (w1:=?_) (by rfl) rfl ?_ ?_
     rotate_left
     ·go_simp
      rfl
     refine hK.out _ _ ⟨((FFar.far3 NB679_688.out).trans hHeld.1),((FFar.far3 NB679_688.out).trans hHeld.2.1),((FFar.far3 NB679_688.out).trans hHeld.2.2)⟩ (fun hHeld=>?_)
     clear hK K
     refine done_ (done_of HT_.out (by kernel_rfl)) ?_
     have hnb30:=NB679_688.out
     have hnc30:=NB688_679.out
     have hcz31_0 : w25.cell? ⟨gb679,0,none⟩ = some (.int .i64 a0_0):=(blk_cell BK679.out 0).trans rfl
     have hcz31_1 : w25.cell? ⟨gb679,1,none⟩ = some (.int .i64 a0_1):=(blk_cell BK679.out 1).trans rfl
     have hcz31_2 : w25.cell? ⟨gb679,2,none⟩ = some (.slice A0_2 l0_2.length c0_2):=(blk_cell BK679.out 2).trans rfl
     have hfz31_0:=blk_frozen BK679.out 0
     have hfz31_1:=blk_frozen BK679.out 1
     have hfz31_2:=blk_frozen BK679.out 2
     go_upto_region 6 with (first|((with_reducible refine gate_callee (f:=33) rfl ?_);refine goesL_ (some 34) rfl rfl Try.func33 (by kernel_rfl) rfl #[.agg #[.int .i64 a0_0,.int .i64 a0_1,.slice A0_2 l0_2.length c0_2],.int .i64 a1,.slice A2 l2.length c2] rfl (by (try simp only [List.map_toArray,List.map_cons,List.map_nil]);first|done|rfl|(simp only [List.length_drop,List.length_take];rfl)) ?_;(with_reducible refine (bins_Turn.calls kj3 a0_0 a0_1 _ _ l0_2 a1 _ _ l2 t689 t690 t691 t694 _ ?side1 ?side2 ?side3 ?side4 A16.out).mono ?_);(case side1=>exact Kd.C_below HR0_2.out (by repeat(first|(with_reducible first|exact HB.out|apply below_alloc|apply pw_below_drewN|apply below_drew1|refine below_set ?_ GE679.out|refine below_set ?_ GE688.out)|exact HB.out)));(case side2=>exact HC0_2.out);(case side3=>exact Kd.C_below HR2.out (by repeat(first|(with_reducible first|exact HB.out|apply below_alloc|apply pw_below_drewN|apply below_drew1|refine below_set ?_ GE679.out|refine below_set ?_ GE688.out)|exact HB.out)));(case side4=>exact HC2.out);rintro e w32 ⟨v692,rfl,ho0,hb⟩;refine ⟨_,rfl,?_⟩;have n0_:=Aside0.mk (Kd.R_elder' (by (with_reducible repeat(first|apply Kd.R_alloc|apply Kd.R_drewN|apply Kd.R_drew));exact (Kd.R_mono (Kd.R_far (p:=⟨gb688,2,none⟩) (Kd.R_far (p:=⟨gb688,1,none⟩) (Kd.R_far (p:=⟨gb688,0,none⟩) (Kd.R_types HO687.out BK688.out (by decide)) (fun _ hk=>hk.2) (.int .i64 a0_0)) (fun _ hk=>hk.2) (.int .i64 a0_1)) (fun _ hk=>hk.2) (.slice Ao26 y685.length co26)) (fun _ h_=>h_.1))) (Kd.R_base ho0) hb);have n1_:=Aside0.mk (Kd.R_lower (Kd.R_new' ho0 (Kd.R_lt (by (with_reducible repeat(first|apply Kd.R_alloc|apply Kd.R_drewN|apply Kd.R_drew));exact (Kd.R_mono (Kd.R_far (p:=⟨gb688,2,none⟩) (Kd.R_far (p:=⟨gb688,1,none⟩) (Kd.R_far (p:=⟨gb688,0,none⟩) (Kd.R_types HO687.out BK688.out (by decide)) (fun _ hk=>hk.2) (.int .i64 a0_0)) (fun _ hk=>hk.2) (.int .i64 a0_1)) (fun _ hk=>hk.2) (.slice Ao26 y685.length co26)) (fun _ h_=>h_.1))))) (below_size (by repeat(first|(with_reducible first|exact HB.out|apply below_alloc|apply pw_below_drewN|apply below_drew1|refine below_set ?_ GE679.out|refine below_set ?_ GE688.out)|exact HB.out))));have n2_:=Aside0.mk (blk_below (g:=gb679) (o:=.cells #[.int .i64 a0_0,.int .i64 a0_1,.slice A0_2 l0_2.length c0_2] 62 (0,0)) (by (with_reducible repeat(first|refine blk_drewN ?_ _|refine blk_drew ?_|refine blk_alloc ?_ _));refine blk_far ?_ NB679_688.out _;(with_reducible repeat(first|refine blk_drewN ?_ _|refine blk_drew ?_|refine blk_alloc ?_ _));refine blk_far ?_ NB679_688.out _;(with_reducible repeat(first|refine blk_drewN ?_ _|refine blk_drew ?_|refine blk_alloc ?_ _));refine blk_far ?_ NB679_688.out _;(with_reducible repeat(first|refine blk_drewN ?_ _|refine blk_drew ?_|refine blk_alloc ?_ _));exact BK679.out) hb);have n3_:=Aside0.mk (blk_below (g:=gb688) (o:=.cells #[.int .i64 a0_0,.int .i64 a0_1,.slice Ao26 y685.length co26] 62 (0,0)) (by (with_reducible repeat(first|refine blk_drewN ?_ _|refine blk_drew ?_|refine blk_alloc ?_ _));refine blk_put (cs:=#[.int .i64 a0_0,.int .i64 a0_1,.slice none 0 0]) ?_ 2 _ rfl;(with_reducible repeat(first|refine blk_drewN ?_ _|refine blk_drew ?_|refine blk_alloc ?_ _));refine blk_put (cs:=#[.int .i64 a0_0,.int .i64 0,.slice none 0 0]) ?_ 1 _ rfl;(with_reducible repeat(first|refine blk_drewN ?_ _|refine blk_drew ?_|refine blk_alloc ?_ _));refine blk_put (cs:=#[.int .i64 0,.int .i64 0,.slice none 0 0]) ?_ 0 _ rfl;(with_reducible repeat(first|refine blk_drewN ?_ _|refine blk_drew ?_|refine blk_alloc ?_ _));exact BK688.out) hb);have n4_:=Aside0.mk (below_step (by repeat(first|(with_reducible first|exact HB.out|apply below_alloc|apply pw_below_drewN|apply below_drew1|refine below_set ?_ GE679.out|refine below_set ?_ GE688.out)|exact HB.out)) hb);clear HO687;clear BK679;clear BK688;clear HB;have HO687:=n0_;have HO693:=n1_;have BK679:=n2_;have BK688:=n3_;have HB:=n4_;clear n0_ n1_ n2_ n3_ n4_;(try clear hb);(try clear hb2);(try clear hk);(try clear hi);(try clear ho0))|((with_reducible refine gate_dst (N:=8) rfl ?_);(try (refine gate_guard (by rfl) ?_;dsimp only));refine box_event ?hg (N:=8) ?hd (cs:=#[.int .i64 0,.int .i64 0,.slice none 0 0]) (t:=62) ?hr ?_;(case hd=>rfl);(case hg=>rfl);(case hr=>first|(go_simp;done)|(go_simp;rfl));intro gb695 hg w33 hbox hb;have n0_:=Aside0.mk (Kd.R_below (by (with_reducible repeat(first|apply Kd.R_alloc|apply Kd.R_drewN|apply Kd.R_drew));exact HO687.out) hb);have n1_:=Aside0.mk (Kd.R_below (by (with_reducible repeat(first|apply Kd.R_alloc|apply Kd.R_drewN|apply Kd.R_drew));exact HO693.out) hb);have n2_:=Aside0.mk (blk_below (g:=gb679) (o:=.cells #[.int .i64 a0_0,.int .i64 a0_1,.slice A0_2 l0_2.length c0_2] 62 (0,0)) (by (with_reducible repeat(first|refine blk_drewN ?_ _|refine blk_drew ?_|refine blk_alloc ?_ _));exact BK679.out) hb);have n3_:=Aside0.mk (blk_below (g:=gb688) (o:=.cells #[.int .i64 a0_0,.int .i64 a0_1,.slice Ao26 y685.length co26] 62 (0,0)) (by (with_reducible repeat(first|refine blk_drewN ?_ _|refine blk_drew ?_|refine blk_alloc ?_ _));exact BK688.out) hb);have n4_:=Aside0.mk (below_step (by repeat(first|(with_reducible first|exact HB.out|apply below_alloc|apply pw_below_drewN|apply below_drew1|refine below_set ?_ GE679.out|refine below_set ?_ GE688.out)|exact HB.out)) hb);have n5_:=Aside0.mk (hbox);have n6_:=Aside0.mk ((by rw [hg];exact (below_size (by repeat(first|(with_reducible first|exact HB.out|apply below_alloc|apply pw_below_drewN|apply below_drew1|refine below_set ?_ GE679.out|refine below_set ?_ GE688.out)|exact HB.out))) : w.heap.size ≤ gb695));have n7_:=Aside0.mk ((by rw [hg];exact (below_size (by repeat(first|(with_reducible first|exact HB.out|apply below_alloc|apply pw_below_drewN|apply below_drew1|refine below_set ?_ GE679.out|refine below_set ?_ GE688.out)|exact HB.out))) : w.heap.size ≤ gb695));have n8_:=Aside0.mk ((by rw [hg];exact Nat.ne_of_lt (blk_lt (g:=gb679) (o:=.cells #[.int .i64 a0_0,.int .i64 a0_1,.slice A0_2 l0_2.length c0_2] 62 (0,0)) (by (with_reducible repeat(first|refine blk_drewN ?_ _|refine blk_drew ?_|refine blk_alloc ?_ _));exact BK679.out)) : gb679 ≠ gb695));have n9_:=Aside0.mk ((by rw [hg];exact Nat.ne_of_gt (blk_lt (g:=gb679) (o:=.cells #[.int .i64 a0_0,.int .i64 a0_1,.slice A0_2 l0_2.length c0_2] 62 (0,0)) (by (with_reducible repeat(first|refine blk_drewN ?_ _|refine blk_drew ?_|refine blk_alloc ?_ _));exact BK679.out)) : gb695 ≠ gb679));have n10_:=Aside0.mk ((by rw [hg];exact Nat.ne_of_lt (blk_lt (g:=gb688) (o:=.cells #[.int .i64 a0_0,.int .i64 a0_1,.slice Ao26 y685.length co26] 62 (0,0)) (by (with_reducible repeat(first|refine blk_drewN ?_ _|refine blk_drew ?_|refine blk_alloc ?_ _));exact BK688.out)) : gb688 ≠ gb695));have n11_:=Aside0.mk ((by rw [hg];exact Nat.ne_of_gt (blk_lt (g:=gb688) (o:=.cells #[.int .i64 a0_0,.int .i64 a0_1,.slice Ao26 y685.length co26] 62 (0,0)) (by (with_reducible repeat(first|refine blk_drewN ?_ _|refine blk_drew ?_|refine blk_alloc ?_ _));exact BK688.out)) : gb695 ≠ gb688));clear HO687;clear HO693;clear BK679;clear BK688;clear HB;have HO687:=n0_;have HO693:=n1_;have BK679:=n2_;have BK688:=n3_;have HB:=n4_;have BK695:=n5_;have GW695:=n6_;have GE695:=n7_;have NB679_695:=n8_;have NB695_679:=n9_;have NB688_695:=n10_;have NB695_688:=n11_;clear n0_ n1_ n2_ n3_ n4_ n5_ n6_ n7_ n8_ n9_ n10_ n11_;clear hb hbox hg;have hnb34:=NB695_679.out;have hnc34:=NB679_695.out;have hnb35:=NB695_688.out;have hnc35:=NB688_695.out;have hcz36_0 : w33.cell? ⟨gb695,0,none⟩ = some (.int .i64 0):=(blk_cell BK695.out 0).trans rfl;have hcz36_1 : w33.cell? ⟨gb695,1,none⟩ = some (.int .i64 0):=(blk_cell BK695.out 1).trans rfl;have hcz36_2 : w33.cell? ⟨gb695,2,none⟩ = some (.slice none 0 0):=(blk_cell BK695.out 2).trans rfl;have hfz36_0:=blk_frozen BK695.out 0;have hfz36_1:=blk_frozen BK695.out 1;have hfz36_2:=blk_frozen BK695.out 2;obtain ⟨Ao37,co37,eo37⟩:=Kd.R_slice HO693.out;subst eo37;have hcz38_0 : w33.cell? ⟨gb679,0,none⟩ = some (.int .i64 a0_0):=(blk_cell BK679.out 0).trans rfl;have hcz38_1 : w33.cell? ⟨gb679,1,none⟩ = some (.int .i64 a0_1):=(blk_cell BK679.out 1).trans rfl;have hcz38_2 : w33.cell? ⟨gb679,2,none⟩ = some (.slice A0_2 l0_2.length c0_2):=(blk_cell BK679.out 2).trans rfl;have hfz38_0:=blk_frozen BK679.out 0;have hfz38_1:=blk_frozen BK679.out 1;have hfz38_2:=blk_frozen BK679.out 2)|((with_reducible refine gate_callee (f:=34) rfl ?_);refine goesL_ (some 41) rfl rfl Try.func34 (by kernel_rfl) rfl #[.agg #[.int .i64 a0_0,.int .i64 a0_1,.slice A0_2 l0_2.length c0_2],.int .i64 a1,.slice A2 l2.length c2] rfl (by (try simp only [List.map_toArray,List.map_cons,List.map_nil]);first|done|rfl|(simp only [List.length_drop,List.length_take];rfl)) ?_;(with_reducible refine (hornbeamref11_Turn.calls kj3 a0_0 a0_1 _ _ l0_2 a1 _ _ l2 t696 t697 t698 t701 _ ?side1 ?side2 ?side3 ?side4 A17.out).mono ?_);(case side1=>exact Kd.C_below HR0_2.out (by repeat(first|(with_reducible first|exact HB.out|apply below_alloc|apply pw_below_drewN|apply below_drew1|refine below_set ?_ GE679.out|refine below_set ?_ GE688.out|refine below_set ?_ GE695.out)|exact HB.out)));(case side2=>exact HC0_2.out);(case side3=>exact Kd.C_below HR2.out (by repeat(first|(with_reducible first|exact HB.out|apply below_alloc|apply pw_below_drewN|apply below_drew1|refine below_set ?_ GE679.out|refine below_set ?_ GE688.out|refine below_set ?_ GE695.out)|exact HB.out)));(case side4=>exact HC2.out);rintro e w39 ⟨v699,rfl,ho0,hb⟩;refine ⟨_,rfl,?_⟩;have n0_:=Aside0.mk (Kd.R_elder' (by (with_reducible repeat(first|apply Kd.R_alloc|apply Kd.R_drewN|apply Kd.R_drew));exact (Kd.R_mono (Kd.R_far (p:=⟨gb695,2,none⟩) (Kd.R_far (p:=⟨gb695,1,none⟩) (Kd.R_far (p:=⟨gb695,0,none⟩) (Kd.R_types HO687.out BK695.out (by decide)) (fun _ hk=>hk.2) (.int .i64 t689)) (fun _ hk=>hk.2) (.int .i64 t690)) (fun _ hk=>hk.2) (.slice Ao37 t691.length co37)) (fun _ h_=>h_.1))) (Kd.R_base ho0) hb);have n1_:=Aside0.mk (Kd.R_elder' (by (with_reducible repeat(first|apply Kd.R_alloc|apply Kd.R_drewN|apply Kd.R_drew));exact (Kd.R_mono (Kd.R_far (p:=⟨gb695,2,none⟩) (Kd.R_far (p:=⟨gb695,1,none⟩) (Kd.R_far (p:=⟨gb695,0,none⟩) (Kd.R_types HO693.out BK695.out (by decide)) (fun _ hk=>hk.2) (.int .i64 t689)) (fun _ hk=>hk.2) (.int .i64 t690)) (fun _ hk=>hk.2) (.slice Ao37 t691.length co37)) (fun _ h_=>h_.1))) (Kd.R_base ho0) hb);have n2_:=Aside0.mk (Kd.R_lower (Kd.R_new' (Kd.R_new' ho0 (Kd.R_lt (by (with_reducible repeat(first|apply Kd.R_alloc|apply Kd.R_drewN|apply Kd.R_drew));exact (Kd.R_mono (Kd.R_far (p:=⟨gb695,2,none⟩) (Kd.R_far (p:=⟨gb695,1,none⟩) (Kd.R_far (p:=⟨gb695,0,none⟩) (Kd.R_types HO687.out BK695.out (by decide)) (fun _ hk=>hk.2) (.int .i64 t689)) (fun _ hk=>hk.2) (.int .i64 t690)) (fun _ hk=>hk.2) (.slice Ao37 t691.length co37)) (fun _ h_=>h_.1))))) (Kd.R_lt (by (with_reducible repeat(first|apply Kd.R_alloc|apply Kd.R_drewN|apply Kd.R_drew));exact (Kd.R_mono (Kd.R_far (p:=⟨gb695,2,none⟩) (Kd.R_far (p:=⟨gb695,1,none⟩) (Kd.R_far (p:=⟨gb695,0,none⟩) (Kd.R_types HO693.out BK695.out (by decide)) (fun _ hk=>hk.2) (.int .i64 t689)) (fun _ hk=>hk.2) (.int .i64 t690)) (fun _ hk=>hk.2) (.slice Ao37 t691.length co37)) (fun _ h_=>h_.1))))) (below_size (by repeat(first|(with_reducible first|exact HB.out|apply below_alloc|apply pw_below_drewN|apply below_drew1|refine below_set ?_ GE679.out|refine below_set ?_ GE688.out|refine below_set ?_ GE695.out)|exact HB.out))));have n3_:=Aside0.mk (blk_below (g:=gb679) (o:=.cells #[.int .i64 a0_0,.int .i64 a0_1,.slice A0_2 l0_2.length c0_2] 62 (0,0)) (by (with_reducible repeat(first|refine blk_drewN ?_ _|refine blk_drew ?_|refine blk_alloc ?_ _));refine blk_far ?_ NB679_695.out _;(with_reducible repeat(first|refine blk_drewN ?_ _|refine blk_drew ?_|refine blk_alloc ?_ _));refine blk_far ?_ NB679_695.out _;(with_reducible repeat(first|refine blk_drewN ?_ _|refine blk_drew ?_|refine blk_alloc ?_ _));refine blk_far ?_ NB679_695.out _;(with_reducible repeat(first|refine blk_drewN ?_ _|refine blk_drew ?_|refine blk_alloc ?_ _));exact BK679.out) hb);have n4_:=Aside0.mk (blk_below (g:=gb688) (o:=.cells #[.int .i64 a0_0,.int .i64 a0_1,.slice Ao26 y685.length co26] 62 (0,0)) (by (with_reducible repeat(first|refine blk_drewN ?_ _|refine blk_drew ?_|refine blk_alloc ?_ _));refine blk_far ?_ NB688_695.out _;(with_reducible repeat(first|refine blk_drewN ?_ _|refine blk_drew ?_|refine blk_alloc ?_ _));refine blk_far ?_ NB688_695.out _;(with_reducible repeat(first|refine blk_drewN ?_ _|refine blk_drew ?_|refine blk_alloc ?_ _));refine blk_far ?_ NB688_695.out _;(with_reducible repeat(first|refine blk_drewN ?_ _|refine blk_drew ?_|refine blk_alloc ?_ _));exact BK688.out) hb);have n5_:=Aside0.mk (blk_below (g:=gb695) (o:=.cells #[.int .i64 t689,.int .i64 t690,.slice Ao37 t691.length co37] 62 (0,0)) (by (with_reducible repeat(first|refine blk_drewN ?_ _|refine blk_drew ?_|refine blk_alloc ?_ _));refine blk_put (cs:=#[.int .i64 t689,.int .i64 t690,.slice none 0 0]) ?_ 2 _ rfl;(with_reducible repeat(first|refine blk_drewN ?_ _|refine blk_drew ?_|refine blk_alloc ?_ _));refine blk_put (cs:=#[.int .i64 t689,.int .i64 0,.slice none 0 0]) ?_ 1 _ rfl;(with_reducible repeat(first|refine blk_drewN ?_ _|refine blk_drew ?_|refine blk_alloc ?_ _));refine blk_put (cs:=#[.int .i64 0,.int .i64 0,.slice none 0 0]) ?_ 0 _ rfl;(with_reducible repeat(first|refine blk_drewN ?_ _|refine blk_drew ?_|refine blk_alloc ?_ _));exact BK695.out) hb);have n6_:=Aside0.mk (below_step (by repeat(first|(with_reducible first|exact HB.out|apply below_alloc|apply pw_below_drewN|apply below_drew1|refine below_set ?_ GE679.out|refine below_set ?_ GE688.out|refine below_set ?_ GE695.out)|exact HB.out)) hb);clear HO687;clear HO693;clear BK679;clear BK688;clear BK695;clear HB;have HO687:=n0_;have HO693:=n1_;have HO700:=n2_;have BK679:=n3_;have BK688:=n4_;have BK695:=n5_;have HB:=n6_;clear n0_ n1_ n2_ n3_ n4_ n5_ n6_;(try clear hb);(try clear hb2);(try clear hk);(try clear hi);(try clear ho0))|((with_reducible refine gate_dst (N:=10) rfl ?_);(try (refine gate_guard (by rfl) ?_;dsimp only));refine box_event ?hg (N:=10) ?hd (cs:=#[.int .i64 0,.int .i64 0,.slice none 0 0]) (t:=62) ?hr ?_;(case hd=>rfl);(case hg=>rfl);(case hr=>first|(go_simp;done)|(go_simp;rfl));intro gb702 hg w40 hbox hb;have n0_:=Aside0.mk (Kd.R_below (by (with_reducible repeat(first|apply Kd.R_alloc|apply Kd.R_drewN|apply Kd.R_drew));exact HO687.out) hb);have n1_:=Aside0.mk (Kd.R_below (by (with_reducible repeat(first|apply Kd.R_alloc|apply Kd.R_drewN|apply Kd.R_drew));exact HO693.out) hb);have n2_:=Aside0.mk (Kd.R_below (by (with_reducible repeat(first|apply Kd.R_alloc|apply Kd.R_drewN|apply Kd.R_drew));exact HO700.out) hb);have n3_:=Aside0.mk (blk_below (g:=gb679) (o:=.cells #[.int .i64 a0_0,.int .i64 a0_1,.slice A0_2 l0_2.length c0_2] 62 (0,0)) (by (with_reducible repeat(first|refine blk_drewN ?_ _|refine blk_drew ?_|refine blk_alloc ?_ _));exact BK679.out) hb);have n4_:=Aside0.mk (blk_below (g:=gb688) (o:=.cells #[.int .i64 a0_0,.int .i64 a0_1,.slice Ao26 y685.length co26] 62 (0,0)) (by (with_reducible repeat(first|refine blk_drewN ?_ _|refine blk_drew ?_|refine blk_alloc ?_ _));exact BK688.out) hb);have n5_:=Aside0.mk (blk_below (g:=gb695) (o:=.cells #[.int .i64 t689,.int .i64 t690,.slice Ao37 t691.length co37] 62 (0,0)) (by (with_reducible repeat(first|refine blk_drewN ?_ _|refine blk_drew ?_|refine blk_alloc ?_ _));exact BK695.out) hb);have n6_:=Aside0.mk (below_step (by repeat(first|(with_reducible first|exact HB.out|apply below_alloc|apply pw_below_drewN|apply below_drew1|refine below_set ?_ GE679.out|refine below_set ?_ GE688.out|refine below_set ?_ GE695.out)|exact HB.out)) hb);have n7_:=Aside0.mk (hbox);have n8_:=Aside0.mk ((by rw [hg];exact (below_size (by repeat(first|(with_reducible first|exact HB.out|apply below_alloc|apply pw_below_drewN|apply below_drew1|refine below_set ?_ GE679.out|refine below_set ?_ GE688.out|refine below_set ?_ GE695.out)|exact HB.out))) : w.heap.size ≤ gb702));have n9_:=Aside0.mk ((by rw [hg];exact (below_size (by repeat(first|(with_reducible first|exact HB.out|apply below_alloc|apply pw_below_drewN|apply below_drew1|refine below_set ?_ GE679.out|refine below_set ?_ GE688.out|refine below_set ?_ GE695.out)|exact HB.out))) : w.heap.size ≤ gb702));have n10_:=Aside0.mk ((by rw [hg];exact Nat.ne_of_lt (blk_lt (g:=gb679) (o:=.cells #[.int .i64 a0_0,.int .i64 a0_1,.slice A0_2 l0_2.length c0_2] 62 (0,0)) (by (with_reducible repeat(first|refine blk_drewN ?_ _|refine blk_drew ?_|refine blk_alloc ?_ _));exact BK679.out)) : gb679 ≠ gb702));have n11_:=Aside0.mk ((by rw [hg];exact Nat.ne_of_gt (blk_lt (g:=gb679) (o:=.cells #[.int .i64 a0_0,.int .i64 a0_1,.slice A0_2 l0_2.length c0_2] 62 (0,0)) (by (with_reducible repeat(first|refine blk_drewN ?_ _|refine blk_drew ?_|refine blk_alloc ?_ _));exact BK679.out)) : gb702 ≠ gb679));have n12_:=Aside0.mk ((by rw [hg];exact Nat.ne_of_lt (blk_lt (g:=gb688) (o:=.cells #[.int .i64 a0_0,.int .i64 a0_1,.slice Ao26 y685.length co26] 62 (0,0)) (by (with_reducible repeat(first|refine blk_drewN ?_ _|refine blk_drew ?_|refine blk_alloc ?_ _));exact BK688.out)) : gb688 ≠ gb702));have n13_:=Aside0.mk ((by rw [hg];exact Nat.ne_of_gt (blk_lt (g:=gb688) (o:=.cells #[.int .i64 a0_0,.int .i64 a0_1,.slice Ao26 y685.length co26] 62 (0,0)) (by (with_reducible repeat(first|refine blk_drewN ?_ _|refine blk_drew ?_|refine blk_alloc ?_ _));exact BK688.out)) : gb702 ≠ gb688));have n14_:=Aside0.mk ((by rw [hg];exact Nat.ne_of_lt (blk_lt (g:=gb695) (o:=.cells #[.int .i64 t689,.int .i64 t690,.slice Ao37 t691.length co37] 62 (0,0)) (by (with_reducible repeat(first|refine blk_drewN ?_ _|refine blk_drew ?_|refine blk_alloc ?_ _));exact BK695.out)) : gb695 ≠ gb702));have n15_:=Aside0.mk ((by rw [hg];exact Nat.ne_of_gt (blk_lt (g:=gb695) (o:=.cells #[.int .i64 t689,.int .i64 t690,.slice Ao37 t691.length co37] 62 (0,0)) (by (with_reducible repeat(first|refine blk_drewN ?_ _|refine blk_drew ?_|refine blk_alloc ?_ _));exact BK695.out)) : gb702 ≠ gb695));clear HO687;clear HO693;clear HO700;clear BK679;clear BK688;clear BK695;clear HB;have HO687:=n0_;have HO693:=n1_;have HO700:=n2_;have BK679:=n3_;have BK688:=n4_;have BK695:=n5_;have HB:=n6_;have BK702:=n7_;have GW702:=n8_;have GE702:=n9_;have NB679_702:=n10_;have NB702_679:=n11_;have NB688_702:=n12_;have NB702_688:=n13_;have NB695_702:=n14_;have NB702_695:=n15_;clear n0_ n1_ n2_ n3_ n4_ n5_ n6_ n7_ n8_ n9_ n10_ n11_ n12_ n13_ n14_ n15_;clear hb hbox hg;have hnb41:=NB702_679.out;have hnc41:=NB679_702.out;have hnb42:=NB702_688.out;have hnc42:=NB688_702.out;have hnb43:=NB702_695.out;have hnc43:=NB695_702.out;have hcz44_0 : w40.cell? ⟨gb702,0,none⟩ = some (.int .i64 0):=(blk_cell BK702.out 0).trans rfl;have hcz44_1 : w40.cell? ⟨gb702,1,none⟩ = some (.int .i64 0):=(blk_cell BK702.out 1).trans rfl;have hcz44_2 : w40.cell? ⟨gb702,2,none⟩ = some (.slice none 0 0):=(blk_cell BK702.out 2).trans rfl;have hfz44_0:=blk_frozen BK702.out 0;have hfz44_1:=blk_frozen BK702.out 1;have hfz44_2:=blk_frozen BK702.out 2;obtain ⟨Ao45,co45,eo45⟩:=Kd.R_slice HO700.out;subst eo45))
     (try simp only [Act.put,List.setIfInBounds_toArray,List.set_cons_zero,List.set_cons_succ])
     go_cut [52] (fun v52 wc=>∃ (kq : Nat) (x52_17 : Bool),v52 = .bool x52_17 ∧ Aside0 (hornbeamlaw11_BinsTurns.j1 kq x52_17 a0_0 a0_1 l0_2 a0_0 a0_1 y685 t689 t690 t691 = some r) ∧ Aside0 (kq ≤ kj3) ∧ Aside0 (Kd.R (Kd.int .u16) 53 wc w.heap.size (fun k_=>some k_ ≠ ((.slice Ao37 t691.length co37) : Value).ownBlock ∧ some k_ ≠ ((.slice Ao45 t698.length co45) : Value).ownBlock) (.slice Ao26 y685.length co26) y685) ∧ Aside0 (Kd.R (Kd.int .u16) 53 wc w.heap.size (fun k_=>some k_ ≠ ((.slice Ao26 y685.length co26) : Value).ownBlock ∧ some k_ ≠ ((.slice Ao45 t698.length co45) : Value).ownBlock) (.slice Ao37 t691.length co37) t691) ∧ Aside0 (Kd.R (Kd.int .u16) 53 wc w.heap.size (fun k_=>some k_ ≠ ((.slice Ao26 y685.length co26) : Value).ownBlock ∧ some k_ ≠ ((.slice Ao37 t691.length co37) : Value).ownBlock) (.slice Ao45 t698.length co45) t698) ∧ Aside0 (wc.heap[gb679]? = some (.cells #[.int .i64 a0_0,.int .i64 a0_1,(.slice A0_2 l0_2.length c0_2)] 62 (0,0))) ∧ Aside0 (wc.heap[gb688]? = some (.cells #[.int .i64 a0_0,.int .i64 a0_1,(.slice Ao26 y685.length co26)] 62 (0,0))) ∧ Aside0 (wc.heap[gb695]? = some (.cells #[.int .i64 t689,.int .i64 t690,(.slice Ao37 t691.length co37)] 62 (0,0))) ∧ Aside0 (wc.heap[gb702]? = some (.cells #[.int .i64 t696,.int .i64 t697,(.slice Ao45 t698.length co45)] 62 (0,0))) ∧ Aside0 (Below w.heap.size w wc))
     case first =>
      have H:=HC18.out
      clear HC18
      replace H:=Option.bind_eq_some_iff.mp H
      obtain ⟨t703,A460,H⟩:=H
      replace H : (if t703 = true then (hornbeamlaw11_BinsTurns.j1 kj3 (t694 != t701) a0_0 a0_1 l0_2 a0_0 a0_1 y685 t689 t690 t691) else (hornbeamlaw11_BinsTurns.j1 kj3 true a0_0 a0_1 l0_2 a0_0 a0_1 y685 t689 t690 t691)) = some r:=H
      have A46:=Aside0.mk A460
      clear A460
      by_cases c47 : t703 = true
      ·subst c47
       have H1 : (hornbeamlaw11_BinsTurns.j1 kj3 (t694 != t701) a0_0 a0_1 l0_2 a0_0 a0_1 y685 t689 t690 t691) = some r:=by rw [if_pos rfl] at H;exact H
       clear H
       have H:=H1
       clear H1
       have H':=Aside0.mk H
       clear H
       have hnb48:=NB695_679.out
       have hnc48:=NB679_695.out
       have hnb49:=NB695_688.out
       have hnc49:=NB688_695.out
       have hnb50:=NB695_702.out
       have hnc50:=NB702_695.out
       have hcz51_0 : w40.cell? ⟨gb695,0,none⟩ = some (.int .i64 t689):=(blk_cell BK695.out 0).trans rfl
       have hcz51_1 : w40.cell? ⟨gb695,1,none⟩ = some (.int .i64 t690):=(blk_cell BK695.out 1).trans rfl
       have hcz51_2 : w40.cell? ⟨gb695,2,none⟩ = some (.slice Ao37 t691.length co37):=(blk_cell BK695.out 2).trans rfl
       have hfz51_0:=blk_frozen BK695.out 0
       have hfz51_1:=blk_frozen BK695.out 1
       have hfz51_2:=blk_frozen BK695.out 2
       have hnb52:=NB702_679.out
       have hnc52:=NB679_702.out
       have hnb53:=NB702_688.out
       have hnc53:=NB688_702.out
       have hcz54_0 : w40.cell? ⟨gb702,0,none⟩ = some (.int .i64 0):=(blk_cell BK702.out 0).trans rfl
       have hcz54_1 : w40.cell? ⟨gb702,1,none⟩ = some (.int .i64 0):=(blk_cell BK702.out 1).trans rfl
       have hcz54_2 : w40.cell? ⟨gb702,2,none⟩ = some (.slice none 0 0):=(blk_cell BK702.out 2).trans rfl
       have hfz54_0:=blk_frozen BK702.out 0
       have hfz54_1:=blk_frozen BK702.out 1
       have hfz54_2:=blk_frozen BK702.out 2
       go_wp2_with (first|((with_reducible refine gate_callee (f:=31) rfl ?_);refine goesL_ (some 46) rfl rfl Try.func31 (by kernel_rfl) rfl #[.agg #[.int .i64 t689,.int .i64 t690,.slice Ao37 t691.length co37],.agg #[.int .i64 t696,.int .i64 t697,.slice Ao45 t698.length co45]] rfl (by (try simp only [List.map_toArray,List.map_cons,List.map_nil]);first|done|rfl|(simp only [List.length_drop,List.length_take];rfl)) ?_;(with_reducible refine (hornbeamref11_Same.calls kj3 t689 t690 _ _ t691 t696 t697 _ _ t698 true _ ?side1 ?side2 ?side3 ?side4 A46.out).mono ?_);(case side1=>refine (Kd.R_reads' (e:=53) (base:=w.heap.size) (ok:=fun k_=>((True ∧ some k_ ≠ (.slice Ao26 y685.length co26 : Value).ownBlock) ∧ some k_ ≠ (.slice Ao45 t698.length co45 : Value).ownBlock)) (n:=t691.length) (c:=co37) ?_).2.2;exact (by (with_reducible repeat(first|apply Kd.R_alloc|apply Kd.R_drewN|apply Kd.R_drew));exact (Kd.R_mono (Kd.R_far (p:=⟨gb702,2,none⟩) (Kd.R_far (p:=⟨gb702,1,none⟩) (Kd.R_far (p:=⟨gb702,0,none⟩) (Kd.R_types HO693.out BK702.out (by decide)) (fun _ hk=>hk.2) (.int .i64 t696)) (fun _ hk=>hk.2) (.int .i64 t697)) (fun _ hk=>hk.2) (.slice Ao45 t698.length co45)) (fun _ h_=>h_.1))));(case side2=>exact (Kd.R_reads' HO693.out).2.1);(case side3=>refine (Kd.R_reads' (e:=53) (base:=w.heap.size) (ok:=fun k_=>((True ∧ some k_ ≠ (.slice Ao26 y685.length co26 : Value).ownBlock) ∧ some k_ ≠ (.slice Ao37 t691.length co37 : Value).ownBlock)) (n:=t698.length) (c:=co45) ?_).2.2;exact (by (with_reducible repeat(first|apply Kd.R_alloc|apply Kd.R_drewN|apply Kd.R_drew));exact (Kd.R_mono (Kd.R_far (p:=⟨gb702,2,none⟩) (Kd.R_far (p:=⟨gb702,1,none⟩) (Kd.R_far (p:=⟨gb702,0,none⟩) (Kd.R_types HO700.out BK702.out (by decide)) (fun _ hk=>hk.2) (.int .i64 t696)) (fun _ hk=>hk.2) (.int .i64 t697)) (fun _ hk=>hk.2) (.slice Ao45 t698.length co45)) (fun _ h_=>h_.1))));(case side4=>exact (Kd.R_reads' HO700.out).2.1);rintro e w55 ⟨rfl,hb⟩;refine ⟨_,rfl,?_⟩;have n0_:=Aside0.mk (Kd.R_below (by (with_reducible repeat(first|apply Kd.R_alloc|apply Kd.R_drewN|apply Kd.R_drew));exact (Kd.R_mono (Kd.R_far (p:=⟨gb702,2,none⟩) (Kd.R_far (p:=⟨gb702,1,none⟩) (Kd.R_far (p:=⟨gb702,0,none⟩) (Kd.R_types HO687.out BK702.out (by decide)) (fun _ hk=>hk.2) (.int .i64 t696)) (fun _ hk=>hk.2) (.int .i64 t697)) (fun _ hk=>hk.2) (.slice Ao45 t698.length co45)) (fun _ h_=>h_.1))) hb);have n1_:=Aside0.mk (Kd.R_below (by (with_reducible repeat(first|apply Kd.R_alloc|apply Kd.R_drewN|apply Kd.R_drew));exact (Kd.R_mono (Kd.R_far (p:=⟨gb702,2,none⟩) (Kd.R_far (p:=⟨gb702,1,none⟩) (Kd.R_far (p:=⟨gb702,0,none⟩) (Kd.R_types HO693.out BK702.out (by decide)) (fun _ hk=>hk.2) (.int .i64 t696)) (fun _ hk=>hk.2) (.int .i64 t697)) (fun _ hk=>hk.2) (.slice Ao45 t698.length co45)) (fun _ h_=>h_.1))) hb);have n2_:=Aside0.mk (Kd.R_below (by (with_reducible repeat(first|apply Kd.R_alloc|apply Kd.R_drewN|apply Kd.R_drew));exact (Kd.R_mono (Kd.R_far (p:=⟨gb702,2,none⟩) (Kd.R_far (p:=⟨gb702,1,none⟩) (Kd.R_far (p:=⟨gb702,0,none⟩) (Kd.R_types HO700.out BK702.out (by decide)) (fun _ hk=>hk.2) (.int .i64 t696)) (fun _ hk=>hk.2) (.int .i64 t697)) (fun _ hk=>hk.2) (.slice Ao45 t698.length co45)) (fun _ h_=>h_.1))) hb);have n3_:=Aside0.mk (blk_below (g:=gb679) (o:=.cells #[.int .i64 a0_0,.int .i64 a0_1,.slice A0_2 l0_2.length c0_2] 62 (0,0)) (by (with_reducible repeat(first|refine blk_drewN ?_ _|refine blk_drew ?_|refine blk_alloc ?_ _));refine blk_far ?_ NB679_702.out _;(with_reducible repeat(first|refine blk_drewN ?_ _|refine blk_drew ?_|refine blk_alloc ?_ _));refine blk_far ?_ NB679_702.out _;(with_reducible repeat(first|refine blk_drewN ?_ _|refine blk_drew ?_|refine blk_alloc ?_ _));refine blk_far ?_ NB679_702.out _;(with_reducible repeat(first|refine blk_drewN ?_ _|refine blk_drew ?_|refine blk_alloc ?_ _));exact BK679.out) hb);have n4_:=Aside0.mk (blk_below (g:=gb688) (o:=.cells #[.int .i64 a0_0,.int .i64 a0_1,.slice Ao26 y685.length co26] 62 (0,0)) (by (with_reducible repeat(first|refine blk_drewN ?_ _|refine blk_drew ?_|refine blk_alloc ?_ _));refine blk_far ?_ NB688_702.out _;(with_reducible repeat(first|refine blk_drewN ?_ _|refine blk_drew ?_|refine blk_alloc ?_ _));refine blk_far ?_ NB688_702.out _;(with_reducible repeat(first|refine blk_drewN ?_ _|refine blk_drew ?_|refine blk_alloc ?_ _));refine blk_far ?_ NB688_702.out _;(with_reducible repeat(first|refine blk_drewN ?_ _|refine blk_drew ?_|refine blk_alloc ?_ _));exact BK688.out) hb);have n5_:=Aside0.mk (blk_below (g:=gb695) (o:=.cells #[.int .i64 t689,.int .i64 t690,.slice Ao37 t691.length co37] 62 (0,0)) (by (with_reducible repeat(first|refine blk_drewN ?_ _|refine blk_drew ?_|refine blk_alloc ?_ _));refine blk_far ?_ NB695_702.out _;(with_reducible repeat(first|refine blk_drewN ?_ _|refine blk_drew ?_|refine blk_alloc ?_ _));refine blk_far ?_ NB695_702.out _;(with_reducible repeat(first|refine blk_drewN ?_ _|refine blk_drew ?_|refine blk_alloc ?_ _));refine blk_far ?_ NB695_702.out _;(with_reducible repeat(first|refine blk_drewN ?_ _|refine blk_drew ?_|refine blk_alloc ?_ _));exact BK695.out) hb);have n6_:=Aside0.mk (blk_below (g:=gb702) (o:=.cells #[.int .i64 t696,.int .i64 t697,.slice Ao45 t698.length co45] 62 (0,0)) (by (with_reducible repeat(first|refine blk_drewN ?_ _|refine blk_drew ?_|refine blk_alloc ?_ _));refine blk_put (cs:=#[.int .i64 t696,.int .i64 t697,.slice none 0 0]) ?_ 2 _ rfl;(with_reducible repeat(first|refine blk_drewN ?_ _|refine blk_drew ?_|refine blk_alloc ?_ _));refine blk_put (cs:=#[.int .i64 t696,.int .i64 0,.slice none 0 0]) ?_ 1 _ rfl;(with_reducible repeat(first|refine blk_drewN ?_ _|refine blk_drew ?_|refine blk_alloc ?_ _));refine blk_put (cs:=#[.int .i64 0,.int .i64 0,.slice none 0 0]) ?_ 0 _ rfl;(with_reducible repeat(first|refine blk_drewN ?_ _|refine blk_drew ?_|refine blk_alloc ?_ _));exact BK702.out) hb);have n7_:=Aside0.mk (below_step (by repeat(first|(with_reducible first|exact HB.out|apply below_alloc|apply pw_below_drewN|apply below_drew1|refine below_set ?_ GE679.out|refine below_set ?_ GE688.out|refine below_set ?_ GE695.out|refine below_set ?_ GE702.out)|exact HB.out)) hb);clear HO687;clear HO693;clear HO700;clear BK679;clear BK688;clear BK695;clear BK702;clear HB;have HO687:=n0_;have HO693:=n1_;have HO700:=n2_;have BK679:=n3_;have BK688:=n4_;have BK695:=n5_;have BK702:=n6_;have HB:=n7_;clear n0_ n1_ n2_ n3_ n4_ n5_ n6_ n7_;(try clear hb);(try clear hb2);(try clear hk);(try clear hi)))
       go_meet
       case rel=>exact ⟨_,((t694 != t701)),(by first|rfl|(simp;done)|(simp [*];done)),H',⟨by have:=HJ3.out;first|omega|exact Nat.le_refl _⟩,⟨by (with_reducible repeat(first|apply Kd.R_alloc|apply Kd.R_drewN|apply Kd.R_drew));exact Kd.R_mono HO687.out (fun _ hk=>⟨hk.1.2,hk.2⟩)⟩,⟨by (with_reducible repeat(first|apply Kd.R_alloc|apply Kd.R_drewN|apply Kd.R_drew));exact Kd.R_mono HO693.out (fun _ hk=>⟨hk.1.2,hk.2⟩)⟩,⟨by (with_reducible repeat(first|apply Kd.R_alloc|apply Kd.R_drewN|apply Kd.R_drew));exact Kd.R_mono HO700.out (fun _ hk=>⟨hk.1.2,hk.2⟩)⟩,⟨by (with_reducible repeat(first|refine blk_drewN ?_ _|refine blk_drew ?_|refine blk_alloc ?_ _));exact BK679.out⟩,⟨by (with_reducible repeat(first|refine blk_drewN ?_ _|refine blk_drew ?_|refine blk_alloc ?_ _));exact BK688.out⟩,⟨by (with_reducible repeat(first|refine blk_drewN ?_ _|refine blk_drew ?_|refine blk_alloc ?_ _));exact BK695.out⟩,⟨by (with_reducible repeat(first|refine blk_drewN ?_ _|refine blk_drew ?_|refine blk_alloc ?_ _));exact BK702.out⟩,⟨by repeat(first|(with_reducible first|exact HB.out|apply below_alloc|apply pw_below_drewN|apply below_drew1|refine below_set ?_ GE679.out|refine below_set ?_ GE688.out|refine below_set ?_ GE695.out|refine below_set ?_ GE702.out)|exact HB.out)⟩⟩
      ·replace c47:=Bool.eq_false_iff.mpr c47
       subst c47
       have H1 : (hornbeamlaw11_BinsTurns.j1 kj3 true a0_0 a0_1 l0_2 a0_0 a0_1 y685 t689 t690 t691) = some r:=by rw [if_neg (show ¬ (false = true) by decide)] at H;exact H
       clear H
       have H:=H1
       clear H1
       have H':=Aside0.mk H
       clear H
       have hnb56:=NB695_679.out
       have hnc56:=NB679_695.out
       have hnb57:=NB695_688.out
       have hnc57:=NB688_695.out
       have hnb58:=NB695_702.out
       have hnc58:=NB702_695.out
       have hcz59_0 : w40.cell? ⟨gb695,0,none⟩ = some (.int .i64 t689):=(blk_cell BK695.out 0).trans rfl
       have hcz59_1 : w40.cell? ⟨gb695,1,none⟩ = some (.int .i64 t690):=(blk_cell BK695.out 1).trans rfl
       have hcz59_2 : w40.cell? ⟨gb695,2,none⟩ = some (.slice Ao37 t691.length co37):=(blk_cell BK695.out 2).trans rfl
       have hfz59_0:=blk_frozen BK695.out 0
       have hfz59_1:=blk_frozen BK695.out 1
       have hfz59_2:=blk_frozen BK695.out 2
       have hnb60:=NB702_679.out
       have hnc60:=NB679_702.out
       have hnb61:=NB702_688.out
       have hnc61:=NB688_702.out
       have hcz62_0 : w40.cell? ⟨gb702,0,none⟩ = some (.int .i64 0):=(blk_cell BK702.out 0).trans rfl
       have hcz62_1 : w40.cell? ⟨gb702,1,none⟩ = some (.int .i64 0):=(blk_cell BK702.out 1).trans rfl
       have hcz62_2 : w40.cell? ⟨gb702,2,none⟩ = some (.slice none 0 0):=(blk_cell BK702.out 2).trans rfl
       have hfz62_0:=blk_frozen BK702.out 0
       have hfz62_1:=blk_frozen BK702.out 1
       have hfz62_2:=blk_frozen BK702.out 2
       go_wp2_with (first|((with_reducible refine gate_callee (f:=31) rfl ?_);refine goesL_ (some 46) rfl rfl Try.func31 (by kernel_rfl) rfl #[.agg #[.int .i64 t689,.int .i64 t690,.slice Ao37 t691.length co37],.agg #[.int .i64 t696,.int .i64 t697,.slice Ao45 t698.length co45]] rfl (by (try simp only [List.map_toArray,List.map_cons,List.map_nil]);first|done|rfl|(simp only [List.length_drop,List.length_take];rfl)) ?_;(with_reducible refine (hornbeamref11_Same.calls kj3 t689 t690 _ _ t691 t696 t697 _ _ t698 false _ ?side1 ?side2 ?side3 ?side4 A46.out).mono ?_);(case side1=>refine (Kd.R_reads' (e:=53) (base:=w.heap.size) (ok:=fun k_=>((True ∧ some k_ ≠ (.slice Ao26 y685.length co26 : Value).ownBlock) ∧ some k_ ≠ (.slice Ao45 t698.length co45 : Value).ownBlock)) (n:=t691.length) (c:=co37) ?_).2.2;exact (by (with_reducible repeat(first|apply Kd.R_alloc|apply Kd.R_drewN|apply Kd.R_drew));exact (Kd.R_mono (Kd.R_far (p:=⟨gb702,2,none⟩) (Kd.R_far (p:=⟨gb702,1,none⟩) (Kd.R_far (p:=⟨gb702,0,none⟩) (Kd.R_types HO693.out BK702.out (by decide)) (fun _ hk=>hk.2) (.int .i64 t696)) (fun _ hk=>hk.2) (.int .i64 t697)) (fun _ hk=>hk.2) (.slice Ao45 t698.length co45)) (fun _ h_=>h_.1))));(case side2=>exact (Kd.R_reads' HO693.out).2.1);(case side3=>refine (Kd.R_reads' (e:=53) (base:=w.heap.size) (ok:=fun k_=>((True ∧ some k_ ≠ (.slice Ao26 y685.length co26 : Value).ownBlock) ∧ some k_ ≠ (.slice Ao37 t691.length co37 : Value).ownBlock)) (n:=t698.length) (c:=co45) ?_).2.2;exact (by (with_reducible repeat(first|apply Kd.R_alloc|apply Kd.R_drewN|apply Kd.R_drew));exact (Kd.R_mono (Kd.R_far (p:=⟨gb702,2,none⟩) (Kd.R_far (p:=⟨gb702,1,none⟩) (Kd.R_far (p:=⟨gb702,0,none⟩) (Kd.R_types HO700.out BK702.out (by decide)) (fun _ hk=>hk.2) (.int .i64 t696)) (fun _ hk=>hk.2) (.int .i64 t697)) (fun _ hk=>hk.2) (.slice Ao45 t698.length co45)) (fun _ h_=>h_.1))));(case side4=>exact (Kd.R_reads' HO700.out).2.1);rintro e w63 ⟨rfl,hb⟩;refine ⟨_,rfl,?_⟩;have n0_:=Aside0.mk (Kd.R_below (by (with_reducible repeat(first|apply Kd.R_alloc|apply Kd.R_drewN|apply Kd.R_drew));exact (Kd.R_mono (Kd.R_far (p:=⟨gb702,2,none⟩) (Kd.R_far (p:=⟨gb702,1,none⟩) (Kd.R_far (p:=⟨gb702,0,none⟩) (Kd.R_types HO687.out BK702.out (by decide)) (fun _ hk=>hk.2) (.int .i64 t696)) (fun _ hk=>hk.2) (.int .i64 t697)) (fun _ hk=>hk.2) (.slice Ao45 t698.length co45)) (fun _ h_=>h_.1))) hb);have n1_:=Aside0.mk (Kd.R_below (by (with_reducible repeat(first|apply Kd.R_alloc|apply Kd.R_drewN|apply Kd.R_drew));exact (Kd.R_mono (Kd.R_far (p:=⟨gb702,2,none⟩) (Kd.R_far (p:=⟨gb702,1,none⟩) (Kd.R_far (p:=⟨gb702,0,none⟩) (Kd.R_types HO693.out BK702.out (by decide)) (fun _ hk=>hk.2) (.int .i64 t696)) (fun _ hk=>hk.2) (.int .i64 t697)) (fun _ hk=>hk.2) (.slice Ao45 t698.length co45)) (fun _ h_=>h_.1))) hb);have n2_:=Aside0.mk (Kd.R_below (by (with_reducible repeat(first|apply Kd.R_alloc|apply Kd.R_drewN|apply Kd.R_drew));exact (Kd.R_mono (Kd.R_far (p:=⟨gb702,2,none⟩) (Kd.R_far (p:=⟨gb702,1,none⟩) (Kd.R_far (p:=⟨gb702,0,none⟩) (Kd.R_types HO700.out BK702.out (by decide)) (fun _ hk=>hk.2) (.int .i64 t696)) (fun _ hk=>hk.2) (.int .i64 t697)) (fun _ hk=>hk.2) (.slice Ao45 t698.length co45)) (fun _ h_=>h_.1))) hb);have n3_:=Aside0.mk (blk_below (g:=gb679) (o:=.cells #[.int .i64 a0_0,.int .i64 a0_1,.slice A0_2 l0_2.length c0_2] 62 (0,0)) (by (with_reducible repeat(first|refine blk_drewN ?_ _|refine blk_drew ?_|refine blk_alloc ?_ _));refine blk_far ?_ NB679_702.out _;(with_reducible repeat(first|refine blk_drewN ?_ _|refine blk_drew ?_|refine blk_alloc ?_ _));refine blk_far ?_ NB679_702.out _;(with_reducible repeat(first|refine blk_drewN ?_ _|refine blk_drew ?_|refine blk_alloc ?_ _));refine blk_far ?_ NB679_702.out _;(with_reducible repeat(first|refine blk_drewN ?_ _|refine blk_drew ?_|refine blk_alloc ?_ _));exact BK679.out) hb);have n4_:=Aside0.mk (blk_below (g:=gb688) (o:=.cells #[.int .i64 a0_0,.int .i64 a0_1,.slice Ao26 y685.length co26] 62 (0,0)) (by (with_reducible repeat(first|refine blk_drewN ?_ _|refine blk_drew ?_|refine blk_alloc ?_ _));refine blk_far ?_ NB688_702.out _;(with_reducible repeat(first|refine blk_drewN ?_ _|refine blk_drew ?_|refine blk_alloc ?_ _));refine blk_far ?_ NB688_702.out _;(with_reducible repeat(first|refine blk_drewN ?_ _|refine blk_drew ?_|refine blk_alloc ?_ _));refine blk_far ?_ NB688_702.out _;(with_reducible repeat(first|refine blk_drewN ?_ _|refine blk_drew ?_|refine blk_alloc ?_ _));exact BK688.out) hb);have n5_:=Aside0.mk (blk_below (g:=gb695) (o:=.cells #[.int .i64 t689,.int .i64 t690,.slice Ao37 t691.length co37] 62 (0,0)) (by (with_reducible repeat(first|refine blk_drewN ?_ _|refine blk_drew ?_|refine blk_alloc ?_ _));refine blk_far ?_ NB695_702.out _;(with_reducible repeat(first|refine blk_drewN ?_ _|refine blk_drew ?_|refine blk_alloc ?_ _));refine blk_far ?_ NB695_702.out _;(with_reducible repeat(first|refine blk_drewN ?_ _|refine blk_drew ?_|refine blk_alloc ?_ _));refine blk_far ?_ NB695_702.out _;(with_reducible repeat(first|refine blk_drewN ?_ _|refine blk_drew ?_|refine blk_alloc ?_ _));exact BK695.out) hb);have n6_:=Aside0.mk (blk_below (g:=gb702) (o:=.cells #[.int .i64 t696,.int .i64 t697,.slice Ao45 t698.length co45] 62 (0,0)) (by (with_reducible repeat(first|refine blk_drewN ?_ _|refine blk_drew ?_|refine blk_alloc ?_ _));refine blk_put (cs:=#[.int .i64 t696,.int .i64 t697,.slice none 0 0]) ?_ 2 _ rfl;(with_reducible repeat(first|refine blk_drewN ?_ _|refine blk_drew ?_|refine blk_alloc ?_ _));refine blk_put (cs:=#[.int .i64 t696,.int .i64 0,.slice none 0 0]) ?_ 1 _ rfl;(with_reducible repeat(first|refine blk_drewN ?_ _|refine blk_drew ?_|refine blk_alloc ?_ _));refine blk_put (cs:=#[.int .i64 0,.int .i64 0,.slice none 0 0]) ?_ 0 _ rfl;(with_reducible repeat(first|refine blk_drewN ?_ _|refine blk_drew ?_|refine blk_alloc ?_ _));exact BK702.out) hb);have n7_:=Aside0.mk (below_step (by repeat(first|(with_reducible first|exact HB.out|apply below_alloc|apply pw_below_drewN|apply below_drew1|refine below_set ?_ GE679.out|refine below_set ?_ GE688.out|refine below_set ?_ GE695.out|refine below_set ?_ GE702.out)|exact HB.out)) hb);clear HO687;clear HO693;clear HO700;clear BK679;clear BK688;clear BK695;clear BK702;clear HB;have HO687:=n0_;have HO693:=n1_;have HO700:=n2_;have BK679:=n3_;have BK688:=n4_;have BK695:=n5_;have BK702:=n6_;have HB:=n7_;clear n0_ n1_ n2_ n3_ n4_ n5_ n6_ n7_;(try clear hb);(try clear hb2);(try clear hk);(try clear hi)))
       go_meet
       case rel=>exact ⟨_,(true),(by first|rfl|(simp;done)|(simp [*];done)),H',⟨by have:=HJ3.out;first|omega|exact Nat.le_refl _⟩,⟨by (with_reducible repeat(first|apply Kd.R_alloc|apply Kd.R_drewN|apply Kd.R_drew));exact Kd.R_mono HO687.out (fun _ hk=>⟨hk.1.2,hk.2⟩)⟩,⟨by (with_reducible repeat(first|apply Kd.R_alloc|apply Kd.R_drewN|apply Kd.R_drew));exact Kd.R_mono HO693.out (fun _ hk=>⟨hk.1.2,hk.2⟩)⟩,⟨by (with_reducible repeat(first|apply Kd.R_alloc|apply Kd.R_drewN|apply Kd.R_drew));exact Kd.R_mono HO700.out (fun _ hk=>⟨hk.1.2,hk.2⟩)⟩,⟨by (with_reducible repeat(first|refine blk_drewN ?_ _|refine blk_drew ?_|refine blk_alloc ?_ _));exact BK679.out⟩,⟨by (with_reducible repeat(first|refine blk_drewN ?_ _|refine blk_drew ?_|refine blk_alloc ?_ _));exact BK688.out⟩,⟨by (with_reducible repeat(first|refine blk_drewN ?_ _|refine blk_drew ?_|refine blk_alloc ?_ _));exact BK695.out⟩,⟨by (with_reducible repeat(first|refine blk_drewN ?_ _|refine blk_drew ?_|refine blk_alloc ?_ _));exact BK702.out⟩,⟨by repeat(first|(with_reducible first|exact HB.out|apply below_alloc|apply pw_below_drewN|apply below_drew1|refine below_set ?_ GE679.out|refine below_set ?_ GE688.out|refine below_set ?_ GE695.out|refine below_set ?_ GE702.out)|exact HB.out)⟩⟩
     case rest =>
      clear HC18
      try clear c1
      try clear c2
      try clear p2
      try clear c3
      try clear c4
      try clear c5
      try clear c6
      try clear c7
      try clear c8
      try clear c12
      try clear c15
      try clear c25
      try clear c30
      try clear c31
      try clear c32
      try clear c33
      try clear c34
      try clear c35
      try clear c41
      try clear c42
      try clear c43
      try clear c47
      try clear c48
      try clear c49
      try clear c50
      try clear c52
      try clear c53
      try clear c56
      try clear c57
      try clear c58
      try clear c60
      try clear c61
      try clear hcz10_0
      try clear hcz10_1
      try clear hcz10_2
      try clear hcz31_0
      try clear hcz31_1
      try clear hcz31_2
      try clear hcz36_0
      try clear hcz36_1
      try clear hcz36_2
      try clear hcz38_0
      try clear hcz38_1
      try clear hcz38_2
      try clear hcz44_0
      try clear hcz44_1
      try clear hcz44_2
      try clear hcz51_0
      try clear hcz51_1
      try clear hcz51_2
      try clear hcz54_0
      try clear hcz54_1
      try clear hcz54_2
      try clear hcz59_0
      try clear hcz59_1
      try clear hcz59_2
      try clear hcz62_0
      try clear hcz62_1
      try clear hcz62_2
      try clear hcz8_0
      try clear hcz8_1
      try clear hcz8_2
      try clear hfz10_0
      try clear hfz10_1
      try clear hfz10_2
      try clear hfz31_0
      try clear hfz31_1
      try clear hfz31_2
      try clear hfz36_0
      try clear hfz36_1
      try clear hfz36_2
      try clear hfz38_0
      try clear hfz38_1
      try clear hfz38_2
      try clear hfz44_0
      try clear hfz44_1
      try clear hfz44_2
      try clear hfz51_0
      try clear hfz51_1
      try clear hfz51_2
      try clear hfz54_0
      try clear hfz54_1
      try clear hfz54_2
      try clear hfz59_0
      try clear hfz59_1
      try clear hfz59_2
      try clear hfz62_0
      try clear hfz62_1
      try clear hfz62_2
      try clear hfz8_0
      try clear hfz8_1
      try clear hfz8_2
      try clear p2
      obtain ⟨kq,x52_17,rfl,HA,HJ17,HO_689002,HO_696002,HO_703002,BK679,BK688,BK695,BK702,HB⟩:=hcut
      cases kq with
      | zero=>exact absurd HA.out (by simp [hornbeamlaw11_BinsTurns.j1])
      | succ kj17 =>
       have H:=HA.out
       clear HA
       simp only [hornbeamlaw11_BinsTurns.j1] at H
       by_cases c64 : x52_17 = true
       ·subst c64
        have H1 : (some false) = some r:=by rw [if_pos rfl] at H;exact H
        clear H
        have H:=H1
        clear H1
        obtain rfl:=Option.some.inj H
        go_wp2
        go_ret
        exact ⟨by first|rfl|(simp [errW_none,errW_some] <;> rfl)|(simp [*,errW_none,errW_some] <;> rfl),by repeat(first|(with_reducible first|exact HB.out|apply below_alloc|apply pw_below_drewN|apply below_drew1|refine below_set ?_ GE679.out|refine below_set ?_ GE688.out|refine below_set ?_ GE695.out|refine below_set ?_ GE702.out)|exact HB.out)⟩
       ·replace c64:=Bool.eq_false_iff.mpr c64
        subst c64
        have H1 : (hornbeamlaw11_BinsTurns.l0 kj17 (t691.length : Int) 0 a0_0 a0_1 l0_2 a0_0 a0_1 y685 t689 t690 t691) = some r:=by rw [if_neg (show ¬ (false = true) by decide)] at H;exact H
        clear H
        have H:=H1
        clear H1
        have H':=Aside0.mk H
        clear H
        have hnb65:=NB695_679.out
        have hnc65:=NB679_695.out
        have hnb66:=NB695_688.out
        have hnc66:=NB688_695.out
        have hnb67:=NB695_702.out
        have hnc67:=NB702_695.out
        have hcz68_0 : wc.cell? ⟨gb695,0,none⟩ = some (.int .i64 t689):=(blk_cell BK695.out 0).trans rfl
        have hcz68_1 : wc.cell? ⟨gb695,1,none⟩ = some (.int .i64 t690):=(blk_cell BK695.out 1).trans rfl
        have hcz68_2 : wc.cell? ⟨gb695,2,none⟩ = some (.slice Ao37 t691.length co37):=(blk_cell BK695.out 2).trans rfl
        have hfz68_0:=blk_frozen BK695.out 0
        have hfz68_1:=blk_frozen BK695.out 1
        have hfz68_2:=blk_frozen BK695.out 2
        go_wp2
        go_loopg [56] kj17 (fun kq v56 w'=>∃ (x56_3 : Int) (x689002_3 : List Int) (x696002_3 : List Int) (x703002_3 : List Int) (u689002 : Value) (u696002 : Value) (u703002 : Value),v56 = .int .i64 x56_3 ∧ Aside0 (hornbeamlaw11_BinsTurns.l0 kq (t691.length : Int) x56_3 a0_0 a0_1 l0_2 a0_0 a0_1 x689002_3 t689 t690 x696002_3 = some r) ∧ Aside0 (kq ≤ kj17) ∧ Aside0 (Kd.R (Kd.int .u16) 53 w' w.heap.size (fun k_=>some k_ ≠ (u696002 : Value).ownBlock ∧ some k_ ≠ (u703002 : Value).ownBlock) u689002 x689002_3) ∧ Aside0 (Kd.R (Kd.int .u16) 53 w' w.heap.size (fun k_=>some k_ ≠ (u689002 : Value).ownBlock ∧ some k_ ≠ (u703002 : Value).ownBlock) u696002 x696002_3) ∧ Aside0 (Kd.R (Kd.int .u16) 53 w' w.heap.size (fun k_=>some k_ ≠ (u689002 : Value).ownBlock ∧ some k_ ≠ (u696002 : Value).ownBlock) u703002 x703002_3) ∧ Aside0 (w'.heap[gb679]? = some (.cells #[.int .i64 a0_0,.int .i64 a0_1,(.slice A0_2 l0_2.length c0_2)] 62 (0,0))) ∧ Aside0 (w'.heap[gb688]? = some (.cells #[.int .i64 a0_0,.int .i64 a0_1,u689002] 62 (0,0))) ∧ Aside0 (w'.heap[gb695]? = some (.cells #[.int .i64 t689,.int .i64 t690,u696002] 62 (0,0))) ∧ Aside0 (w'.heap[gb702]? = some (.cells #[.int .i64 t696,.int .i64 t697,u703002] 62 (0,0))) ∧ Aside0 (Below w.heap.size w w'))
        case atStart=>exact ⟨(0),(y685),(t691),(t698),(.slice Ao26 y685.length co26),(.slice Ao37 t691.length co37),(.slice Ao45 t698.length co45),(by first|rfl|(simp;done)|(simp [*];done)),H',⟨Nat.le_refl _⟩,⟨by (with_reducible repeat(first|apply Kd.R_alloc|apply Kd.R_drewN|apply Kd.R_drew));exact HO_689002.out⟩,⟨by (with_reducible repeat(first|apply Kd.R_alloc|apply Kd.R_drewN|apply Kd.R_drew));exact HO_696002.out⟩,⟨by (with_reducible repeat(first|apply Kd.R_alloc|apply Kd.R_drewN|apply Kd.R_drew));exact HO_703002.out⟩,⟨by (with_reducible repeat(first|refine blk_drewN ?_ _|refine blk_drew ?_|refine blk_alloc ?_ _));exact BK679.out⟩,⟨by (with_reducible repeat(first|refine blk_drewN ?_ _|refine blk_drew ?_|refine blk_alloc ?_ _));exact BK688.out⟩,⟨by (with_reducible repeat(first|refine blk_drewN ?_ _|refine blk_drew ?_|refine blk_alloc ?_ _));exact BK695.out⟩,⟨by (with_reducible repeat(first|refine blk_drewN ?_ _|refine blk_drew ?_|refine blk_alloc ?_ _));exact BK702.out⟩,⟨by repeat(first|(with_reducible first|exact HB.out|apply below_alloc|apply pw_below_drewN|apply below_drew1|refine below_set ?_ GE679.out|refine below_set ?_ GE688.out|refine below_set ?_ GE695.out|refine below_set ?_ GE702.out)|exact HB.out)⟩⟩
        case round =>
         clear H'
         try clear c1
         try clear c2
         try clear p2
         try clear c3
         try clear c4
         try clear c5
         try clear c6
         try clear c7
         try clear c8
         try clear c12
         try clear c15
         try clear c25
         try clear c30
         try clear c31
         try clear c32
         try clear c33
         try clear c34
         try clear c35
         try clear c41
         try clear c42
         try clear c43
         try clear c47
         try clear c48
         try clear c49
         try clear c50
         try clear c52
         try clear c53
         try clear c56
         try clear c57
         try clear c58
         try clear c60
         try clear c61
         try clear c64
         try clear c65
         try clear c66
         try clear c67
         try clear hcz10_0
         try clear hcz10_1
         try clear hcz10_2
         try clear hcz31_0
         try clear hcz31_1
         try clear hcz31_2
         try clear hcz36_0
         try clear hcz36_1
         try clear hcz36_2
         try clear hcz38_0
         try clear hcz38_1
         try clear hcz38_2
         try clear hcz44_0
         try clear hcz44_1
         try clear hcz44_2
         try clear hcz51_0
         try clear hcz51_1
         try clear hcz51_2
         try clear hcz54_0
         try clear hcz54_1
         try clear hcz54_2
         try clear hcz59_0
         try clear hcz59_1
         try clear hcz59_2
         try clear hcz62_0
         try clear hcz62_1
         try clear hcz62_2
         try clear hcz68_0
         try clear hcz68_1
         try clear hcz68_2
         try clear hcz8_0
         try clear hcz8_1
         try clear hcz8_2
         try clear hfz10_0
         try clear hfz10_1
         try clear hfz10_2
         try clear hfz31_0
         try clear hfz31_1
         try clear hfz31_2
         try clear hfz36_0
         try clear hfz36_1
         try clear hfz36_2
         try clear hfz38_0
         try clear hfz38_1
         try clear hfz38_2
         try clear hfz44_0
         try clear hfz44_1
         try clear hfz44_2
         try clear hfz51_0
         try clear hfz51_1
         try clear hfz51_2
         try clear hfz54_0
         try clear hfz54_1
         try clear hfz54_2
         try clear hfz59_0
         try clear hfz59_1
         try clear hfz59_2
         try clear hfz62_0
         try clear hfz62_1
         try clear hfz62_2
         try clear hfz68_0
         try clear hfz68_1
         try clear hfz68_2
         try clear hfz8_0
         try clear hfz8_1
         try clear hfz8_2
         try clear p2
         obtain ⟨x56_3,x689002_3,x696002_3,x703002_3,u689002,u696002,u703002,rfl,HA,HK3,HO_689002,HO_696002,HO_703002,BK679,BK688,BK695,BK702,HB⟩:=hrel
         cases gk with
         | zero=>exact absurd HA.out (by simp [hornbeamlaw11_BinsTurns.l0])
         | succ k3 =>
          have H:=HA.out
          clear HA
          simp only [hornbeamlaw11_BinsTurns.l0] at H
          by_cases c69 : x56_3 < (t691.length : Int)
          ·rw [if_pos c69] at H
           have c69b0 : decide (x56_3 < (t691.length : Int)) = true:=decide_eq_true c69
           clear c69
           by_cases c70 : 0 ≤ x56_3
           ·rw [if_pos c70] at H
            have c70b0 : decide (0 ≤ x56_3) = true:=decide_eq_true c70
            clear c70
            by_cases c71 : x56_3 < (x696002_3.length : Int)
            ·rw [if_pos c71] at H
             have c71b0 : decide (x56_3 < (x696002_3.length : Int)) = true:=decide_eq_true c71
             clear c71
             obtain ⟨y705,hy705⟩ : ∃ y_ : List Int,y_ = (x696002_3.set (x56_3 : Int).toNat (IntKind.u16.wrap ((rd x696002_3 x56_3) + 1))):=⟨_,rfl⟩
             replace H : (hornbeamlaw11_BinsTurns.l0 k3 (t691.length : Int) (wrap64 (x56_3 + 1)) a0_0 a0_1 l0_2 a0_0 a0_1 x689002_3 t689 t690 y705) = some r:=by first|(rw [hy705];with_reducible exact H)|(have H2_:=(Option.bind_some _ _).symm.trans H;rw [hy705];with_reducible exact H2_)|(have H2_:=(Option.bind_some _ _).symm.trans H;with_reducible exact H2_)|with_reducible exact H|(rw [hy705];exact H)|exact H
             have Ny705:=Aside0.mk hy705
             clear hy705
             have H':=Aside0.mk H
             clear H
             have hnb73:=NB695_679.out
             have hnc73:=NB679_695.out
             have hnb74:=NB695_688.out
             have hnc74:=NB688_695.out
             have hnb75:=NB695_702.out
             have hnc75:=NB702_695.out
             have hcz76_0 : wr.cell? ⟨gb695,0,none⟩ = some (.int .i64 t689):=(blk_cell BK695.out 0).trans rfl
             have hcz76_1 : wr.cell? ⟨gb695,1,none⟩ = some (.int .i64 t690):=(blk_cell BK695.out 1).trans rfl
             have hcz76_2 : wr.cell? ⟨gb695,2,none⟩ = some (u696002):=(blk_cell BK695.out 2).trans rfl
             have hfz76_0:=blk_frozen BK695.out 0
             have hfz76_1:=blk_frozen BK695.out 1
             have hfz76_2:=blk_frozen BK695.out 2
             obtain ⟨Ao77,co77,eo77⟩:=Kd.R_slice HO_696002.out
             subst eo77
             have p704 : 0 ≤ (x56_3 : Int):=of_decide_eq_true (by first|(with_reducible assumption)|assumption)
             have q704 : x56_3 < (x696002_3.length : Int):=of_decide_eq_true (by first|(with_reducible assumption)|assumption)
             obtain ⟨ad704,e704,hx704_0⟩:=Kd.at_int (Kd.R_reads' HO_696002.out).2.2 x56_3 p704 q704
             cases e704
             replace p704:=eq_true p704
             replace q704:=eq_true q704
             have p72 : 0 ≤ (x56_3 : Int):=of_decide_eq_true (by first|(with_reducible assumption)|assumption)
             have q72 : (x56_3 : Int) < ((x696002_3.length : Int) : Int):=of_decide_eq_true (by first|(with_reducible assumption)|assumption)
             obtain ⟨go72,co72,eo72,gb72,gl72,cl72,HG72⟩:=Kd.R_form HO_696002.out (by omega)
             (first|cases eo72|(injection eo72 with ea_ en_ ec_;(first|subst ea_|(injection ea_ with ea_;subst ea_));subst ec_;clear en_))
             have GB72:=Aside0.mk gb72
             have GG72:=Aside0.mk HG72
             clear gb72 gl72 HG72
             (first|simp only [add_plain] at hx704_0|skip)
             obtain ⟨hx72_0,hf72_0⟩:=Kd.R_celln 0 HO_696002.out (x56_3 : Int) p72 q72
             replace p72:=eq_true p72
             replace q72:=eq_true q72
             have HP78:=Kd.R_putg HO_696002.out (x56_3 : Int) (IntKind.u16.wrap ((rd x696002_3 x56_3) + 1))
             go_wp2_with (first|((with_reducible refine gate_store (t:=53) (p:=65) rfl ?_);refine store_event (t:=53) (p:=65) (v:=?vo_w79) (w1:=(wr.setCell ⟨go72,(x56_3 : Int).toNat,none⟩ (.int .u16 (IntKind.u16.wrap ((rd x696002_3 x56_3) + 1))))) ?hg ?ho ?hn ?hr ?_;(case ho=>rfl);(case hg=>rfl);(case hn=>rfl);(case hr=>first|(go_simp;done)|(go_simp;rfl));intro w79 hw;have hg : wr.grownBy w79 (some go72):=(by rw [hw];exact HP78.2);have hp_ : Kd.R (Kd.int .u16) 53 w79 w.heap.size (fun k_=>some k_ ≠ (u689002 : Value).ownBlock ∧ some k_ ≠ (u703002 : Value).ownBlock) (.slice (some ⟨go72,0,none⟩) x696002_3.length co77) y705:=(by rw [hw,Ny705.out];exact HP78.1);clear HP78;have n0_:=Aside0.mk (Kd.R_after (v:=(.slice (some ⟨go72,0,none⟩) x696002_3.length co77)) (v1:=(.slice (some ⟨go72,0,none⟩) x696002_3.length co77)) (ok:=(fun k_=>some k_ ≠ (u703002 : Value).ownBlock)) (by (with_reducible repeat(first|apply Kd.R_alloc|apply Kd.R_drewN|apply Kd.R_drew));exact Kd.R_mono HO_689002.out (fun _ hk=>⟨hk.2,hk.1⟩)) hg (.inl rfl));have n1_:=Aside0.mk (hp_);have n2_:=Aside0.mk (Kd.R_after (v:=(.slice (some ⟨go72,0,none⟩) x696002_3.length co77)) (v1:=(.slice (some ⟨go72,0,none⟩) x696002_3.length co77)) (ok:=(fun k_=>some k_ ≠ (u689002 : Value).ownBlock)) (by (with_reducible repeat(first|apply Kd.R_alloc|apply Kd.R_drewN|apply Kd.R_drew));exact HO_703002.out) hg (.inl rfl));have n3_:=Aside0.mk (blk_grown (g:=gb679) (o:=.cells #[.int .i64 a0_0,.int .i64 a0_1,.slice A0_2 l0_2.length c0_2] 62 (0,0)) (by (with_reducible repeat(first|refine blk_drewN ?_ _|refine blk_drew ?_|refine blk_alloc ?_ _));exact BK679.out) hg (Kd.R_ne HO_696002.out BK679.out (by decide)));have n4_:=Aside0.mk (blk_grown (g:=gb688) (o:=.cells #[.int .i64 a0_0,.int .i64 a0_1,u689002] 62 (0,0)) (by (with_reducible repeat(first|refine blk_drewN ?_ _|refine blk_drew ?_|refine blk_alloc ?_ _));exact BK688.out) hg (Kd.R_ne HO_696002.out BK688.out (by decide)));have n5_:=Aside0.mk (blk_grown (g:=gb695) (o:=.cells #[.int .i64 t689,.int .i64 t690,.slice (some ⟨go72,0,none⟩) x696002_3.length co77] 62 (0,0)) (by (with_reducible repeat(first|refine blk_drewN ?_ _|refine blk_drew ?_|refine blk_alloc ?_ _));exact BK695.out) hg (Kd.R_ne HO_696002.out BK695.out (by decide)));have n6_:=Aside0.mk (blk_grown (g:=gb702) (o:=.cells #[.int .i64 t696,.int .i64 t697,u703002] 62 (0,0)) (by (with_reducible repeat(first|refine blk_drewN ?_ _|refine blk_drew ?_|refine blk_alloc ?_ _));exact BK702.out) hg (Kd.R_ne HO_696002.out BK702.out (by decide)));have n7_:=Aside0.mk ((by rw [hw];exact below_set (HB.out) GB72.out : Below w.heap.size w w79));clear HO_689002;clear HO_696002;clear HO_703002;clear BK679;clear BK688;clear BK695;clear BK702;clear HB;have HO_689002:=n0_;have HO_696002:=n1_;have HO_703002:=n2_;have BK679:=n3_;have BK688:=n4_;have BK695:=n5_;have BK702:=n6_;have HB:=n7_;clear n0_ n1_ n2_ n3_ n4_ n5_ n6_ n7_;clear hg hw hp_))
             go_roundg k3
             case measure=>have:=HJ3.out;have:=HJ17.out;have:=HK3.out;omega
             case rel=>exact ⟨(wrap64 (x56_3 + 1)),(x689002_3),(y705),(x703002_3),(u689002),(.slice (some ⟨go72,0,none⟩) x696002_3.length co77),(u703002),(by first|rfl|(simp;done)|(simp [*];done)),H',⟨by have:=HJ3.out;have:=HJ17.out;have:=HK3.out;omega⟩,⟨by (with_reducible repeat(first|apply Kd.R_alloc|apply Kd.R_drewN|apply Kd.R_drew));exact Kd.R_mono HO_689002.out (fun _ hk=>⟨hk.2,hk.1⟩)⟩,⟨by (with_reducible repeat(first|apply Kd.R_alloc|apply Kd.R_drewN|apply Kd.R_drew));exact HO_696002.out⟩,⟨by (with_reducible repeat(first|apply Kd.R_alloc|apply Kd.R_drewN|apply Kd.R_drew));exact HO_703002.out⟩,⟨by (with_reducible repeat(first|refine blk_drewN ?_ _|refine blk_drew ?_|refine blk_alloc ?_ _));exact BK679.out⟩,⟨by (with_reducible repeat(first|refine blk_drewN ?_ _|refine blk_drew ?_|refine blk_alloc ?_ _));exact BK688.out⟩,⟨by (with_reducible repeat(first|refine blk_drewN ?_ _|refine blk_drew ?_|refine blk_alloc ?_ _));exact BK695.out⟩,⟨by (with_reducible repeat(first|refine blk_drewN ?_ _|refine blk_drew ?_|refine blk_alloc ?_ _));exact BK702.out⟩,⟨by repeat(first|(with_reducible first|exact HB.out|apply below_alloc|apply pw_below_drewN|apply below_drew1|refine below_set ?_ GE679.out|refine below_set ?_ GE688.out|refine below_set ?_ GE695.out|refine below_set ?_ GE702.out)|exact HB.out)⟩⟩
            ·rw [if_neg c71] at H
             exact absurd H (by simp)
           ·rw [if_neg c70] at H
            exact absurd H (by simp)
          ·rw [if_neg c69] at H
           have c69b0 : decide (x56_3 < (t691.length : Int)) = false:=decide_eq_false c69
           clear c69
           replace H:=Option.bind_eq_some_iff.mp H
           obtain ⟨t706,A800,H⟩:=H
           replace H : (if t706 = true then ((hornbeamref11_Same.f k3 a0_0 a0_1 l0_2 a0_0 a0_1 x689002_3).bind fun t707=>(some t707)) else (some false)) = some r:=H
           have A80:=Aside0.mk A800
           clear A800
           by_cases c81 : t706 = true
           ·subst c81
            have H1 : ((hornbeamref11_Same.f k3 a0_0 a0_1 l0_2 a0_0 a0_1 x689002_3).bind fun t707=>(some t707)) = some r:=by rw [if_pos rfl] at H;exact H
            clear H
            have H:=H1
            clear H1
            replace H:=Option.bind_eq_some_iff.mp H
            obtain ⟨t707,A820,H⟩:=H
            replace H : (some t707) = some r:=H
            have A82:=Aside0.mk A820
            clear A820
            obtain rfl:=Option.some.inj H
            go_wp2_with (first|((with_reducible refine gate_callee (f:=25) rfl ?_);refine goesL_ (some 67) rfl rfl Try.func25 (by kernel_rfl) rfl #[] rfl (by (try simp only [List.map_toArray,List.map_cons,List.map_nil]);first|done|rfl|(simp only [List.length_drop,List.length_take];rfl)) ?_;(with_reducible refine (hornbeamlaw11_fixed.calls k3  true _ A80.out).mono ?_);rintro e w83 ⟨rfl,hb⟩;refine ⟨_,rfl,?_⟩;have n0_:=Aside0.mk (Kd.R_below (by (with_reducible repeat(first|apply Kd.R_alloc|apply Kd.R_drewN|apply Kd.R_drew));exact HO_689002.out) hb);have n1_:=Aside0.mk (Kd.R_below (by (with_reducible repeat(first|apply Kd.R_alloc|apply Kd.R_drewN|apply Kd.R_drew));exact HO_696002.out) hb);have n2_:=Aside0.mk (Kd.R_below (by (with_reducible repeat(first|apply Kd.R_alloc|apply Kd.R_drewN|apply Kd.R_drew));exact HO_703002.out) hb);have n3_:=Aside0.mk (blk_below (g:=gb679) (o:=.cells #[.int .i64 a0_0,.int .i64 a0_1,.slice A0_2 l0_2.length c0_2] 62 (0,0)) (by (with_reducible repeat(first|refine blk_drewN ?_ _|refine blk_drew ?_|refine blk_alloc ?_ _));exact BK679.out) hb);have n4_:=Aside0.mk (blk_below (g:=gb688) (o:=.cells #[.int .i64 a0_0,.int .i64 a0_1,u689002] 62 (0,0)) (by (with_reducible repeat(first|refine blk_drewN ?_ _|refine blk_drew ?_|refine blk_alloc ?_ _));exact BK688.out) hb);have n5_:=Aside0.mk (blk_below (g:=gb695) (o:=.cells #[.int .i64 t689,.int .i64 t690,u696002] 62 (0,0)) (by (with_reducible repeat(first|refine blk_drewN ?_ _|refine blk_drew ?_|refine blk_alloc ?_ _));exact BK695.out) hb);have n6_:=Aside0.mk (blk_below (g:=gb702) (o:=.cells #[.int .i64 t696,.int .i64 t697,u703002] 62 (0,0)) (by (with_reducible repeat(first|refine blk_drewN ?_ _|refine blk_drew ?_|refine blk_alloc ?_ _));exact BK702.out) hb);have n7_:=Aside0.mk (below_step (by repeat(first|(with_reducible first|exact HB.out|apply below_alloc|apply pw_below_drewN|apply below_drew1|refine below_set ?_ GE679.out|refine below_set ?_ GE688.out|refine below_set ?_ GE695.out|refine below_set ?_ GE702.out)|exact HB.out)) hb);clear HO_689002;clear HO_696002;clear HO_703002;clear BK679;clear BK688;clear BK695;clear BK702;clear HB;have HO_689002:=n0_;have HO_696002:=n1_;have HO_703002:=n2_;have BK679:=n3_;have BK688:=n4_;have BK695:=n5_;have BK702:=n6_;have HB:=n7_;clear n0_ n1_ n2_ n3_ n4_ n5_ n6_ n7_;(try clear hb);(try clear hb2);(try clear hk);(try clear hi);have hnb84:=NB679_688.out;have hnc84:=NB688_679.out;have hnb85:=NB679_695.out;have hnc85:=NB695_679.out;have hnb86:=NB679_702.out;have hnc86:=NB702_679.out;have hcz87_0 : w83.cell? ⟨gb679,0,none⟩ = some (.int .i64 a0_0):=(blk_cell BK679.out 0).trans rfl;have hcz87_1 : w83.cell? ⟨gb679,1,none⟩ = some (.int .i64 a0_1):=(blk_cell BK679.out 1).trans rfl;have hcz87_2 : w83.cell? ⟨gb679,2,none⟩ = some (.slice A0_2 l0_2.length c0_2):=(blk_cell BK679.out 2).trans rfl;have hfz87_0:=blk_frozen BK679.out 0;have hfz87_1:=blk_frozen BK679.out 1;have hfz87_2:=blk_frozen BK679.out 2;have hnb88:=NB688_695.out;have hnc88:=NB695_688.out;have hnb89:=NB688_702.out;have hnc89:=NB702_688.out;have hcz90_0 : w83.cell? ⟨gb688,0,none⟩ = some (.int .i64 a0_0):=(blk_cell BK688.out 0).trans rfl;have hcz90_1 : w83.cell? ⟨gb688,1,none⟩ = some (.int .i64 a0_1):=(blk_cell BK688.out 1).trans rfl;have hcz90_2 : w83.cell? ⟨gb688,2,none⟩ = some (u689002):=(blk_cell BK688.out 2).trans rfl;have hfz90_0:=blk_frozen BK688.out 0;have hfz90_1:=blk_frozen BK688.out 1;have hfz90_2:=blk_frozen BK688.out 2;obtain ⟨Ao91,co91,eo91⟩:=Kd.R_slice HO_689002.out;subst eo91)|(go_at_call 31;(with_reducible refine (hornbeamref11_Same.calls k3 a0_0 a0_1 _ _ l0_2 a0_0 a0_1 _ _ x689002_3 t707 _ ?side1 ?side2 ?side3 ?side4 A82.out).mono ?_);(case side1=>repeat(first|exact (Kd.C_below HR0_2.out HB.out)|(with_reducible refine Kd.C_alloc ?_ _)|(with_reducible refine Kd.C_drewN ?_ _)|(with_reducible refine Kd.C_drew ?_)));(case side2=>exact HC0_2.out);(case side3=>repeat(first|exact (Kd.R_reads' HO_689002.out).2.2|(with_reducible refine Kd.C_alloc ?_ _)|(with_reducible refine Kd.C_drewN ?_ _)|(with_reducible refine Kd.C_drew ?_)));(case side4=>exact (Kd.R_reads' HO_689002.out).2.1);rintro e w92 ⟨rfl,hb⟩;have n0_:=Aside0.mk (Kd.R_below (by (with_reducible repeat(first|apply Kd.R_alloc|apply Kd.R_drewN|apply Kd.R_drew));exact HO_689002.out) hb);have n1_:=Aside0.mk (Kd.R_below (by (with_reducible repeat(first|apply Kd.R_alloc|apply Kd.R_drewN|apply Kd.R_drew));exact HO_696002.out) hb);have n2_:=Aside0.mk (Kd.R_below (by (with_reducible repeat(first|apply Kd.R_alloc|apply Kd.R_drewN|apply Kd.R_drew));exact HO_703002.out) hb);have n3_:=Aside0.mk (blk_below (g:=gb679) (o:=.cells #[.int .i64 a0_0,.int .i64 a0_1,.slice A0_2 l0_2.length c0_2] 62 (0,0)) (by (with_reducible repeat(first|refine blk_drewN ?_ _|refine blk_drew ?_|refine blk_alloc ?_ _));exact BK679.out) hb);have n4_:=Aside0.mk (blk_below (g:=gb688) (o:=.cells #[.int .i64 a0_0,.int .i64 a0_1,.slice Ao91 x689002_3.length co91] 62 (0,0)) (by (with_reducible repeat(first|refine blk_drewN ?_ _|refine blk_drew ?_|refine blk_alloc ?_ _));exact BK688.out) hb);have n5_:=Aside0.mk (blk_below (g:=gb695) (o:=.cells #[.int .i64 t689,.int .i64 t690,u696002] 62 (0,0)) (by (with_reducible repeat(first|refine blk_drewN ?_ _|refine blk_drew ?_|refine blk_alloc ?_ _));exact BK695.out) hb);have n6_:=Aside0.mk (blk_below (g:=gb702) (o:=.cells #[.int .i64 t696,.int .i64 t697,u703002] 62 (0,0)) (by (with_reducible repeat(first|refine blk_drewN ?_ _|refine blk_drew ?_|refine blk_alloc ?_ _));exact BK702.out) hb);have n7_:=Aside0.mk (below_step (by repeat(first|(with_reducible first|exact HB.out|apply below_alloc|apply pw_below_drewN|apply below_drew1|refine below_set ?_ GE679.out|refine below_set ?_ GE688.out|refine below_set ?_ GE695.out|refine below_set ?_ GE702.out)|exact HB.out)) hb);clear HO_689002;clear HO_696002;clear HO_703002;clear BK679;clear BK688;clear BK695;clear BK702;clear HB;have HO_689002:=n0_;have HO_696002:=n1_;have HO_703002:=n2_;have BK679:=n3_;have BK688:=n4_;have BK695:=n5_;have BK702:=n6_;have HB:=n7_;clear n0_ n1_ n2_ n3_ n4_ n5_ n6_ n7_;(try clear hb);(try clear hb2);(try clear hk);(try clear hi)))
            go_ret
            exact ⟨by first|rfl|(simp [errW_none,errW_some] <;> rfl)|(simp [*,errW_none,errW_some] <;> rfl),by repeat(first|(with_reducible first|exact HB.out|apply below_alloc|apply pw_below_drewN|apply below_drew1|refine below_set ?_ GE679.out|refine below_set ?_ GE688.out|refine below_set ?_ GE695.out|refine below_set ?_ GE702.out)|exact HB.out)⟩
           ·replace c81:=Bool.eq_false_iff.mpr c81
            subst c81
            have H1 : (some false) = some r:=by rw [if_neg (show ¬ (false = true) by decide)] at H;exact H
            clear H
            have H:=H1
            clear H1
            obtain rfl:=Option.some.inj H
            go_wp2_with (first|((with_reducible refine gate_callee (f:=25) rfl ?_);refine goesL_ (some 67) rfl rfl Try.func25 (by kernel_rfl) rfl #[] rfl (by (try simp only [List.map_toArray,List.map_cons,List.map_nil]);first|done|rfl|(simp only [List.length_drop,List.length_take];rfl)) ?_;(with_reducible refine (hornbeamlaw11_fixed.calls k3  false _ A80.out).mono ?_);rintro e w93 ⟨rfl,hb⟩;refine ⟨_,rfl,?_⟩;have n0_:=Aside0.mk (Kd.R_below (by (with_reducible repeat(first|apply Kd.R_alloc|apply Kd.R_drewN|apply Kd.R_drew));exact HO_689002.out) hb);have n1_:=Aside0.mk (Kd.R_below (by (with_reducible repeat(first|apply Kd.R_alloc|apply Kd.R_drewN|apply Kd.R_drew));exact HO_696002.out) hb);have n2_:=Aside0.mk (Kd.R_below (by (with_reducible repeat(first|apply Kd.R_alloc|apply Kd.R_drewN|apply Kd.R_drew));exact HO_703002.out) hb);have n3_:=Aside0.mk (blk_below (g:=gb679) (o:=.cells #[.int .i64 a0_0,.int .i64 a0_1,.slice A0_2 l0_2.length c0_2] 62 (0,0)) (by (with_reducible repeat(first|refine blk_drewN ?_ _|refine blk_drew ?_|refine blk_alloc ?_ _));exact BK679.out) hb);have n4_:=Aside0.mk (blk_below (g:=gb688) (o:=.cells #[.int .i64 a0_0,.int .i64 a0_1,u689002] 62 (0,0)) (by (with_reducible repeat(first|refine blk_drewN ?_ _|refine blk_drew ?_|refine blk_alloc ?_ _));exact BK688.out) hb);have n5_:=Aside0.mk (blk_below (g:=gb695) (o:=.cells #[.int .i64 t689,.int .i64 t690,u696002] 62 (0,0)) (by (with_reducible repeat(first|refine blk_drewN ?_ _|refine blk_drew ?_|refine blk_alloc ?_ _));exact BK695.out) hb);have n6_:=Aside0.mk (blk_below (g:=gb702) (o:=.cells #[.int .i64 t696,.int .i64 t697,u703002] 62 (0,0)) (by (with_reducible repeat(first|refine blk_drewN ?_ _|refine blk_drew ?_|refine blk_alloc ?_ _));exact BK702.out) hb);have n7_:=Aside0.mk (below_step (by repeat(first|(with_reducible first|exact HB.out|apply below_alloc|apply pw_below_drewN|apply below_drew1|refine below_set ?_ GE679.out|refine below_set ?_ GE688.out|refine below_set ?_ GE695.out|refine below_set ?_ GE702.out)|exact HB.out)) hb);clear HO_689002;clear HO_696002;clear HO_703002;clear BK679;clear BK688;clear BK695;clear BK702;clear HB;have HO_689002:=n0_;have HO_696002:=n1_;have HO_703002:=n2_;have BK679:=n3_;have BK688:=n4_;have BK695:=n5_;have BK702:=n6_;have HB:=n7_;clear n0_ n1_ n2_ n3_ n4_ n5_ n6_ n7_;(try clear hb);(try clear hb2);(try clear hk);(try clear hi)))
            go_ret
            exact ⟨by first|rfl|(simp [errW_none,errW_some] <;> rfl)|(simp [*,errW_none,errW_some] <;> rfl),by repeat(first|(with_reducible first|exact HB.out|apply below_alloc|apply pw_below_drewN|apply below_drew1|refine below_set ?_ GE679.out|refine below_set ?_ GE688.out|refine below_set ?_ GE695.out|refine below_set ?_ GE702.out)|exact HB.out)⟩
    ·rw [if_neg c15] at H
     exact absurd H (by simp)

/-- What is left to prove of hornbeamlaw11_BinsTurns. -/
def hornbeamlaw11_BinsTurns.Pure : Prop:=∀ (a0_0 : Int) (a0_1 : Int) (l0_2 : List Int) (a1 : Int) (l2 : List Int),((((Lit.int .i64 a0_0).wf = true) ∧ (((Lit.int .i64 a0_1).wf = true) ∧ ((l0_2.length ≤ 9223372036854775807 ∧ l0_2.length * 2 ≤ 140737488351232 ∧ ∀ x ∈ l0_2,(Lit.int .u16 x).wf = true))))) → ((Lit.int .i64 a1).wf = true) → ((l2.length ≤ 9223372036854775807 ∧ l2.length * 8 ≤ 140737488351232 ∧ ∀ x ∈ l2,(Lit.int .i64 x).wf = true)) → ∃ k,hornbeamlaw11_BinsTurns.f k a0_0 a0_1 l0_2 a1 l2 = some true

end Go.Proofs.Ytnagfbadjbkhmaa.PA
