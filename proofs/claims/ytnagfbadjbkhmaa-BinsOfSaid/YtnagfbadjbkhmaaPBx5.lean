import Derived.Test.YtnagfbadjbkhmaaPBx0
import Derived.Test.YtnagfbadjbkhmaaPBx2
import Derived.Test.YtnagfbadjbkhmaaPBx4
namespace Go.Proofs.Ytnagfbadjbkhmaa.PB
open Go.RowKit Go.Proofs.YtnagfbadjbkhmaaW.PrintWords Go.Proofs.YtnagfbadjbkhmaaW.PrintLast Go.Proofs.YtnagfbadjbkhmaaW.PrintMore
attribute [local go_sem] max2_int min2_int max_two min_two max_three min_three max_four min_four   -- for this text's walks alone
attribute [local go_sem high] Flt.fold_eq Flt.fold_ne Flt.fold_lt Flt.fold_gt Flt.fold_le Flt.fold_ge Flt.run_bits Flt.run_frombits
set_option linter.unusedVariables false
set_option linter.unusedSimpArgs false

/-! ### bins_Of: function 29 -/
mutual
def bins_Of.j0 : Nat → List (List Nat) → Bool → Int → Int → Int → Int → Int → Int → Int → Int → Int → List Nat → List Int → Option (Int × Int × List Int × Int)
 | 0,_,_,_,_,_,_,_,_,_,_,_,_,_=>none
 | k + 1,x1,x20,x164000,x164001,x164002,x164003,x164004,x164005,x164006,x164007,x164008,x164009,x164010=>if x20 = true then (some (0,0,([] : List Int),8)) else (bins_Of.l0 k x1 (x1.length : Int) 0 x164000 x164001 x164002 x164003 x164004 x164005 x164006 x164007 x164008 x164009 x164010 x164007 x164008 ([] : List Int))
def bins_Of.l0 : Nat → List (List Nat) → Int → Int → Int → Int → Int → Int → Int → Int → Int → Int → Int → List Nat → List Int → Int → Int → List Int → Option (Int × Int × List Int × Int)
 | 0,_,_,_,_,_,_,_,_,_,_,_,_,_,_,_,_,_=>none
 | k + 1,x27,x28,x29,x164000,x164001,x164002,x164003,x164004,x164005,x164006,x164007,x164008,x164009,x164010,x167000,x167001,x167002=>if x29 < x28 then (if 0 ≤ x29 then (if x29 < (x27.length : Int) then (if 0 ≤ (wrap64 (x29 * x164007)) then (if (wrap64 (x29 * x164007)) ≤ (wrap64 ((wrap64 (x29 + 1)) * x164007)) then (if (wrap64 ((wrap64 (x29 + 1)) * x164007)) ≤ (x164009.length : Int) then (bins_Of.l1 k (rd_L7 x27 x29) x27 x28 x29 ((x164009.take ((wrap64 ((wrap64 (x29 + 1)) * x164007)) : Int).toNat).drop ((wrap64 (x29 * x164007)) : Int).toNat) (((x164009.take ((wrap64 ((wrap64 (x29 + 1)) * x164007)) : Int).toNat).drop ((wrap64 (x29 * x164007)) : Int).toNat).length : Int) 0 x164000 x164001 x164002 x164003 x164004 x164005 x164006 x164007 x164008 x164009 x164010 x167000 x167001 x167002) else (none)) else (none)) else (none)) else (none)) else (none)) else (some (x167000,x167001,x167002,0))
def bins_Of.l1 : Nat → List Nat → List (List Nat) → Int → Int → List Nat → Int → Int → Int → Int → Int → Int → Int → Int → Int → Int → Int → List Nat → List Int → Int → Int → List Int → Option (Int × Int × List Int × Int)
 | 0,_,_,_,_,_,_,_,_,_,_,_,_,_,_,_,_,_,_,_,_,_=>none
 | k + 1,x8,x27,x28,x29,x45,x46,x47,x164000,x164001,x164002,x164003,x164004,x164005,x164006,x164007,x164008,x164009,x164010,x167000,x167001,x167002=>if x47 < x46 then (if 0 ≤ x47 then (if x47 < (x45.length : Int) then ((edges_Bin.f k x8 (rdOf (0 : Nat) x45 x47)).bind fun t170=>(if x167002.length < 70368744177664 then (bins_Of.l1 k x8 x27 x28 x29 x45 x46 (wrap64 (x47 + 1)) x164000 x164001 x164002 x164003 x164004 x164005 x164006 x164007 x164008 x164009 x164010 x167000 x167001 (x167002 ++ [IntKind.u16.wrap (mn t170 65535)])) else (none))) else (none)) else (none)) else (bins_Of.l0 k x27 x28 (wrap64 (x29 + 1)) x164000 x164001 x164002 x164003 x164004 x164005 x164006 x164007 x164008 x164009 x164010 x167000 x167001 x167002)
end
def bins_Of.f (k : Nat) (a0_0 : Int) (a0_1 : Int) (a0_2 : Int) (a0_3 : Int) (a0_4 : Int) (a0_5 : Int) (a0_6 : Int) (a0_7 : Int) (a0_8 : Int) (l0_9 : List Nat) (l0_10 : List Int) (l1 : List (List Nat)) : Option (Int × Int × List Int × Int):=(bins_shaped.f a0_0 a0_1 a0_2 a0_3 a0_4 a0_5 a0_6 a0_7 a0_8 l0_9 l0_10).bind fun t165=>(if t165 = true then (bins_Of.j0 k l1 ((l1.length : Int) != a0_8) a0_0 a0_1 a0_2 a0_3 a0_4 a0_5 a0_6 a0_7 a0_8 l0_9 l0_10) else (bins_Of.j0 k l1 true a0_0 a0_1 a0_2 a0_3 a0_4 a0_5 a0_6 a0_7 a0_8 l0_9 l0_10))
theorem bins_Of.mono_l : ∀ k,(∀ y0 y1 y2 y3 y4 y5 y6 y7 y8 y9 y10 y11 y12,LeO (bins_Of.j0 k y0 y1 y2 y3 y4 y5 y6 y7 y8 y9 y10 y11 y12) (bins_Of.j0 (k + 1) y0 y1 y2 y3 y4 y5 y6 y7 y8 y9 y10 y11 y12)) ∧ (∀ y0 y1 y2 y3 y4 y5 y6 y7 y8 y9 y10 y11 y12 y13 y14 y15 y16,LeO (bins_Of.l0 k y0 y1 y2 y3 y4 y5 y6 y7 y8 y9 y10 y11 y12 y13 y14 y15 y16) (bins_Of.l0 (k + 1) y0 y1 y2 y3 y4 y5 y6 y7 y8 y9 y10 y11 y12 y13 y14 y15 y16)) ∧ (∀ y0 y1 y2 y3 y4 y5 y6 y7 y8 y9 y10 y11 y12 y13 y14 y15 y16 y17 y18 y19 y20,LeO (bins_Of.l1 k y0 y1 y2 y3 y4 y5 y6 y7 y8 y9 y10 y11 y12 y13 y14 y15 y16 y17 y18 y19 y20) (bins_Of.l1 (k + 1) y0 y1 y2 y3 y4 y5 y6 y7 y8 y9 y10 y11 y12 y13 y14 y15 y16 y17 y18 y19 y20))
 | 0=>⟨fun _ _ _ _ _ _ _ _ _ _ _ _ _ r h=>by simp [bins_Of.j0] at h,fun _ _ _ _ _ _ _ _ _ _ _ _ _ _ _ _ _ r h=>by simp [bins_Of.l0] at h,fun _ _ _ _ _ _ _ _ _ _ _ _ _ _ _ _ _ _ _ _ _ r h=>by simp [bins_Of.l1] at h⟩
 | k + 1=>by
  obtain ⟨ih0,ih1,ih2⟩:=bins_Of.mono_l k
  refine ⟨?_,?_,?_⟩
  ·intro y0 y1 y2 y3 y4 y5 y6 y7 y8 y9 y10 y11 y12
   unfold bins_Of.j0
   repeat' first
   | (with_reducible exact ih0 _ _ _ _ _ _ _ _ _ _ _ _ _)
   | (with_reducible exact ih1 _ _ _ _ _ _ _ _ _ _ _ _ _ _ _ _ _)
   | (with_reducible exact ih2 _ _ _ _ _ _ _ _ _ _ _ _ _ _ _ _ _ _ _ _ _)
   | (with_reducible exact edges_Bin.mono _ _ _)
   | (with_reducible exact LeO.refl _)
   | (with_reducible exact LeO.none _)
   | (with_reducible refine LeO.ite ?_ ?_)
   | (with_reducible refine LeO.bind ?_ (fun _=>?_))
   | exact ih0 _ _ _ _ _ _ _ _ _ _ _ _ _
   | exact ih1 _ _ _ _ _ _ _ _ _ _ _ _ _ _ _ _ _
   | exact ih2 _ _ _ _ _ _ _ _ _ _ _ _ _ _ _ _ _ _ _ _ _
   | exact edges_Bin.mono _ _ _
   | exact LeO.none _
   | refine LeO.ite ?_ ?_
   | refine LeO.bind ?_ (fun _=>?_)
  ·intro y0 y1 y2 y3 y4 y5 y6 y7 y8 y9 y10 y11 y12 y13 y14 y15 y16
   unfold bins_Of.l0
   repeat' first
   | (with_reducible exact ih0 _ _ _ _ _ _ _ _ _ _ _ _ _)
   | (with_reducible exact ih1 _ _ _ _ _ _ _ _ _ _ _ _ _ _ _ _ _)
   | (with_reducible exact ih2 _ _ _ _ _ _ _ _ _ _ _ _ _ _ _ _ _ _ _ _ _)
   | (with_reducible exact edges_Bin.mono _ _ _)
   | (with_reducible exact LeO.refl _)
   | (with_reducible exact LeO.none _)
   | (with_reducible refine LeO.ite ?_ ?_)
   | (with_reducible refine LeO.bind ?_ (fun _=>?_))
   | exact ih0 _ _ _ _ _ _ _ _ _ _ _ _ _
   | exact ih1 _ _ _ _ _ _ _ _ _ _ _ _ _ _ _ _ _
   | exact ih2 _ _ _ _ _ _ _ _ _ _ _ _ _ _ _ _ _ _ _ _ _
   | exact edges_Bin.mono _ _ _
   | exact LeO.none _
   | refine LeO.ite ?_ ?_
   | refine LeO.bind ?_ (fun _=>?_)
  ·intro y0 y1 y2 y3 y4 y5 y6 y7 y8 y9 y10 y11 y12 y13 y14 y15 y16 y17 y18 y19 y20
   unfold bins_Of.l1
   repeat' first
   | (with_reducible exact ih0 _ _ _ _ _ _ _ _ _ _ _ _ _)
   | (with_reducible exact ih1 _ _ _ _ _ _ _ _ _ _ _ _ _ _ _ _ _)
   | (with_reducible exact ih2 _ _ _ _ _ _ _ _ _ _ _ _ _ _ _ _ _ _ _ _ _)
   | (with_reducible exact edges_Bin.mono _ _ _)
   | (with_reducible exact LeO.refl _)
   | (with_reducible exact LeO.none _)
   | (with_reducible refine LeO.ite ?_ ?_)
   | (with_reducible refine LeO.bind ?_ (fun _=>?_))
   | exact ih0 _ _ _ _ _ _ _ _ _ _ _ _ _
   | exact ih1 _ _ _ _ _ _ _ _ _ _ _ _ _ _ _ _ _
   | exact ih2 _ _ _ _ _ _ _ _ _ _ _ _ _ _ _ _ _ _ _ _ _
   | exact edges_Bin.mono _ _ _
   | exact LeO.none _
   | refine LeO.ite ?_ ?_
   | refine LeO.bind ?_ (fun _=>?_)
theorem bins_Of.mono : ∀ a0 a1 a2 a3 a4 a5 a6 a7 a8 a9 a10 a11 k,LeO (bins_Of.f k a0 a1 a2 a3 a4 a5 a6 a7 a8 a9 a10 a11) (bins_Of.f (k + 1) a0 a1 a2 a3 a4 a5 a6 a7 a8 a9 a10 a11):=by
 intro a0 a1 a2 a3 a4 a5 a6 a7 a8 a9 a10 a11 k
 obtain ⟨ih0,ih1,ih2⟩:=bins_Of.mono_l k
 unfold bins_Of.f
 repeat' first
   | (with_reducible exact ih0 _ _ _ _ _ _ _ _ _ _ _ _ _)
   | (with_reducible exact ih1 _ _ _ _ _ _ _ _ _ _ _ _ _ _ _ _ _)
   | (with_reducible exact ih2 _ _ _ _ _ _ _ _ _ _ _ _ _ _ _ _ _ _ _ _ _)
   | (with_reducible exact edges_Bin.mono _ _ _)
   | (with_reducible exact LeO.refl _)
   | (with_reducible exact LeO.none _)
   | (with_reducible refine LeO.ite ?_ ?_)
   | (with_reducible refine LeO.bind ?_ (fun _=>?_))
   | exact ih0 _ _ _ _ _ _ _ _ _ _ _ _ _
   | exact ih1 _ _ _ _ _ _ _ _ _ _ _ _ _ _ _ _ _
   | exact ih2 _ _ _ _ _ _ _ _ _ _ _ _ _ _ _ _ _ _ _ _ _
   | exact edges_Bin.mono _ _ _
   | exact LeO.none _
   | refine LeO.ite ?_ ?_
   | refine LeO.bind ?_ (fun _=>?_)
def bins_Of.T10 : Bool × List (List Nat × List Nat):=(true,[([],[]),([0],[0]),([],[]),([],[]),([2,3],[2,3]),([4],[4]),([5],[5]),([6],[6]),([1,7,4],[1,7]),([0,1,2,3,4,5,6,7,8],[]),([9,8,8,0,1,2,3,4,5,6,7,8],[8,9])])
def bins_Of.B10 : List Nat:=[0,1,0,0,12,28,60,124,255,511,1023]
theorem bins_Of.tab10 : rtab .any (opsOf Try.f29 10) = bins_Of.T10:=by kernel_rfl
theorem bins_Of.bits10 : waitsOk bins_Of.T10.2 bins_Of.B10 = true:=by kernel_rfl
set_option maxHeartbeats 8000000 in
set_option maxRecDepth 100000 in
theorem bins_Of.calls (k : Nat) (a0_0 : Int) (a0_1 : Int) (a0_2 : Int) (a0_3 : Int) (a0_4 : Int) (a0_5 : Int) (a0_6 : Int) (a0_7 : Int) (a0_8 : Int) (A0_9 : Option Addr) (c0_9 : Nat) (l0_9 : List Nat) (A0_10 : Option Addr) (c0_10 : Nat) (l0_10 : List Int) (A1 : Option Addr) (c1 : Nat) (l1 : List (List Nat)) (r1 : Int) (r2 : Int) (r3 : List Int) (r4 : Int) (w : World) (hr0_9 : Kd.C Flt.kf w A0_9 l0_9.length l0_9) (hc0_9 : l0_9.length ≤ c0_9) (hr0_10 : Kd.C (Kd.int .i64) w A0_10 l0_10.length l0_10) (hc0_10 : l0_10.length ≤ c0_10) (hr1 : Kd.C (Kd.slice 36 Flt.kf) w A1 l1.length l1) (hc1 : l1.length ≤ c1) (h : bins_Of.f k a0_0 a0_1 a0_2 a0_3 a0_4 a0_5 a0_6 a0_7 a0_8 l0_9 l0_10 l1 = some (r1,r2,r3,r4)) :
  Calls Try.prog 29 #[.agg #[.int .i64 a0_0,.int .i64 a0_1,.int .i64 a0_2,.int .i64 a0_3,.int .i64 a0_4,.int .i64 a0_5,.int .i64 a0_6,.int .i64 a0_7,.int .i64 a0_8,.slice A0_9 l0_9.length c0_9,.slice A0_10 l0_10.length c0_10],.slice A1 l1.length c1] w fun e w'=>∃ v2_ : Value,e = .returned (.tuple #[.agg #[.int .i64 r1,.int .i64 r2,v2_],.int .i64 r4]) ∧ Kd.R (Kd.int .u16) 53 w' w.heap.size (fun _=>True) v2_ r3 ∧ Below w.heap.size w w':=by
 have hu32:=Try.underlying32
 have hu62:=Try.underlying62
 have HR0_9:=Aside0.mk hr0_9
 have HC0_9:=Aside0.mk hc0_9
 clear hr0_9 hc0_9
 have HR0_10:=Aside0.mk hr0_10
 have HC0_10:=Aside0.mk hc0_10
 clear hr0_10 hc0_10
 have HR1:=Aside0.mk hr1
 have HC1:=Aside0.mk hc1
 clear hr1 hc1
 have HB:=Aside0.mk (Below.refl w.heap.size w)
 have H : ((bins_shaped.f a0_0 a0_1 a0_2 a0_3 a0_4 a0_5 a0_6 a0_7 a0_8 l0_9 l0_10).bind fun t165=>(if t165 = true then (bins_Of.j0 k l1 ((l1.length : Int) != a0_8) a0_0 a0_1 a0_2 a0_3 a0_4 a0_5 a0_6 a0_7 a0_8 l0_9 l0_10) else (bins_Of.j0 k l1 true a0_0 a0_1 a0_2 a0_3 a0_4 a0_5 a0_6 a0_7 a0_8 l0_9 l0_10))) = some (r1,r2,r3,r4):=h
 clear h
 have HC3:=Aside0.mk H
 clear H
 go_enter Try.func29,Try.ntmps29
 go_upto_region 1 with (first|((with_reducible refine gate_dst (N:=2) rfl ?_);refine box_event ?hg (N:=2) ?hd (cs:=#[.int .i64 a0_0,.int .i64 a0_1,.int .i64 a0_2,.int .i64 a0_3,.int .i64 a0_4,.int .i64 a0_5,.int .i64 a0_6,.int .i64 a0_7,.int .i64 a0_8,.slice A0_9 l0_9.length c0_9,.slice A0_10 l0_10.length c0_10]) (t:=32) ?hr ?_;(case hd=>rfl);(case hg=>rfl);(case hr=>first|(go_simp;done)|(go_simp;rfl));intro gb163 hg w4 hbox hb;have n0_:=Aside0.mk (below_step (by repeat(first|(with_reducible first|exact HB.out|apply below_alloc|apply pw_below_drewN|apply below_drew1)|exact HB.out)) hb);have n1_:=Aside0.mk (hbox);have n2_:=Aside0.mk ((by rw [hg];exact (below_size (by repeat(first|(with_reducible first|exact HB.out|apply below_alloc|apply pw_below_drewN|apply below_drew1)|exact HB.out))) : w.heap.size ≤ gb163));have n3_:=Aside0.mk ((by rw [hg];exact (below_size (by repeat(first|(with_reducible first|exact HB.out|apply below_alloc|apply pw_below_drewN|apply below_drew1)|exact HB.out))) : w.heap.size ≤ gb163));clear HB;have HB:=n0_;have BK163:=n1_;have GW163:=n2_;have GE163:=n3_;clear n0_ n1_ n2_ n3_;clear hb hbox hg)|((with_reducible refine gate_dst (N:=4) rfl ?_);refine box_event ?hg (N:=4) ?hd (cs:=#[.int .i64 0,.int .i64 0,.slice none 0 0]) (t:=62) ?hr ?_;(case hd=>rfl);(case hg=>rfl);(case hr=>first|(go_simp;done)|(go_simp;rfl));intro gb164 hg w5 hbox hb;have n0_:=Aside0.mk (blk_below (g:=gb163) (o:=.cells #[.int .i64 a0_0,.int .i64 a0_1,.int .i64 a0_2,.int .i64 a0_3,.int .i64 a0_4,.int .i64 a0_5,.int .i64 a0_6,.int .i64 a0_7,.int .i64 a0_8,.slice A0_9 l0_9.length c0_9,.slice A0_10 l0_10.length c0_10] 32 (0,0)) (by (with_reducible repeat(first|refine blk_drewN ?_ _|refine blk_drew ?_|refine blk_alloc ?_ _));exact BK163.out) hb);have n1_:=Aside0.mk (below_step (by repeat(first|(with_reducible first|exact HB.out|apply below_alloc|apply pw_below_drewN|apply below_drew1|refine below_set ?_ GE163.out)|exact HB.out)) hb);have n2_:=Aside0.mk (hbox);have n3_:=Aside0.mk ((by rw [hg];exact (below_size (by repeat(first|(with_reducible first|exact HB.out|apply below_alloc|apply pw_below_drewN|apply below_drew1|refine below_set ?_ GE163.out)|exact HB.out))) : w.heap.size ≤ gb164));have n4_:=Aside0.mk ((by rw [hg];exact (below_size (by repeat(first|(with_reducible first|exact HB.out|apply below_alloc|apply pw_below_drewN|apply below_drew1|refine below_set ?_ GE163.out)|exact HB.out))) : w.heap.size ≤ gb164));have n5_:=Aside0.mk ((by rw [hg];exact Nat.ne_of_lt (blk_lt (g:=gb163) (o:=.cells #[.int .i64 a0_0,.int .i64 a0_1,.int .i64 a0_2,.int .i64 a0_3,.int .i64 a0_4,.int .i64 a0_5,.int .i64 a0_6,.int .i64 a0_7,.int .i64 a0_8,.slice A0_9 l0_9.length c0_9,.slice A0_10 l0_10.length c0_10] 32 (0,0)) (by (with_reducible repeat(first|refine blk_drewN ?_ _|refine blk_drew ?_|refine blk_alloc ?_ _));exact BK163.out)) : gb163 ≠ gb164));have n6_:=Aside0.mk ((by rw [hg];exact Nat.ne_of_gt (blk_lt (g:=gb163) (o:=.cells #[.int .i64 a0_0,.int .i64 a0_1,.int .i64 a0_2,.int .i64 a0_3,.int .i64 a0_4,.int .i64 a0_5,.int .i64 a0_6,.int .i64 a0_7,.int .i64 a0_8,.slice A0_9 l0_9.length c0_9,.slice A0_10 l0_10.length c0_10] 32 (0,0)) (by (with_reducible repeat(first|refine blk_drewN ?_ _|refine blk_drew ?_|refine blk_alloc ?_ _));exact BK163.out)) : gb164 ≠ gb163));clear BK163;clear HB;have BK163:=n0_;have HB:=n1_;have BK164:=n2_;have GW164:=n3_;have GE164:=n4_;have NB163_164:=n5_;have NB164_163:=n6_;clear n0_ n1_ n2_ n3_ n4_ n5_ n6_;clear hb hbox hg))
 (try simp only [Act.put,List.setIfInBounds_toArray,List.set_cons_zero,List.set_cons_succ])
 go_cut [20] (fun v20 wc=>∃ (kq : Nat) (x20_2 : Bool),v20 = .bool x20_2 ∧ Aside0 (bins_Of.j0 kq l1 x20_2 a0_0 a0_1 a0_2 a0_3 a0_4 a0_5 a0_6 a0_7 a0_8 l0_9 l0_10 = some (r1,r2,r3,r4)) ∧ Aside0 (kq ≤ k) ∧ Aside0 (wc.heap[gb163]? = some (.cells #[.int .i64 a0_0,.int .i64 a0_1,.int .i64 a0_2,.int .i64 a0_3,.int .i64 a0_4,.int .i64 a0_5,.int .i64 a0_6,.int .i64 a0_7,.int .i64 a0_8,(.slice A0_9 l0_9.length c0_9),(.slice A0_10 l0_10.length c0_10)] 32 (0,0))) ∧ Aside0 (wc.heap[gb164]? = some (.cells #[.int .i64 0,.int .i64 0,(.slice none 0 0)] 62 (0,0))) ∧ Aside0 (Below w.heap.size w wc))
 case first =>
  have H:=HC3.out
  clear HC3
  replace H:=Option.bind_eq_some_iff.mp H
  obtain ⟨t165,A60,H⟩:=H
  replace H : (if t165 = true then (bins_Of.j0 k l1 ((l1.length : Int) != a0_8) a0_0 a0_1 a0_2 a0_3 a0_4 a0_5 a0_6 a0_7 a0_8 l0_9 l0_10) else (bins_Of.j0 k l1 true a0_0 a0_1 a0_2 a0_3 a0_4 a0_5 a0_6 a0_7 a0_8 l0_9 l0_10)) = some (r1,r2,r3,r4):=H
  have A6:=Aside0.mk A60
  clear A60
  by_cases c7 : t165 = true
  ·subst c7
   have H1 : (bins_Of.j0 k l1 ((l1.length : Int) != a0_8) a0_0 a0_1 a0_2 a0_3 a0_4 a0_5 a0_6 a0_7 a0_8 l0_9 l0_10) = some (r1,r2,r3,r4):=by rw [if_pos rfl] at H;exact H
   clear H
   have H:=H1
   clear H1
   have H':=Aside0.mk H
   clear H
   have hnb8:=NB163_164.out
   have hnc8:=NB164_163.out
   have hcz9_0 : w5.cell? ⟨gb163,0,none⟩ = some (.int .i64 a0_0):=(blk_cell BK163.out 0).trans rfl
   have hcz9_1 : w5.cell? ⟨gb163,1,none⟩ = some (.int .i64 a0_1):=(blk_cell BK163.out 1).trans rfl
   have hcz9_2 : w5.cell? ⟨gb163,2,none⟩ = some (.int .i64 a0_2):=(blk_cell BK163.out 2).trans rfl
   have hcz9_3 : w5.cell? ⟨gb163,3,none⟩ = some (.int .i64 a0_3):=(blk_cell BK163.out 3).trans rfl
   have hcz9_4 : w5.cell? ⟨gb163,4,none⟩ = some (.int .i64 a0_4):=(blk_cell BK163.out 4).trans rfl
   have hcz9_5 : w5.cell? ⟨gb163,5,none⟩ = some (.int .i64 a0_5):=(blk_cell BK163.out 5).trans rfl
   have hcz9_6 : w5.cell? ⟨gb163,6,none⟩ = some (.int .i64 a0_6):=(blk_cell BK163.out 6).trans rfl
   have hcz9_7 : w5.cell? ⟨gb163,7,none⟩ = some (.int .i64 a0_7):=(blk_cell BK163.out 7).trans rfl
   have hcz9_8 : w5.cell? ⟨gb163,8,none⟩ = some (.int .i64 a0_8):=(blk_cell BK163.out 8).trans rfl
   have hcz9_9 : w5.cell? ⟨gb163,9,none⟩ = some (.slice A0_9 l0_9.length c0_9):=(blk_cell BK163.out 9).trans rfl
   have hcz9_10 : w5.cell? ⟨gb163,10,none⟩ = some (.slice A0_10 l0_10.length c0_10):=(blk_cell BK163.out 10).trans rfl
   have hfz9_0:=blk_frozen BK163.out 0
   have hfz9_1:=blk_frozen BK163.out 1
   have hfz9_2:=blk_frozen BK163.out 2
   have hfz9_3:=blk_frozen BK163.out 3
   have hfz9_4:=blk_frozen BK163.out 4
   have hfz9_5:=blk_frozen BK163.out 5
   have hfz9_6:=blk_frozen BK163.out 6
   have hfz9_7:=blk_frozen BK163.out 7
   have hfz9_8:=blk_frozen BK163.out 8
   have hfz9_9:=blk_frozen BK163.out 9
   have hfz9_10:=blk_frozen BK163.out 10
   go_wp2_with (first|((with_reducible refine gate_callee (f:=67) rfl ?_);refine goesL_ (some 12) rfl rfl Try.func67 (by kernel_rfl) rfl #[.agg #[.int .i64 a0_0,.int .i64 a0_1,.int .i64 a0_2,.int .i64 a0_3,.int .i64 a0_4,.int .i64 a0_5,.int .i64 a0_6,.int .i64 a0_7,.int .i64 a0_8,.slice A0_9 l0_9.length c0_9,.slice A0_10 l0_10.length c0_10]] rfl (by (try simp only [List.map_toArray,List.map_cons,List.map_nil]);first|done|rfl|(simp only [List.length_drop,List.length_take];rfl)) ?_;(with_reducible refine (bins_shaped.calls a0_0 a0_1 a0_2 a0_3 a0_4 a0_5 a0_6 a0_7 a0_8 _ _ l0_9 _ _ l0_10 true _ ?side1 ?side2 ?side3 ?side4 A6.out).mono ?_);(case side1=>repeat(first|exact (Kd.C_below HR0_9.out HB.out)|(with_reducible refine Kd.C_alloc ?_ _)|(with_reducible refine Kd.C_drewN ?_ _)|(with_reducible refine Kd.C_drew ?_)));(case side2=>exact HC0_9.out);(case side3=>repeat(first|exact (Kd.C_below HR0_10.out HB.out)|(with_reducible refine Kd.C_alloc ?_ _)|(with_reducible refine Kd.C_drewN ?_ _)|(with_reducible refine Kd.C_drew ?_)));(case side4=>exact HC0_10.out);rintro e w10 ⟨rfl,hb⟩;refine ⟨_,rfl,?_⟩;have n0_:=Aside0.mk (blk_below (g:=gb163) (o:=.cells #[.int .i64 a0_0,.int .i64 a0_1,.int .i64 a0_2,.int .i64 a0_3,.int .i64 a0_4,.int .i64 a0_5,.int .i64 a0_6,.int .i64 a0_7,.int .i64 a0_8,.slice A0_9 l0_9.length c0_9,.slice A0_10 l0_10.length c0_10] 32 (0,0)) (by (with_reducible repeat(first|refine blk_drewN ?_ _|refine blk_drew ?_|refine blk_alloc ?_ _));exact BK163.out) hb);have n1_:=Aside0.mk (blk_below (g:=gb164) (o:=.cells #[.int .i64 0,.int .i64 0,.slice none 0 0] 62 (0,0)) (by (with_reducible repeat(first|refine blk_drewN ?_ _|refine blk_drew ?_|refine blk_alloc ?_ _));exact BK164.out) hb);have n2_:=Aside0.mk (below_step (by repeat(first|(with_reducible first|exact HB.out|apply below_alloc|apply pw_below_drewN|apply below_drew1|refine below_set ?_ GE163.out|refine below_set ?_ GE164.out)|exact HB.out)) hb);clear BK163;clear BK164;clear HB;have BK163:=n0_;have BK164:=n1_;have HB:=n2_;clear n0_ n1_ n2_;(try clear hb);(try clear hb2);(try clear hk);(try clear hi);have hcz11_0 : w10.cell? ⟨gb163,0,none⟩ = some (.int .i64 a0_0):=(blk_cell BK163.out 0).trans rfl;have hcz11_1 : w10.cell? ⟨gb163,1,none⟩ = some (.int .i64 a0_1):=(blk_cell BK163.out 1).trans rfl;have hcz11_2 : w10.cell? ⟨gb163,2,none⟩ = some (.int .i64 a0_2):=(blk_cell BK163.out 2).trans rfl;have hcz11_3 : w10.cell? ⟨gb163,3,none⟩ = some (.int .i64 a0_3):=(blk_cell BK163.out 3).trans rfl;have hcz11_4 : w10.cell? ⟨gb163,4,none⟩ = some (.int .i64 a0_4):=(blk_cell BK163.out 4).trans rfl;have hcz11_5 : w10.cell? ⟨gb163,5,none⟩ = some (.int .i64 a0_5):=(blk_cell BK163.out 5).trans rfl;have hcz11_6 : w10.cell? ⟨gb163,6,none⟩ = some (.int .i64 a0_6):=(blk_cell BK163.out 6).trans rfl;have hcz11_7 : w10.cell? ⟨gb163,7,none⟩ = some (.int .i64 a0_7):=(blk_cell BK163.out 7).trans rfl;have hcz11_8 : w10.cell? ⟨gb163,8,none⟩ = some (.int .i64 a0_8):=(blk_cell BK163.out 8).trans rfl;have hcz11_9 : w10.cell? ⟨gb163,9,none⟩ = some (.slice A0_9 l0_9.length c0_9):=(blk_cell BK163.out 9).trans rfl;have hcz11_10 : w10.cell? ⟨gb163,10,none⟩ = some (.slice A0_10 l0_10.length c0_10):=(blk_cell BK163.out 10).trans rfl;have hfz11_0:=blk_frozen BK163.out 0;have hfz11_1:=blk_frozen BK163.out 1;have hfz11_2:=blk_frozen BK163.out 2;have hfz11_3:=blk_frozen BK163.out 3;have hfz11_4:=blk_frozen BK163.out 4;have hfz11_5:=blk_frozen BK163.out 5;have hfz11_6:=blk_frozen BK163.out 6;have hfz11_7:=blk_frozen BK163.out 7;have hfz11_8:=blk_frozen BK163.out 8;have hfz11_9:=blk_frozen BK163.out 9;have hfz11_10:=blk_frozen BK163.out 10))
   go_meet
   case rel=>exact ⟨_,(((l1.length : Int) != a0_8)),(by first|rfl|(simp;done)|(simp [*];done)),H',⟨by first|omega|exact Nat.le_refl _⟩,⟨by (with_reducible repeat(first|refine blk_drewN ?_ _|refine blk_drew ?_|refine blk_alloc ?_ _));exact BK163.out⟩,⟨by (with_reducible repeat(first|refine blk_drewN ?_ _|refine blk_drew ?_|refine blk_alloc ?_ _));exact BK164.out⟩,⟨by repeat(first|(with_reducible first|exact HB.out|apply below_alloc|apply pw_below_drewN|apply below_drew1|refine below_set ?_ GE163.out|refine below_set ?_ GE164.out)|exact HB.out)⟩⟩
  ·replace c7:=Bool.eq_false_iff.mpr c7
   subst c7
   have H1 : (bins_Of.j0 k l1 true a0_0 a0_1 a0_2 a0_3 a0_4 a0_5 a0_6 a0_7 a0_8 l0_9 l0_10) = some (r1,r2,r3,r4):=by rw [if_neg (show ¬ (false = true) by decide)] at H;exact H
   clear H
   have H:=H1
   clear H1
   have H':=Aside0.mk H
   clear H
   have hnb12:=NB163_164.out
   have hnc12:=NB164_163.out
   have hcz13_0 : w5.cell? ⟨gb163,0,none⟩ = some (.int .i64 a0_0):=(blk_cell BK163.out 0).trans rfl
   have hcz13_1 : w5.cell? ⟨gb163,1,none⟩ = some (.int .i64 a0_1):=(blk_cell BK163.out 1).trans rfl
   have hcz13_2 : w5.cell? ⟨gb163,2,none⟩ = some (.int .i64 a0_2):=(blk_cell BK163.out 2).trans rfl
   have hcz13_3 : w5.cell? ⟨gb163,3,none⟩ = some (.int .i64 a0_3):=(blk_cell BK163.out 3).trans rfl
   have hcz13_4 : w5.cell? ⟨gb163,4,none⟩ = some (.int .i64 a0_4):=(blk_cell BK163.out 4).trans rfl
   have hcz13_5 : w5.cell? ⟨gb163,5,none⟩ = some (.int .i64 a0_5):=(blk_cell BK163.out 5).trans rfl
   have hcz13_6 : w5.cell? ⟨gb163,6,none⟩ = some (.int .i64 a0_6):=(blk_cell BK163.out 6).trans rfl
   have hcz13_7 : w5.cell? ⟨gb163,7,none⟩ = some (.int .i64 a0_7):=(blk_cell BK163.out 7).trans rfl
   have hcz13_8 : w5.cell? ⟨gb163,8,none⟩ = some (.int .i64 a0_8):=(blk_cell BK163.out 8).trans rfl
   have hcz13_9 : w5.cell? ⟨gb163,9,none⟩ = some (.slice A0_9 l0_9.length c0_9):=(blk_cell BK163.out 9).trans rfl
   have hcz13_10 : w5.cell? ⟨gb163,10,none⟩ = some (.slice A0_10 l0_10.length c0_10):=(blk_cell BK163.out 10).trans rfl
   have hfz13_0:=blk_frozen BK163.out 0
   have hfz13_1:=blk_frozen BK163.out 1
   have hfz13_2:=blk_frozen BK163.out 2
   have hfz13_3:=blk_frozen BK163.out 3
   have hfz13_4:=blk_frozen BK163.out 4
   have hfz13_5:=blk_frozen BK163.out 5
   have hfz13_6:=blk_frozen BK163.out 6
   have hfz13_7:=blk_frozen BK163.out 7
   have hfz13_8:=blk_frozen BK163.out 8
   have hfz13_9:=blk_frozen BK163.out 9
   have hfz13_10:=blk_frozen BK163.out 10
   go_wp2_with (first|((with_reducible refine gate_callee (f:=67) rfl ?_);refine goesL_ (some 12) rfl rfl Try.func67 (by kernel_rfl) rfl #[.agg #[.int .i64 a0_0,.int .i64 a0_1,.int .i64 a0_2,.int .i64 a0_3,.int .i64 a0_4,.int .i64 a0_5,.int .i64 a0_6,.int .i64 a0_7,.int .i64 a0_8,.slice A0_9 l0_9.length c0_9,.slice A0_10 l0_10.length c0_10]] rfl (by (try simp only [List.map_toArray,List.map_cons,List.map_nil]);first|done|rfl|(simp only [List.length_drop,List.length_take];rfl)) ?_;(with_reducible refine (bins_shaped.calls a0_0 a0_1 a0_2 a0_3 a0_4 a0_5 a0_6 a0_7 a0_8 _ _ l0_9 _ _ l0_10 false _ ?side1 ?side2 ?side3 ?side4 A6.out).mono ?_);(case side1=>repeat(first|exact (Kd.C_below HR0_9.out HB.out)|(with_reducible refine Kd.C_alloc ?_ _)|(with_reducible refine Kd.C_drewN ?_ _)|(with_reducible refine Kd.C_drew ?_)));(case side2=>exact HC0_9.out);(case side3=>repeat(first|exact (Kd.C_below HR0_10.out HB.out)|(with_reducible refine Kd.C_alloc ?_ _)|(with_reducible refine Kd.C_drewN ?_ _)|(with_reducible refine Kd.C_drew ?_)));(case side4=>exact HC0_10.out);rintro e w14 ⟨rfl,hb⟩;refine ⟨_,rfl,?_⟩;have n0_:=Aside0.mk (blk_below (g:=gb163) (o:=.cells #[.int .i64 a0_0,.int .i64 a0_1,.int .i64 a0_2,.int .i64 a0_3,.int .i64 a0_4,.int .i64 a0_5,.int .i64 a0_6,.int .i64 a0_7,.int .i64 a0_8,.slice A0_9 l0_9.length c0_9,.slice A0_10 l0_10.length c0_10] 32 (0,0)) (by (with_reducible repeat(first|refine blk_drewN ?_ _|refine blk_drew ?_|refine blk_alloc ?_ _));exact BK163.out) hb);have n1_:=Aside0.mk (blk_below (g:=gb164) (o:=.cells #[.int .i64 0,.int .i64 0,.slice none 0 0] 62 (0,0)) (by (with_reducible repeat(first|refine blk_drewN ?_ _|refine blk_drew ?_|refine blk_alloc ?_ _));exact BK164.out) hb);have n2_:=Aside0.mk (below_step (by repeat(first|(with_reducible first|exact HB.out|apply below_alloc|apply pw_below_drewN|apply below_drew1|refine below_set ?_ GE163.out|refine below_set ?_ GE164.out)|exact HB.out)) hb);clear BK163;clear BK164;clear HB;have BK163:=n0_;have BK164:=n1_;have HB:=n2_;clear n0_ n1_ n2_;(try clear hb);(try clear hb2);(try clear hk);(try clear hi)))
   go_meet
   case rel=>exact ⟨_,(true),(by first|rfl|(simp;done)|(simp [*];done)),H',⟨by first|omega|exact Nat.le_refl _⟩,⟨by (with_reducible repeat(first|refine blk_drewN ?_ _|refine blk_drew ?_|refine blk_alloc ?_ _));exact BK163.out⟩,⟨by (with_reducible repeat(first|refine blk_drewN ?_ _|refine blk_drew ?_|refine blk_alloc ?_ _));exact BK164.out⟩,⟨by repeat(first|(with_reducible first|exact HB.out|apply below_alloc|apply pw_below_drewN|apply below_drew1|refine below_set ?_ GE163.out|refine below_set ?_ GE164.out)|exact HB.out)⟩⟩
 case rest =>
  clear HC3
  try clear c1
  try clear c2
  try clear p2
  try clear c6
  try clear c7
  try clear c8
  try clear c12
  try clear hcz11_0
  try clear hcz11_1
  try clear hcz11_10
  try clear hcz11_2
  try clear hcz11_3
  try clear hcz11_4
  try clear hcz11_5
  try clear hcz11_6
  try clear hcz11_7
  try clear hcz11_8
  try clear hcz11_9
  try clear hcz13_0
  try clear hcz13_1
  try clear hcz13_10
  try clear hcz13_2
  try clear hcz13_3
  try clear hcz13_4
  try clear hcz13_5
  try clear hcz13_6
  try clear hcz13_7
  try clear hcz13_8
  try clear hcz13_9
  try clear hcz9_0
  try clear hcz9_1
  try clear hcz9_10
  try clear hcz9_2
  try clear hcz9_3
  try clear hcz9_4
  try clear hcz9_5
  try clear hcz9_6
  try clear hcz9_7
  try clear hcz9_8
  try clear hcz9_9
  try clear hfz11_0
  try clear hfz11_1
  try clear hfz11_10
  try clear hfz11_2
  try clear hfz11_3
  try clear hfz11_4
  try clear hfz11_5
  try clear hfz11_6
  try clear hfz11_7
  try clear hfz11_8
  try clear hfz11_9
  try clear hfz13_0
  try clear hfz13_1
  try clear hfz13_10
  try clear hfz13_2
  try clear hfz13_3
  try clear hfz13_4
  try clear hfz13_5
  try clear hfz13_6
  try clear hfz13_7
  try clear hfz13_8
  try clear hfz13_9
  try clear hfz9_0
  try clear hfz9_1
  try clear hfz9_10
  try clear hfz9_2
  try clear hfz9_3
  try clear hfz9_4
  try clear hfz9_5
  try clear hfz9_6
  try clear hfz9_7
  try clear hfz9_8
  try clear hfz9_9
  obtain ⟨kq,x20_2,rfl,HA,HJ2,BK163,BK164,HB⟩:=hcut
  cases kq with
  | zero=>exact absurd HA.out (by simp [bins_Of.j0])
  | succ kj2 =>
   have H:=HA.out
   clear HA
   simp only [bins_Of.j0] at H
   by_cases c15 : x20_2 = true
   ·subst c15
    have H1 : (some (0,0,([] : List Int),8)) = some (r1,r2,r3,r4):=by rw [if_pos rfl] at H;exact H
    clear H
    have H:=H1
    clear H1
    simp only [Option.some.injEq,Prod.mk.injEq] at H
    obtain ⟨rfl,rfl,rfl,rfl⟩:=H
    have hnb16:=NB164_163.out
    have hnc16:=NB163_164.out
    have hcz17_0 : wc.cell? ⟨gb164,0,none⟩ = some (.int .i64 0):=(blk_cell BK164.out 0).trans rfl
    have hcz17_1 : wc.cell? ⟨gb164,1,none⟩ = some (.int .i64 0):=(blk_cell BK164.out 1).trans rfl
    have hcz17_2 : wc.cell? ⟨gb164,2,none⟩ = some (.slice none 0 0):=(blk_cell BK164.out 2).trans rfl
    have hfz17_0:=blk_frozen BK164.out 0
    have hfz17_1:=blk_frozen BK164.out 1
    have hfz17_2:=blk_frozen BK164.out 2
    go_wp2
    refine bodyPost_ret (results_ct rfl _ _ gb164 62 #[.int .i64 0,.int .i64 0,.slice none 0 0] (0,0) _ rfl (by (with_reducible repeat(first|refine blk_drewN ?_ _|refine blk_drew ?_|refine blk_alloc ?_ _));refine blk_put (cs:=#[.int .i64 0,.int .i64 0,.slice none 0 0]) ?_ 2 _ rfl;(with_reducible repeat(first|refine blk_drewN ?_ _|refine blk_drew ?_|refine blk_alloc ?_ _));refine blk_put (cs:=#[.int .i64 0,.int .i64 0,.slice none 0 0]) ?_ 1 _ rfl;(with_reducible repeat(first|refine blk_drewN ?_ _|refine blk_drew ?_|refine blk_alloc ?_ _));refine blk_put (cs:=#[.int .i64 0,.int .i64 0,.slice none 0 0]) ?_ 0 _ rfl;(with_reducible repeat(first|refine blk_drewN ?_ _|refine blk_drew ?_|refine blk_alloc ?_ _));exact BK164.out) Try.underlying62 rfl (by kernel_rfl)) rfl ?_
    exact ⟨_,by first|rfl|(simp [errW_none,errW_some] <;> rfl)|(simp [*,errW_none,errW_some] <;> rfl),by first|exact Kd.R_nil _ _ _ _ _|exact Kd.N_nil _ _ _ _ _|exact Kd.V_nil _ _ _ _ _|exact Kd.Q_nil _ _ _ _ _|exact Kd.S_nil _ _ _ _ _,by repeat(first|(with_reducible first|exact HB.out|apply below_alloc|apply pw_below_drewN|apply below_drew1|refine below_set ?_ GE163.out|refine below_set ?_ GE164.out)|exact HB.out)⟩
   ·replace c15:=Bool.eq_false_iff.mpr c15
    subst c15
    have H1 : (bins_Of.l0 kj2 l1 (l1.length : Int) 0 a0_0 a0_1 a0_2 a0_3 a0_4 a0_5 a0_6 a0_7 a0_8 l0_9 l0_10 a0_7 a0_8 ([] : List Int)) = some (r1,r2,r3,r4):=by rw [if_neg (show ¬ (false = true) by decide)] at H;exact H
    clear H
    have H:=H1
    clear H1
    have H':=Aside0.mk H
    clear H
    have hnb18:=NB163_164.out
    have hnc18:=NB164_163.out
    have hcz19_0 : wc.cell? ⟨gb163,0,none⟩ = some (.int .i64 a0_0):=(blk_cell BK163.out 0).trans rfl
    have hcz19_1 : wc.cell? ⟨gb163,1,none⟩ = some (.int .i64 a0_1):=(blk_cell BK163.out 1).trans rfl
    have hcz19_2 : wc.cell? ⟨gb163,2,none⟩ = some (.int .i64 a0_2):=(blk_cell BK163.out 2).trans rfl
    have hcz19_3 : wc.cell? ⟨gb163,3,none⟩ = some (.int .i64 a0_3):=(blk_cell BK163.out 3).trans rfl
    have hcz19_4 : wc.cell? ⟨gb163,4,none⟩ = some (.int .i64 a0_4):=(blk_cell BK163.out 4).trans rfl
    have hcz19_5 : wc.cell? ⟨gb163,5,none⟩ = some (.int .i64 a0_5):=(blk_cell BK163.out 5).trans rfl
    have hcz19_6 : wc.cell? ⟨gb163,6,none⟩ = some (.int .i64 a0_6):=(blk_cell BK163.out 6).trans rfl
    have hcz19_7 : wc.cell? ⟨gb163,7,none⟩ = some (.int .i64 a0_7):=(blk_cell BK163.out 7).trans rfl
    have hcz19_8 : wc.cell? ⟨gb163,8,none⟩ = some (.int .i64 a0_8):=(blk_cell BK163.out 8).trans rfl
    have hcz19_9 : wc.cell? ⟨gb163,9,none⟩ = some (.slice A0_9 l0_9.length c0_9):=(blk_cell BK163.out 9).trans rfl
    have hcz19_10 : wc.cell? ⟨gb163,10,none⟩ = some (.slice A0_10 l0_10.length c0_10):=(blk_cell BK163.out 10).trans rfl
    have hfz19_0:=blk_frozen BK163.out 0
    have hfz19_1:=blk_frozen BK163.out 1
    have hfz19_2:=blk_frozen BK163.out 2
    have hfz19_3:=blk_frozen BK163.out 3
    have hfz19_4:=blk_frozen BK163.out 4
    have hfz19_5:=blk_frozen BK163.out 5
    have hfz19_6:=blk_frozen BK163.out 6
    have hfz19_7:=blk_frozen BK163.out 7
    have hfz19_8:=blk_frozen BK163.out 8
    have hfz19_9:=blk_frozen BK163.out 9
    have hfz19_10:=blk_frozen BK163.out 10
    go_wp2_with (first|((with_reducible refine gate_dst (N:=6) rfl ?_);refine box_event ?hg (N:=6) ?hd (cs:=#[.int .i64 0,.int .i64 0,.slice none 0 0]) (t:=62) ?hr ?_;(case hd=>rfl);(case hg=>rfl);(case hr=>first|(go_simp;done)|(go_simp;rfl));intro gb166 hg w20 hbox hb;have n0_:=Aside0.mk (blk_below (g:=gb163) (o:=.cells #[.int .i64 a0_0,.int .i64 a0_1,.int .i64 a0_2,.int .i64 a0_3,.int .i64 a0_4,.int .i64 a0_5,.int .i64 a0_6,.int .i64 a0_7,.int .i64 a0_8,.slice A0_9 l0_9.length c0_9,.slice A0_10 l0_10.length c0_10] 32 (0,0)) (by (with_reducible repeat(first|refine blk_drewN ?_ _|refine blk_drew ?_|refine blk_alloc ?_ _));exact BK163.out) hb);have n1_:=Aside0.mk (blk_below (g:=gb164) (o:=.cells #[.int .i64 0,.int .i64 0,.slice none 0 0] 62 (0,0)) (by (with_reducible repeat(first|refine blk_drewN ?_ _|refine blk_drew ?_|refine blk_alloc ?_ _));exact BK164.out) hb);have n2_:=Aside0.mk (below_step (by repeat(first|(with_reducible first|exact HB.out|apply below_alloc|apply pw_below_drewN|apply below_drew1|refine below_set ?_ GE163.out|refine below_set ?_ GE164.out)|exact HB.out)) hb);have n3_:=Aside0.mk (hbox);have n4_:=Aside0.mk ((by rw [hg];exact (below_size (by repeat(first|(with_reducible first|exact HB.out|apply below_alloc|apply pw_below_drewN|apply below_drew1|refine below_set ?_ GE163.out|refine below_set ?_ GE164.out)|exact HB.out))) : w.heap.size ≤ gb166));have n5_:=Aside0.mk ((by rw [hg];exact (below_size (by repeat(first|(with_reducible first|exact HB.out|apply below_alloc|apply pw_below_drewN|apply below_drew1|refine below_set ?_ GE163.out|refine below_set ?_ GE164.out)|exact HB.out))) : w.heap.size ≤ gb166));have n6_:=Aside0.mk ((by rw [hg];exact Nat.ne_of_lt (blk_lt (g:=gb163) (o:=.cells #[.int .i64 a0_0,.int .i64 a0_1,.int .i64 a0_2,.int .i64 a0_3,.int .i64 a0_4,.int .i64 a0_5,.int .i64 a0_6,.int .i64 a0_7,.int .i64 a0_8,.slice A0_9 l0_9.length c0_9,.slice A0_10 l0_10.length c0_10] 32 (0,0)) (by (with_reducible repeat(first|refine blk_drewN ?_ _|refine blk_drew ?_|refine blk_alloc ?_ _));exact BK163.out)) : gb163 ≠ gb166));have n7_:=Aside0.mk ((by rw [hg];exact Nat.ne_of_gt (blk_lt (g:=gb163) (o:=.cells #[.int .i64 a0_0,.int .i64 a0_1,.int .i64 a0_2,.int .i64 a0_3,.int .i64 a0_4,.int .i64 a0_5,.int .i64 a0_6,.int .i64 a0_7,.int .i64 a0_8,.slice A0_9 l0_9.length c0_9,.slice A0_10 l0_10.length c0_10] 32 (0,0)) (by (with_reducible repeat(first|refine blk_drewN ?_ _|refine blk_drew ?_|refine blk_alloc ?_ _));exact BK163.out)) : gb166 ≠ gb163));have n8_:=Aside0.mk ((by rw [hg];exact Nat.ne_of_lt (blk_lt (g:=gb164) (o:=.cells #[.int .i64 0,.int .i64 0,.slice none 0 0] 62 (0,0)) (by (with_reducible repeat(first|refine blk_drewN ?_ _|refine blk_drew ?_|refine blk_alloc ?_ _));exact BK164.out)) : gb164 ≠ gb166));have n9_:=Aside0.mk ((by rw [hg];exact Nat.ne_of_gt (blk_lt (g:=gb164) (o:=.cells #[.int .i64 0,.int .i64 0,.slice none 0 0] 62 (0,0)) (by (with_reducible repeat(first|refine blk_drewN ?_ _|refine blk_drew ?_|refine blk_alloc ?_ _));exact BK164.out)) : gb166 ≠ gb164));clear BK163;clear BK164;clear HB;have BK163:=n0_;have BK164:=n1_;have HB:=n2_;have BK166:=n3_;have GW166:=n4_;have GE166:=n5_;have NB163_166:=n6_;have NB166_163:=n7_;have NB164_166:=n8_;have NB166_164:=n9_;clear n0_ n1_ n2_ n3_ n4_ n5_ n6_ n7_ n8_ n9_;clear hb hbox hg;have hnb21:=NB166_163.out;have hnc21:=NB163_166.out;have hnb22:=NB166_164.out;have hnc22:=NB164_166.out;have hcz23_0 : w20.cell? ⟨gb166,0,none⟩ = some (.int .i64 0):=(blk_cell BK166.out 0).trans rfl;have hcz23_1 : w20.cell? ⟨gb166,1,none⟩ = some (.int .i64 0):=(blk_cell BK166.out 1).trans rfl;have hcz23_2 : w20.cell? ⟨gb166,2,none⟩ = some (.slice none 0 0):=(blk_cell BK166.out 2).trans rfl;have hfz23_0:=blk_frozen BK166.out 0;have hfz23_1:=blk_frozen BK166.out 1;have hfz23_2:=blk_frozen BK166.out 2))
    go_loopg [29] kj2 (fun kq v29 w'=>∃ (x29_2 : Int) (x167002_2 : List Int) (u167002 : Value),v29 = .int .i64 x29_2 ∧ Aside0 (bins_Of.l0 kq l1 (l1.length : Int) x29_2 a0_0 a0_1 a0_2 a0_3 a0_4 a0_5 a0_6 a0_7 a0_8 l0_9 l0_10 a0_7 a0_8 x167002_2 = some (r1,r2,r3,r4)) ∧ Aside0 (kq ≤ kj2) ∧ Aside0 (Kd.R (Kd.int .u16) 53 w' w.heap.size (fun _=>True) u167002 x167002_2) ∧ Aside0 (w'.heap[gb163]? = some (.cells #[.int .i64 a0_0,.int .i64 a0_1,.int .i64 a0_2,.int .i64 a0_3,.int .i64 a0_4,.int .i64 a0_5,.int .i64 a0_6,.int .i64 a0_7,.int .i64 a0_8,(.slice A0_9 l0_9.length c0_9),(.slice A0_10 l0_10.length c0_10)] 32 (0,0))) ∧ Aside0 (w'.heap[gb164]? = some (.cells #[.int .i64 0,.int .i64 0,(.slice none 0 0)] 62 (0,0))) ∧ Aside0 (w'.heap[gb166]? = some (.cells #[.int .i64 a0_7,.int .i64 a0_8,u167002] 62 (0,0))) ∧ Aside0 (Below w.heap.size w w'))
    case atStart=>exact ⟨(0),(([] : List Int)),(.slice none 0 0),(by first|rfl|(simp;done)|(simp [*];done)),H',⟨Nat.le_refl _⟩,⟨by first|exact Kd.R_nil _ _ _ _ _|exact Kd.N_nil _ _ _ _ _|exact Kd.V_nil _ _ _ _ _|exact Kd.Q_nil _ _ _ _ _|exact Kd.S_nil _ _ _ _ _⟩,⟨by (with_reducible repeat(first|refine blk_drewN ?_ _|refine blk_drew ?_|refine blk_alloc ?_ _));refine blk_far ?_ NB163_166.out _;(with_reducible repeat(first|refine blk_drewN ?_ _|refine blk_drew ?_|refine blk_alloc ?_ _));refine blk_far ?_ NB163_166.out _;(with_reducible repeat(first|refine blk_drewN ?_ _|refine blk_drew ?_|refine blk_alloc ?_ _));refine blk_far ?_ NB163_166.out _;(with_reducible repeat(first|refine blk_drewN ?_ _|refine blk_drew ?_|refine blk_alloc ?_ _));exact BK163.out⟩,⟨by (with_reducible repeat(first|refine blk_drewN ?_ _|refine blk_drew ?_|refine blk_alloc ?_ _));refine blk_far ?_ NB164_166.out _;(with_reducible repeat(first|refine blk_drewN ?_ _|refine blk_drew ?_|refine blk_alloc ?_ _));refine blk_far ?_ NB164_166.out _;(with_reducible repeat(first|refine blk_drewN ?_ _|refine blk_drew ?_|refine blk_alloc ?_ _));refine blk_far ?_ NB164_166.out _;(with_reducible repeat(first|refine blk_drewN ?_ _|refine blk_drew ?_|refine blk_alloc ?_ _));exact BK164.out⟩,⟨by (with_reducible repeat(first|refine blk_drewN ?_ _|refine blk_drew ?_|refine blk_alloc ?_ _));refine blk_put (cs:=#[.int .i64 a0_7,.int .i64 a0_8,.slice none 0 0]) ?_ 2 _ rfl;(with_reducible repeat(first|refine blk_drewN ?_ _|refine blk_drew ?_|refine blk_alloc ?_ _));refine blk_put (cs:=#[.int .i64 a0_7,.int .i64 0,.slice none 0 0]) ?_ 1 _ rfl;(with_reducible repeat(first|refine blk_drewN ?_ _|refine blk_drew ?_|refine blk_alloc ?_ _));refine blk_put (cs:=#[.int .i64 0,.int .i64 0,.slice none 0 0]) ?_ 0 _ rfl;(with_reducible repeat(first|refine blk_drewN ?_ _|refine blk_drew ?_|refine blk_alloc ?_ _));exact BK166.out⟩,⟨by repeat(first|(with_reducible first|exact HB.out|apply below_alloc|apply pw_below_drewN|apply below_drew1|refine below_set ?_ GE163.out|refine below_set ?_ GE164.out|refine below_set ?_ GE166.out)|exact HB.out)⟩⟩
    case round =>
     clear H'
     try clear c1
     try clear c2
     try clear p2
     try clear c6
     try clear c7
     try clear c8
     try clear c12
     try clear c15
     try clear c16
     try clear c18
     try clear c21
     try clear c22
     try clear hcz11_0
     try clear hcz11_1
     try clear hcz11_10
     try clear hcz11_2
     try clear hcz11_3
     try clear hcz11_4
     try clear hcz11_5
     try clear hcz11_6
     try clear hcz11_7
     try clear hcz11_8
     try clear hcz11_9
     try clear hcz13_0
     try clear hcz13_1
     try clear hcz13_10
     try clear hcz13_2
     try clear hcz13_3
     try clear hcz13_4
     try clear hcz13_5
     try clear hcz13_6
     try clear hcz13_7
     try clear hcz13_8
     try clear hcz13_9
     try clear hcz17_0
     try clear hcz17_1
     try clear hcz17_2
     try clear hcz19_0
     try clear hcz19_1
     try clear hcz19_10
     try clear hcz19_2
     try clear hcz19_3
     try clear hcz19_4
     try clear hcz19_5
     try clear hcz19_6
     try clear hcz19_7
     try clear hcz19_8
     try clear hcz19_9
     try clear hcz23_0
     try clear hcz23_1
     try clear hcz23_2
     try clear hcz9_0
     try clear hcz9_1
     try clear hcz9_10
     try clear hcz9_2
     try clear hcz9_3
     try clear hcz9_4
     try clear hcz9_5
     try clear hcz9_6
     try clear hcz9_7
     try clear hcz9_8
     try clear hcz9_9
     try clear hfz11_0
     try clear hfz11_1
     try clear hfz11_10
     try clear hfz11_2
     try clear hfz11_3
     try clear hfz11_4
     try clear hfz11_5
     try clear hfz11_6
     try clear hfz11_7
     try clear hfz11_8
     try clear hfz11_9
     try clear hfz13_0
     try clear hfz13_1
     try clear hfz13_10
     try clear hfz13_2
     try clear hfz13_3
     try clear hfz13_4
     try clear hfz13_5
     try clear hfz13_6
     try clear hfz13_7
     try clear hfz13_8
     try clear hfz13_9
     try clear hfz17_0
     try clear hfz17_1
     try clear hfz17_2
     try clear hfz19_0
     try clear hfz19_1
     try clear hfz19_10
     try clear hfz19_2
     try clear hfz19_3
     try clear hfz19_4
     try clear hfz19_5
     try clear hfz19_6
     try clear hfz19_7
     try clear hfz19_8
     try clear hfz19_9
     try clear hfz23_0
     try clear hfz23_1
     try clear hfz23_2
     try clear hfz9_0
     try clear hfz9_1
     try clear hfz9_10
     try clear hfz9_2
     try clear hfz9_3
     try clear hfz9_4
     try clear hfz9_5
     try clear hfz9_6
     try clear hfz9_7
     try clear hfz9_8
     try clear hfz9_9
     try clear p2
     obtain ⟨x29_2,x167002_2,u167002,rfl,HA,HK2,HO_167002,BK163,BK164,BK166,HB⟩:=hrel
     cases gk with
     | zero=>exact absurd HA.out (by simp [bins_Of.l0])
     | succ k2 =>
      have H:=HA.out
      clear HA
      simp only [bins_Of.l0] at H
      by_cases c24 : x29_2 < (l1.length : Int)
      ·rw [if_pos c24] at H
       have c24b0 : decide (x29_2 < (l1.length : Int)) = true:=decide_eq_true c24
       clear c24
       by_cases c25 : 0 ≤ x29_2
       ·rw [if_pos c25] at H
        have c25b0 : decide (0 ≤ x29_2) = true:=decide_eq_true c25
        clear c25
        by_cases c26 : x29_2 < (l1.length : Int)
        ·rw [if_pos c26] at H
         have c26b0 : decide (x29_2 < (l1.length : Int)) = true:=decide_eq_true c26
         clear c26
         obtain ⟨ji27,hji27⟩ : ∃ j_ : Int,(wrap64 (x29_2 * a0_7)) = j_:=⟨_,rfl⟩
         replace H : (if 0 ≤ (ji27) then (if (ji27) ≤ (wrap64 ((wrap64 (x29_2 + 1)) * a0_7)) then (if (wrap64 ((wrap64 (x29_2 + 1)) * a0_7)) ≤ (l0_9.length : Int) then (bins_Of.l1 k2 (rd_L7 l1 x29_2) l1 (l1.length : Int) x29_2 ((l0_9.take ((wrap64 ((wrap64 (x29_2 + 1)) * a0_7)) : Int).toNat).drop ((ji27) : Int).toNat) (((l0_9.take ((wrap64 ((wrap64 (x29_2 + 1)) * a0_7)) : Int).toNat).drop ((ji27) : Int).toNat).length : Int) 0 a0_0 a0_1 a0_2 a0_3 a0_4 a0_5 a0_6 a0_7 a0_8 l0_9 l0_10 a0_7 a0_8 x167002_2) else (none)) else (none)) else (none)) = some (r1,r2,r3,r4):=by first|(rw [hji27] at H;exact H)|(simp only [hji27] at H ⊢;exact H)
         have hji27w : (IntKind.i64.wrap (x29_2 * a0_7)) = ji27:=(i64_w _).trans hji27
         by_cases c28 : 0 ≤ (ji27)
         ·rw [if_pos c28] at H
          have c28b0:=eq_true c28
          have c28b1 : decide (0 ≤ (ji27)) = true:=decide_eq_true c28
          clear c28
          by_cases c29 : (ji27) ≤ (wrap64 ((wrap64 (x29_2 + 1)) * a0_7))
          ·rw [if_pos c29] at H
           have c29b0:=eq_true c29
           have c29b1 : decide ((ji27) ≤ (wrap64 ((wrap64 (x29_2 + 1)) * a0_7))) = true:=decide_eq_true c29
           by_cases c30 : (wrap64 ((wrap64 (x29_2 + 1)) * a0_7)) ≤ (l0_9.length : Int)
           ·rw [if_pos c30] at H
            have c30b0:=eq_true c30
            have c30b1 : decide ((wrap64 ((wrap64 (x29_2 + 1)) * a0_7)) ≤ (l0_9.length : Int)) = true:=decide_eq_true c30
            have H':=Aside0.mk H
            clear H
            have p167 : 0 ≤ (x29_2 : Int):=of_decide_eq_true (by first|(with_reducible assumption)|assumption)
            have q167 : x29_2 < (l1.length : Int):=of_decide_eq_true (by first|(with_reducible assumption)|assumption)
            obtain ⟨ad167,A167_0,c167_0,e167,hx167_0,hl167_0,hi167_0⟩:=at_L7 HR1.out x29_2 p167 q167
            cases e167
            replace hx167_0:=(HB.out.cell (World.block_lt_of_cell? w _ hx167_0)).trans hx167_0
            have HR167_0:=Aside0.mk hi167_0
            have HC167_0:=Aside0.mk hl167_0
            clear hi167_0 hl167_0
            replace p167:=eq_true p167
            replace q167:=eq_true q167
            have hnb31:=NB163_164.out
            have hnc31:=NB164_163.out
            have hnb32:=NB163_166.out
            have hnc32:=NB166_163.out
            have hcz33_0 : wr.cell? ⟨gb163,0,none⟩ = some (.int .i64 a0_0):=(blk_cell BK163.out 0).trans rfl
            have hcz33_1 : wr.cell? ⟨gb163,1,none⟩ = some (.int .i64 a0_1):=(blk_cell BK163.out 1).trans rfl
            have hcz33_2 : wr.cell? ⟨gb163,2,none⟩ = some (.int .i64 a0_2):=(blk_cell BK163.out 2).trans rfl
            have hcz33_3 : wr.cell? ⟨gb163,3,none⟩ = some (.int .i64 a0_3):=(blk_cell BK163.out 3).trans rfl
            have hcz33_4 : wr.cell? ⟨gb163,4,none⟩ = some (.int .i64 a0_4):=(blk_cell BK163.out 4).trans rfl
            have hcz33_5 : wr.cell? ⟨gb163,5,none⟩ = some (.int .i64 a0_5):=(blk_cell BK163.out 5).trans rfl
            have hcz33_6 : wr.cell? ⟨gb163,6,none⟩ = some (.int .i64 a0_6):=(blk_cell BK163.out 6).trans rfl
            have hcz33_7 : wr.cell? ⟨gb163,7,none⟩ = some (.int .i64 a0_7):=(blk_cell BK163.out 7).trans rfl
            have hcz33_8 : wr.cell? ⟨gb163,8,none⟩ = some (.int .i64 a0_8):=(blk_cell BK163.out 8).trans rfl
            have hcz33_9 : wr.cell? ⟨gb163,9,none⟩ = some (.slice A0_9 l0_9.length c0_9):=(blk_cell BK163.out 9).trans rfl
            have hcz33_10 : wr.cell? ⟨gb163,10,none⟩ = some (.slice A0_10 l0_10.length c0_10):=(blk_cell BK163.out 10).trans rfl
            have hfz33_0:=blk_frozen BK163.out 0
            have hfz33_1:=blk_frozen BK163.out 1
            have hfz33_2:=blk_frozen BK163.out 2
            have hfz33_3:=blk_frozen BK163.out 3
            have hfz33_4:=blk_frozen BK163.out 4
            have hfz33_5:=blk_frozen BK163.out 5
            have hfz33_6:=blk_frozen BK163.out 6
            have hfz33_7:=blk_frozen BK163.out 7
            have hfz33_8:=blk_frozen BK163.out 8
            have hfz33_9:=blk_frozen BK163.out 9
            have hfz33_10:=blk_frozen BK163.out 10
            obtain ⟨i034,hi034,_,hsz34,_⟩:=info_parts info36
            obtain ⟨A34,hcut34,hA34,hC34⟩:=print_mid_of (P:=Try.prog) (Value.float .f64) (0 : Nat) 30 36 .i64 .i64 Try.underlying30 hi034 hsz34 A0_9 c0_9 l0_9 (ji27) (wrap64 ((wrap64 (x29_2 + 1)) * a0_7)) (of_decide_eq_true (by first|(with_reducible assumption)|assumption)) (by first|omega|exact of_decide_eq_true (by first|(with_reducible assumption)|assumption)) (of_decide_eq_true (by first|(with_reducible assumption)|assumption)) HC0_9.out
            have hl34 : ((l0_9.take (wrap64 ((wrap64 (x29_2 + 1)) * a0_7)).toNat).drop (ji27).toNat).length = (wrap64 ((wrap64 (x29_2 + 1)) * a0_7)).toNat - (ji27).toNat:=(by rw [List.length_drop,List.length_take];have:=of_decide_eq_true c30b1;omega)
            have HL34:=Aside0.mk hl34
            clear hl34
            have HR168:=Aside0.mk (Kd.C_of_reads (h1:=fun _=>rfl) (hA34 _ (Kd.reads_of_C HR0_9.out)))
            have HC168:=Aside0.mk hC34
            clear hA34 hC34 hi034 hsz34
            go_wp2
            go_loopg [47] k2 (fun kq v47 w'=>∃ (x47_3 : Int) (x167002_3 : List Int) (u167002 : Value),v47 = .int .i64 x47_3 ∧ Aside0 (bins_Of.l1 kq (rd_L7 l1 x29_2) l1 (l1.length : Int) x29_2 ((l0_9.take ((wrap64 ((wrap64 (x29_2 + 1)) * a0_7)) : Int).toNat).drop ((ji27) : Int).toNat) (((l0_9.take ((wrap64 ((wrap64 (x29_2 + 1)) * a0_7)) : Int).toNat).drop ((ji27) : Int).toNat).length : Int) x47_3 a0_0 a0_1 a0_2 a0_3 a0_4 a0_5 a0_6 a0_7 a0_8 l0_9 l0_10 a0_7 a0_8 x167002_3 = some (r1,r2,r3,r4)) ∧ Aside0 (kq ≤ k2) ∧ Aside0 (Kd.R (Kd.int .u16) 53 w' w.heap.size (fun _=>True) u167002 x167002_3) ∧ Aside0 (w'.heap[gb163]? = some (.cells #[.int .i64 a0_0,.int .i64 a0_1,.int .i64 a0_2,.int .i64 a0_3,.int .i64 a0_4,.int .i64 a0_5,.int .i64 a0_6,.int .i64 a0_7,.int .i64 a0_8,(.slice A0_9 l0_9.length c0_9),(.slice A0_10 l0_10.length c0_10)] 32 (0,0))) ∧ Aside0 (w'.heap[gb164]? = some (.cells #[.int .i64 0,.int .i64 0,(.slice none 0 0)] 62 (0,0))) ∧ Aside0 (w'.heap[gb166]? = some (.cells #[.int .i64 a0_7,.int .i64 a0_8,u167002] 62 (0,0))) ∧ Aside0 (Below w.heap.size w w'))
            case atStart=>exact ⟨(0),(x167002_2),(u167002),(by first|rfl|(simp;done)|(simp [*];done)),H',⟨Nat.le_refl _⟩,⟨by (with_reducible repeat(first|apply Kd.R_alloc|apply Kd.R_drewN|apply Kd.R_drew));exact HO_167002.out⟩,⟨by (with_reducible repeat(first|refine blk_drewN ?_ _|refine blk_drew ?_|refine blk_alloc ?_ _));exact BK163.out⟩,⟨by (with_reducible repeat(first|refine blk_drewN ?_ _|refine blk_drew ?_|refine blk_alloc ?_ _));exact BK164.out⟩,⟨by (with_reducible repeat(first|refine blk_drewN ?_ _|refine blk_drew ?_|refine blk_alloc ?_ _));exact BK166.out⟩,⟨by repeat(first|(with_reducible first|exact HB.out|apply below_alloc|apply pw_below_drewN|apply below_drew1|refine below_set ?_ GE163.out|refine below_set ?_ GE164.out|refine below_set ?_ GE166.out)|exact HB.out)⟩⟩
            case round =>
             clear H'
             try clear c1
             try clear p1
             try clear q1
             try clear hx1
             try clear c2
             try clear p2
             try clear c3
             try clear c6
             try clear p6
             try clear c7
             try clear c8
             try clear c12
             try clear c15
             try clear c16
             try clear p16
             try clear q16
             try clear hx16
             try clear c18
             try clear c21
             try clear c22
             try clear c24
             try clear c24b0
             try clear c25
             try clear c25b0
             try clear c26
             try clear c26b0
             try clear c28
             try clear c28b0
             try clear c28b1
             try clear c29
             try clear c29b0
             try clear c29b1
             try clear c30
             try clear c30b0
             try clear c30b1
             try clear c31
             try clear c32
             try clear hcz11_0
             try clear hcz11_1
             try clear hcz11_10
             try clear hcz11_2
             try clear hcz11_3
             try clear hcz11_4
             try clear hcz11_5
             try clear hcz11_6
             try clear hcz11_7
             try clear hcz11_8
             try clear hcz11_9
             try clear hcz13_0
             try clear hcz13_1
             try clear hcz13_10
             try clear hcz13_2
             try clear hcz13_3
             try clear hcz13_4
             try clear hcz13_5
             try clear hcz13_6
             try clear hcz13_7
             try clear hcz13_8
             try clear hcz13_9
             try clear hcz17_0
             try clear hcz17_1
             try clear hcz17_2
             try clear hcz19_0
             try clear hcz19_1
             try clear hcz19_10
             try clear hcz19_2
             try clear hcz19_3
             try clear hcz19_4
             try clear hcz19_5
             try clear hcz19_6
             try clear hcz19_7
             try clear hcz19_8
             try clear hcz19_9
             try clear hcz23_0
             try clear hcz23_1
             try clear hcz23_2
             try clear hcz33_0
             try clear hcz33_1
             try clear hcz33_10
             try clear hcz33_2
             try clear hcz33_3
             try clear hcz33_4
             try clear hcz33_5
             try clear hcz33_6
             try clear hcz33_7
             try clear hcz33_8
             try clear hcz33_9
             try clear hcz9_0
             try clear hcz9_1
             try clear hcz9_10
             try clear hcz9_2
             try clear hcz9_3
             try clear hcz9_4
             try clear hcz9_5
             try clear hcz9_6
             try clear hcz9_7
             try clear hcz9_8
             try clear hcz9_9
             try clear hfz11_0
             try clear hfz11_1
             try clear hfz11_10
             try clear hfz11_2
             try clear hfz11_3
             try clear hfz11_4
             try clear hfz11_5
             try clear hfz11_6
             try clear hfz11_7
             try clear hfz11_8
             try clear hfz11_9
             try clear hfz13_0
             try clear hfz13_1
             try clear hfz13_10
             try clear hfz13_2
             try clear hfz13_3
             try clear hfz13_4
             try clear hfz13_5
             try clear hfz13_6
             try clear hfz13_7
             try clear hfz13_8
             try clear hfz13_9
             try clear hfz17_0
             try clear hfz17_1
             try clear hfz17_2
             try clear hfz19_0
             try clear hfz19_1
             try clear hfz19_10
             try clear hfz19_2
             try clear hfz19_3
             try clear hfz19_4
             try clear hfz19_5
             try clear hfz19_6
             try clear hfz19_7
             try clear hfz19_8
             try clear hfz19_9
             try clear hfz23_0
             try clear hfz23_1
             try clear hfz23_2
             try clear hfz33_0
             try clear hfz33_1
             try clear hfz33_10
             try clear hfz33_2
             try clear hfz33_3
             try clear hfz33_4
             try clear hfz33_5
             try clear hfz33_6
             try clear hfz33_7
             try clear hfz33_8
             try clear hfz33_9
             try clear hfz9_0
             try clear hfz9_1
             try clear hfz9_10
             try clear hfz9_2
             try clear hfz9_3
             try clear hfz9_4
             try clear hfz9_5
             try clear hfz9_6
             try clear hfz9_7
             try clear hfz9_8
             try clear hfz9_9
             try clear hx167_0
             try clear p167
             try clear p2
             try clear q167
             obtain ⟨x47_3,x167002_3,u167002,rfl,HA,HK3,HO_167002,BK163,BK164,BK166,HB⟩:=hrel
             cases gk with
             | zero=>exact absurd HA.out (by simp [bins_Of.l1])
             | succ k3 =>
              have H:=HA.out
              clear HA
              simp only [bins_Of.l1] at H
              by_cases c35 : x47_3 < (((l0_9.take ((wrap64 ((wrap64 (x29_2 + 1)) * a0_7)) : Int).toNat).drop ((ji27) : Int).toNat).length : Int)
              ·rw [if_pos c35] at H
               have c35b0 : decide (x47_3 < (((l0_9.take ((wrap64 ((wrap64 (x29_2 + 1)) * a0_7)) : Int).toNat).drop ((ji27) : Int).toNat).length : Int)) = true:=decide_eq_true c35
               have c35x : decide (x47_3 < (((wrap64 ((wrap64 (x29_2 + 1)) * a0_7)).toNat - (ji27).toNat : Nat) : Int)) = true:=by rw [← HL34.out];exact c35b0
               clear c35
               by_cases c36 : 0 ≤ x47_3
               ·rw [if_pos c36] at H
                have c36b0 : decide (0 ≤ x47_3) = true:=decide_eq_true c36
                clear c36
                by_cases c37 : x47_3 < (((l0_9.take ((wrap64 ((wrap64 (x29_2 + 1)) * a0_7)) : Int).toNat).drop ((ji27) : Int).toNat).length : Int)
                ·rw [if_pos c37] at H
                 have c37b0 : decide (x47_3 < (((l0_9.take ((wrap64 ((wrap64 (x29_2 + 1)) * a0_7)) : Int).toNat).drop ((ji27) : Int).toNat).length : Int)) = true:=decide_eq_true c37
                 have c37x : decide (x47_3 < (((wrap64 ((wrap64 (x29_2 + 1)) * a0_7)).toNat - (ji27).toNat : Nat) : Int)) = true:=by rw [← HL34.out];exact c37b0
                 clear c37
                 replace H:=Option.bind_eq_some_iff.mp H
                 obtain ⟨t170,A380,H⟩:=H
                 replace H : (if x167002_3.length < 70368744177664 then (bins_Of.l1 k3 (rd_L7 l1 x29_2) l1 (l1.length : Int) x29_2 ((l0_9.take ((wrap64 ((wrap64 (x29_2 + 1)) * a0_7)) : Int).toNat).drop ((ji27) : Int).toNat) (((l0_9.take ((wrap64 ((wrap64 (x29_2 + 1)) * a0_7)) : Int).toNat).drop ((ji27) : Int).toNat).length : Int) (wrap64 (x47_3 + 1)) a0_0 a0_1 a0_2 a0_3 a0_4 a0_5 a0_6 a0_7 a0_8 l0_9 l0_10 a0_7 a0_8 (x167002_3 ++ [IntKind.u16.wrap (mn t170 65535)])) else (none)) = some (r1,r2,r3,r4):=H
                 have A38:=Aside0.mk A380
                 clear A380
                 obtain ⟨ji39,hji39⟩ : ∃ j_ : Int,(mn t170 65535) = j_:=⟨_,rfl⟩
                 replace H : (if x167002_3.length < 70368744177664 then (bins_Of.l1 k3 (rd_L7 l1 x29_2) l1 (l1.length : Int) x29_2 ((l0_9.take ((wrap64 ((wrap64 (x29_2 + 1)) * a0_7)) : Int).toNat).drop ((ji27) : Int).toNat) (((l0_9.take ((wrap64 ((wrap64 (x29_2 + 1)) * a0_7)) : Int).toNat).drop ((ji27) : Int).toNat).length : Int) (wrap64 (x47_3 + 1)) a0_0 a0_1 a0_2 a0_3 a0_4 a0_5 a0_6 a0_7 a0_8 l0_9 l0_10 a0_7 a0_8 (x167002_3 ++ [IntKind.u16.wrap (ji39)])) else (none)) = some (r1,r2,r3,r4):=by first|(rw [hji39] at H;exact H)|(simp only [hji39] at H ⊢;exact H)
                 (try rw [hji39] at A38)
                 (try (have hji39h : ji39 ≤ 65535:=by (rw [← hji39];unfold mn;(repeat' split) <;> omega)))
                 (try (have hji39g : ji39 ≤ 64:=by omega))
                 have hji39_ : (if 65535 < t170 then 65535 else t170) = ji39:=hji39
                 by_cases c40 : x167002_3.length < 70368744177664
                 ·rw [if_pos c40] at H
                  have LMc40:=Aside0.mk c40
                  clear c40
                  obtain ⟨y171,hy171⟩ : ∃ y_ : List Int,y_ = (x167002_3 ++ [IntKind.u16.wrap (ji39)]):=⟨_,rfl⟩
                  replace H : (bins_Of.l1 k3 (rd_L7 l1 x29_2) l1 (l1.length : Int) x29_2 ((l0_9.take ((wrap64 ((wrap64 (x29_2 + 1)) * a0_7)) : Int).toNat).drop ((ji27) : Int).toNat) (((l0_9.take ((wrap64 ((wrap64 (x29_2 + 1)) * a0_7)) : Int).toNat).drop ((ji27) : Int).toNat).length : Int) (wrap64 (x47_3 + 1)) a0_0 a0_1 a0_2 a0_3 a0_4 a0_5 a0_6 a0_7 a0_8 l0_9 l0_10 a0_7 a0_8 y171) = some (r1,r2,r3,r4):=by first|(rw [hy171];with_reducible exact H)|(have H2_:=(Option.bind_some _ _).symm.trans H;rw [hy171];with_reducible exact H2_)|(have H2_:=(Option.bind_some _ _).symm.trans H;with_reducible exact H2_)|with_reducible exact H|(rw [hy171];exact H)|exact H
                  have Ny171:=Aside0.mk hy171
                  clear hy171
                  have H':=Aside0.mk H
                  clear H
                  have p169 : 0 ≤ (x47_3 : Int):=of_decide_eq_true (by first|(with_reducible assumption)|assumption)
                  have q169 : x47_3 < (((l0_9.take ((wrap64 ((wrap64 (x29_2 + 1)) * a0_7)) : Int).toNat).drop ((ji27) : Int).toNat).length : Int):=of_decide_eq_true (by first|(with_reducible assumption)|assumption)
                  obtain ⟨ad169,e169,hx169_0⟩:=Flt.at_kf HR168.out x47_3 p169 q169
                  cases e169
                  replace hx169_0:=(HB.out.cell (World.block_lt_of_cell? w _ hx169_0)).trans hx169_0
                  replace p169:=eq_true p169
                  replace q169:=eq_true q169
                  have q169x : (x47_3 < (((wrap64 ((wrap64 (x29_2 + 1)) * a0_7)).toNat - (ji27).toNat : Nat) : Int)) = True:=eq_true (by rw [← HL34.out];exact of_eq_true q169)
                  try go_wp2
                  have n0_:=Aside0.mk (Kd.R_drew HO_167002.out)
                  have n1_:=Aside0.mk (blk_drew BK163.out)
                  have n2_:=Aside0.mk (blk_drew BK164.out)
                  have n3_:=Aside0.mk (blk_drew BK166.out)
                  have n4_:=Aside0.mk (below_drew1 HB.out)
                  clear HO_167002
                  clear BK163
                  clear BK164
                  clear BK166
                  clear HB
                  have HO_167002:=n0_
                  have BK163:=n1_
                  have BK164:=n2_
                  have BK166:=n3_
                  have HB:=n4_
                  clear n0_ n1_ n2_ n3_ n4_
                  refine start_ (n:=11) (S:=fun w'=>w'.cell? ⟨gb166,0,none⟩ = some (.int .i64 a0_7) ∧ w'.cell? ⟨gb166,1,none⟩ = some (.int .i64 a0_8) ∧ w'.cell? ⟨gb166,2,none⟩ = some (u167002)) (ds:=[10]) #[false,false,false,false,false,false,false,false,false,false,false] (by kernel_rfl) rfl rfl ⟨(blk_cell BK166.out 0).trans rfl,(blk_cell BK166.out 1).trans rfl,(blk_cell BK166.out 2).trans rfl⟩ (fun hHeld=>?_);refine with_tabW bins_Of.tab10 bins_Of.bits10 (fun HT_ HW_=>?_)
                  generalize wr.drew = w41 at HO_167002 BK163 BK164 BK166 HB hHeld ⊢
                  refine pure_ (i:=0) (N:=some 51) (v:=?_) (a':=?_) #[true,false,false,false,false,false,false,false,false,false,false] rfl rfl (any_of HT_.out (by kernel_rfl)) (fun _ _ _ h=>h) (Or.inl ⟨by rfl,?_⟩) ?_ ?_
                  rotate_left
                  ·intro w'
                   go_simp
                   with_reducible rfl
                  rotate_left
                  ·simp only [Act.put,List.setIfInBounds_toArray,List.set_cons_zero,List.set_cons_succ,i64_w,i32_w]
                   rfl
                  refine pure_ (i:=2) (N:=some 53) (v:=?_) (a':=?_) #[true,false,true,false,false,false,false,false,false,false,false] rfl rfl (any_of HT_.out (by kernel_rfl)) (fun _ _ _ h=>h) (Or.inl ⟨by rfl,?_⟩) ?_ ?_
                  rotate_left
                  ·intro w'
                   go_simp
                   with_reducible rfl
                  rotate_left
                  ·simp only [Act.put,List.setIfInBounds_toArray,List.set_cons_zero,List.set_cons_succ,i64_w,i32_w]
                   rfl
                  refine pure_ (i:=3) (N:=some 54) (v:=?_) (a':=?_) #[true,false,true,true,false,false,false,false,false,false,false] rfl rfl (any_of HT_.out (by kernel_rfl)) (fun _ _ _ h=>h) (Or.inl ⟨by rfl,?_⟩) ?_ ?_
                  rotate_left
                  ·intro w'
                   go_simp
                   with_reducible rfl
                  rotate_left
                  ·simp only [Act.put,List.setIfInBounds_toArray,List.set_cons_zero,List.set_cons_succ,i64_w,i32_w]
                   rfl
                  refine take_ (i:=1) (N:=some 52) (v:=?_) (a':=?_) #[true,true,true,true,false,false,false,false,false,false,false] rfl rfl (take_ofW HT_.out HW_.out (by kernel_rfl)) (fun _ _ _ h=>h) (Or.inl ⟨by rfl,?_⟩) hHeld ?_ ?_
                  rotate_left
                  ·rintro w' ⟨s0,s1,s2⟩
                   go_simp
                   with_reducible rfl
                  rotate_left
                  ·simp only [Act.put,List.setIfInBounds_toArray,List.set_cons_zero,List.set_cons_succ,i64_w,i32_w]
                   rfl
                  refine one_ (i:=4) (N:=some 55) #[true,true,true,true,true,false,false,false,false,false,false] rfl rfl (one_of HT_.out (by kernel_rfl)) (by decide) (fun K hK=>?_)
                  refine goes_ Try.func71 (by kernel_rfl) rfl #[.slice A167_0 (rd_L7 l1 x29_2).length c167_0,.float .f64 (rdOf (0 : Nat) ((l0_9.take ((wrap64 ((wrap64 (x29_2 + 1)) * a0_7)) : Int).toNat).drop ((ji27) : Int).toNat) x47_3)] (by rfl) rfl rfl (by (try simp only [List.map_toArray,List.map_cons,List.map_nil]);first|done|(simp only [hji27];rfl)|rfl|(simp only [List.length_drop,List.length_take];rfl)) ?_
                  with_reducible refine (edges_Bin.calls k3 _ _ (rd_L7 l1 x29_2) (rdOf (0 : Nat) ((l0_9.take ((wrap64 ((wrap64 (x29_2 + 1)) * a0_7)) : Int).toNat).drop ((ji27) : Int).toNat) x47_3) t170 _ ?side1 ?side2 A38.out).mono ?_
                  (case side1=>repeat(first|exact (Kd.C_below HR167_0.out HB.out)|(with_reducible refine Kd.C_alloc ?_ _)|(with_reducible refine Kd.C_drewN ?_ _)|(with_reducible refine Kd.C_drew ?_)))
                  (case side2=>exact HC167_0.out)
                  rintro e w' ⟨rfl,⟨nd,rfl⟩⟩
                  refine ⟨_,rfl,?_⟩
                  refine hK.out _ _ ⟨(blk_cell BK166.out 0).trans rfl,(blk_cell BK166.out 1).trans rfl,(blk_cell BK166.out 2).trans rfl⟩ (fun hHeld=>?_)
                  clear hK K
                  refine norm_ (a':=?_) ?_ ?_
                  rotate_left
                  ·show Act.put _ (some 55) _ = _
                   simp only [Act.put,List.setIfInBounds_toArray,List.set_cons_zero,List.set_cons_succ,i64_w,i32_w]
                   rfl
                  refine pure_ (i:=5) (N:=some 56) (v:=?_) (a':=?_) #[true,true,true,true,true,true,false,false,false,false,false] rfl rfl (any_of HT_.out (by kernel_rfl)) (fun _ _ _ h=>h) (Or.inl ⟨by rfl,?_⟩) ?_ ?_
                  rotate_left
                  ·intro w'
                   go_simp
                   with_reducible rfl
                  rotate_left
                  ·simp only [Act.put,List.setIfInBounds_toArray,List.set_cons_zero,List.set_cons_succ,i64_w,i32_w]
                   rfl
                  refine pure_ (i:=6) (N:=some 57) (v:=?_) (a':=?_) #[true,true,true,true,true,true,true,false,false,false,false] rfl rfl (any_of HT_.out (by kernel_rfl)) (fun _ _ _ h=>h) (Or.inl ⟨by rfl,?_⟩) ?_ ?_
                  rotate_left
                  ·intro w'
                   go_simp
                   with_reducible rfl
                  rotate_left
                  ·simp only [Act.put,List.setIfInBounds_toArray,List.set_cons_zero,List.set_cons_succ,i64_w,i32_w]
                   rfl
                  refine one_ (i:=7) (N:=some 58) #[true,true,true,true,true,true,true,true,false,false,false] rfl rfl (one_of HT_.out (by kernel_rfl)) (by decide) (fun K hK=>?_)
                  refine value_ (w1:=?_) (v:=?_) (by rfl) rfl ?_ ?_
                  rotate_left 2
                  ·go_simp
                   constructor
                   ·rfl
                   ·rfl
                  refine hK.out _ _ ⟨(blk_cell (blk_alloc BK166.out _) 0).trans rfl,(blk_cell (blk_alloc BK166.out _) 1).trans rfl,(blk_cell (blk_alloc BK166.out _) 2).trans rfl⟩ (fun hHeld=>?_)
                  clear hK K
                  refine norm_ (a':=?_) ?_ ?_
                  rotate_left
                  ·show Act.put _ (some 58) _ = _
                   simp only [Act.put,List.setIfInBounds_toArray,List.set_cons_zero,List.set_cons_succ,i64_w,i32_w]
                   rfl
                  refine one_ (i:=8) (N:=some 59) #[true,true,true,true,true,true,true,true,true,false,false] rfl rfl (one_of HT_.out (by kernel_rfl)) (by decide) (fun K hK=>?_)
                  refine Kd.R_append_step (Kd.int .u16) (w0:=w) w.heap.size (by rfl) (.tmp 52) (.tmp 58) 60 53 (.int .u16 0) 2 rfl Try.underlying60 info53 rfl (by decide) (by omega) u167002 x167002_3 (IntKind.u16.wrap (ji39)) [.int .u16 (IntKind.u16.wrap (ji39))] (fun _=>True) (fun _=>False) rfl rfl ?aP (fun _ hk=>hk.elim) ?aF ?aO ?aB ?aS ?aL ?_
                  (case aP=>exact rfl)
                  (case aB=>exact (by repeat(first|(with_reducible first|exact HB.out|apply below_alloc|apply pw_below_drewN|apply below_drew1|refine below_set ?_ GE163.out|refine below_set ?_ GE164.out|refine below_set ?_ GE166.out)|exact HB.out)))
                  (case aF=>exact (fun _ _=>trivial))
                  (case aO=>exact (by (with_reducible repeat(first|apply Kd.R_alloc|apply Kd.R_drewN|apply Kd.R_drew));exact HO_167002.out))
                  (case aS=>exact (below_size (by repeat(first|(with_reducible first|exact HB.out|apply below_alloc|apply pw_below_drewN|apply below_drew1|refine below_set ?_ GE163.out|refine below_set ?_ GE164.out|refine below_set ?_ GE166.out)|exact HB.out))))
                  (case aL=>have:=LMc40.out;omega)
                  intro v172 w42 ho hb hg hat
                  rw [← Ny171.out] at ho
                  have n0_:=Aside0.mk (blk_grown (g:=gb163) (o:=.cells #[.int .i64 a0_0,.int .i64 a0_1,.int .i64 a0_2,.int .i64 a0_3,.int .i64 a0_4,.int .i64 a0_5,.int .i64 a0_6,.int .i64 a0_7,.int .i64 a0_8,.slice A0_9 l0_9.length c0_9,.slice A0_10 l0_10.length c0_10] 32 (0,0)) (by (with_reducible repeat(first|refine blk_drewN ?_ _|refine blk_drew ?_|refine blk_alloc ?_ _));exact BK163.out) hg (Kd.R_ne HO_167002.out BK163.out (by decide)))
                  have n1_:=Aside0.mk (blk_grown (g:=gb164) (o:=.cells #[.int .i64 0,.int .i64 0,.slice none 0 0] 62 (0,0)) (by (with_reducible repeat(first|refine blk_drewN ?_ _|refine blk_drew ?_|refine blk_alloc ?_ _));exact BK164.out) hg (Kd.R_ne HO_167002.out BK164.out (by decide)))
                  have n2_:=Aside0.mk (blk_grown (g:=gb166) (o:=.cells #[.int .i64 a0_7,.int .i64 a0_8,u167002] 62 (0,0)) (by (with_reducible repeat(first|refine blk_drewN ?_ _|refine blk_drew ?_|refine blk_alloc ?_ _));exact BK166.out) hg (Kd.R_ne HO_167002.out BK166.out (by decide)))
                  have n3_:=Aside0.mk (hb)
                  have n4_:=Aside0.mk (ho)
                  clear BK163
                  clear BK164
                  clear BK166
                  clear HB
                  clear HO_167002
                  have BK163:=n0_
                  have BK164:=n1_
                  have BK166:=n2_
                  have HB:=n3_
                  have HO173:=n4_
                  clear n0_ n1_ n2_ n3_ n4_
                  clear ho hb hg hat
                  obtain ⟨Ao43,co43,eo43⟩:=Kd.R_slice HO173.out
                  (first|subst eo43|(injection eo43 with f1_ f2_ f3_;have f4_:=f1_.symm;have f5_:=f3_.symm;clear f1_ f2_ f3_;subst f4_;subst f5_))
                  refine hK.out _ _ ⟨(blk_cell BK166.out 0).trans rfl,(blk_cell BK166.out 1).trans rfl,(blk_cell BK166.out 2).trans rfl⟩ (fun hHeld=>?_)
                  clear hK K
                  refine norm_ (a':=?_) ?_ ?_
                  rotate_left
                  ·show Act.put _ (some 59) _ = _
                   simp only [Act.put,List.setIfInBounds_toArray,List.set_cons_zero,List.set_cons_succ,i64_w,i32_w]
                   rfl
                  refine pure_ (i:=9) (N:=some 60) (v:=?_) (a':=?_) #[true,true,true,true,true,true,true,true,true,true,false] rfl rfl (any_of HT_.out (by kernel_rfl)) (fun _ _ _ h=>h) (Or.inl ⟨by rfl,?_⟩) ?_ ?_
                  rotate_left
                  ·intro w'
                   go_simp
                   with_reducible rfl
                  rotate_left
                  ·simp only [Act.put,List.setIfInBounds_toArray,List.set_cons_zero,List.set_cons_succ,i64_w,i32_w]
                   rfl
                  refine last_ (i:=10) (N:=none) #[true,true,true,true,true,true,true,true,true,true,true] rfl rfl (one_of HT_.out (by kernel_rfl)) (by decide) (fun K hK=>?_)
                  have hs44 : w42.cell? ⟨gb166,2,none⟩ = some (u167002):=(blk_cell BK166.out 2).trans rfl
                  have hfs44:=blk_frozen BK166.out 2
                  have hns44_0:=NB163_166.out
                  have hns44_1:=NB164_166.out
                  have hms44_0:=NB166_163.out
                  have hms44_1:=NB166_164.out
                  refine skip_ (w1:=?_) (by rfl) rfl ?_ ?_
                  rotate_left
                  ·go_simp
                   rfl
                  refine hK.out _ _ ?_
                  clear hK K
                  refine done_ (done_of HT_.out (by kernel_rfl)) ?_
                  try go_wp2
                  go_roundg k3
                  case measure=>have:=HJ2.out;have:=HK2.out;have:=HK3.out;omega
                  case rel=>exact ⟨(wrap64 (x47_3 + 1)),(y171),(.slice Ao43 y171.length co43),(by first|rfl|(simp;done)|(simp [*];done)),H',⟨by have:=HJ2.out;have:=HK2.out;have:=HK3.out;omega⟩,⟨by (with_reducible repeat(first|apply Kd.R_alloc|apply Kd.R_drewN|apply Kd.R_drew));exact Kd.R_mono (Kd.R_far (p:=⟨gb166,2,none⟩) (Kd.R_types HO173.out BK166.out (by decide)) (fun _ hk=>hk.2) (.slice Ao43 y171.length co43)) (fun _ hk=>trivial)⟩,⟨by (with_reducible repeat(first|refine blk_drewN ?_ _|refine blk_drew ?_|refine blk_alloc ?_ _));refine blk_far ?_ NB163_166.out _;(with_reducible repeat(first|refine blk_drewN ?_ _|refine blk_drew ?_|refine blk_alloc ?_ _));exact BK163.out⟩,⟨by (with_reducible repeat(first|refine blk_drewN ?_ _|refine blk_drew ?_|refine blk_alloc ?_ _));refine blk_far ?_ NB164_166.out _;(with_reducible repeat(first|refine blk_drewN ?_ _|refine blk_drew ?_|refine blk_alloc ?_ _));exact BK164.out⟩,⟨by (with_reducible repeat(first|refine blk_drewN ?_ _|refine blk_drew ?_|refine blk_alloc ?_ _));refine blk_put (cs:=#[.int .i64 a0_7,.int .i64 a0_8,u167002]) ?_ 2 _ rfl;(with_reducible repeat(first|refine blk_drewN ?_ _|refine blk_drew ?_|refine blk_alloc ?_ _));exact BK166.out⟩,⟨by repeat(first|(with_reducible first|exact HB.out|apply below_alloc|apply pw_below_drewN|apply below_drew1|refine below_set ?_ GE163.out|refine below_set ?_ GE164.out|refine below_set ?_ GE166.out)|exact HB.out)⟩⟩
                 ·rw [if_neg c40] at H
                  exact absurd H (by simp)
                ·rw [if_neg c37] at H
                 exact absurd H (by simp)
               ·rw [if_neg c36] at H
                exact absurd H (by simp)
              ·rw [if_neg c35] at H
               have c35b0 : decide (x47_3 < (((l0_9.take ((wrap64 ((wrap64 (x29_2 + 1)) * a0_7)) : Int).toNat).drop ((ji27) : Int).toNat).length : Int)) = false:=decide_eq_false c35
               have c35x : decide (x47_3 < (((wrap64 ((wrap64 (x29_2 + 1)) * a0_7)).toNat - (ji27).toNat : Nat) : Int)) = false:=by rw [← HL34.out];exact c35b0
               clear c35
               have H':=Aside0.mk H
               clear H
               go_wp2
               go_roundg k3
               case measure=>have:=HJ2.out;have:=HK2.out;have:=HK3.out;omega
               case rel=>exact ⟨(wrap64 (x29_2 + 1)),(x167002_3),(u167002),(by first|rfl|(simp;done)|(simp [*];done)),H',⟨by have:=HJ2.out;have:=HK2.out;have:=HK3.out;omega⟩,⟨by (with_reducible repeat(first|apply Kd.R_alloc|apply Kd.R_drewN|apply Kd.R_drew));exact HO_167002.out⟩,⟨by (with_reducible repeat(first|refine blk_drewN ?_ _|refine blk_drew ?_|refine blk_alloc ?_ _));exact BK163.out⟩,⟨by (with_reducible repeat(first|refine blk_drewN ?_ _|refine blk_drew ?_|refine blk_alloc ?_ _));exact BK164.out⟩,⟨by (with_reducible repeat(first|refine blk_drewN ?_ _|refine blk_drew ?_|refine blk_alloc ?_ _));exact BK166.out⟩,⟨by repeat(first|(with_reducible first|exact HB.out|apply below_alloc|apply pw_below_drewN|apply below_drew1|refine below_set ?_ GE163.out|refine below_set ?_ GE164.out|refine below_set ?_ GE166.out)|exact HB.out)⟩⟩
           ·rw [if_neg c30] at H
            exact absurd H (by simp)
          ·rw [if_neg c29] at H
           exact absurd H (by simp)
         ·rw [if_neg c28] at H
          exact absurd H (by simp)
        ·rw [if_neg c26] at H
         exact absurd H (by simp)
       ·rw [if_neg c25] at H
        exact absurd H (by simp)
      ·rw [if_neg c24] at H
       have c24b0 : decide (x29_2 < (l1.length : Int)) = false:=decide_eq_false c24
       clear c24
       simp only [Option.some.injEq,Prod.mk.injEq] at H
       obtain ⟨rfl,rfl,rfl,rfl⟩:=H
       have hnb45:=NB166_163.out
       have hnc45:=NB163_166.out
       have hnb46:=NB166_164.out
       have hnc46:=NB164_166.out
       have hcz47_0 : wr.cell? ⟨gb166,0,none⟩ = some (.int .i64 a0_7):=(blk_cell BK166.out 0).trans rfl
       have hcz47_1 : wr.cell? ⟨gb166,1,none⟩ = some (.int .i64 a0_8):=(blk_cell BK166.out 1).trans rfl
       have hcz47_2 : wr.cell? ⟨gb166,2,none⟩ = some (u167002):=(blk_cell BK166.out 2).trans rfl
       have hfz47_0:=blk_frozen BK166.out 0
       have hfz47_1:=blk_frozen BK166.out 1
       have hfz47_2:=blk_frozen BK166.out 2
       have hnb48:=NB164_163.out
       have hnc48:=NB163_164.out
       have hcz49_0 : wr.cell? ⟨gb164,0,none⟩ = some (.int .i64 0):=(blk_cell BK164.out 0).trans rfl
       have hcz49_1 : wr.cell? ⟨gb164,1,none⟩ = some (.int .i64 0):=(blk_cell BK164.out 1).trans rfl
       have hcz49_2 : wr.cell? ⟨gb164,2,none⟩ = some (.slice none 0 0):=(blk_cell BK164.out 2).trans rfl
       have hfz49_0:=blk_frozen BK164.out 0
       have hfz49_1:=blk_frozen BK164.out 1
       have hfz49_2:=blk_frozen BK164.out 2
       obtain ⟨Ao50,co50,eo50⟩:=Kd.R_slice HO_167002.out
       subst eo50
       go_wp2
       refine bodyPost_ret (results_ct rfl _ _ gb164 62 #[.int .i64 a0_7,.int .i64 a0_8,.slice Ao50 x167002_2.length co50] (0,0) _ rfl (by (with_reducible repeat(first|refine blk_drewN ?_ _|refine blk_drew ?_|refine blk_alloc ?_ _));refine blk_put (cs:=#[.int .i64 a0_7,.int .i64 a0_8,.slice none 0 0]) ?_ 2 _ rfl;(with_reducible repeat(first|refine blk_drewN ?_ _|refine blk_drew ?_|refine blk_alloc ?_ _));refine blk_put (cs:=#[.int .i64 a0_7,.int .i64 0,.slice none 0 0]) ?_ 1 _ rfl;(with_reducible repeat(first|refine blk_drewN ?_ _|refine blk_drew ?_|refine blk_alloc ?_ _));refine blk_put (cs:=#[.int .i64 0,.int .i64 0,.slice none 0 0]) ?_ 0 _ rfl;(with_reducible repeat(first|refine blk_drewN ?_ _|refine blk_drew ?_|refine blk_alloc ?_ _));exact BK164.out) Try.underlying62 rfl (by kernel_rfl)) rfl ?_
       exact ⟨_,by first|rfl|(simp [errW_none,errW_some] <;> rfl)|(simp [*,errW_none,errW_some] <;> rfl),by (with_reducible repeat(first|apply Kd.R_alloc|apply Kd.R_drewN|apply Kd.R_drew));exact Kd.R_mono (Kd.R_far (p:=⟨gb164,2,none⟩) (Kd.R_far (p:=⟨gb164,1,none⟩) (Kd.R_far (p:=⟨gb164,0,none⟩) (Kd.R_types HO_167002.out BK164.out (by decide)) (fun _ hk=>hk.2) (.int .i64 a0_7)) (fun _ hk=>hk.2) (.int .i64 a0_8)) (fun _ hk=>hk.2) (.slice Ao50 x167002_2.length co50)) (fun _ hk=>trivial),by repeat(first|(with_reducible first|exact HB.out|apply below_alloc|apply pw_below_drewN|apply below_drew1|refine below_set ?_ GE163.out|refine below_set ?_ GE164.out|refine below_set ?_ GE166.out)|exact HB.out)⟩

end Go.Proofs.Ytnagfbadjbkhmaa.PB
