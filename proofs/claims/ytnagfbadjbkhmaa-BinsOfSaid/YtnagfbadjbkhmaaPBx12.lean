import Derived.Test.YtnagfbadjbkhmaaPBx0
import Derived.Test.YtnagfbadjbkhmaaPBx9
import Derived.Test.YtnagfbadjbkhmaaPBx11
namespace Go.Proofs.Ytnagfbadjbkhmaa.PB
open Go.RowKit Go.Proofs.YtnagfbadjbkhmaaW.PrintWords Go.Proofs.YtnagfbadjbkhmaaW.PrintLast Go.Proofs.YtnagfbadjbkhmaaW.PrintMore
attribute [local go_sem] max2_int min2_int max_two min_two max_three min_three max_four min_four   -- for this text's walks alone
attribute [local go_sem high] Flt.fold_eq Flt.fold_ne Flt.fold_lt Flt.fold_gt Flt.fold_le Flt.fold_ge Flt.run_bits Flt.run_frombits
set_option linter.unusedVariables false
set_option linter.unusedSimpArgs false

/-! ### hornbeamref11_Edges: function 27 -/
mutual
def hornbeamref11_Edges.j0 : Nat → List (List Nat) → Bool → Int → Int → Int → Int → Int → Int → Int → Int → Int → List Nat → List Int → Option ((List (List Nat)))
 | 0,_,_,_,_,_,_,_,_,_,_,_,_,_=>none
 | k + 1,x3,x26,x287000,x287001,x287002,x287003,x287004,x287005,x287006,x287007,x287008,x287009,x287010=>if x26 = true then (some x3) else (hornbeamref11_Edges.l0 k x3 0 x287000 x287001 x287002 x287003 x287004 x287005 x287006 x287007 x287008 x287009 x287010)
def hornbeamref11_Edges.l0 : Nat → List (List Nat) → Int → Int → Int → Int → Int → Int → Int → Int → Int → Int → List Nat → List Int → Option ((List (List Nat)))
 | 0,_,_,_,_,_,_,_,_,_,_,_,_,_=>none
 | k + 1,x3,x4,x287000,x287001,x287002,x287003,x287004,x287005,x287006,x287007,x287008,x287009,x287010=>if x4 < x287008 then (if 0 ≤ (wrap64 (x4 * x287007)) then (if (wrap64 (x4 * x287007)) ≤ (wrap64 ((wrap64 (x4 + 1)) * x287007)) then (if (wrap64 ((wrap64 (x4 + 1)) * x287007)) ≤ (x287009.length : Int) then ((hornbeamref10_Of.f k ((x287009.take ((wrap64 ((wrap64 (x4 + 1)) * x287007)) : Int).toNat).drop ((wrap64 (x4 * x287007)) : Int).toNat) x287002).bind fun t293=>(if x3.length < 5864062014805 then (hornbeamref11_Edges.l0 k (x3 ++ [t293]) (wrap64 (x4 + 1)) x287000 x287001 x287002 x287003 x287004 x287005 x287006 x287007 x287008 x287009 x287010) else (none))) else (none)) else (none)) else (none)) else (some x3)
end
def hornbeamref11_Edges.f (k : Nat) (a0_0 : Int) (a0_1 : Int) (a0_2 : Int) (a0_3 : Int) (a0_4 : Int) (a0_5 : Int) (a0_6 : Int) (a0_7 : Int) (a0_8 : Int) (l0_9 : List Nat) (l0_10 : List Int) : Option ((List (List Nat))):=(some (([] : List (List Nat)) : List (List Nat))).bind fun y287=>((hornbeamref11_Few.f a0_7).bind fun t290=>(if t290 = true then ((hornbeamref11_Few.f a0_8).bind fun t291=>(if t291 = true then (hornbeamref11_Edges.j0 k y287 ((l0_9.length : Int) != (wrap64 (a0_7 * a0_8))) a0_0 a0_1 a0_2 a0_3 a0_4 a0_5 a0_6 a0_7 a0_8 l0_9 l0_10) else (hornbeamref11_Edges.j0 k y287 true a0_0 a0_1 a0_2 a0_3 a0_4 a0_5 a0_6 a0_7 a0_8 l0_9 l0_10))) else (hornbeamref11_Edges.j0 k y287 true a0_0 a0_1 a0_2 a0_3 a0_4 a0_5 a0_6 a0_7 a0_8 l0_9 l0_10)))
theorem hornbeamref11_Edges.mono_l : ∀ k,(∀ y0 y1 y2 y3 y4 y5 y6 y7 y8 y9 y10 y11 y12,LeO (hornbeamref11_Edges.j0 k y0 y1 y2 y3 y4 y5 y6 y7 y8 y9 y10 y11 y12) (hornbeamref11_Edges.j0 (k + 1) y0 y1 y2 y3 y4 y5 y6 y7 y8 y9 y10 y11 y12)) ∧ (∀ y0 y1 y2 y3 y4 y5 y6 y7 y8 y9 y10 y11 y12,LeO (hornbeamref11_Edges.l0 k y0 y1 y2 y3 y4 y5 y6 y7 y8 y9 y10 y11 y12) (hornbeamref11_Edges.l0 (k + 1) y0 y1 y2 y3 y4 y5 y6 y7 y8 y9 y10 y11 y12))
 | 0=>⟨fun _ _ _ _ _ _ _ _ _ _ _ _ _ r h=>by simp [hornbeamref11_Edges.j0] at h,fun _ _ _ _ _ _ _ _ _ _ _ _ _ r h=>by simp [hornbeamref11_Edges.l0] at h⟩
 | k + 1=>by
  obtain ⟨ih0,ih1⟩:=hornbeamref11_Edges.mono_l k
  refine ⟨?_,?_⟩
  ·intro y0 y1 y2 y3 y4 y5 y6 y7 y8 y9 y10 y11 y12
   unfold hornbeamref11_Edges.j0
   repeat' first
   | (with_reducible exact ih0 _ _ _ _ _ _ _ _ _ _ _ _ _)
   | (with_reducible exact ih1 _ _ _ _ _ _ _ _ _ _ _ _ _)
   | (with_reducible exact hornbeamref10_Of.mono _ _ _)
   | (with_reducible exact LeO.refl _)
   | (with_reducible exact LeO.none _)
   | (with_reducible refine LeO.ite ?_ ?_)
   | (with_reducible refine LeO.bind ?_ (fun _=>?_))
   | exact ih0 _ _ _ _ _ _ _ _ _ _ _ _ _
   | exact ih1 _ _ _ _ _ _ _ _ _ _ _ _ _
   | exact hornbeamref10_Of.mono _ _ _
   | exact LeO.none _
   | refine LeO.ite ?_ ?_
   | refine LeO.bind ?_ (fun _=>?_)
  ·intro y0 y1 y2 y3 y4 y5 y6 y7 y8 y9 y10 y11 y12
   unfold hornbeamref11_Edges.l0
   repeat' first
   | (with_reducible exact ih0 _ _ _ _ _ _ _ _ _ _ _ _ _)
   | (with_reducible exact ih1 _ _ _ _ _ _ _ _ _ _ _ _ _)
   | (with_reducible exact hornbeamref10_Of.mono _ _ _)
   | (with_reducible exact LeO.refl _)
   | (with_reducible exact LeO.none _)
   | (with_reducible refine LeO.ite ?_ ?_)
   | (with_reducible refine LeO.bind ?_ (fun _=>?_))
   | exact ih0 _ _ _ _ _ _ _ _ _ _ _ _ _
   | exact ih1 _ _ _ _ _ _ _ _ _ _ _ _ _
   | exact hornbeamref10_Of.mono _ _ _
   | exact LeO.none _
   | refine LeO.ite ?_ ?_
   | refine LeO.bind ?_ (fun _=>?_)
theorem hornbeamref11_Edges.mono : ∀ a0 a1 a2 a3 a4 a5 a6 a7 a8 a9 a10 k,LeO (hornbeamref11_Edges.f k a0 a1 a2 a3 a4 a5 a6 a7 a8 a9 a10) (hornbeamref11_Edges.f (k + 1) a0 a1 a2 a3 a4 a5 a6 a7 a8 a9 a10):=by
 intro a0 a1 a2 a3 a4 a5 a6 a7 a8 a9 a10 k
 obtain ⟨ih0,ih1⟩:=hornbeamref11_Edges.mono_l k
 unfold hornbeamref11_Edges.f
 repeat' first
   | (with_reducible exact ih0 _ _ _ _ _ _ _ _ _ _ _ _ _)
   | (with_reducible exact ih1 _ _ _ _ _ _ _ _ _ _ _ _ _)
   | (with_reducible exact hornbeamref10_Of.mono _ _ _)
   | (with_reducible exact LeO.refl _)
   | (with_reducible exact LeO.none _)
   | (with_reducible refine LeO.ite ?_ ?_)
   | (with_reducible refine LeO.bind ?_ (fun _=>?_))
   | exact ih0 _ _ _ _ _ _ _ _ _ _ _ _ _
   | exact ih1 _ _ _ _ _ _ _ _ _ _ _ _ _
   | exact hornbeamref10_Of.mono _ _ _
   | exact LeO.none _
   | refine LeO.ite ?_ ?_
   | refine LeO.bind ?_ (fun _=>?_)
def hornbeamref11_Edges.T7 : Bool × List (List Nat × List Nat):=(true,[([],[]),([],[]),([1],[1]),([],[]),([],[]),([4],[4]),([3,5],[3,5]),([],[]),([7],[7]),([],[]),([9],[9]),([8,10],[8,10]),([2,6,11],[2,6,11]),([],[]),([13],[13]),([14],[14]),([12,15],[12,15]),([16],[16]),([0,17,16],[0,17]),([18,18,0,1,2,3,4,5,6,7,8,9,10,11,12,13,14,15,16,17,18],[0,18])])
def hornbeamref11_Edges.B7 : List Nat:=[0,0,2,0,0,16,56,0,128,0,512,1920,4094,0,8192,24576,65534,131070,262143,524287]
theorem hornbeamref11_Edges.tab7 : rtab .any (opsOf Try.f27 7) = hornbeamref11_Edges.T7:=by kernel_rfl
theorem hornbeamref11_Edges.bits7 : waitsOk hornbeamref11_Edges.T7.2 hornbeamref11_Edges.B7 = true:=by kernel_rfl
set_option maxHeartbeats 8000000 in
set_option maxRecDepth 100000 in
theorem hornbeamref11_Edges.calls (k : Nat) (a0_0 : Int) (a0_1 : Int) (a0_2 : Int) (a0_3 : Int) (a0_4 : Int) (a0_5 : Int) (a0_6 : Int) (a0_7 : Int) (a0_8 : Int) (A0_9 : Option Addr) (c0_9 : Nat) (l0_9 : List Nat) (A0_10 : Option Addr) (c0_10 : Nat) (l0_10 : List Int) (r : List (List Nat)) (w : World) (hr0_9 : Kd.C Flt.kf w A0_9 l0_9.length l0_9) (hc0_9 : l0_9.length ≤ c0_9) (hr0_10 : Kd.C (Kd.int .i64) w A0_10 l0_10.length l0_10) (hc0_10 : l0_10.length ≤ c0_10) (h : hornbeamref11_Edges.f k a0_0 a0_1 a0_2 a0_3 a0_4 a0_5 a0_6 a0_7 a0_8 l0_9 l0_10 = some r) :
  Calls Try.prog 27 #[.agg #[.int .i64 a0_0,.int .i64 a0_1,.int .i64 a0_2,.int .i64 a0_3,.int .i64 a0_4,.int .i64 a0_5,.int .i64 a0_6,.int .i64 a0_7,.int .i64 a0_8,.slice A0_9 l0_9.length c0_9,.slice A0_10 l0_10.length c0_10]] w fun e w'=>∃ v0_ : Value,e = .returned (v0_) ∧ Kd.S (Kd.slice 36 Flt.kf) 30 w' w.heap.size (fun _=>True) v0_ r ∧ Below w.heap.size w w':=by
 have hu32:=Try.underlying32
 have HR0_9:=Aside0.mk hr0_9
 have HC0_9:=Aside0.mk hc0_9
 clear hr0_9 hc0_9
 have HR0_10:=Aside0.mk hr0_10
 have HC0_10:=Aside0.mk hc0_10
 clear hr0_10 hc0_10
 have HB:=Aside0.mk (Below.refl w.heap.size w)
 have H : ((some (([] : List (List Nat)) : List (List Nat))).bind fun y287=>((hornbeamref11_Few.f a0_7).bind fun t290=>(if t290 = true then ((hornbeamref11_Few.f a0_8).bind fun t291=>(if t291 = true then (hornbeamref11_Edges.j0 k y287 ((l0_9.length : Int) != (wrap64 (a0_7 * a0_8))) a0_0 a0_1 a0_2 a0_3 a0_4 a0_5 a0_6 a0_7 a0_8 l0_9 l0_10) else (hornbeamref11_Edges.j0 k y287 true a0_0 a0_1 a0_2 a0_3 a0_4 a0_5 a0_6 a0_7 a0_8 l0_9 l0_10))) else (hornbeamref11_Edges.j0 k y287 true a0_0 a0_1 a0_2 a0_3 a0_4 a0_5 a0_6 a0_7 a0_8 l0_9 l0_10)))) = some r:=h
 clear h
 obtain ⟨y287,hy287⟩ : ∃ y_ : List (List Nat),y_ = (([] : List (List Nat))):=⟨_,rfl⟩
 replace H : ((hornbeamref11_Few.f a0_7).bind fun t290=>(if t290 = true then ((hornbeamref11_Few.f a0_8).bind fun t291=>(if t291 = true then (hornbeamref11_Edges.j0 k y287 ((l0_9.length : Int) != (wrap64 (a0_7 * a0_8))) a0_0 a0_1 a0_2 a0_3 a0_4 a0_5 a0_6 a0_7 a0_8 l0_9 l0_10) else (hornbeamref11_Edges.j0 k y287 true a0_0 a0_1 a0_2 a0_3 a0_4 a0_5 a0_6 a0_7 a0_8 l0_9 l0_10))) else (hornbeamref11_Edges.j0 k y287 true a0_0 a0_1 a0_2 a0_3 a0_4 a0_5 a0_6 a0_7 a0_8 l0_9 l0_10))) = some r:=by first|(rw [hy287];with_reducible exact H)|(have H2_:=(Option.bind_some _ _).symm.trans H;rw [hy287];with_reducible exact H2_)|(have H2_:=(Option.bind_some _ _).symm.trans H;with_reducible exact H2_)|with_reducible exact H|(rw [hy287];exact H)|exact H
 have Ny287:=Aside0.mk hy287
 clear hy287
 have HC2:=Aside0.mk H
 clear H
 go_enter Try.func27,Try.ntmps27
 go_upto_region 2 with (first|((with_reducible refine gate_dst (N:=1) rfl ?_);refine box_event ?hg (N:=1) ?hd (cs:=#[.int .i64 a0_0,.int .i64 a0_1,.int .i64 a0_2,.int .i64 a0_3,.int .i64 a0_4,.int .i64 a0_5,.int .i64 a0_6,.int .i64 a0_7,.int .i64 a0_8,.slice A0_9 l0_9.length c0_9,.slice A0_10 l0_10.length c0_10]) (t:=32) ?hr ?_;(case hd=>rfl);(case hg=>rfl);(case hr=>first|(go_simp;done)|(go_simp;rfl));intro gb286 hg w3 hbox hb;have n0_:=Aside0.mk (below_step (by repeat(first|(with_reducible first|exact HB.out|apply below_alloc|apply pw_below_drewN|apply below_drew1)|exact HB.out)) hb);have n1_:=Aside0.mk (hbox);have n2_:=Aside0.mk ((by rw [hg];exact (below_size (by repeat(first|(with_reducible first|exact HB.out|apply below_alloc|apply pw_below_drewN|apply below_drew1)|exact HB.out))) : w.heap.size ≤ gb286));have n3_:=Aside0.mk ((by rw [hg];exact (below_size (by repeat(first|(with_reducible first|exact HB.out|apply below_alloc|apply pw_below_drewN|apply below_drew1)|exact HB.out))) : w.heap.size ≤ gb286));clear HB;have HB:=n0_;have BK286:=n1_;have GW286:=n2_;have GE286:=n3_;clear n0_ n1_ n2_ n3_;clear hb hbox hg)|((with_reducible refine gate_dst (N:=5) rfl ?_);refine Kd.S_lit (Kd.slice 36 Flt.kf) _ 30 ?hg (N:=5) ?hd (xs:=([] : List (List Nat))) (inner:=[]) (ok:=fun _=>True) (okp:=fun _=>True) ?hr ?hp (fun _ hk=>hk) trivial (Below.refl _ _) (Nat.le_refl _) (by simp) ?_;(case hd=>rfl);(case hg=>rfl);(case hr=>first|(go_simp;done)|(go_simp;rfl));(case hp=>exact (Reps.none _ _));intro v288 w4 ho5 hb hg_ hnew_;clear hg_ hnew_;(first|rw [← Ny287.out] at ho5|(simp only [Int.reduceToNat] at ho5;rw [← Ny287.out] at ho5));have n0_:=Aside0.mk (Kd.S_lower ho5 (below_size (by repeat(first|(with_reducible first|exact HB.out|apply below_alloc|apply pw_below_drewN|apply below_drew1|refine below_set ?_ GE286.out)|exact HB.out))));have n1_:=Aside0.mk (blk_below (g:=gb286) (o:=.cells #[.int .i64 a0_0,.int .i64 a0_1,.int .i64 a0_2,.int .i64 a0_3,.int .i64 a0_4,.int .i64 a0_5,.int .i64 a0_6,.int .i64 a0_7,.int .i64 a0_8,.slice A0_9 l0_9.length c0_9,.slice A0_10 l0_10.length c0_10] 32 (0,0)) (by (with_reducible repeat(first|refine blk_drewN ?_ _|refine blk_drew ?_|refine blk_alloc ?_ _));exact BK286.out) hb);have n2_:=Aside0.mk (below_step (by repeat(first|(with_reducible first|exact HB.out|apply below_alloc|apply pw_below_drewN|apply below_drew1|refine below_set ?_ GE286.out)|exact HB.out)) hb);clear BK286;clear HB;have HO289:=n0_;have BK286:=n1_;have HB:=n2_;clear n0_ n1_ n2_;clear hb ho5))
 (try simp only [Act.put,List.setIfInBounds_toArray,List.set_cons_zero,List.set_cons_succ])
 go_cut [26] (fun v26 wc=>∃ (kq : Nat) (x26_1 : Bool),v26 = .bool x26_1 ∧ Aside0 (hornbeamref11_Edges.j0 kq y287 x26_1 a0_0 a0_1 a0_2 a0_3 a0_4 a0_5 a0_6 a0_7 a0_8 l0_9 l0_10 = some r) ∧ Aside0 (kq ≤ k) ∧ Aside0 (Kd.S (Kd.slice 36 Flt.kf) 30 wc w.heap.size (fun _=>True) v288 y287) ∧ Aside0 (wc.heap[gb286]? = some (.cells #[.int .i64 a0_0,.int .i64 a0_1,.int .i64 a0_2,.int .i64 a0_3,.int .i64 a0_4,.int .i64 a0_5,.int .i64 a0_6,.int .i64 a0_7,.int .i64 a0_8,(.slice A0_9 l0_9.length c0_9),(.slice A0_10 l0_10.length c0_10)] 32 (0,0))) ∧ Aside0 (Below w.heap.size w wc))
 case first =>
  have H:=HC2.out
  clear HC2
  replace H:=Option.bind_eq_some_iff.mp H
  obtain ⟨t290,A60,H⟩:=H
  replace H : (if t290 = true then ((hornbeamref11_Few.f a0_8).bind fun t291=>(if t291 = true then (hornbeamref11_Edges.j0 k y287 ((l0_9.length : Int) != (wrap64 (a0_7 * a0_8))) a0_0 a0_1 a0_2 a0_3 a0_4 a0_5 a0_6 a0_7 a0_8 l0_9 l0_10) else (hornbeamref11_Edges.j0 k y287 true a0_0 a0_1 a0_2 a0_3 a0_4 a0_5 a0_6 a0_7 a0_8 l0_9 l0_10))) else (hornbeamref11_Edges.j0 k y287 true a0_0 a0_1 a0_2 a0_3 a0_4 a0_5 a0_6 a0_7 a0_8 l0_9 l0_10)) = some r:=H
  have A6:=Aside0.mk A60
  clear A60
  by_cases c7 : t290 = true
  ·subst c7
   have H1 : ((hornbeamref11_Few.f a0_8).bind fun t291=>(if t291 = true then (hornbeamref11_Edges.j0 k y287 ((l0_9.length : Int) != (wrap64 (a0_7 * a0_8))) a0_0 a0_1 a0_2 a0_3 a0_4 a0_5 a0_6 a0_7 a0_8 l0_9 l0_10) else (hornbeamref11_Edges.j0 k y287 true a0_0 a0_1 a0_2 a0_3 a0_4 a0_5 a0_6 a0_7 a0_8 l0_9 l0_10))) = some r:=by rw [if_pos rfl] at H;exact H
   clear H
   have H:=H1
   clear H1
   replace H:=Option.bind_eq_some_iff.mp H
   obtain ⟨t291,A80,H⟩:=H
   replace H : (if t291 = true then (hornbeamref11_Edges.j0 k y287 ((l0_9.length : Int) != (wrap64 (a0_7 * a0_8))) a0_0 a0_1 a0_2 a0_3 a0_4 a0_5 a0_6 a0_7 a0_8 l0_9 l0_10) else (hornbeamref11_Edges.j0 k y287 true a0_0 a0_1 a0_2 a0_3 a0_4 a0_5 a0_6 a0_7 a0_8 l0_9 l0_10)) = some r:=H
   have A8:=Aside0.mk A80
   clear A80
   by_cases c9 : t291 = true
   ·subst c9
    have H1 : (hornbeamref11_Edges.j0 k y287 ((l0_9.length : Int) != (wrap64 (a0_7 * a0_8))) a0_0 a0_1 a0_2 a0_3 a0_4 a0_5 a0_6 a0_7 a0_8 l0_9 l0_10) = some r:=by rw [if_pos rfl] at H;exact H
    clear H
    have H:=H1
    clear H1
    have H':=Aside0.mk H
    clear H
    have hcz10_0 : w4.cell? ⟨gb286,0,none⟩ = some (.int .i64 a0_0):=(blk_cell BK286.out 0).trans rfl
    have hcz10_1 : w4.cell? ⟨gb286,1,none⟩ = some (.int .i64 a0_1):=(blk_cell BK286.out 1).trans rfl
    have hcz10_2 : w4.cell? ⟨gb286,2,none⟩ = some (.int .i64 a0_2):=(blk_cell BK286.out 2).trans rfl
    have hcz10_3 : w4.cell? ⟨gb286,3,none⟩ = some (.int .i64 a0_3):=(blk_cell BK286.out 3).trans rfl
    have hcz10_4 : w4.cell? ⟨gb286,4,none⟩ = some (.int .i64 a0_4):=(blk_cell BK286.out 4).trans rfl
    have hcz10_5 : w4.cell? ⟨gb286,5,none⟩ = some (.int .i64 a0_5):=(blk_cell BK286.out 5).trans rfl
    have hcz10_6 : w4.cell? ⟨gb286,6,none⟩ = some (.int .i64 a0_6):=(blk_cell BK286.out 6).trans rfl
    have hcz10_7 : w4.cell? ⟨gb286,7,none⟩ = some (.int .i64 a0_7):=(blk_cell BK286.out 7).trans rfl
    have hcz10_8 : w4.cell? ⟨gb286,8,none⟩ = some (.int .i64 a0_8):=(blk_cell BK286.out 8).trans rfl
    have hcz10_9 : w4.cell? ⟨gb286,9,none⟩ = some (.slice A0_9 l0_9.length c0_9):=(blk_cell BK286.out 9).trans rfl
    have hcz10_10 : w4.cell? ⟨gb286,10,none⟩ = some (.slice A0_10 l0_10.length c0_10):=(blk_cell BK286.out 10).trans rfl
    have hfz10_0:=blk_frozen BK286.out 0
    have hfz10_1:=blk_frozen BK286.out 1
    have hfz10_2:=blk_frozen BK286.out 2
    have hfz10_3:=blk_frozen BK286.out 3
    have hfz10_4:=blk_frozen BK286.out 4
    have hfz10_5:=blk_frozen BK286.out 5
    have hfz10_6:=blk_frozen BK286.out 6
    have hfz10_7:=blk_frozen BK286.out 7
    have hfz10_8:=blk_frozen BK286.out 8
    have hfz10_9:=blk_frozen BK286.out 9
    have hfz10_10:=blk_frozen BK286.out 10
    go_wp2_with (first|((with_reducible refine gate_callee (f:=69) rfl ?_);refine goesL_ (some 8) rfl rfl Try.func69 (by kernel_rfl) rfl #[.int .i64 a0_7] rfl (by (try simp only [List.map_toArray,List.map_cons,List.map_nil]);first|done|rfl|(simp only [List.length_drop,List.length_take];rfl)) ?_;(with_reducible refine (hornbeamref11_Few.calls a0_7 true _ A6.out).mono ?_);rintro e w' ⟨rfl,⟨nd,rfl⟩⟩;refine ⟨_,rfl,?_⟩)|(go_at_call 69;(with_reducible refine (hornbeamref11_Few.calls a0_8 true _ A8.out).mono ?_);rintro e w' ⟨rfl,⟨nd,rfl⟩⟩))
    go_meet
    case rel=>exact ⟨_,(((l0_9.length : Int) != (wrap64 (a0_7 * a0_8)))),(by first|rfl|(simp;done)|(simp [*];done)),H',⟨by first|omega|exact Nat.le_refl _⟩,⟨by (with_reducible repeat(first|apply Kd.S_alloc|apply Kd.S_drewN|apply Kd.S_drew));exact HO289.out⟩,⟨by (with_reducible repeat(first|refine blk_drewN ?_ _|refine blk_drew ?_|refine blk_alloc ?_ _));exact BK286.out⟩,⟨by repeat(first|(with_reducible first|exact HB.out|apply below_alloc|apply pw_below_drewN|apply below_drew1|refine below_set ?_ GE286.out)|exact HB.out)⟩⟩
   ·replace c9:=Bool.eq_false_iff.mpr c9
    subst c9
    have H1 : (hornbeamref11_Edges.j0 k y287 true a0_0 a0_1 a0_2 a0_3 a0_4 a0_5 a0_6 a0_7 a0_8 l0_9 l0_10) = some r:=by rw [if_neg (show ¬ (false = true) by decide)] at H;exact H
    clear H
    have H:=H1
    clear H1
    have H':=Aside0.mk H
    clear H
    have hcz11_0 : w4.cell? ⟨gb286,0,none⟩ = some (.int .i64 a0_0):=(blk_cell BK286.out 0).trans rfl
    have hcz11_1 : w4.cell? ⟨gb286,1,none⟩ = some (.int .i64 a0_1):=(blk_cell BK286.out 1).trans rfl
    have hcz11_2 : w4.cell? ⟨gb286,2,none⟩ = some (.int .i64 a0_2):=(blk_cell BK286.out 2).trans rfl
    have hcz11_3 : w4.cell? ⟨gb286,3,none⟩ = some (.int .i64 a0_3):=(blk_cell BK286.out 3).trans rfl
    have hcz11_4 : w4.cell? ⟨gb286,4,none⟩ = some (.int .i64 a0_4):=(blk_cell BK286.out 4).trans rfl
    have hcz11_5 : w4.cell? ⟨gb286,5,none⟩ = some (.int .i64 a0_5):=(blk_cell BK286.out 5).trans rfl
    have hcz11_6 : w4.cell? ⟨gb286,6,none⟩ = some (.int .i64 a0_6):=(blk_cell BK286.out 6).trans rfl
    have hcz11_7 : w4.cell? ⟨gb286,7,none⟩ = some (.int .i64 a0_7):=(blk_cell BK286.out 7).trans rfl
    have hcz11_8 : w4.cell? ⟨gb286,8,none⟩ = some (.int .i64 a0_8):=(blk_cell BK286.out 8).trans rfl
    have hcz11_9 : w4.cell? ⟨gb286,9,none⟩ = some (.slice A0_9 l0_9.length c0_9):=(blk_cell BK286.out 9).trans rfl
    have hcz11_10 : w4.cell? ⟨gb286,10,none⟩ = some (.slice A0_10 l0_10.length c0_10):=(blk_cell BK286.out 10).trans rfl
    have hfz11_0:=blk_frozen BK286.out 0
    have hfz11_1:=blk_frozen BK286.out 1
    have hfz11_2:=blk_frozen BK286.out 2
    have hfz11_3:=blk_frozen BK286.out 3
    have hfz11_4:=blk_frozen BK286.out 4
    have hfz11_5:=blk_frozen BK286.out 5
    have hfz11_6:=blk_frozen BK286.out 6
    have hfz11_7:=blk_frozen BK286.out 7
    have hfz11_8:=blk_frozen BK286.out 8
    have hfz11_9:=blk_frozen BK286.out 9
    have hfz11_10:=blk_frozen BK286.out 10
    go_wp2_with (first|((with_reducible refine gate_callee (f:=69) rfl ?_);refine goesL_ (some 8) rfl rfl Try.func69 (by kernel_rfl) rfl #[.int .i64 a0_7] rfl (by (try simp only [List.map_toArray,List.map_cons,List.map_nil]);first|done|rfl|(simp only [List.length_drop,List.length_take];rfl)) ?_;(with_reducible refine (hornbeamref11_Few.calls a0_7 true _ A6.out).mono ?_);rintro e w' ⟨rfl,⟨nd,rfl⟩⟩;refine ⟨_,rfl,?_⟩)|(go_at_call 69;(with_reducible refine (hornbeamref11_Few.calls a0_8 false _ A8.out).mono ?_);rintro e w' ⟨rfl,⟨nd,rfl⟩⟩))
    go_meet
    case rel=>exact ⟨_,(true),(by first|rfl|(simp;done)|(simp [*];done)),H',⟨by first|omega|exact Nat.le_refl _⟩,⟨by (with_reducible repeat(first|apply Kd.S_alloc|apply Kd.S_drewN|apply Kd.S_drew));exact HO289.out⟩,⟨by (with_reducible repeat(first|refine blk_drewN ?_ _|refine blk_drew ?_|refine blk_alloc ?_ _));exact BK286.out⟩,⟨by repeat(first|(with_reducible first|exact HB.out|apply below_alloc|apply pw_below_drewN|apply below_drew1|refine below_set ?_ GE286.out)|exact HB.out)⟩⟩
  ·replace c7:=Bool.eq_false_iff.mpr c7
   subst c7
   have H1 : (hornbeamref11_Edges.j0 k y287 true a0_0 a0_1 a0_2 a0_3 a0_4 a0_5 a0_6 a0_7 a0_8 l0_9 l0_10) = some r:=by rw [if_neg (show ¬ (false = true) by decide)] at H;exact H
   clear H
   have H:=H1
   clear H1
   have H':=Aside0.mk H
   clear H
   have hcz12_0 : w4.cell? ⟨gb286,0,none⟩ = some (.int .i64 a0_0):=(blk_cell BK286.out 0).trans rfl
   have hcz12_1 : w4.cell? ⟨gb286,1,none⟩ = some (.int .i64 a0_1):=(blk_cell BK286.out 1).trans rfl
   have hcz12_2 : w4.cell? ⟨gb286,2,none⟩ = some (.int .i64 a0_2):=(blk_cell BK286.out 2).trans rfl
   have hcz12_3 : w4.cell? ⟨gb286,3,none⟩ = some (.int .i64 a0_3):=(blk_cell BK286.out 3).trans rfl
   have hcz12_4 : w4.cell? ⟨gb286,4,none⟩ = some (.int .i64 a0_4):=(blk_cell BK286.out 4).trans rfl
   have hcz12_5 : w4.cell? ⟨gb286,5,none⟩ = some (.int .i64 a0_5):=(blk_cell BK286.out 5).trans rfl
   have hcz12_6 : w4.cell? ⟨gb286,6,none⟩ = some (.int .i64 a0_6):=(blk_cell BK286.out 6).trans rfl
   have hcz12_7 : w4.cell? ⟨gb286,7,none⟩ = some (.int .i64 a0_7):=(blk_cell BK286.out 7).trans rfl
   have hcz12_8 : w4.cell? ⟨gb286,8,none⟩ = some (.int .i64 a0_8):=(blk_cell BK286.out 8).trans rfl
   have hcz12_9 : w4.cell? ⟨gb286,9,none⟩ = some (.slice A0_9 l0_9.length c0_9):=(blk_cell BK286.out 9).trans rfl
   have hcz12_10 : w4.cell? ⟨gb286,10,none⟩ = some (.slice A0_10 l0_10.length c0_10):=(blk_cell BK286.out 10).trans rfl
   have hfz12_0:=blk_frozen BK286.out 0
   have hfz12_1:=blk_frozen BK286.out 1
   have hfz12_2:=blk_frozen BK286.out 2
   have hfz12_3:=blk_frozen BK286.out 3
   have hfz12_4:=blk_frozen BK286.out 4
   have hfz12_5:=blk_frozen BK286.out 5
   have hfz12_6:=blk_frozen BK286.out 6
   have hfz12_7:=blk_frozen BK286.out 7
   have hfz12_8:=blk_frozen BK286.out 8
   have hfz12_9:=blk_frozen BK286.out 9
   have hfz12_10:=blk_frozen BK286.out 10
   go_wp2_with (first|((with_reducible refine gate_callee (f:=69) rfl ?_);refine goesL_ (some 8) rfl rfl Try.func69 (by kernel_rfl) rfl #[.int .i64 a0_7] rfl (by (try simp only [List.map_toArray,List.map_cons,List.map_nil]);first|done|rfl|(simp only [List.length_drop,List.length_take];rfl)) ?_;(with_reducible refine (hornbeamref11_Few.calls a0_7 false _ A6.out).mono ?_);rintro e w' ⟨rfl,⟨nd,rfl⟩⟩;refine ⟨_,rfl,?_⟩))
   go_meet
   case rel=>exact ⟨_,(true),(by first|rfl|(simp;done)|(simp [*];done)),H',⟨by first|omega|exact Nat.le_refl _⟩,⟨by (with_reducible repeat(first|apply Kd.S_alloc|apply Kd.S_drewN|apply Kd.S_drew));exact HO289.out⟩,⟨by (with_reducible repeat(first|refine blk_drewN ?_ _|refine blk_drew ?_|refine blk_alloc ?_ _));exact BK286.out⟩,⟨by repeat(first|(with_reducible first|exact HB.out|apply below_alloc|apply pw_below_drewN|apply below_drew1|refine below_set ?_ GE286.out)|exact HB.out)⟩⟩
 case rest =>
  clear HC2
  try clear c2
  try clear p2
  try clear c6
  try clear p6
  try clear c7
  try clear c9
  try clear hcz10_0
  try clear hcz10_1
  try clear hcz10_10
  try clear hcz10_2
  try clear hcz10_3
  try clear hcz10_4
  try clear hcz10_5
  try clear hcz10_6
  try clear hcz10_7
  try clear hcz10_8
  try clear hcz10_9
  try clear hcz11_0
  try clear hcz11_1
  try clear hcz11_10
  try clear hcz11_2
  try clear hcz11_3
  try clear hcz11_4
  try clear hcz11_5
  try clear hcz11_6
  try clear hcz11_7
  try clear hcz11_8
  try clear hcz11_9
  try clear hcz12_0
  try clear hcz12_1
  try clear hcz12_10
  try clear hcz12_2
  try clear hcz12_3
  try clear hcz12_4
  try clear hcz12_5
  try clear hcz12_6
  try clear hcz12_7
  try clear hcz12_8
  try clear hcz12_9
  try clear hfz10_0
  try clear hfz10_1
  try clear hfz10_10
  try clear hfz10_2
  try clear hfz10_3
  try clear hfz10_4
  try clear hfz10_5
  try clear hfz10_6
  try clear hfz10_7
  try clear hfz10_8
  try clear hfz10_9
  try clear hfz11_0
  try clear hfz11_1
  try clear hfz11_10
  try clear hfz11_2
  try clear hfz11_3
  try clear hfz11_4
  try clear hfz11_5
  try clear hfz11_6
  try clear hfz11_7
  try clear hfz11_8
  try clear hfz11_9
  try clear hfz12_0
  try clear hfz12_1
  try clear hfz12_10
  try clear hfz12_2
  try clear hfz12_3
  try clear hfz12_4
  try clear hfz12_5
  try clear hfz12_6
  try clear hfz12_7
  try clear hfz12_8
  try clear hfz12_9
  obtain ⟨kq,x26_1,rfl,HA,HJ1,HO_3,BK286,HB⟩:=hcut
  cases kq with
  | zero=>exact absurd HA.out (by simp [hornbeamref11_Edges.j0])
  | succ kj1 =>
   have H:=HA.out
   clear HA
   simp only [hornbeamref11_Edges.j0] at H
   by_cases c13 : x26_1 = true
   ·subst c13
    have H1 : (some y287) = some r:=by rw [if_pos rfl] at H;exact H
    clear H
    have H:=H1
    clear H1
    obtain rfl:=Option.some.inj H
    go_wp2
    go_ret
    exact ⟨_,by first|rfl|(simp [errW_none,errW_some] <;> rfl)|(simp [*,errW_none,errW_some] <;> rfl),by (with_reducible repeat(first|apply Kd.S_alloc|apply Kd.S_drewN|apply Kd.S_drew));exact HO_3.out,by repeat(first|(with_reducible first|exact HB.out|apply below_alloc|apply pw_below_drewN|apply below_drew1|refine below_set ?_ GE286.out)|exact HB.out)⟩
   ·replace c13:=Bool.eq_false_iff.mpr c13
    subst c13
    have H1 : (hornbeamref11_Edges.l0 kj1 y287 0 a0_0 a0_1 a0_2 a0_3 a0_4 a0_5 a0_6 a0_7 a0_8 l0_9 l0_10) = some r:=by rw [if_neg (show ¬ (false = true) by decide)] at H;exact H
    clear H
    have H:=H1
    clear H1
    have H':=Aside0.mk H
    clear H
    go_wp2
    go_loopg [3,4] kj1 (fun kq v3 v4 w'=>∃ (x3_2 : List (List Nat)) (x4_2 : Int),v4 = .int .i64 x4_2 ∧ Aside0 (hornbeamref11_Edges.l0 kq x3_2 x4_2 a0_0 a0_1 a0_2 a0_3 a0_4 a0_5 a0_6 a0_7 a0_8 l0_9 l0_10 = some r) ∧ Aside0 (kq ≤ kj1) ∧ Aside0 (Kd.S (Kd.slice 36 Flt.kf) 30 w' w.heap.size (fun _=>True) v3 x3_2) ∧ Aside0 (w'.heap[gb286]? = some (.cells #[.int .i64 a0_0,.int .i64 a0_1,.int .i64 a0_2,.int .i64 a0_3,.int .i64 a0_4,.int .i64 a0_5,.int .i64 a0_6,.int .i64 a0_7,.int .i64 a0_8,(.slice A0_9 l0_9.length c0_9),(.slice A0_10 l0_10.length c0_10)] 32 (0,0))) ∧ Aside0 (Below w.heap.size w w'))
    case atStart=>exact ⟨(y287),(0),(by first|rfl|(simp;done)|(simp [*];done)),H',⟨Nat.le_refl _⟩,⟨by (with_reducible repeat(first|apply Kd.S_alloc|apply Kd.S_drewN|apply Kd.S_drew));exact HO_3.out⟩,⟨by (with_reducible repeat(first|refine blk_drewN ?_ _|refine blk_drew ?_|refine blk_alloc ?_ _));exact BK286.out⟩,⟨by repeat(first|(with_reducible first|exact HB.out|apply below_alloc|apply pw_below_drewN|apply below_drew1|refine below_set ?_ GE286.out)|exact HB.out)⟩⟩
    case round =>
     clear H'
     try clear c1
     try clear c2
     try clear p2
     try clear c6
     try clear p6
     try clear c7
     try clear c9
     try clear c13
     try clear hcz10_0
     try clear hcz10_1
     try clear hcz10_10
     try clear hcz10_2
     try clear hcz10_3
     try clear hcz10_4
     try clear hcz10_5
     try clear hcz10_6
     try clear hcz10_7
     try clear hcz10_8
     try clear hcz10_9
     try clear hcz11_0
     try clear hcz11_1
     try clear hcz11_10
     try clear hcz11_2
     try clear hcz11_3
     try clear hcz11_4
     try clear hcz11_5
     try clear hcz11_6
     try clear hcz11_7
     try clear hcz11_8
     try clear hcz11_9
     try clear hcz12_0
     try clear hcz12_1
     try clear hcz12_10
     try clear hcz12_2
     try clear hcz12_3
     try clear hcz12_4
     try clear hcz12_5
     try clear hcz12_6
     try clear hcz12_7
     try clear hcz12_8
     try clear hcz12_9
     try clear hfz10_0
     try clear hfz10_1
     try clear hfz10_10
     try clear hfz10_2
     try clear hfz10_3
     try clear hfz10_4
     try clear hfz10_5
     try clear hfz10_6
     try clear hfz10_7
     try clear hfz10_8
     try clear hfz10_9
     try clear hfz11_0
     try clear hfz11_1
     try clear hfz11_10
     try clear hfz11_2
     try clear hfz11_3
     try clear hfz11_4
     try clear hfz11_5
     try clear hfz11_6
     try clear hfz11_7
     try clear hfz11_8
     try clear hfz11_9
     try clear hfz12_0
     try clear hfz12_1
     try clear hfz12_10
     try clear hfz12_2
     try clear hfz12_3
     try clear hfz12_4
     try clear hfz12_5
     try clear hfz12_6
     try clear hfz12_7
     try clear hfz12_8
     try clear hfz12_9
     try clear p2
     try clear p6
     obtain ⟨x3_2,x4_2,rfl,HA,HK2,HO_3,BK286,HB⟩:=hrel
     cases gk with
     | zero=>exact absurd HA.out (by simp [hornbeamref11_Edges.l0])
     | succ k2 =>
      have H:=HA.out
      clear HA
      simp only [hornbeamref11_Edges.l0] at H
      by_cases c14 : x4_2 < a0_8
      ·rw [if_pos c14] at H
       have c14b0 : decide (x4_2 < a0_8) = true:=decide_eq_true c14
       clear c14
       obtain ⟨ji15,hji15⟩ : ∃ j_ : Int,(wrap64 (x4_2 * a0_7)) = j_:=⟨_,rfl⟩
       replace H : (if 0 ≤ (ji15) then (if (ji15) ≤ (wrap64 ((wrap64 (x4_2 + 1)) * a0_7)) then (if (wrap64 ((wrap64 (x4_2 + 1)) * a0_7)) ≤ (l0_9.length : Int) then ((hornbeamref10_Of.f k2 ((l0_9.take ((wrap64 ((wrap64 (x4_2 + 1)) * a0_7)) : Int).toNat).drop ((ji15) : Int).toNat) a0_2).bind fun t293=>(if x3_2.length < 5864062014805 then (hornbeamref11_Edges.l0 k2 (x3_2 ++ [t293]) (wrap64 (x4_2 + 1)) a0_0 a0_1 a0_2 a0_3 a0_4 a0_5 a0_6 a0_7 a0_8 l0_9 l0_10) else (none))) else (none)) else (none)) else (none)) = some r:=by first|(rw [hji15] at H;exact H)|(simp only [hji15] at H ⊢;exact H)
       have hji15w : (IntKind.i64.wrap (x4_2 * a0_7)) = ji15:=(i64_w _).trans hji15
       by_cases c16 : 0 ≤ (ji15)
       ·rw [if_pos c16] at H
        have c16b0:=eq_true c16
        have c16b1 : decide (0 ≤ (ji15)) = true:=decide_eq_true c16
        clear c16
        by_cases c17 : (ji15) ≤ (wrap64 ((wrap64 (x4_2 + 1)) * a0_7))
        ·rw [if_pos c17] at H
         have c17b0:=eq_true c17
         have c17b1 : decide ((ji15) ≤ (wrap64 ((wrap64 (x4_2 + 1)) * a0_7))) = true:=decide_eq_true c17
         by_cases c18 : (wrap64 ((wrap64 (x4_2 + 1)) * a0_7)) ≤ (l0_9.length : Int)
         ·rw [if_pos c18] at H
          have c18b0:=eq_true c18
          have c18b1 : decide ((wrap64 ((wrap64 (x4_2 + 1)) * a0_7)) ≤ (l0_9.length : Int)) = true:=decide_eq_true c18
          replace H:=Option.bind_eq_some_iff.mp H
          obtain ⟨t293,A190,H⟩:=H
          replace H : (if x3_2.length < 5864062014805 then (hornbeamref11_Edges.l0 k2 (x3_2 ++ [t293]) (wrap64 (x4_2 + 1)) a0_0 a0_1 a0_2 a0_3 a0_4 a0_5 a0_6 a0_7 a0_8 l0_9 l0_10) else (none)) = some r:=H
          have A19:=Aside0.mk A190
          clear A190
          by_cases c20 : x3_2.length < 5864062014805
          ·rw [if_pos c20] at H
           have LMc20:=Aside0.mk c20
           clear c20
           obtain ⟨y296,hy296⟩ : ∃ y_ : List (List Nat),y_ = (x3_2 ++ [t293]):=⟨_,rfl⟩
           replace H : (hornbeamref11_Edges.l0 k2 y296 (wrap64 (x4_2 + 1)) a0_0 a0_1 a0_2 a0_3 a0_4 a0_5 a0_6 a0_7 a0_8 l0_9 l0_10) = some r:=by first|(rw [hy296];with_reducible exact H)|(have H2_:=(Option.bind_some _ _).symm.trans H;rw [hy296];with_reducible exact H2_)|(have H2_:=(Option.bind_some _ _).symm.trans H;with_reducible exact H2_)|with_reducible exact H|(rw [hy296];exact H)|exact H
           have Ny296:=Aside0.mk hy296
           clear hy296
           have H':=Aside0.mk H
           clear H
           have hcz21_0 : wr.cell? ⟨gb286,0,none⟩ = some (.int .i64 a0_0):=(blk_cell BK286.out 0).trans rfl
           have hcz21_1 : wr.cell? ⟨gb286,1,none⟩ = some (.int .i64 a0_1):=(blk_cell BK286.out 1).trans rfl
           have hcz21_2 : wr.cell? ⟨gb286,2,none⟩ = some (.int .i64 a0_2):=(blk_cell BK286.out 2).trans rfl
           have hcz21_3 : wr.cell? ⟨gb286,3,none⟩ = some (.int .i64 a0_3):=(blk_cell BK286.out 3).trans rfl
           have hcz21_4 : wr.cell? ⟨gb286,4,none⟩ = some (.int .i64 a0_4):=(blk_cell BK286.out 4).trans rfl
           have hcz21_5 : wr.cell? ⟨gb286,5,none⟩ = some (.int .i64 a0_5):=(blk_cell BK286.out 5).trans rfl
           have hcz21_6 : wr.cell? ⟨gb286,6,none⟩ = some (.int .i64 a0_6):=(blk_cell BK286.out 6).trans rfl
           have hcz21_7 : wr.cell? ⟨gb286,7,none⟩ = some (.int .i64 a0_7):=(blk_cell BK286.out 7).trans rfl
           have hcz21_8 : wr.cell? ⟨gb286,8,none⟩ = some (.int .i64 a0_8):=(blk_cell BK286.out 8).trans rfl
           have hcz21_9 : wr.cell? ⟨gb286,9,none⟩ = some (.slice A0_9 l0_9.length c0_9):=(blk_cell BK286.out 9).trans rfl
           have hcz21_10 : wr.cell? ⟨gb286,10,none⟩ = some (.slice A0_10 l0_10.length c0_10):=(blk_cell BK286.out 10).trans rfl
           have hfz21_0:=blk_frozen BK286.out 0
           have hfz21_1:=blk_frozen BK286.out 1
           have hfz21_2:=blk_frozen BK286.out 2
           have hfz21_3:=blk_frozen BK286.out 3
           have hfz21_4:=blk_frozen BK286.out 4
           have hfz21_5:=blk_frozen BK286.out 5
           have hfz21_6:=blk_frozen BK286.out 6
           have hfz21_7:=blk_frozen BK286.out 7
           have hfz21_8:=blk_frozen BK286.out 8
           have hfz21_9:=blk_frozen BK286.out 9
           have hfz21_10:=blk_frozen BK286.out 10
           try go_wp2
           have n0_:=Aside0.mk (Kd.S_drew HO_3.out)
           have n1_:=Aside0.mk (blk_drew BK286.out)
           have n2_:=Aside0.mk (below_drew1 HB.out)
           clear HO_3
           clear BK286
           clear HB
           have HO_3:=n0_
           have BK286:=n1_
           have HB:=n2_
           clear n0_ n1_ n2_
           obtain ⟨i023,hi023,_,hsz23,_⟩:=info_parts info36
           obtain ⟨A23,hcut23,hA23,hC23⟩:=print_mid_of (P:=Try.prog) (Value.float .f64) (0 : Nat) 30 36 .i64 .i64 Try.underlying30 hi023 hsz23 A0_9 c0_9 l0_9 (ji15) (wrap64 ((wrap64 (x4_2 + 1)) * a0_7)) (of_decide_eq_true (by first|(with_reducible assumption)|assumption)) (by first|omega|exact of_decide_eq_true (by first|(with_reducible assumption)|assumption)) (of_decide_eq_true (by first|(with_reducible assumption)|assumption)) HC0_9.out
           have HR292:=Aside0.mk (Kd.C_of_reads (h1:=fun _=>rfl) (hA23 _ (Kd.reads_of_C HR0_9.out)))
           have HC292:=Aside0.mk hC23
           clear hA23 hC23 hi023 hsz23
           refine start_ (n:=20) (S:=fun w'=>w'.cell? ⟨gb286,0,none⟩ = some (.int .i64 a0_0) ∧ w'.cell? ⟨gb286,1,none⟩ = some (.int .i64 a0_1) ∧ w'.cell? ⟨gb286,2,none⟩ = some (.int .i64 a0_2) ∧ w'.cell? ⟨gb286,3,none⟩ = some (.int .i64 a0_3) ∧ w'.cell? ⟨gb286,4,none⟩ = some (.int .i64 a0_4) ∧ w'.cell? ⟨gb286,5,none⟩ = some (.int .i64 a0_5) ∧ w'.cell? ⟨gb286,6,none⟩ = some (.int .i64 a0_6) ∧ w'.cell? ⟨gb286,7,none⟩ = some (.int .i64 a0_7) ∧ w'.cell? ⟨gb286,8,none⟩ = some (.int .i64 a0_8) ∧ w'.cell? ⟨gb286,9,none⟩ = some (.slice A0_9 l0_9.length c0_9) ∧ w'.cell? ⟨gb286,10,none⟩ = some (.slice A0_10 l0_10.length c0_10)) (ds:=[]) #[false,false,false,false,false,false,false,false,false,false,false,false,false,false,false,false,false,false,false,false] (by kernel_rfl) rfl rfl ⟨(blk_cell BK286.out 0).trans rfl,(blk_cell BK286.out 1).trans rfl,(blk_cell BK286.out 2).trans rfl,(blk_cell BK286.out 3).trans rfl,(blk_cell BK286.out 4).trans rfl,(blk_cell BK286.out 5).trans rfl,(blk_cell BK286.out 6).trans rfl,(blk_cell BK286.out 7).trans rfl,(blk_cell BK286.out 8).trans rfl,(blk_cell BK286.out 9).trans rfl,(blk_cell BK286.out 10).trans rfl⟩ (fun hHeld=>?_);refine with_tabW hornbeamref11_Edges.tab7 hornbeamref11_Edges.bits7 (fun HT_ HW_=>?_)
           generalize wr.drew = w22 at HO_3 BK286 HB HR292 hHeld ⊢
           refine pure_ (i:=0) (N:=some 34) (v:=?_) (a':=?_) #[true,false,false,false,false,false,false,false,false,false,false,false,false,false,false,false,false,false,false,false] rfl rfl (any_of HT_.out (by kernel_rfl)) (fun _ _ _ h=>h) (Or.inl ⟨by rfl,?_⟩) ?_ ?_
           rotate_left
           ·intro w'
            go_simp
            with_reducible rfl
           rotate_left
           ·simp only [Act.put,List.setIfInBounds_toArray,List.set_cons_zero,List.set_cons_succ,i64_w,i32_w]
            rfl
           refine pure_ (i:=1) (N:=some 35) (v:=?_) (a':=?_) #[true,true,false,false,false,false,false,false,false,false,false,false,false,false,false,false,false,false,false,false] rfl rfl (any_of HT_.out (by kernel_rfl)) (fun _ _ _ h=>h) (Or.inl ⟨by rfl,?_⟩) ?_ ?_
           rotate_left
           ·intro w'
            go_simp
            with_reducible rfl
           rotate_left
           ·simp only [Act.put,List.setIfInBounds_toArray,List.set_cons_zero,List.set_cons_succ,i64_w,i32_w]
            rfl
           refine pure_ (i:=3) (N:=some 37) (v:=?_) (a':=?_) #[true,true,false,true,false,false,false,false,false,false,false,false,false,false,false,false,false,false,false,false] rfl rfl (any_of HT_.out (by kernel_rfl)) (fun _ _ _ h=>h) (Or.inl ⟨by rfl,?_⟩) ?_ ?_
           rotate_left
           ·intro w'
            go_simp
            with_reducible rfl
           rotate_left
           ·simp only [Act.put,List.setIfInBounds_toArray,List.set_cons_zero,List.set_cons_succ,i64_w,i32_w]
            rfl
           refine pure_ (i:=4) (N:=some 38) (v:=?_) (a':=?_) #[true,true,false,true,true,false,false,false,false,false,false,false,false,false,false,false,false,false,false,false] rfl rfl (any_of HT_.out (by kernel_rfl)) (fun _ _ _ h=>h) (Or.inl ⟨by rfl,?_⟩) ?_ ?_
           rotate_left
           ·intro w'
            go_simp
            with_reducible rfl
           rotate_left
           ·simp only [Act.put,List.setIfInBounds_toArray,List.set_cons_zero,List.set_cons_succ,i64_w,i32_w]
            rfl
           refine pure_ (i:=7) (N:=some 41) (v:=?_) (a':=?_) #[true,true,false,true,true,false,false,true,false,false,false,false,false,false,false,false,false,false,false,false] rfl rfl (any_of HT_.out (by kernel_rfl)) (fun _ _ _ h=>h) (Or.inl ⟨by rfl,?_⟩) ?_ ?_
           rotate_left
           ·intro w'
            go_simp
            with_reducible rfl
           rotate_left
           ·simp only [Act.put,List.setIfInBounds_toArray,List.set_cons_zero,List.set_cons_succ,i64_w,i32_w]
            rfl
           refine pure_ (i:=8) (N:=some 42) (v:=?_) (a':=?_) #[true,true,false,true,true,false,false,true,true,false,false,false,false,false,false,false,false,false,false,false] rfl rfl (any_of HT_.out (by kernel_rfl)) (fun _ _ _ h=>h) (Or.inl ⟨by rfl,?_⟩) ?_ ?_
           rotate_left
           ·intro w'
            go_simp
            with_reducible rfl
           rotate_left
           ·simp only [Act.put,List.setIfInBounds_toArray,List.set_cons_zero,List.set_cons_succ,i64_w,i32_w]
            rfl
           refine pure_ (i:=9) (N:=some 43) (v:=?_) (a':=?_) #[true,true,false,true,true,false,false,true,true,true,false,false,false,false,false,false,false,false,false,false] rfl rfl (any_of HT_.out (by kernel_rfl)) (fun _ _ _ h=>h) (Or.inl ⟨by rfl,?_⟩) ?_ ?_
           rotate_left
           ·intro w'
            go_simp
            with_reducible rfl
           rotate_left
           ·simp only [Act.put,List.setIfInBounds_toArray,List.set_cons_zero,List.set_cons_succ,i64_w,i32_w]
            rfl
           refine pure_ (i:=13) (N:=some 47) (v:=?_) (a':=?_) #[true,true,false,true,true,false,false,true,true,true,false,false,false,true,false,false,false,false,false,false] rfl rfl (any_of HT_.out (by kernel_rfl)) (fun _ _ _ h=>h) (Or.inl ⟨by rfl,?_⟩) ?_ ?_
           rotate_left
           ·intro w'
            go_simp
            with_reducible rfl
           rotate_left
           ·simp only [Act.put,List.setIfInBounds_toArray,List.set_cons_zero,List.set_cons_succ,i64_w,i32_w]
            rfl
           refine pure_ (i:=14) (N:=some 48) (v:=?_) (a':=?_) #[true,true,false,true,true,false,false,true,true,true,false,false,false,true,true,false,false,false,false,false] rfl rfl (any_of HT_.out (by kernel_rfl)) (fun _ _ _ h=>h) (Or.inl ⟨by rfl,?_⟩) ?_ ?_
           rotate_left
           ·intro w'
            go_simp
            with_reducible rfl
           rotate_left
           ·simp only [Act.put,List.setIfInBounds_toArray,List.set_cons_zero,List.set_cons_succ,i64_w,i32_w]
            rfl
           refine take_ (i:=2) (N:=some 36) (v:=?_) (a':=?_) #[true,true,true,true,true,false,false,true,true,true,false,false,false,true,true,false,false,false,false,false] rfl rfl (take_ofW HT_.out HW_.out (by kernel_rfl)) (fun _ _ _ h=>h) (Or.inl ⟨by rfl,?_⟩) hHeld ?_ ?_
           rotate_left
           ·rintro w' ⟨s0,s1,s2,s3,s4,s5,s6,s7,s8,s9,s10⟩
            go_simp
            with_reducible rfl
           rotate_left
           ·simp only [Act.put,List.setIfInBounds_toArray,List.set_cons_zero,List.set_cons_succ,i64_w,i32_w]
            rfl
           refine take_ (i:=5) (N:=some 39) (v:=?_) (a':=?_) #[true,true,true,true,true,true,false,true,true,true,false,false,false,true,true,false,false,false,false,false] rfl rfl (take_ofW HT_.out HW_.out (by kernel_rfl)) (fun _ _ _ h=>h) (Or.inl ⟨by rfl,?_⟩) hHeld ?_ ?_
           rotate_left
           ·rintro w' ⟨s0,s1,s2,s3,s4,s5,s6,s7,s8,s9,s10⟩
            go_simp
            with_reducible rfl
           rotate_left
           ·simp only [Act.put,List.setIfInBounds_toArray,List.set_cons_zero,List.set_cons_succ,i64_w,i32_w]
            rfl
           refine pure_ (i:=6) (N:=some 40) (v:=?_) (a':=?_) #[true,true,true,true,true,true,true,true,true,true,false,false,false,true,true,false,false,false,false,false] rfl rfl (any_of HT_.out (by kernel_rfl)) (fun _ _ _ h=>h) (Or.inl ⟨by rfl,?_⟩) ?_ ?_
           rotate_left
           ·intro w'
            go_simp
            with_reducible rfl
           rotate_left
           ·simp only [Act.put,List.setIfInBounds_toArray,List.set_cons_zero,List.set_cons_succ,i64_w,i32_w]
            rfl
           refine take_ (i:=10) (N:=some 44) (v:=?_) (a':=?_) #[true,true,true,true,true,true,true,true,true,true,true,false,false,true,true,false,false,false,false,false] rfl rfl (take_ofW HT_.out HW_.out (by kernel_rfl)) (fun _ _ _ h=>h) (Or.inl ⟨by rfl,?_⟩) hHeld ?_ ?_
           rotate_left
           ·rintro w' ⟨s0,s1,s2,s3,s4,s5,s6,s7,s8,s9,s10⟩
            go_simp
            with_reducible rfl
           rotate_left
           ·simp only [Act.put,List.setIfInBounds_toArray,List.set_cons_zero,List.set_cons_succ,i64_w,i32_w]
            rfl
           refine pure_ (i:=11) (N:=some 45) (v:=?_) (a':=?_) #[true,true,true,true,true,true,true,true,true,true,true,true,false,true,true,false,false,false,false,false] rfl rfl (any_of HT_.out (by kernel_rfl)) (fun _ _ _ h=>h) (Or.inl ⟨by rfl,?_⟩) ?_ ?_
           rotate_left
           ·intro w'
            go_simp
            with_reducible rfl
           rotate_left
           ·simp only [Act.put,List.setIfInBounds_toArray,List.set_cons_zero,List.set_cons_succ,i64_w,i32_w]
            rfl
           refine pure_ (i:=12) (N:=some 46) (v:=?_) (a':=?_) #[true,true,true,true,true,true,true,true,true,true,true,true,true,true,true,false,false,false,false,false] rfl rfl (any_of HT_.out (by kernel_rfl)) (fun _ _ _ h=>h) (Or.inl ⟨by rfl,?_⟩) ?_ ?_
           rotate_left
           ·intro w'
            go_simp
            with_reducible rfl
           rotate_left
           ·simp only [Act.put,List.setIfInBounds_toArray,List.set_cons_zero,List.set_cons_succ,i64_w,i32_w]
            rfl
           refine take_ (i:=15) (N:=some 49) (v:=?_) (a':=?_) #[true,true,true,true,true,true,true,true,true,true,true,true,true,true,true,true,false,false,false,false] rfl rfl (take_ofW HT_.out HW_.out (by kernel_rfl)) (fun _ _ _ h=>h) (Or.inl ⟨by rfl,?_⟩) hHeld ?_ ?_
           rotate_left
           ·rintro w' ⟨s0,s1,s2,s3,s4,s5,s6,s7,s8,s9,s10⟩
            go_simp
            with_reducible rfl
           rotate_left
           ·simp only [Act.put,List.setIfInBounds_toArray,List.set_cons_zero,List.set_cons_succ,i64_w,i32_w]
            rfl
           refine one_ (i:=16) (N:=some 50) #[true,true,true,true,true,true,true,true,true,true,true,true,true,true,true,true,true,false,false,false] rfl rfl (one_of HT_.out (by kernel_rfl)) (by decide) (fun K hK=>?_)
           refine goes_ Try.func70 (by kernel_rfl) rfl #[.slice A23 ((l0_9.take ((wrap64 ((wrap64 (x4_2 + 1)) * a0_7)) : Int).toNat).drop ((ji15) : Int).toNat).length (c0_9 - (ji15).toNat),.int .i64 a0_2] (by rfl) rfl rfl (by (try simp only [List.map_toArray,List.map_cons,List.map_nil]);first|done|(rw [show ((l0_9.take ((wrap64 ((wrap64 (x4_2 + 1)) * a0_7)) : Int).toNat).drop ((ji15) : Int).toNat).length = ((wrap64 ((wrap64 (x4_2 + 1)) * a0_7)).toNat - (ji15).toNat) from (by rw [List.length_drop,List.length_take];have h_ : ((wrap64 ((wrap64 (x4_2 + 1)) * a0_7)) : Int) ≤ (l0_9.length : Int):=of_decide_eq_true (by first|(with_reducible assumption)|assumption);omega)] <;> rfl)|(simp only [hji15];rfl)|rfl|(simp only [List.length_drop,List.length_take];rfl)) ?_
           with_reducible refine (hornbeamref10_Of.calls k2 _ _ ((l0_9.take ((wrap64 ((wrap64 (x4_2 + 1)) * a0_7)) : Int).toNat).drop ((ji15) : Int).toNat) a0_2 t293 _ ?side1 ?side2 A19.out).mono ?_
           (case side1=>repeat(first|exact (Kd.C_below HR292.out HB.out)|(with_reducible refine Kd.C_alloc ?_ _)|(with_reducible refine Kd.C_drewN ?_ _)|(with_reducible refine Kd.C_drew ?_)))
           (case side2=>exact HC292.out)
           rintro e w24 ⟨v294,rfl,ho0,hb⟩
           refine ⟨_,rfl,?_⟩
           have n0_:=Aside0.mk (Kd.S_elder' (by (with_reducible repeat(first|apply Kd.S_alloc|apply Kd.S_drewN|apply Kd.S_drew));exact HO_3.out) (Kd.R_base ho0) hb)
           have n1_:=Aside0.mk (Kd.R_lower ho0 (below_size (by repeat(first|(with_reducible first|exact HB.out|apply below_alloc|apply pw_below_drewN|apply below_drew1|refine below_set ?_ GE286.out)|exact HB.out))))
           have n2_:=Aside0.mk (blk_below (g:=gb286) (o:=.cells #[.int .i64 a0_0,.int .i64 a0_1,.int .i64 a0_2,.int .i64 a0_3,.int .i64 a0_4,.int .i64 a0_5,.int .i64 a0_6,.int .i64 a0_7,.int .i64 a0_8,.slice A0_9 l0_9.length c0_9,.slice A0_10 l0_10.length c0_10] 32 (0,0)) (by (with_reducible repeat(first|refine blk_drewN ?_ _|refine blk_drew ?_|refine blk_alloc ?_ _));exact BK286.out) hb)
           have n3_:=Aside0.mk (below_step (by repeat(first|(with_reducible first|exact HB.out|apply below_alloc|apply pw_below_drewN|apply below_drew1|refine below_set ?_ GE286.out)|exact HB.out)) hb)
           clear HO_3
           clear BK286
           clear HB
           have HO_3:=n0_
           have HO295:=n1_
           have BK286:=n2_
           have HB:=n3_
           clear n0_ n1_ n2_ n3_
           (try clear hb)
           (try clear hb2)
           (try clear hk)
           (try clear hi)
           (try clear ho0)
           obtain ⟨Ao26,co26,eo26⟩:=Kd.R_slice HO295.out
           (first|subst eo26|(injection eo26 with f1_ f2_ f3_;have f4_:=f1_.symm;have f5_:=f3_.symm;clear f1_ f2_ f3_;subst f4_;subst f5_))
           refine hK.out _ _ ⟨(blk_cell BK286.out 0).trans rfl,(blk_cell BK286.out 1).trans rfl,(blk_cell BK286.out 2).trans rfl,(blk_cell BK286.out 3).trans rfl,(blk_cell BK286.out 4).trans rfl,(blk_cell BK286.out 5).trans rfl,(blk_cell BK286.out 6).trans rfl,(blk_cell BK286.out 7).trans rfl,(blk_cell BK286.out 8).trans rfl,(blk_cell BK286.out 9).trans rfl,(blk_cell BK286.out 10).trans rfl⟩ (fun hHeld=>?_)
           clear hK K
           refine norm_ (a':=?_) ?_ ?_
           rotate_left
           ·show Act.put _ (some 50) _ = _
            simp only [Act.put,List.setIfInBounds_toArray,List.set_cons_zero,List.set_cons_succ,i64_w,i32_w]
            rfl
           refine one_ (i:=17) (N:=some 51) #[true,true,true,true,true,true,true,true,true,true,true,true,true,true,true,true,true,true,false,false] rfl rfl (one_of HT_.out (by kernel_rfl)) (by decide) (fun K hK=>?_)
           refine value_ (w1:=?_) (v:=?_) (by rfl) rfl ?_ ?_
           rotate_left 2
           ·go_simp
            constructor
            ·rfl
            ·rfl
           refine hK.out _ _ ⟨(blk_cell (blk_alloc BK286.out _) 0).trans rfl,(blk_cell (blk_alloc BK286.out _) 1).trans rfl,(blk_cell (blk_alloc BK286.out _) 2).trans rfl,(blk_cell (blk_alloc BK286.out _) 3).trans rfl,(blk_cell (blk_alloc BK286.out _) 4).trans rfl,(blk_cell (blk_alloc BK286.out _) 5).trans rfl,(blk_cell (blk_alloc BK286.out _) 6).trans rfl,(blk_cell (blk_alloc BK286.out _) 7).trans rfl,(blk_cell (blk_alloc BK286.out _) 8).trans rfl,(blk_cell (blk_alloc BK286.out _) 9).trans rfl,(blk_cell (blk_alloc BK286.out _) 10).trans rfl⟩ (fun hHeld=>?_)
           clear hK K
           refine norm_ (a':=?_) ?_ ?_
           rotate_left
           ·show Act.put _ (some 51) _ = _
            simp only [Act.put,List.setIfInBounds_toArray,List.set_cons_zero,List.set_cons_succ,i64_w,i32_w]
            rfl
           refine one_ (i:=18) (N:=some 52) #[true,true,true,true,true,true,true,true,true,true,true,true,true,true,true,true,true,true,true,false] rfl rfl (one_of HT_.out (by kernel_rfl)) (by decide) (fun K hK=>?_)
           refine Kd.S_append_step (Kd.slice 36 Flt.kf) (w0:=w) w.heap.size (by rfl) (.tmp 34) (.tmp 51) 56 30 (.slice none 0 0) 24 rfl Try.underlying56 info30 rfl (by decide) (by omega) u3 x3_2 t293 [.slice Ao26 t293.length co26] (fun _=>True) (fun k_=>some k_ = (.slice Ao26 t293.length co26 : Value).ownBlock) rfl rfl ?aP (fun k_ hk_=>((Kd.R_mono (ok':=fun k_=>((fun _=>True)) k_ ∧ some k_ ≠ (u3 : Value).ownBlock) (Kd.R_apart' (HO295.out) (Kd.S_typed HO_3.out) (by decide)) (fun k_ hk=>⟨trivial,hk.2⟩))).1 k_ hk_.symm) ?aF ?aO ?aB ?aS ?aL ?_
           (case aP=>exact Kd.M_row (Kd.R_mono (Kd.R_tight rfl (Kd.R_mono (ok':=fun k_=>((fun _=>True)) k_ ∧ some k_ ≠ (u3 : Value).ownBlock) (Kd.R_apart' (HO295.out) (Kd.S_typed HO_3.out) (by decide)) (fun k_ hk=>⟨trivial,hk.2⟩))) (fun _ h_=>h_)))
           (case aB=>exact (by repeat(first|(with_reducible first|exact HB.out|apply below_alloc|apply pw_below_drewN|apply below_drew1|refine below_set ?_ GE286.out)|exact HB.out)))
           (case aF=>exact (fun _ _=>trivial))
           (case aO=>exact (by (with_reducible repeat(first|apply Kd.S_alloc|apply Kd.S_drewN|apply Kd.S_drew));exact Kd.S_mono HO_3.out (fun k_ hk=>⟨trivial,fun e_=>hk.2 e_⟩)))
           (case aS=>exact (below_size (by repeat(first|(with_reducible first|exact HB.out|apply below_alloc|apply pw_below_drewN|apply below_drew1|refine below_set ?_ GE286.out)|exact HB.out))))
           (case aL=>have:=LMc20.out;omega)
           intro v297 w25 ho hb hg hat
           rw [← Ny296.out] at ho
           have n0_:=Aside0.mk (blk_grown (g:=gb286) (o:=.cells #[.int .i64 a0_0,.int .i64 a0_1,.int .i64 a0_2,.int .i64 a0_3,.int .i64 a0_4,.int .i64 a0_5,.int .i64 a0_6,.int .i64 a0_7,.int .i64 a0_8,.slice A0_9 l0_9.length c0_9,.slice A0_10 l0_10.length c0_10] 32 (0,0)) (by (with_reducible repeat(first|refine blk_drewN ?_ _|refine blk_drew ?_|refine blk_alloc ?_ _));exact BK286.out) hg (Kd.S_ne HO_3.out BK286.out (by decide)))
           have n1_:=Aside0.mk (hb)
           have n2_:=Aside0.mk (ho)
           clear BK286
           clear HB
           clear HO_3
           clear HO295
           have BK286:=n0_
           have HB:=n1_
           have HO298:=n2_
           clear n0_ n1_ n2_
           clear ho hb hg hat
           refine hK.out _ _ ⟨(blk_cell BK286.out 0).trans rfl,(blk_cell BK286.out 1).trans rfl,(blk_cell BK286.out 2).trans rfl,(blk_cell BK286.out 3).trans rfl,(blk_cell BK286.out 4).trans rfl,(blk_cell BK286.out 5).trans rfl,(blk_cell BK286.out 6).trans rfl,(blk_cell BK286.out 7).trans rfl,(blk_cell BK286.out 8).trans rfl,(blk_cell BK286.out 9).trans rfl,(blk_cell BK286.out 10).trans rfl⟩ (fun hHeld=>?_)
           clear hK K
           refine norm_ (a':=?_) ?_ ?_
           rotate_left
           ·show Act.put _ (some 52) _ = _
            simp only [Act.put,List.setIfInBounds_toArray,List.set_cons_zero,List.set_cons_succ,i64_w,i32_w]
            rfl
           refine pure_ (i:=19) (N:=some 3) (v:=?_) (a':=?_) #[true,true,true,true,true,true,true,true,true,true,true,true,true,true,true,true,true,true,true,true] rfl rfl (any_of HT_.out (by kernel_rfl)) (fun _ _ _ h=>h) (Or.inl ⟨by rfl,?_⟩) ?_ ?_
           rotate_left
           ·intro w'
            go_simp
            with_reducible rfl
           rotate_left
           ·simp only [Act.put,List.setIfInBounds_toArray,List.set_cons_zero,List.set_cons_succ,i64_w,i32_w]
            rfl
           refine done_ (done_of HT_.out (by kernel_rfl)) ?_
           try go_wp2
           go_roundg k2
           case measure=>have:=HJ1.out;have:=HK2.out;omega
           case rel=>exact ⟨(y296),(wrap64 (x4_2 + 1)),(by first|rfl|(simp;done)|(simp [*];done)),H',⟨by have:=HJ1.out;have:=HK2.out;omega⟩,⟨by (with_reducible repeat(first|apply Kd.S_alloc|apply Kd.S_drewN|apply Kd.S_drew));exact HO298.out⟩,⟨by (with_reducible repeat(first|refine blk_drewN ?_ _|refine blk_drew ?_|refine blk_alloc ?_ _));exact BK286.out⟩,⟨by repeat(first|(with_reducible first|exact HB.out|apply below_alloc|apply pw_below_drewN|apply below_drew1|refine below_set ?_ GE286.out)|exact HB.out)⟩⟩
          ·rw [if_neg c20] at H
           exact absurd H (by simp)
         ·rw [if_neg c18] at H
          exact absurd H (by simp)
        ·rw [if_neg c17] at H
         exact absurd H (by simp)
       ·rw [if_neg c16] at H
        exact absurd H (by simp)
      ·rw [if_neg c14] at H
       have c14b0 : decide (x4_2 < a0_8) = false:=decide_eq_false c14
       clear c14
       obtain rfl:=Option.some.inj H
       have hcz27_0 : wr.cell? ⟨gb286,0,none⟩ = some (.int .i64 a0_0):=(blk_cell BK286.out 0).trans rfl
       have hcz27_1 : wr.cell? ⟨gb286,1,none⟩ = some (.int .i64 a0_1):=(blk_cell BK286.out 1).trans rfl
       have hcz27_2 : wr.cell? ⟨gb286,2,none⟩ = some (.int .i64 a0_2):=(blk_cell BK286.out 2).trans rfl
       have hcz27_3 : wr.cell? ⟨gb286,3,none⟩ = some (.int .i64 a0_3):=(blk_cell BK286.out 3).trans rfl
       have hcz27_4 : wr.cell? ⟨gb286,4,none⟩ = some (.int .i64 a0_4):=(blk_cell BK286.out 4).trans rfl
       have hcz27_5 : wr.cell? ⟨gb286,5,none⟩ = some (.int .i64 a0_5):=(blk_cell BK286.out 5).trans rfl
       have hcz27_6 : wr.cell? ⟨gb286,6,none⟩ = some (.int .i64 a0_6):=(blk_cell BK286.out 6).trans rfl
       have hcz27_7 : wr.cell? ⟨gb286,7,none⟩ = some (.int .i64 a0_7):=(blk_cell BK286.out 7).trans rfl
       have hcz27_8 : wr.cell? ⟨gb286,8,none⟩ = some (.int .i64 a0_8):=(blk_cell BK286.out 8).trans rfl
       have hcz27_9 : wr.cell? ⟨gb286,9,none⟩ = some (.slice A0_9 l0_9.length c0_9):=(blk_cell BK286.out 9).trans rfl
       have hcz27_10 : wr.cell? ⟨gb286,10,none⟩ = some (.slice A0_10 l0_10.length c0_10):=(blk_cell BK286.out 10).trans rfl
       have hfz27_0:=blk_frozen BK286.out 0
       have hfz27_1:=blk_frozen BK286.out 1
       have hfz27_2:=blk_frozen BK286.out 2
       have hfz27_3:=blk_frozen BK286.out 3
       have hfz27_4:=blk_frozen BK286.out 4
       have hfz27_5:=blk_frozen BK286.out 5
       have hfz27_6:=blk_frozen BK286.out 6
       have hfz27_7:=blk_frozen BK286.out 7
       have hfz27_8:=blk_frozen BK286.out 8
       have hfz27_9:=blk_frozen BK286.out 9
       have hfz27_10:=blk_frozen BK286.out 10
       go_wp2
       go_ret
       exact ⟨_,by first|rfl|(simp [errW_none,errW_some] <;> rfl)|(simp [*,errW_none,errW_some] <;> rfl),by (with_reducible repeat(first|apply Kd.S_alloc|apply Kd.S_drewN|apply Kd.S_drew));exact HO_3.out,by repeat(first|(with_reducible first|exact HB.out|apply below_alloc|apply pw_below_drewN|apply below_drew1|refine below_set ?_ GE286.out)|exact HB.out)⟩

end Go.Proofs.Ytnagfbadjbkhmaa.PB
