import Derived.Test.YtnagfbadjbkhmaaPAx0
import Derived.Test.YtnagfbadjbkhmaaPAx2
namespace Go.Proofs.Ytnagfbadjbkhmaa.PA
open Go.RowKit Go.Proofs.YtnagfbadjbkhmaaW.PrintWords Go.Proofs.YtnagfbadjbkhmaaW.PrintLast Go.Proofs.YtnagfbadjbkhmaaW.PrintMore
attribute [local go_sem] max2_int min2_int max_two min_two max_three min_three max_four min_four   -- for this text's walks alone
attribute [local go_sem high] Flt.fold_eq Flt.fold_ne Flt.fold_lt Flt.fold_gt Flt.fold_le Flt.fold_ge Flt.run_bits Flt.run_frombits
set_option linter.unusedVariables false
set_option linter.unusedSimpArgs false

/-! ### dataset_Row: function 16 -/
mutual
def dataset_Row.j0 : Nat → Int → Bool → Int → Int → Int → Int → Int → Int → Int → Int → Int → List Nat → List Int → Option (List Nat)
 | 0,_,_,_,_,_,_,_,_,_,_,_,_,_=>none
 | k + 1,x1,x19,x282000,x282001,x282002,x282003,x282004,x282005,x282006,x282007,x282008,x282009,x282010=>if x19 = true then (some ([] : List Nat)) else (dataset_Row.l0 k x1 ([] : List Nat) x282008 0 x282000 x282001 x282002 x282003 x282004 x282005 x282006 x282007 x282008 x282009 x282010)
def dataset_Row.l0 : Nat → Int → List Nat → Int → Int → Int → Int → Int → Int → Int → Int → Int → Int → Int → List Nat → List Int → Option (List Nat)
 | 0,_,_,_,_,_,_,_,_,_,_,_,_,_,_,_=>none
 | k + 1,x1,x5,x21,x22,x282000,x282001,x282002,x282003,x282004,x282005,x282006,x282007,x282008,x282009,x282010=>if x22 < x21 then (if 0 ≤ (wrap64 ((wrap64 (x22 * x282007)) + x1)) then (if (wrap64 ((wrap64 (x22 * x282007)) + x1)) < (x282009.length : Int) then (if x5.length < 17592186044416 then (dataset_Row.l0 k x1 (x5 ++ [rdOf (0 : Nat) x282009 (wrap64 ((wrap64 (x22 * x282007)) + x1))]) x21 (wrap64 (x22 + 1)) x282000 x282001 x282002 x282003 x282004 x282005 x282006 x282007 x282008 x282009 x282010) else (none)) else (none)) else (none)) else (some x5)
end
def dataset_Row.f (k : Nat) (a0_0 : Int) (a0_1 : Int) (a0_2 : Int) (a0_3 : Int) (a0_4 : Int) (a0_5 : Int) (a0_6 : Int) (a0_7 : Int) (a0_8 : Int) (l0_9 : List Nat) (l0_10 : List Int) (a1 : Int) : Option (List Nat):=(dataset_shaped.f a0_0 a0_1 a0_2 a0_3 a0_4 a0_5 a0_6 a0_7 a0_8 l0_9 l0_10).bind fun t282=>(if t282 = true then (if a1 < 0 then (dataset_Row.j0 k a1 true a0_0 a0_1 a0_2 a0_3 a0_4 a0_5 a0_6 a0_7 a0_8 l0_9 l0_10) else (dataset_Row.j0 k a1 (decide (a1 ≥ a0_7)) a0_0 a0_1 a0_2 a0_3 a0_4 a0_5 a0_6 a0_7 a0_8 l0_9 l0_10)) else (dataset_Row.j0 k a1 true a0_0 a0_1 a0_2 a0_3 a0_4 a0_5 a0_6 a0_7 a0_8 l0_9 l0_10))
theorem dataset_Row.mono_l : ∀ k,(∀ y0 y1 y2 y3 y4 y5 y6 y7 y8 y9 y10 y11 y12,LeO (dataset_Row.j0 k y0 y1 y2 y3 y4 y5 y6 y7 y8 y9 y10 y11 y12) (dataset_Row.j0 (k + 1) y0 y1 y2 y3 y4 y5 y6 y7 y8 y9 y10 y11 y12)) ∧ (∀ y0 y1 y2 y3 y4 y5 y6 y7 y8 y9 y10 y11 y12 y13 y14,LeO (dataset_Row.l0 k y0 y1 y2 y3 y4 y5 y6 y7 y8 y9 y10 y11 y12 y13 y14) (dataset_Row.l0 (k + 1) y0 y1 y2 y3 y4 y5 y6 y7 y8 y9 y10 y11 y12 y13 y14))
 | 0=>⟨fun _ _ _ _ _ _ _ _ _ _ _ _ _ r h=>by simp [dataset_Row.j0] at h,fun _ _ _ _ _ _ _ _ _ _ _ _ _ _ _ r h=>by simp [dataset_Row.l0] at h⟩
 | k + 1=>by
  obtain ⟨ih0,ih1⟩:=dataset_Row.mono_l k
  refine ⟨?_,?_⟩
  ·intro y0 y1 y2 y3 y4 y5 y6 y7 y8 y9 y10 y11 y12
   unfold dataset_Row.j0
   repeat' first
   | (with_reducible exact ih0 _ _ _ _ _ _ _ _ _ _ _ _ _)
   | (with_reducible exact ih1 _ _ _ _ _ _ _ _ _ _ _ _ _ _ _)
   | (with_reducible exact LeO.refl _)
   | (with_reducible exact LeO.none _)
   | (with_reducible refine LeO.ite ?_ ?_)
   | (with_reducible refine LeO.bind ?_ (fun _=>?_))
   | exact ih0 _ _ _ _ _ _ _ _ _ _ _ _ _
   | exact ih1 _ _ _ _ _ _ _ _ _ _ _ _ _ _ _
   | exact LeO.none _
   | refine LeO.ite ?_ ?_
   | refine LeO.bind ?_ (fun _=>?_)
  ·intro y0 y1 y2 y3 y4 y5 y6 y7 y8 y9 y10 y11 y12 y13 y14
   unfold dataset_Row.l0
   repeat' first
   | (with_reducible exact ih0 _ _ _ _ _ _ _ _ _ _ _ _ _)
   | (with_reducible exact ih1 _ _ _ _ _ _ _ _ _ _ _ _ _ _ _)
   | (with_reducible exact LeO.refl _)
   | (with_reducible exact LeO.none _)
   | (with_reducible refine LeO.ite ?_ ?_)
   | (with_reducible refine LeO.bind ?_ (fun _=>?_))
   | exact ih0 _ _ _ _ _ _ _ _ _ _ _ _ _
   | exact ih1 _ _ _ _ _ _ _ _ _ _ _ _ _ _ _
   | exact LeO.none _
   | refine LeO.ite ?_ ?_
   | refine LeO.bind ?_ (fun _=>?_)
theorem dataset_Row.mono : ∀ a0 a1 a2 a3 a4 a5 a6 a7 a8 a9 a10 a11 k,LeO (dataset_Row.f k a0 a1 a2 a3 a4 a5 a6 a7 a8 a9 a10 a11) (dataset_Row.f (k + 1) a0 a1 a2 a3 a4 a5 a6 a7 a8 a9 a10 a11):=by
 intro a0 a1 a2 a3 a4 a5 a6 a7 a8 a9 a10 a11 k
 obtain ⟨ih0,ih1⟩:=dataset_Row.mono_l k
 unfold dataset_Row.f
 repeat' first
   | (with_reducible exact ih0 _ _ _ _ _ _ _ _ _ _ _ _ _)
   | (with_reducible exact ih1 _ _ _ _ _ _ _ _ _ _ _ _ _ _ _)
   | (with_reducible exact LeO.refl _)
   | (with_reducible exact LeO.none _)
   | (with_reducible refine LeO.ite ?_ ?_)
   | (with_reducible refine LeO.bind ?_ (fun _=>?_))
   | exact ih0 _ _ _ _ _ _ _ _ _ _ _ _ _
   | exact ih1 _ _ _ _ _ _ _ _ _ _ _ _ _ _ _
   | exact LeO.none _
   | refine LeO.ite ?_ ?_
   | refine LeO.bind ?_ (fun _=>?_)
set_option maxHeartbeats 8000000 in
set_option maxRecDepth 100000 in
theorem dataset_Row.calls (k : Nat) (a0_0 : Int) (a0_1 : Int) (a0_2 : Int) (a0_3 : Int) (a0_4 : Int) (a0_5 : Int) (a0_6 : Int) (a0_7 : Int) (a0_8 : Int) (A0_9 : Option Addr) (c0_9 : Nat) (l0_9 : List Nat) (A0_10 : Option Addr) (c0_10 : Nat) (l0_10 : List Int) (a1 : Int) (r : List Nat) (w : World) (hr0_9 : Kd.C Flt.kf w A0_9 l0_9.length l0_9) (hc0_9 : l0_9.length ≤ c0_9) (hr0_10 : Kd.C (Kd.int .i64) w A0_10 l0_10.length l0_10) (hc0_10 : l0_10.length ≤ c0_10) (h : dataset_Row.f k a0_0 a0_1 a0_2 a0_3 a0_4 a0_5 a0_6 a0_7 a0_8 l0_9 l0_10 a1 = some r) :
  Calls Try.prog 16 #[.agg #[.int .i64 a0_0,.int .i64 a0_1,.int .i64 a0_2,.int .i64 a0_3,.int .i64 a0_4,.int .i64 a0_5,.int .i64 a0_6,.int .i64 a0_7,.int .i64 a0_8,.slice A0_9 l0_9.length c0_9,.slice A0_10 l0_10.length c0_10],.int .i64 a1] w fun e w'=>∃ v0_ : Value,e = .returned (v0_) ∧ Kd.R Flt.kf 36 w' w.heap.size (fun _=>True) v0_ r ∧ Below w.heap.size w w':=by
 have hu32:=Try.underlying32
 have HR0_9:=Aside0.mk hr0_9
 have HC0_9:=Aside0.mk hc0_9
 clear hr0_9 hc0_9
 have HR0_10:=Aside0.mk hr0_10
 have HC0_10:=Aside0.mk hc0_10
 clear hr0_10 hc0_10
 have HB:=Aside0.mk (Below.refl w.heap.size w)
 have H : ((dataset_shaped.f a0_0 a0_1 a0_2 a0_3 a0_4 a0_5 a0_6 a0_7 a0_8 l0_9 l0_10).bind fun t282=>(if t282 = true then (if a1 < 0 then (dataset_Row.j0 k a1 true a0_0 a0_1 a0_2 a0_3 a0_4 a0_5 a0_6 a0_7 a0_8 l0_9 l0_10) else (dataset_Row.j0 k a1 (decide (a1 ≥ a0_7)) a0_0 a0_1 a0_2 a0_3 a0_4 a0_5 a0_6 a0_7 a0_8 l0_9 l0_10)) else (dataset_Row.j0 k a1 true a0_0 a0_1 a0_2 a0_3 a0_4 a0_5 a0_6 a0_7 a0_8 l0_9 l0_10))) = some r:=h
 clear h
 have HC3:=Aside0.mk H
 clear H
 go_enter Try.func16,Try.ntmps16
 go_upto_region 1 with (first|((with_reducible refine gate_dst (N:=2) rfl ?_);refine box_event ?hg (N:=2) ?hd (cs:=#[.int .i64 a0_0,.int .i64 a0_1,.int .i64 a0_2,.int .i64 a0_3,.int .i64 a0_4,.int .i64 a0_5,.int .i64 a0_6,.int .i64 a0_7,.int .i64 a0_8,.slice A0_9 l0_9.length c0_9,.slice A0_10 l0_10.length c0_10]) (t:=32) ?hr ?_;(case hd=>rfl);(case hg=>rfl);(case hr=>first|(go_simp;done)|(go_simp;rfl));intro gb281 hg w4 hbox hb;have n0_:=Aside0.mk (below_step (by repeat(first|(with_reducible first|exact HB.out|apply below_alloc|apply pw_below_drewN|apply below_drew1)|exact HB.out)) hb);have n1_:=Aside0.mk (hbox);have n2_:=Aside0.mk ((by rw [hg];exact (below_size (by repeat(first|(with_reducible first|exact HB.out|apply below_alloc|apply pw_below_drewN|apply below_drew1)|exact HB.out))) : w.heap.size ≤ gb281));have n3_:=Aside0.mk ((by rw [hg];exact (below_size (by repeat(first|(with_reducible first|exact HB.out|apply below_alloc|apply pw_below_drewN|apply below_drew1)|exact HB.out))) : w.heap.size ≤ gb281));clear HB;have HB:=n0_;have BK281:=n1_;have GW281:=n2_;have GE281:=n3_;clear n0_ n1_ n2_ n3_;clear hb hbox hg))
 (try simp only [Act.put,List.setIfInBounds_toArray,List.set_cons_zero,List.set_cons_succ])
 go_cut [19] (fun v19 wc=>∃ (kq : Nat) (x19_2 : Bool),v19 = .bool x19_2 ∧ Aside0 (dataset_Row.j0 kq a1 x19_2 a0_0 a0_1 a0_2 a0_3 a0_4 a0_5 a0_6 a0_7 a0_8 l0_9 l0_10 = some r) ∧ Aside0 (kq ≤ k) ∧ Aside0 (wc.heap[gb281]? = some (.cells #[.int .i64 a0_0,.int .i64 a0_1,.int .i64 a0_2,.int .i64 a0_3,.int .i64 a0_4,.int .i64 a0_5,.int .i64 a0_6,.int .i64 a0_7,.int .i64 a0_8,(.slice A0_9 l0_9.length c0_9),(.slice A0_10 l0_10.length c0_10)] 32 (0,0))) ∧ Aside0 (Below w.heap.size w wc))
 case first =>
  have H:=HC3.out
  clear HC3
  replace H:=Option.bind_eq_some_iff.mp H
  obtain ⟨t282,A50,H⟩:=H
  replace H : (if t282 = true then (if a1 < 0 then (dataset_Row.j0 k a1 true a0_0 a0_1 a0_2 a0_3 a0_4 a0_5 a0_6 a0_7 a0_8 l0_9 l0_10) else (dataset_Row.j0 k a1 (decide (a1 ≥ a0_7)) a0_0 a0_1 a0_2 a0_3 a0_4 a0_5 a0_6 a0_7 a0_8 l0_9 l0_10)) else (dataset_Row.j0 k a1 true a0_0 a0_1 a0_2 a0_3 a0_4 a0_5 a0_6 a0_7 a0_8 l0_9 l0_10)) = some r:=H
  have A5:=Aside0.mk A50
  clear A50
  by_cases c6 : t282 = true
  ·subst c6
   have H1 : (if a1 < 0 then (dataset_Row.j0 k a1 true a0_0 a0_1 a0_2 a0_3 a0_4 a0_5 a0_6 a0_7 a0_8 l0_9 l0_10) else (dataset_Row.j0 k a1 (decide (a1 ≥ a0_7)) a0_0 a0_1 a0_2 a0_3 a0_4 a0_5 a0_6 a0_7 a0_8 l0_9 l0_10)) = some r:=by rw [if_pos rfl] at H;exact H
   clear H
   have H:=H1
   clear H1
   by_cases c7 : a1 < 0
   ·rw [if_pos c7] at H
    have c7b0 : decide (a1 < 0) = true:=decide_eq_true c7
    clear c7
    (first|rw [c7b0]|(simp only [i64_w,i32_w];rw [c7b0])|skip)
    have H':=Aside0.mk H
    clear H
    have hcz8_0 : w4.cell? ⟨gb281,0,none⟩ = some (.int .i64 a0_0):=(blk_cell BK281.out 0).trans rfl
    have hcz8_1 : w4.cell? ⟨gb281,1,none⟩ = some (.int .i64 a0_1):=(blk_cell BK281.out 1).trans rfl
    have hcz8_2 : w4.cell? ⟨gb281,2,none⟩ = some (.int .i64 a0_2):=(blk_cell BK281.out 2).trans rfl
    have hcz8_3 : w4.cell? ⟨gb281,3,none⟩ = some (.int .i64 a0_3):=(blk_cell BK281.out 3).trans rfl
    have hcz8_4 : w4.cell? ⟨gb281,4,none⟩ = some (.int .i64 a0_4):=(blk_cell BK281.out 4).trans rfl
    have hcz8_5 : w4.cell? ⟨gb281,5,none⟩ = some (.int .i64 a0_5):=(blk_cell BK281.out 5).trans rfl
    have hcz8_6 : w4.cell? ⟨gb281,6,none⟩ = some (.int .i64 a0_6):=(blk_cell BK281.out 6).trans rfl
    have hcz8_7 : w4.cell? ⟨gb281,7,none⟩ = some (.int .i64 a0_7):=(blk_cell BK281.out 7).trans rfl
    have hcz8_8 : w4.cell? ⟨gb281,8,none⟩ = some (.int .i64 a0_8):=(blk_cell BK281.out 8).trans rfl
    have hcz8_9 : w4.cell? ⟨gb281,9,none⟩ = some (.slice A0_9 l0_9.length c0_9):=(blk_cell BK281.out 9).trans rfl
    have hcz8_10 : w4.cell? ⟨gb281,10,none⟩ = some (.slice A0_10 l0_10.length c0_10):=(blk_cell BK281.out 10).trans rfl
    have hfz8_0:=blk_frozen BK281.out 0
    have hfz8_1:=blk_frozen BK281.out 1
    have hfz8_2:=blk_frozen BK281.out 2
    have hfz8_3:=blk_frozen BK281.out 3
    have hfz8_4:=blk_frozen BK281.out 4
    have hfz8_5:=blk_frozen BK281.out 5
    have hfz8_6:=blk_frozen BK281.out 6
    have hfz8_7:=blk_frozen BK281.out 7
    have hfz8_8:=blk_frozen BK281.out 8
    have hfz8_9:=blk_frozen BK281.out 9
    have hfz8_10:=blk_frozen BK281.out 10
    go_wp2_with (first|((with_reducible refine gate_callee (f:=45) rfl ?_);refine goesL_ (some 8) rfl rfl Try.func45 (by kernel_rfl) rfl #[.agg #[.int .i64 a0_0,.int .i64 a0_1,.int .i64 a0_2,.int .i64 a0_3,.int .i64 a0_4,.int .i64 a0_5,.int .i64 a0_6,.int .i64 a0_7,.int .i64 a0_8,.slice A0_9 l0_9.length c0_9,.slice A0_10 l0_10.length c0_10]] rfl (by (try simp only [List.map_toArray,List.map_cons,List.map_nil]);first|done|rfl|(simp only [List.length_drop,List.length_take];rfl)) ?_;(with_reducible refine (dataset_shaped.calls a0_0 a0_1 a0_2 a0_3 a0_4 a0_5 a0_6 a0_7 a0_8 _ _ l0_9 _ _ l0_10 true _ ?side1 ?side2 ?side3 ?side4 A5.out).mono ?_);(case side1=>repeat(first|exact (Kd.C_below HR0_9.out HB.out)|(with_reducible refine Kd.C_alloc ?_ _)|(with_reducible refine Kd.C_drewN ?_ _)|(with_reducible refine Kd.C_drew ?_)));(case side2=>exact HC0_9.out);(case side3=>repeat(first|exact (Kd.C_below HR0_10.out HB.out)|(with_reducible refine Kd.C_alloc ?_ _)|(with_reducible refine Kd.C_drewN ?_ _)|(with_reducible refine Kd.C_drew ?_)));(case side4=>exact HC0_10.out);rintro e w9 ⟨rfl,hb⟩;refine ⟨_,rfl,?_⟩;have n0_:=Aside0.mk (blk_below (g:=gb281) (o:=.cells #[.int .i64 a0_0,.int .i64 a0_1,.int .i64 a0_2,.int .i64 a0_3,.int .i64 a0_4,.int .i64 a0_5,.int .i64 a0_6,.int .i64 a0_7,.int .i64 a0_8,.slice A0_9 l0_9.length c0_9,.slice A0_10 l0_10.length c0_10] 32 (0,0)) (by (with_reducible repeat(first|refine blk_drewN ?_ _|refine blk_drew ?_|refine blk_alloc ?_ _));exact BK281.out) hb);have n1_:=Aside0.mk (below_step (by repeat(first|(with_reducible first|exact HB.out|apply below_alloc|apply pw_below_drewN|apply below_drew1|refine below_set ?_ GE281.out)|exact HB.out)) hb);clear BK281;clear HB;have BK281:=n0_;have HB:=n1_;clear n0_ n1_;(try clear hb);(try clear hb2);(try clear hk);(try clear hi)))
    go_meet
    case rel=>exact ⟨_,(true),(by first|rfl|(simp;done)|(simp [*];done)),H',⟨by first|omega|exact Nat.le_refl _⟩,⟨by (with_reducible repeat(first|refine blk_drewN ?_ _|refine blk_drew ?_|refine blk_alloc ?_ _));exact BK281.out⟩,⟨by repeat(first|(with_reducible first|exact HB.out|apply below_alloc|apply pw_below_drewN|apply below_drew1|refine below_set ?_ GE281.out)|exact HB.out)⟩⟩
   ·rw [if_neg c7] at H
    have c7b0 : decide (a1 < 0) = false:=decide_eq_false c7
    clear c7
    (first|rw [c7b0]|(simp only [i64_w,i32_w];rw [c7b0])|skip)
    have H':=Aside0.mk H
    clear H
    have hcz10_0 : w4.cell? ⟨gb281,0,none⟩ = some (.int .i64 a0_0):=(blk_cell BK281.out 0).trans rfl
    have hcz10_1 : w4.cell? ⟨gb281,1,none⟩ = some (.int .i64 a0_1):=(blk_cell BK281.out 1).trans rfl
    have hcz10_2 : w4.cell? ⟨gb281,2,none⟩ = some (.int .i64 a0_2):=(blk_cell BK281.out 2).trans rfl
    have hcz10_3 : w4.cell? ⟨gb281,3,none⟩ = some (.int .i64 a0_3):=(blk_cell BK281.out 3).trans rfl
    have hcz10_4 : w4.cell? ⟨gb281,4,none⟩ = some (.int .i64 a0_4):=(blk_cell BK281.out 4).trans rfl
    have hcz10_5 : w4.cell? ⟨gb281,5,none⟩ = some (.int .i64 a0_5):=(blk_cell BK281.out 5).trans rfl
    have hcz10_6 : w4.cell? ⟨gb281,6,none⟩ = some (.int .i64 a0_6):=(blk_cell BK281.out 6).trans rfl
    have hcz10_7 : w4.cell? ⟨gb281,7,none⟩ = some (.int .i64 a0_7):=(blk_cell BK281.out 7).trans rfl
    have hcz10_8 : w4.cell? ⟨gb281,8,none⟩ = some (.int .i64 a0_8):=(blk_cell BK281.out 8).trans rfl
    have hcz10_9 : w4.cell? ⟨gb281,9,none⟩ = some (.slice A0_9 l0_9.length c0_9):=(blk_cell BK281.out 9).trans rfl
    have hcz10_10 : w4.cell? ⟨gb281,10,none⟩ = some (.slice A0_10 l0_10.length c0_10):=(blk_cell BK281.out 10).trans rfl
    have hfz10_0:=blk_frozen BK281.out 0
    have hfz10_1:=blk_frozen BK281.out 1
    have hfz10_2:=blk_frozen BK281.out 2
    have hfz10_3:=blk_frozen BK281.out 3
    have hfz10_4:=blk_frozen BK281.out 4
    have hfz10_5:=blk_frozen BK281.out 5
    have hfz10_6:=blk_frozen BK281.out 6
    have hfz10_7:=blk_frozen BK281.out 7
    have hfz10_8:=blk_frozen BK281.out 8
    have hfz10_9:=blk_frozen BK281.out 9
    have hfz10_10:=blk_frozen BK281.out 10
    go_wp2_with (first|((with_reducible refine gate_callee (f:=45) rfl ?_);refine goesL_ (some 8) rfl rfl Try.func45 (by kernel_rfl) rfl #[.agg #[.int .i64 a0_0,.int .i64 a0_1,.int .i64 a0_2,.int .i64 a0_3,.int .i64 a0_4,.int .i64 a0_5,.int .i64 a0_6,.int .i64 a0_7,.int .i64 a0_8,.slice A0_9 l0_9.length c0_9,.slice A0_10 l0_10.length c0_10]] rfl (by (try simp only [List.map_toArray,List.map_cons,List.map_nil]);first|done|rfl|(simp only [List.length_drop,List.length_take];rfl)) ?_;(with_reducible refine (dataset_shaped.calls a0_0 a0_1 a0_2 a0_3 a0_4 a0_5 a0_6 a0_7 a0_8 _ _ l0_9 _ _ l0_10 true _ ?side1 ?side2 ?side3 ?side4 A5.out).mono ?_);(case side1=>repeat(first|exact (Kd.C_below HR0_9.out HB.out)|(with_reducible refine Kd.C_alloc ?_ _)|(with_reducible refine Kd.C_drewN ?_ _)|(with_reducible refine Kd.C_drew ?_)));(case side2=>exact HC0_9.out);(case side3=>repeat(first|exact (Kd.C_below HR0_10.out HB.out)|(with_reducible refine Kd.C_alloc ?_ _)|(with_reducible refine Kd.C_drewN ?_ _)|(with_reducible refine Kd.C_drew ?_)));(case side4=>exact HC0_10.out);rintro e w11 ⟨rfl,hb⟩;refine ⟨_,rfl,?_⟩;have n0_:=Aside0.mk (blk_below (g:=gb281) (o:=.cells #[.int .i64 a0_0,.int .i64 a0_1,.int .i64 a0_2,.int .i64 a0_3,.int .i64 a0_4,.int .i64 a0_5,.int .i64 a0_6,.int .i64 a0_7,.int .i64 a0_8,.slice A0_9 l0_9.length c0_9,.slice A0_10 l0_10.length c0_10] 32 (0,0)) (by (with_reducible repeat(first|refine blk_drewN ?_ _|refine blk_drew ?_|refine blk_alloc ?_ _));exact BK281.out) hb);have n1_:=Aside0.mk (below_step (by repeat(first|(with_reducible first|exact HB.out|apply below_alloc|apply pw_below_drewN|apply below_drew1|refine below_set ?_ GE281.out)|exact HB.out)) hb);clear BK281;clear HB;have BK281:=n0_;have HB:=n1_;clear n0_ n1_;(try clear hb);(try clear hb2);(try clear hk);(try clear hi);have hcz12_0 : w11.cell? ⟨gb281,0,none⟩ = some (.int .i64 a0_0):=(blk_cell BK281.out 0).trans rfl;have hcz12_1 : w11.cell? ⟨gb281,1,none⟩ = some (.int .i64 a0_1):=(blk_cell BK281.out 1).trans rfl;have hcz12_2 : w11.cell? ⟨gb281,2,none⟩ = some (.int .i64 a0_2):=(blk_cell BK281.out 2).trans rfl;have hcz12_3 : w11.cell? ⟨gb281,3,none⟩ = some (.int .i64 a0_3):=(blk_cell BK281.out 3).trans rfl;have hcz12_4 : w11.cell? ⟨gb281,4,none⟩ = some (.int .i64 a0_4):=(blk_cell BK281.out 4).trans rfl;have hcz12_5 : w11.cell? ⟨gb281,5,none⟩ = some (.int .i64 a0_5):=(blk_cell BK281.out 5).trans rfl;have hcz12_6 : w11.cell? ⟨gb281,6,none⟩ = some (.int .i64 a0_6):=(blk_cell BK281.out 6).trans rfl;have hcz12_7 : w11.cell? ⟨gb281,7,none⟩ = some (.int .i64 a0_7):=(blk_cell BK281.out 7).trans rfl;have hcz12_8 : w11.cell? ⟨gb281,8,none⟩ = some (.int .i64 a0_8):=(blk_cell BK281.out 8).trans rfl;have hcz12_9 : w11.cell? ⟨gb281,9,none⟩ = some (.slice A0_9 l0_9.length c0_9):=(blk_cell BK281.out 9).trans rfl;have hcz12_10 : w11.cell? ⟨gb281,10,none⟩ = some (.slice A0_10 l0_10.length c0_10):=(blk_cell BK281.out 10).trans rfl;have hfz12_0:=blk_frozen BK281.out 0;have hfz12_1:=blk_frozen BK281.out 1;have hfz12_2:=blk_frozen BK281.out 2;have hfz12_3:=blk_frozen BK281.out 3;have hfz12_4:=blk_frozen BK281.out 4;have hfz12_5:=blk_frozen BK281.out 5;have hfz12_6:=blk_frozen BK281.out 6;have hfz12_7:=blk_frozen BK281.out 7;have hfz12_8:=blk_frozen BK281.out 8;have hfz12_9:=blk_frozen BK281.out 9;have hfz12_10:=blk_frozen BK281.out 10))
    go_meet
    case rel=>exact ⟨_,(decide (a1 ≥ a0_7)),(by first|rfl|(simp;done)|(simp [*];done)),H',⟨by first|omega|exact Nat.le_refl _⟩,⟨by (with_reducible repeat(first|refine blk_drewN ?_ _|refine blk_drew ?_|refine blk_alloc ?_ _));exact BK281.out⟩,⟨by repeat(first|(with_reducible first|exact HB.out|apply below_alloc|apply pw_below_drewN|apply below_drew1|refine below_set ?_ GE281.out)|exact HB.out)⟩⟩
  ·replace c6:=Bool.eq_false_iff.mpr c6
   subst c6
   have H1 : (dataset_Row.j0 k a1 true a0_0 a0_1 a0_2 a0_3 a0_4 a0_5 a0_6 a0_7 a0_8 l0_9 l0_10) = some r:=by rw [if_neg (show ¬ (false = true) by decide)] at H;exact H
   clear H
   have H:=H1
   clear H1
   have H':=Aside0.mk H
   clear H
   have hcz13_0 : w4.cell? ⟨gb281,0,none⟩ = some (.int .i64 a0_0):=(blk_cell BK281.out 0).trans rfl
   have hcz13_1 : w4.cell? ⟨gb281,1,none⟩ = some (.int .i64 a0_1):=(blk_cell BK281.out 1).trans rfl
   have hcz13_2 : w4.cell? ⟨gb281,2,none⟩ = some (.int .i64 a0_2):=(blk_cell BK281.out 2).trans rfl
   have hcz13_3 : w4.cell? ⟨gb281,3,none⟩ = some (.int .i64 a0_3):=(blk_cell BK281.out 3).trans rfl
   have hcz13_4 : w4.cell? ⟨gb281,4,none⟩ = some (.int .i64 a0_4):=(blk_cell BK281.out 4).trans rfl
   have hcz13_5 : w4.cell? ⟨gb281,5,none⟩ = some (.int .i64 a0_5):=(blk_cell BK281.out 5).trans rfl
   have hcz13_6 : w4.cell? ⟨gb281,6,none⟩ = some (.int .i64 a0_6):=(blk_cell BK281.out 6).trans rfl
   have hcz13_7 : w4.cell? ⟨gb281,7,none⟩ = some (.int .i64 a0_7):=(blk_cell BK281.out 7).trans rfl
   have hcz13_8 : w4.cell? ⟨gb281,8,none⟩ = some (.int .i64 a0_8):=(blk_cell BK281.out 8).trans rfl
   have hcz13_9 : w4.cell? ⟨gb281,9,none⟩ = some (.slice A0_9 l0_9.length c0_9):=(blk_cell BK281.out 9).trans rfl
   have hcz13_10 : w4.cell? ⟨gb281,10,none⟩ = some (.slice A0_10 l0_10.length c0_10):=(blk_cell BK281.out 10).trans rfl
   have hfz13_0:=blk_frozen BK281.out 0
   have hfz13_1:=blk_frozen BK281.out 1
   have hfz13_2:=blk_frozen BK281.out 2
   have hfz13_3:=blk_frozen BK281.out 3
   have hfz13_4:=blk_frozen BK281.out 4
   have hfz13_5:=blk_frozen BK281.out 5
   have hfz13_6:=blk_frozen BK281.out 6
   have hfz13_7:=blk_frozen BK281.out 7
   have hfz13_8:=blk_frozen BK281.out 8
   have hfz13_9:=blk_frozen BK281.out 9
   have hfz13_10:=blk_frozen BK281.out 10
   go_wp2_with (first|((with_reducible refine gate_callee (f:=45) rfl ?_);refine goesL_ (some 8) rfl rfl Try.func45 (by kernel_rfl) rfl #[.agg #[.int .i64 a0_0,.int .i64 a0_1,.int .i64 a0_2,.int .i64 a0_3,.int .i64 a0_4,.int .i64 a0_5,.int .i64 a0_6,.int .i64 a0_7,.int .i64 a0_8,.slice A0_9 l0_9.length c0_9,.slice A0_10 l0_10.length c0_10]] rfl (by (try simp only [List.map_toArray,List.map_cons,List.map_nil]);first|done|rfl|(simp only [List.length_drop,List.length_take];rfl)) ?_;(with_reducible refine (dataset_shaped.calls a0_0 a0_1 a0_2 a0_3 a0_4 a0_5 a0_6 a0_7 a0_8 _ _ l0_9 _ _ l0_10 false _ ?side1 ?side2 ?side3 ?side4 A5.out).mono ?_);(case side1=>repeat(first|exact (Kd.C_below HR0_9.out HB.out)|(with_reducible refine Kd.C_alloc ?_ _)|(with_reducible refine Kd.C_drewN ?_ _)|(with_reducible refine Kd.C_drew ?_)));(case side2=>exact HC0_9.out);(case side3=>repeat(first|exact (Kd.C_below HR0_10.out HB.out)|(with_reducible refine Kd.C_alloc ?_ _)|(with_reducible refine Kd.C_drewN ?_ _)|(with_reducible refine Kd.C_drew ?_)));(case side4=>exact HC0_10.out);rintro e w14 ⟨rfl,hb⟩;refine ⟨_,rfl,?_⟩;have n0_:=Aside0.mk (blk_below (g:=gb281) (o:=.cells #[.int .i64 a0_0,.int .i64 a0_1,.int .i64 a0_2,.int .i64 a0_3,.int .i64 a0_4,.int .i64 a0_5,.int .i64 a0_6,.int .i64 a0_7,.int .i64 a0_8,.slice A0_9 l0_9.length c0_9,.slice A0_10 l0_10.length c0_10] 32 (0,0)) (by (with_reducible repeat(first|refine blk_drewN ?_ _|refine blk_drew ?_|refine blk_alloc ?_ _));exact BK281.out) hb);have n1_:=Aside0.mk (below_step (by repeat(first|(with_reducible first|exact HB.out|apply below_alloc|apply pw_below_drewN|apply below_drew1|refine below_set ?_ GE281.out)|exact HB.out)) hb);clear BK281;clear HB;have BK281:=n0_;have HB:=n1_;clear n0_ n1_;(try clear hb);(try clear hb2);(try clear hk);(try clear hi)))
   go_meet
   case rel=>exact ⟨_,(true),(by first|rfl|(simp;done)|(simp [*];done)),H',⟨by first|omega|exact Nat.le_refl _⟩,⟨by (with_reducible repeat(first|refine blk_drewN ?_ _|refine blk_drew ?_|refine blk_alloc ?_ _));exact BK281.out⟩,⟨by repeat(first|(with_reducible first|exact HB.out|apply below_alloc|apply pw_below_drewN|apply below_drew1|refine below_set ?_ GE281.out)|exact HB.out)⟩⟩
 case rest =>
  clear HC3
  try clear c1
  try clear p2
  try clear c4
  try clear c6
  try clear c7
  try clear c7b0
  try clear hcz10_0
  try clear hcz10_1
  try clear hcz10_10
  try clear hcz10_2
  try clear hcz10_3
  try clear hcz10_4
  try clear hcz10_5
  try clear hcz10_6
  try clear hcz10_7
  try clear hcz10_8
  try clear hcz10_9
  try clear hcz12_0
  try clear hcz12_1
  try clear hcz12_10
  try clear hcz12_2
  try clear hcz12_3
  try clear hcz12_4
  try clear hcz12_5
  try clear hcz12_6
  try clear hcz12_7
  try clear hcz12_8
  try clear hcz12_9
  try clear hcz13_0
  try clear hcz13_1
  try clear hcz13_10
  try clear hcz13_2
  try clear hcz13_3
  try clear hcz13_4
  try clear hcz13_5
  try clear hcz13_6
  try clear hcz13_7
  try clear hcz13_8
  try clear hcz13_9
  try clear hcz8_0
  try clear hcz8_1
  try clear hcz8_10
  try clear hcz8_2
  try clear hcz8_3
  try clear hcz8_4
  try clear hcz8_5
  try clear hcz8_6
  try clear hcz8_7
  try clear hcz8_8
  try clear hcz8_9
  try clear hfz10_0
  try clear hfz10_1
  try clear hfz10_10
  try clear hfz10_2
  try clear hfz10_3
  try clear hfz10_4
  try clear hfz10_5
  try clear hfz10_6
  try clear hfz10_7
  try clear hfz10_8
  try clear hfz10_9
  try clear hfz12_0
  try clear hfz12_1
  try clear hfz12_10
  try clear hfz12_2
  try clear hfz12_3
  try clear hfz12_4
  try clear hfz12_5
  try clear hfz12_6
  try clear hfz12_7
  try clear hfz12_8
  try clear hfz12_9
  try clear hfz13_0
  try clear hfz13_1
  try clear hfz13_10
  try clear hfz13_2
  try clear hfz13_3
  try clear hfz13_4
  try clear hfz13_5
  try clear hfz13_6
  try clear hfz13_7
  try clear hfz13_8
  try clear hfz13_9
  try clear hfz8_0
  try clear hfz8_1
  try clear hfz8_10
  try clear hfz8_2
  try clear hfz8_3
  try clear hfz8_4
  try clear hfz8_5
  try clear hfz8_6
  try clear hfz8_7
  try clear hfz8_8
  try clear hfz8_9
  obtain ⟨kq,x19_2,rfl,HA,HJ2,BK281,HB⟩:=hcut
  cases kq with
  | zero=>exact absurd HA.out (by simp [dataset_Row.j0])
  | succ kj2 =>
   have H:=HA.out
   clear HA
   simp only [dataset_Row.j0] at H
   by_cases c15 : x19_2 = true
   ·subst c15
    have H1 : (some ([] : List Nat)) = some r:=by rw [if_pos rfl] at H;exact H
    clear H
    have H:=H1
    clear H1
    obtain rfl:=Option.some.inj H
    go_wp2
    go_ret
    exact ⟨_,by first|rfl|(simp [errW_none,errW_some] <;> rfl)|(simp [*,errW_none,errW_some] <;> rfl),by first|exact Kd.R_nil _ _ _ _ _|exact Kd.N_nil _ _ _ _ _|exact Kd.V_nil _ _ _ _ _|exact Kd.Q_nil _ _ _ _ _|exact Kd.S_nil _ _ _ _ _,by repeat(first|(with_reducible first|exact HB.out|apply below_alloc|apply pw_below_drewN|apply below_drew1|refine below_set ?_ GE281.out)|exact HB.out)⟩
   ·replace c15:=Bool.eq_false_iff.mpr c15
    subst c15
    have H1 : (dataset_Row.l0 kj2 a1 ([] : List Nat) a0_8 0 a0_0 a0_1 a0_2 a0_3 a0_4 a0_5 a0_6 a0_7 a0_8 l0_9 l0_10) = some r:=by rw [if_neg (show ¬ (false = true) by decide)] at H;exact H
    clear H
    have H:=H1
    clear H1
    have H':=Aside0.mk H
    clear H
    have hcz16_0 : wc.cell? ⟨gb281,0,none⟩ = some (.int .i64 a0_0):=(blk_cell BK281.out 0).trans rfl
    have hcz16_1 : wc.cell? ⟨gb281,1,none⟩ = some (.int .i64 a0_1):=(blk_cell BK281.out 1).trans rfl
    have hcz16_2 : wc.cell? ⟨gb281,2,none⟩ = some (.int .i64 a0_2):=(blk_cell BK281.out 2).trans rfl
    have hcz16_3 : wc.cell? ⟨gb281,3,none⟩ = some (.int .i64 a0_3):=(blk_cell BK281.out 3).trans rfl
    have hcz16_4 : wc.cell? ⟨gb281,4,none⟩ = some (.int .i64 a0_4):=(blk_cell BK281.out 4).trans rfl
    have hcz16_5 : wc.cell? ⟨gb281,5,none⟩ = some (.int .i64 a0_5):=(blk_cell BK281.out 5).trans rfl
    have hcz16_6 : wc.cell? ⟨gb281,6,none⟩ = some (.int .i64 a0_6):=(blk_cell BK281.out 6).trans rfl
    have hcz16_7 : wc.cell? ⟨gb281,7,none⟩ = some (.int .i64 a0_7):=(blk_cell BK281.out 7).trans rfl
    have hcz16_8 : wc.cell? ⟨gb281,8,none⟩ = some (.int .i64 a0_8):=(blk_cell BK281.out 8).trans rfl
    have hcz16_9 : wc.cell? ⟨gb281,9,none⟩ = some (.slice A0_9 l0_9.length c0_9):=(blk_cell BK281.out 9).trans rfl
    have hcz16_10 : wc.cell? ⟨gb281,10,none⟩ = some (.slice A0_10 l0_10.length c0_10):=(blk_cell BK281.out 10).trans rfl
    have hfz16_0:=blk_frozen BK281.out 0
    have hfz16_1:=blk_frozen BK281.out 1
    have hfz16_2:=blk_frozen BK281.out 2
    have hfz16_3:=blk_frozen BK281.out 3
    have hfz16_4:=blk_frozen BK281.out 4
    have hfz16_5:=blk_frozen BK281.out 5
    have hfz16_6:=blk_frozen BK281.out 6
    have hfz16_7:=blk_frozen BK281.out 7
    have hfz16_8:=blk_frozen BK281.out 8
    have hfz16_9:=blk_frozen BK281.out 9
    have hfz16_10:=blk_frozen BK281.out 10
    go_wp2
    go_loopg [5,22] kj2 (fun kq v5 v22 w'=>∃ (x5_2 : List Nat) (x22_2 : Int),v22 = .int .i64 x22_2 ∧ Aside0 (dataset_Row.l0 kq a1 x5_2 a0_8 x22_2 a0_0 a0_1 a0_2 a0_3 a0_4 a0_5 a0_6 a0_7 a0_8 l0_9 l0_10 = some r) ∧ Aside0 (kq ≤ kj2) ∧ Aside0 (Kd.R Flt.kf 36 w' w.heap.size (fun _=>True) v5 x5_2) ∧ Aside0 (w'.heap[gb281]? = some (.cells #[.int .i64 a0_0,.int .i64 a0_1,.int .i64 a0_2,.int .i64 a0_3,.int .i64 a0_4,.int .i64 a0_5,.int .i64 a0_6,.int .i64 a0_7,.int .i64 a0_8,(.slice A0_9 l0_9.length c0_9),(.slice A0_10 l0_10.length c0_10)] 32 (0,0))) ∧ Aside0 (Below w.heap.size w w'))
    case atStart=>exact ⟨(([] : List Nat)),(0),(by first|rfl|(simp;done)|(simp [*];done)),H',⟨Nat.le_refl _⟩,⟨by first|exact Kd.R_nil _ _ _ _ _|exact Kd.N_nil _ _ _ _ _|exact Kd.V_nil _ _ _ _ _|exact Kd.Q_nil _ _ _ _ _|exact Kd.S_nil _ _ _ _ _⟩,⟨by (with_reducible repeat(first|refine blk_drewN ?_ _|refine blk_drew ?_|refine blk_alloc ?_ _));exact BK281.out⟩,⟨by repeat(first|(with_reducible first|exact HB.out|apply below_alloc|apply pw_below_drewN|apply below_drew1|refine below_set ?_ GE281.out)|exact HB.out)⟩⟩
    case round =>
     clear H'
     try clear c1
     try clear p2
     try clear c4
     try clear c6
     try clear c7
     try clear c7b0
     try clear c15
     try clear c16
     try clear hcz10_0
     try clear hcz10_1
     try clear hcz10_10
     try clear hcz10_2
     try clear hcz10_3
     try clear hcz10_4
     try clear hcz10_5
     try clear hcz10_6
     try clear hcz10_7
     try clear hcz10_8
     try clear hcz10_9
     try clear hcz12_0
     try clear hcz12_1
     try clear hcz12_10
     try clear hcz12_2
     try clear hcz12_3
     try clear hcz12_4
     try clear hcz12_5
     try clear hcz12_6
     try clear hcz12_7
     try clear hcz12_8
     try clear hcz12_9
     try clear hcz13_0
     try clear hcz13_1
     try clear hcz13_10
     try clear hcz13_2
     try clear hcz13_3
     try clear hcz13_4
     try clear hcz13_5
     try clear hcz13_6
     try clear hcz13_7
     try clear hcz13_8
     try clear hcz13_9
     try clear hcz16_0
     try clear hcz16_1
     try clear hcz16_10
     try clear hcz16_2
     try clear hcz16_3
     try clear hcz16_4
     try clear hcz16_5
     try clear hcz16_6
     try clear hcz16_7
     try clear hcz16_8
     try clear hcz16_9
     try clear hcz8_0
     try clear hcz8_1
     try clear hcz8_10
     try clear hcz8_2
     try clear hcz8_3
     try clear hcz8_4
     try clear hcz8_5
     try clear hcz8_6
     try clear hcz8_7
     try clear hcz8_8
     try clear hcz8_9
     try clear hfz10_0
     try clear hfz10_1
     try clear hfz10_10
     try clear hfz10_2
     try clear hfz10_3
     try clear hfz10_4
     try clear hfz10_5
     try clear hfz10_6
     try clear hfz10_7
     try clear hfz10_8
     try clear hfz10_9
     try clear hfz12_0
     try clear hfz12_1
     try clear hfz12_10
     try clear hfz12_2
     try clear hfz12_3
     try clear hfz12_4
     try clear hfz12_5
     try clear hfz12_6
     try clear hfz12_7
     try clear hfz12_8
     try clear hfz12_9
     try clear hfz13_0
     try clear hfz13_1
     try clear hfz13_10
     try clear hfz13_2
     try clear hfz13_3
     try clear hfz13_4
     try clear hfz13_5
     try clear hfz13_6
     try clear hfz13_7
     try clear hfz13_8
     try clear hfz13_9
     try clear hfz16_0
     try clear hfz16_1
     try clear hfz16_10
     try clear hfz16_2
     try clear hfz16_3
     try clear hfz16_4
     try clear hfz16_5
     try clear hfz16_6
     try clear hfz16_7
     try clear hfz16_8
     try clear hfz16_9
     try clear hfz8_0
     try clear hfz8_1
     try clear hfz8_10
     try clear hfz8_2
     try clear hfz8_3
     try clear hfz8_4
     try clear hfz8_5
     try clear hfz8_6
     try clear hfz8_7
     try clear hfz8_8
     try clear hfz8_9
     try clear p2
     obtain ⟨x5_2,x22_2,rfl,HA,HK2,HO_5,BK281,HB⟩:=hrel
     cases gk with
     | zero=>exact absurd HA.out (by simp [dataset_Row.l0])
     | succ k2 =>
      have H:=HA.out
      clear HA
      simp only [dataset_Row.l0] at H
      by_cases c17 : x22_2 < a0_8
      ·rw [if_pos c17] at H
       have c17b0 : decide (x22_2 < a0_8) = true:=decide_eq_true c17
       clear c17
       obtain ⟨ji18,hji18⟩ : ∃ j_ : Int,(wrap64 ((wrap64 (x22_2 * a0_7)) + a1)) = j_:=⟨_,rfl⟩
       replace H : (if 0 ≤ (ji18) then (if (ji18) < (l0_9.length : Int) then (if x5_2.length < 17592186044416 then (dataset_Row.l0 k2 a1 (x5_2 ++ [rdOf (0 : Nat) l0_9 (ji18)]) a0_8 (wrap64 (x22_2 + 1)) a0_0 a0_1 a0_2 a0_3 a0_4 a0_5 a0_6 a0_7 a0_8 l0_9 l0_10) else (none)) else (none)) else (none)) = some r:=by first|(rw [hji18] at H;exact H)|(simp only [hji18] at H ⊢;exact H)
       have hji18w : (IntKind.i64.wrap ((wrap64 (x22_2 * a0_7)) + a1)) = ji18:=(i64_w _).trans hji18
       by_cases c19 : 0 ≤ (ji18)
       ·rw [if_pos c19] at H
        have c19b0 : decide (0 ≤ (ji18)) = true:=decide_eq_true c19
        clear c19
        by_cases c20 : (ji18) < (l0_9.length : Int)
        ·rw [if_pos c20] at H
         have c20b0 : decide ((ji18) < (l0_9.length : Int)) = true:=decide_eq_true c20
         clear c20
         by_cases c21 : x5_2.length < 17592186044416
         ·rw [if_pos c21] at H
          have LMc21:=Aside0.mk c21
          clear c21
          obtain ⟨y284,hy284⟩ : ∃ y_ : List Nat,y_ = (x5_2 ++ [rdOf (0 : Nat) l0_9 (ji18)]):=⟨_,rfl⟩
          replace H : (dataset_Row.l0 k2 a1 y284 a0_8 (wrap64 (x22_2 + 1)) a0_0 a0_1 a0_2 a0_3 a0_4 a0_5 a0_6 a0_7 a0_8 l0_9 l0_10) = some r:=by first|(rw [hy284];with_reducible exact H)|(have H2_:=(Option.bind_some _ _).symm.trans H;rw [hy284];with_reducible exact H2_)|(have H2_:=(Option.bind_some _ _).symm.trans H;with_reducible exact H2_)|with_reducible exact H|(rw [hy284];exact H)|exact H
          have Ny284:=Aside0.mk hy284
          clear hy284
          have H':=Aside0.mk H
          clear H
          have hcz22_0 : wr.cell? ⟨gb281,0,none⟩ = some (.int .i64 a0_0):=(blk_cell BK281.out 0).trans rfl
          have hcz22_1 : wr.cell? ⟨gb281,1,none⟩ = some (.int .i64 a0_1):=(blk_cell BK281.out 1).trans rfl
          have hcz22_2 : wr.cell? ⟨gb281,2,none⟩ = some (.int .i64 a0_2):=(blk_cell BK281.out 2).trans rfl
          have hcz22_3 : wr.cell? ⟨gb281,3,none⟩ = some (.int .i64 a0_3):=(blk_cell BK281.out 3).trans rfl
          have hcz22_4 : wr.cell? ⟨gb281,4,none⟩ = some (.int .i64 a0_4):=(blk_cell BK281.out 4).trans rfl
          have hcz22_5 : wr.cell? ⟨gb281,5,none⟩ = some (.int .i64 a0_5):=(blk_cell BK281.out 5).trans rfl
          have hcz22_6 : wr.cell? ⟨gb281,6,none⟩ = some (.int .i64 a0_6):=(blk_cell BK281.out 6).trans rfl
          have hcz22_7 : wr.cell? ⟨gb281,7,none⟩ = some (.int .i64 a0_7):=(blk_cell BK281.out 7).trans rfl
          have hcz22_8 : wr.cell? ⟨gb281,8,none⟩ = some (.int .i64 a0_8):=(blk_cell BK281.out 8).trans rfl
          have hcz22_9 : wr.cell? ⟨gb281,9,none⟩ = some (.slice A0_9 l0_9.length c0_9):=(blk_cell BK281.out 9).trans rfl
          have hcz22_10 : wr.cell? ⟨gb281,10,none⟩ = some (.slice A0_10 l0_10.length c0_10):=(blk_cell BK281.out 10).trans rfl
          have hfz22_0:=blk_frozen BK281.out 0
          have hfz22_1:=blk_frozen BK281.out 1
          have hfz22_2:=blk_frozen BK281.out 2
          have hfz22_3:=blk_frozen BK281.out 3
          have hfz22_4:=blk_frozen BK281.out 4
          have hfz22_5:=blk_frozen BK281.out 5
          have hfz22_6:=blk_frozen BK281.out 6
          have hfz22_7:=blk_frozen BK281.out 7
          have hfz22_8:=blk_frozen BK281.out 8
          have hfz22_9:=blk_frozen BK281.out 9
          have hfz22_10:=blk_frozen BK281.out 10
          have p283 : 0 ≤ ((ji18) : Int):=of_decide_eq_true (by first|(with_reducible assumption)|assumption)
          have q283 : (ji18) < (l0_9.length : Int):=of_decide_eq_true (by first|(with_reducible assumption)|assumption)
          obtain ⟨ad283,e283,hx283_0⟩:=Flt.at_kf HR0_9.out (ji18) p283 q283
          cases e283
          replace hx283_0:=(HB.out.cell (World.block_lt_of_cell? w _ hx283_0)).trans hx283_0
          replace p283:=eq_true p283
          replace q283:=eq_true q283
          go_wp2_with (first|((with_reducible refine gate_builtin (b:=.append) (xs:=#[.tmp 25,.tmp 36]) rfl ?_);at_builtin;refine Kd.R_append Flt.kf (w0:=w) w.heap.size rfl (.tmp 25) (.tmp 36) 30 36 (.float .f64 0) 8 rfl Try.underlying30 info36 rfl (by decide) (by omega) u5 x5_2 (rdOf (0 : Nat) l0_9 (ji18)) [.float .f64 (rdOf (0 : Nat) l0_9 (ji18))] (fun _=>True) (fun _=>False) rfl rfl ?aP (fun _ hk=>hk.elim) ?aF ?aO ?aB ?aS ?aL ?_;(case aP=>exact rfl);(case aB=>exact (by repeat(first|(with_reducible first|exact HB.out|apply below_alloc|apply pw_below_drewN|apply below_drew1|refine below_set ?_ GE281.out)|exact HB.out)));(case aF=>exact (fun _ _=>trivial));(case aO=>exact (by (with_reducible repeat(first|apply Kd.R_alloc|apply Kd.R_drewN|apply Kd.R_drew));exact HO_5.out));(case aS=>exact (below_size (by repeat(first|(with_reducible first|exact HB.out|apply below_alloc|apply pw_below_drewN|apply below_drew1|refine below_set ?_ GE281.out)|exact HB.out))));(case aL=>have:=LMc21.out;omega);intro v285 w23 ho hb hg hat;rw [← Ny284.out] at ho;have n0_:=Aside0.mk (blk_grown (g:=gb281) (o:=.cells #[.int .i64 a0_0,.int .i64 a0_1,.int .i64 a0_2,.int .i64 a0_3,.int .i64 a0_4,.int .i64 a0_5,.int .i64 a0_6,.int .i64 a0_7,.int .i64 a0_8,.slice (some ad283) l0_9.length c0_9,.slice A0_10 l0_10.length c0_10] 32 (0,0)) (by (with_reducible repeat(first|refine blk_drewN ?_ _|refine blk_drew ?_|refine blk_alloc ?_ _));exact BK281.out) hg (Kd.R_ne HO_5.out BK281.out (by decide)));have n1_:=Aside0.mk (hb);have n2_:=Aside0.mk (ho);clear BK281;clear HB;clear HO_5;have BK281:=n0_;have HB:=n1_;have HO286:=n2_;clear n0_ n1_ n2_;clear ho hb hg hat))
          go_roundg k2
          case measure=>have:=HJ2.out;have:=HK2.out;omega
          case rel=>exact ⟨(y284),(wrap64 (x22_2 + 1)),(by first|rfl|(simp;done)|(simp [*];done)),H',⟨by have:=HJ2.out;have:=HK2.out;omega⟩,⟨by (with_reducible repeat(first|apply Kd.R_alloc|apply Kd.R_drewN|apply Kd.R_drew));exact HO286.out⟩,⟨by (with_reducible repeat(first|refine blk_drewN ?_ _|refine blk_drew ?_|refine blk_alloc ?_ _));exact BK281.out⟩,⟨by repeat(first|(with_reducible first|exact HB.out|apply below_alloc|apply pw_below_drewN|apply below_drew1|refine below_set ?_ GE281.out)|exact HB.out)⟩⟩
         ·rw [if_neg c21] at H
          exact absurd H (by simp)
        ·rw [if_neg c20] at H
         exact absurd H (by simp)
       ·rw [if_neg c19] at H
        exact absurd H (by simp)
      ·rw [if_neg c17] at H
       have c17b0 : decide (x22_2 < a0_8) = false:=decide_eq_false c17
       clear c17
       obtain rfl:=Option.some.inj H
       go_wp2
       go_ret
       exact ⟨_,by first|rfl|(simp [errW_none,errW_some] <;> rfl)|(simp [*,errW_none,errW_some] <;> rfl),by (with_reducible repeat(first|apply Kd.R_alloc|apply Kd.R_drewN|apply Kd.R_drew));exact HO_5.out,by repeat(first|(with_reducible first|exact HB.out|apply below_alloc|apply pw_below_drewN|apply below_drew1|refine below_set ?_ GE281.out)|exact HB.out)⟩

end Go.Proofs.Ytnagfbadjbkhmaa.PA
