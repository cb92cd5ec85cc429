import Derived.Test.YtnagfbadjbkhmaaPBx0
import Derived.Test.YtnagfbadjbkhmaaPBx3
import Derived.Test.YtnagfbadjbkhmaaPBx4
import Derived.Test.YtnagfbadjbkhmaaPBx6
namespace Go.Proofs.Ytnagfbadjbkhmaa.PB
open Go.RowKit Go.Proofs.YtnagfbadjbkhmaaW.PrintWords Go.Proofs.YtnagfbadjbkhmaaW.PrintLast Go.Proofs.YtnagfbadjbkhmaaW.PrintMore
attribute [local go_sem] max2_int min2_int max_two min_two max_three min_three max_four min_four   -- for this text's walks alone
attribute [local go_sem high] Flt.fold_eq Flt.fold_ne Flt.fold_lt Flt.fold_gt Flt.fold_le Flt.fold_ge Flt.run_bits Flt.run_frombits
set_option linter.unusedVariables false
set_option linter.unusedSimpArgs false

/-! ### bins_Edges: function 26 -/
def bins_Edges.l0 : Nat → List (List Nat) → Int → Int → Int → Int → Int → Int → Int → Int → Int → Int → Int → List Nat → List Int → Option ((List (List Nat)))
 | 0,_,_,_,_,_,_,_,_,_,_,_,_,_,_=>none
 | k + 1,x3,x9,x10,x150000,x150001,x150002,x150003,x150004,x150005,x150006,x150007,x150008,x150009,x150010=>if x10 < x9 then ((dataset_Column.f x150000 x150001 x150002 x150003 x150004 x150005 x150006 x150007 x150008 x150009 x150010 x10).bind fun t151=>((edges_Of.f t151 x150002).bind fun t154=>(if x3.length < 5864062014805 then (bins_Edges.l0 k (x3 ++ [t154]) x9 (wrap64 (x10 + 1)) x150000 x150001 x150002 x150003 x150004 x150005 x150006 x150007 x150008 x150009 x150010) else (none)))) else (some x3)
def bins_Edges.f (k : Nat) (a0_0 : Int) (a0_1 : Int) (a0_2 : Int) (a0_3 : Int) (a0_4 : Int) (a0_5 : Int) (a0_6 : Int) (a0_7 : Int) (a0_8 : Int) (l0_9 : List Nat) (l0_10 : List Int) : Option ((List (List Nat))):=(bins_shaped.f a0_0 a0_1 a0_2 a0_3 a0_4 a0_5 a0_6 a0_7 a0_8 l0_9 l0_10).bind fun t150=>(if t150 = true then (bins_Edges.l0 k ([] : List (List Nat)) a0_8 0 a0_0 a0_1 a0_2 a0_3 a0_4 a0_5 a0_6 a0_7 a0_8 l0_9 l0_10) else (some ([] : List (List Nat))))
theorem bins_Edges.mono_l : ∀ k,(∀ y0 y1 y2 y3 y4 y5 y6 y7 y8 y9 y10 y11 y12 y13,LeO (bins_Edges.l0 k y0 y1 y2 y3 y4 y5 y6 y7 y8 y9 y10 y11 y12 y13) (bins_Edges.l0 (k + 1) y0 y1 y2 y3 y4 y5 y6 y7 y8 y9 y10 y11 y12 y13))
 | 0=>fun _ _ _ _ _ _ _ _ _ _ _ _ _ _ r h=>by simp [bins_Edges.l0] at h
 | k + 1=>by
  have ih0:=bins_Edges.mono_l k
  ·intro y0 y1 y2 y3 y4 y5 y6 y7 y8 y9 y10 y11 y12 y13
   unfold bins_Edges.l0
   repeat' first
   | (with_reducible exact ih0 _ _ _ _ _ _ _ _ _ _ _ _ _ _)
   | (with_reducible exact LeO.refl _)
   | (with_reducible exact LeO.none _)
   | (with_reducible refine LeO.ite ?_ ?_)
   | (with_reducible refine LeO.bind ?_ (fun _=>?_))
   | exact ih0 _ _ _ _ _ _ _ _ _ _ _ _ _ _
   | exact LeO.none _
   | refine LeO.ite ?_ ?_
   | refine LeO.bind ?_ (fun _=>?_)
theorem bins_Edges.mono : ∀ a0 a1 a2 a3 a4 a5 a6 a7 a8 a9 a10 k,LeO (bins_Edges.f k a0 a1 a2 a3 a4 a5 a6 a7 a8 a9 a10) (bins_Edges.f (k + 1) a0 a1 a2 a3 a4 a5 a6 a7 a8 a9 a10):=by
 intro a0 a1 a2 a3 a4 a5 a6 a7 a8 a9 a10 k
 have ih0:=bins_Edges.mono_l k
 unfold bins_Edges.f
 repeat' first
   | (with_reducible exact ih0 _ _ _ _ _ _ _ _ _ _ _ _ _ _)
   | (with_reducible exact LeO.refl _)
   | (with_reducible exact LeO.none _)
   | (with_reducible refine LeO.ite ?_ ?_)
   | (with_reducible refine LeO.bind ?_ (fun _=>?_))
   | exact ih0 _ _ _ _ _ _ _ _ _ _ _ _ _ _
   | exact LeO.none _
   | refine LeO.ite ?_ ?_
   | refine LeO.bind ?_ (fun _=>?_)
def bins_Edges.T7 : Bool × List (List Nat × List Nat):=(true,[([],[]),([],[]),([],[]),([1,2],[1,2]),([],[]),([4],[4]),([5],[5]),([3,6,3],[3,6]),([7],[7]),([0,8,7],[0,8]),([9,9,0,1,2,3,4,5,6,7,8,9],[0,9])])
def bins_Edges.B7 : List Nat:=[0,0,0,6,0,16,48,126,254,511,1023]
theorem bins_Edges.tab7 : rtab .any (opsOf Try.f26 7) = bins_Edges.T7:=by kernel_rfl
theorem bins_Edges.bits7 : waitsOk bins_Edges.T7.2 bins_Edges.B7 = true:=by kernel_rfl
set_option maxHeartbeats 8000000 in
set_option maxRecDepth 100000 in
theorem bins_Edges.calls (k : Nat) (a0_0 : Int) (a0_1 : Int) (a0_2 : Int) (a0_3 : Int) (a0_4 : Int) (a0_5 : Int) (a0_6 : Int) (a0_7 : Int) (a0_8 : Int) (A0_9 : Option Addr) (c0_9 : Nat) (l0_9 : List Nat) (A0_10 : Option Addr) (c0_10 : Nat) (l0_10 : List Int) (r : List (List Nat)) (w : World) (hr0_9 : Kd.C Flt.kf w A0_9 l0_9.length l0_9) (hc0_9 : l0_9.length ≤ c0_9) (hr0_10 : Kd.C (Kd.int .i64) w A0_10 l0_10.length l0_10) (hc0_10 : l0_10.length ≤ c0_10) (h : bins_Edges.f k a0_0 a0_1 a0_2 a0_3 a0_4 a0_5 a0_6 a0_7 a0_8 l0_9 l0_10 = some r) :
  Calls Try.prog 26 #[.agg #[.int .i64 a0_0,.int .i64 a0_1,.int .i64 a0_2,.int .i64 a0_3,.int .i64 a0_4,.int .i64 a0_5,.int .i64 a0_6,.int .i64 a0_7,.int .i64 a0_8,.slice A0_9 l0_9.length c0_9,.slice A0_10 l0_10.length c0_10]] w fun e w'=>∃ v0_ : Value,e = .returned (v0_) ∧ Kd.S (Kd.slice 36 Flt.kf) 30 w' w.heap.size (fun _=>True) v0_ r ∧ Below w.heap.size w w':=by
 have hu32:=Try.underlying32
 have HR0_9:=Aside0.mk hr0_9
 have HC0_9:=Aside0.mk hc0_9
 clear hr0_9 hc0_9
 have HR0_10:=Aside0.mk hr0_10
 have HC0_10:=Aside0.mk hc0_10
 clear hr0_10 hc0_10
 have HB:=Aside0.mk (Below.refl w.heap.size w)
 have H : ((bins_shaped.f a0_0 a0_1 a0_2 a0_3 a0_4 a0_5 a0_6 a0_7 a0_8 l0_9 l0_10).bind fun t150=>(if t150 = true then (bins_Edges.l0 k ([] : List (List Nat)) a0_8 0 a0_0 a0_1 a0_2 a0_3 a0_4 a0_5 a0_6 a0_7 a0_8 l0_9 l0_10) else (some ([] : List (List Nat))))) = some r:=h
 clear h
 replace H:=Option.bind_eq_some_iff.mp H
 obtain ⟨t150,A20,H⟩:=H
 replace H : (if t150 = true then (bins_Edges.l0 k ([] : List (List Nat)) a0_8 0 a0_0 a0_1 a0_2 a0_3 a0_4 a0_5 a0_6 a0_7 a0_8 l0_9 l0_10) else (some ([] : List (List Nat)))) = some r:=H
 have A2:=Aside0.mk A20
 clear A20
 by_cases c3 : t150 = true
 ·subst c3
  have H1 : (bins_Edges.l0 k ([] : List (List Nat)) a0_8 0 a0_0 a0_1 a0_2 a0_3 a0_4 a0_5 a0_6 a0_7 a0_8 l0_9 l0_10) = some r:=by rw [if_pos rfl] at H;exact H
  clear H
  have H:=H1
  clear H1
  have H':=Aside0.mk H
  clear H
  go_enter Try.func26,Try.ntmps26
  go_wp2_with (first|((with_reducible refine gate_dst (N:=1) rfl ?_);refine box_event ?hg (N:=1) ?hd (cs:=#[.int .i64 a0_0,.int .i64 a0_1,.int .i64 a0_2,.int .i64 a0_3,.int .i64 a0_4,.int .i64 a0_5,.int .i64 a0_6,.int .i64 a0_7,.int .i64 a0_8,.slice A0_9 l0_9.length c0_9,.slice A0_10 l0_10.length c0_10]) (t:=32) ?hr ?_;(case hd=>rfl);(case hg=>rfl);(case hr=>first|(go_simp;done)|(go_simp;rfl));intro gb149 hg w4 hbox hb;have n0_:=Aside0.mk (below_step (by repeat(first|(with_reducible first|exact HB.out|apply below_alloc|apply pw_below_drewN|apply below_drew1)|exact HB.out)) hb);have n1_:=Aside0.mk (hbox);have n2_:=Aside0.mk ((by rw [hg];exact (below_size (by repeat(first|(with_reducible first|exact HB.out|apply below_alloc|apply pw_below_drewN|apply below_drew1)|exact HB.out))) : w.heap.size ≤ gb149));have n3_:=Aside0.mk ((by rw [hg];exact (below_size (by repeat(first|(with_reducible first|exact HB.out|apply below_alloc|apply pw_below_drewN|apply below_drew1)|exact HB.out))) : w.heap.size ≤ gb149));clear HB;have HB:=n0_;have BK149:=n1_;have GW149:=n2_;have GE149:=n3_;clear n0_ n1_ n2_ n3_;clear hb hbox hg;have hcz5_0 : w4.cell? ⟨gb149,0,none⟩ = some (.int .i64 a0_0):=(blk_cell BK149.out 0).trans rfl;have hcz5_1 : w4.cell? ⟨gb149,1,none⟩ = some (.int .i64 a0_1):=(blk_cell BK149.out 1).trans rfl;have hcz5_2 : w4.cell? ⟨gb149,2,none⟩ = some (.int .i64 a0_2):=(blk_cell BK149.out 2).trans rfl;have hcz5_3 : w4.cell? ⟨gb149,3,none⟩ = some (.int .i64 a0_3):=(blk_cell BK149.out 3).trans rfl;have hcz5_4 : w4.cell? ⟨gb149,4,none⟩ = some (.int .i64 a0_4):=(blk_cell BK149.out 4).trans rfl;have hcz5_5 : w4.cell? ⟨gb149,5,none⟩ = some (.int .i64 a0_5):=(blk_cell BK149.out 5).trans rfl;have hcz5_6 : w4.cell? ⟨gb149,6,none⟩ = some (.int .i64 a0_6):=(blk_cell BK149.out 6).trans rfl;have hcz5_7 : w4.cell? ⟨gb149,7,none⟩ = some (.int .i64 a0_7):=(blk_cell BK149.out 7).trans rfl;have hcz5_8 : w4.cell? ⟨gb149,8,none⟩ = some (.int .i64 a0_8):=(blk_cell BK149.out 8).trans rfl;have hcz5_9 : w4.cell? ⟨gb149,9,none⟩ = some (.slice A0_9 l0_9.length c0_9):=(blk_cell BK149.out 9).trans rfl;have hcz5_10 : w4.cell? ⟨gb149,10,none⟩ = some (.slice A0_10 l0_10.length c0_10):=(blk_cell BK149.out 10).trans rfl;have hfz5_0:=blk_frozen BK149.out 0;have hfz5_1:=blk_frozen BK149.out 1;have hfz5_2:=blk_frozen BK149.out 2;have hfz5_3:=blk_frozen BK149.out 3;have hfz5_4:=blk_frozen BK149.out 4;have hfz5_5:=blk_frozen BK149.out 5;have hfz5_6:=blk_frozen BK149.out 6;have hfz5_7:=blk_frozen BK149.out 7;have hfz5_8:=blk_frozen BK149.out 8;have hfz5_9:=blk_frozen BK149.out 9;have hfz5_10:=blk_frozen BK149.out 10)|((with_reducible refine gate_callee (f:=67) rfl ?_);refine goesL_ (some 6) rfl rfl Try.func67 (by kernel_rfl) rfl #[.agg #[.int .i64 a0_0,.int .i64 a0_1,.int .i64 a0_2,.int .i64 a0_3,.int .i64 a0_4,.int .i64 a0_5,.int .i64 a0_6,.int .i64 a0_7,.int .i64 a0_8,.slice A0_9 l0_9.length c0_9,.slice A0_10 l0_10.length c0_10]] rfl (by (try simp only [List.map_toArray,List.map_cons,List.map_nil]);first|done|rfl|(simp only [List.length_drop,List.length_take];rfl)) ?_;(with_reducible refine (bins_shaped.calls a0_0 a0_1 a0_2 a0_3 a0_4 a0_5 a0_6 a0_7 a0_8 _ _ l0_9 _ _ l0_10 true _ ?side1 ?side2 ?side3 ?side4 A2.out).mono ?_);(case side1=>repeat(first|exact (Kd.C_below HR0_9.out HB.out)|(with_reducible refine Kd.C_alloc ?_ _)|(with_reducible refine Kd.C_drewN ?_ _)|(with_reducible refine Kd.C_drew ?_)));(case side2=>exact HC0_9.out);(case side3=>repeat(first|exact (Kd.C_below HR0_10.out HB.out)|(with_reducible refine Kd.C_alloc ?_ _)|(with_reducible refine Kd.C_drewN ?_ _)|(with_reducible refine Kd.C_drew ?_)));(case side4=>exact HC0_10.out);rintro e w6 ⟨rfl,hb⟩;refine ⟨_,rfl,?_⟩;have n0_:=Aside0.mk (blk_below (g:=gb149) (o:=.cells #[.int .i64 a0_0,.int .i64 a0_1,.int .i64 a0_2,.int .i64 a0_3,.int .i64 a0_4,.int .i64 a0_5,.int .i64 a0_6,.int .i64 a0_7,.int .i64 a0_8,.slice A0_9 l0_9.length c0_9,.slice A0_10 l0_10.length c0_10] 32 (0,0)) (by (with_reducible repeat(first|refine blk_drewN ?_ _|refine blk_drew ?_|refine blk_alloc ?_ _));exact BK149.out) hb);have n1_:=Aside0.mk (below_step (by repeat(first|(with_reducible first|exact HB.out|apply below_alloc|apply pw_below_drewN|apply below_drew1|refine below_set ?_ GE149.out)|exact HB.out)) hb);clear BK149;clear HB;have BK149:=n0_;have HB:=n1_;clear n0_ n1_;(try clear hb);(try clear hb2);(try clear hk);(try clear hi);have hcz7_0 : w6.cell? ⟨gb149,0,none⟩ = some (.int .i64 a0_0):=(blk_cell BK149.out 0).trans rfl;have hcz7_1 : w6.cell? ⟨gb149,1,none⟩ = some (.int .i64 a0_1):=(blk_cell BK149.out 1).trans rfl;have hcz7_2 : w6.cell? ⟨gb149,2,none⟩ = some (.int .i64 a0_2):=(blk_cell BK149.out 2).trans rfl;have hcz7_3 : w6.cell? ⟨gb149,3,none⟩ = some (.int .i64 a0_3):=(blk_cell BK149.out 3).trans rfl;have hcz7_4 : w6.cell? ⟨gb149,4,none⟩ = some (.int .i64 a0_4):=(blk_cell BK149.out 4).trans rfl;have hcz7_5 : w6.cell? ⟨gb149,5,none⟩ = some (.int .i64 a0_5):=(blk_cell BK149.out 5).trans rfl;have hcz7_6 : w6.cell? ⟨gb149,6,none⟩ = some (.int .i64 a0_6):=(blk_cell BK149.out 6).trans rfl;have hcz7_7 : w6.cell? ⟨gb149,7,none⟩ = some (.int .i64 a0_7):=(blk_cell BK149.out 7).trans rfl;have hcz7_8 : w6.cell? ⟨gb149,8,none⟩ = some (.int .i64 a0_8):=(blk_cell BK149.out 8).trans rfl;have hcz7_9 : w6.cell? ⟨gb149,9,none⟩ = some (.slice A0_9 l0_9.length c0_9):=(blk_cell BK149.out 9).trans rfl;have hcz7_10 : w6.cell? ⟨gb149,10,none⟩ = some (.slice A0_10 l0_10.length c0_10):=(blk_cell BK149.out 10).trans rfl;have hfz7_0:=blk_frozen BK149.out 0;have hfz7_1:=blk_frozen BK149.out 1;have hfz7_2:=blk_frozen BK149.out 2;have hfz7_3:=blk_frozen BK149.out 3;have hfz7_4:=blk_frozen BK149.out 4;have hfz7_5:=blk_frozen BK149.out 5;have hfz7_6:=blk_frozen BK149.out 6;have hfz7_7:=blk_frozen BK149.out 7;have hfz7_8:=blk_frozen BK149.out 8;have hfz7_9:=blk_frozen BK149.out 9;have hfz7_10:=blk_frozen BK149.out 10))
  go_loopg [3,10] k (fun kq v3 v10 w'=>∃ (x3_1 : List (List Nat)) (x10_1 : Int),v10 = .int .i64 x10_1 ∧ Aside0 (bins_Edges.l0 kq x3_1 a0_8 x10_1 a0_0 a0_1 a0_2 a0_3 a0_4 a0_5 a0_6 a0_7 a0_8 l0_9 l0_10 = some r) ∧ Aside0 (kq ≤ k) ∧ Aside0 (Kd.S (Kd.slice 36 Flt.kf) 30 w' w.heap.size (fun _=>True) v3 x3_1) ∧ Aside0 (w'.heap[gb149]? = some (.cells #[.int .i64 a0_0,.int .i64 a0_1,.int .i64 a0_2,.int .i64 a0_3,.int .i64 a0_4,.int .i64 a0_5,.int .i64 a0_6,.int .i64 a0_7,.int .i64 a0_8,(.slice A0_9 l0_9.length c0_9),(.slice A0_10 l0_10.length c0_10)] 32 (0,0))) ∧ Aside0 (Below w.heap.size w w'))
  case atStart=>exact ⟨(([] : List (List Nat))),(0),(by first|rfl|(simp;done)|(simp [*];done)),H',⟨Nat.le_refl _⟩,⟨by first|exact Kd.S_nil _ _ _ _ _|exact Kd.N_nil _ _ _ _ _|exact Kd.V_nil _ _ _ _ _|exact Kd.Q_nil _ _ _ _ _|exact Kd.R_nil _ _ _ _ _⟩,⟨by (with_reducible repeat(first|refine blk_drewN ?_ _|refine blk_drew ?_|refine blk_alloc ?_ _));exact BK149.out⟩,⟨by repeat(first|(with_reducible first|exact HB.out|apply below_alloc|apply pw_below_drewN|apply below_drew1|refine below_set ?_ GE149.out)|exact HB.out)⟩⟩
  case round =>
   clear H'
   try clear c2
   try clear p2
   try clear c3
   try clear c6
   try clear hcz5_0
   try clear hcz5_1
   try clear hcz5_10
   try clear hcz5_2
   try clear hcz5_3
   try clear hcz5_4
   try clear hcz5_5
   try clear hcz5_6
   try clear hcz5_7
   try clear hcz5_8
   try clear hcz5_9
   try clear hcz7_0
   try clear hcz7_1
   try clear hcz7_10
   try clear hcz7_2
   try clear hcz7_3
   try clear hcz7_4
   try clear hcz7_5
   try clear hcz7_6
   try clear hcz7_7
   try clear hcz7_8
   try clear hcz7_9
   try clear hfz5_0
   try clear hfz5_1
   try clear hfz5_10
   try clear hfz5_2
   try clear hfz5_3
   try clear hfz5_4
   try clear hfz5_5
   try clear hfz5_6
   try clear hfz5_7
   try clear hfz5_8
   try clear hfz5_9
   try clear hfz7_0
   try clear hfz7_1
   try clear hfz7_10
   try clear hfz7_2
   try clear hfz7_3
   try clear hfz7_4
   try clear hfz7_5
   try clear hfz7_6
   try clear hfz7_7
   try clear hfz7_8
   try clear hfz7_9
   obtain ⟨x3_1,x10_1,rfl,HA,HK1,HO_3,BK149,HB⟩:=hrel
   cases gk with
   | zero=>exact absurd HA.out (by simp [bins_Edges.l0])
   | succ k1 =>
    have H:=HA.out
    clear HA
    simp only [bins_Edges.l0] at H
    by_cases c8 : x10_1 < a0_8
    ·rw [if_pos c8] at H
     have c8b0 : decide (x10_1 < a0_8) = true:=decide_eq_true c8
     clear c8
     replace H:=Option.bind_eq_some_iff.mp H
     obtain ⟨t151,A90,H⟩:=H
     replace H : ((edges_Of.f t151 a0_2).bind fun t154=>(if x3_1.length < 5864062014805 then (bins_Edges.l0 k1 (x3_1 ++ [t154]) a0_8 (wrap64 (x10_1 + 1)) a0_0 a0_1 a0_2 a0_3 a0_4 a0_5 a0_6 a0_7 a0_8 l0_9 l0_10) else (none))) = some r:=H
     have A9:=Aside0.mk A90
     clear A90
     replace H:=Option.bind_eq_some_iff.mp H
     obtain ⟨t154,A100,H⟩:=H
     replace H : (if x3_1.length < 5864062014805 then (bins_Edges.l0 k1 (x3_1 ++ [t154]) a0_8 (wrap64 (x10_1 + 1)) a0_0 a0_1 a0_2 a0_3 a0_4 a0_5 a0_6 a0_7 a0_8 l0_9 l0_10) else (none)) = some r:=H
     have A10:=Aside0.mk A100
     clear A100
     by_cases c11 : x3_1.length < 5864062014805
     ·rw [if_pos c11] at H
      have LMc11:=Aside0.mk c11
      clear c11
      obtain ⟨y157,hy157⟩ : ∃ y_ : List (List Nat),y_ = (x3_1 ++ [t154]):=⟨_,rfl⟩
      replace H : (bins_Edges.l0 k1 y157 a0_8 (wrap64 (x10_1 + 1)) a0_0 a0_1 a0_2 a0_3 a0_4 a0_5 a0_6 a0_7 a0_8 l0_9 l0_10) = some r:=by first|(rw [hy157];with_reducible exact H)|(have H2_:=(Option.bind_some _ _).symm.trans H;rw [hy157];with_reducible exact H2_)|(have H2_:=(Option.bind_some _ _).symm.trans H;with_reducible exact H2_)|with_reducible exact H|(rw [hy157];exact H)|exact H
      have Ny157:=Aside0.mk hy157
      clear hy157
      have H':=Aside0.mk H
      clear H
      try go_wp2
      have n0_:=Aside0.mk (Kd.S_drew HO_3.out)
      have n1_:=Aside0.mk (blk_drew BK149.out)
      have n2_:=Aside0.mk (below_drew1 HB.out)
      clear HO_3
      clear BK149
      clear HB
      have HO_3:=n0_
      have BK149:=n1_
      have HB:=n2_
      clear n0_ n1_ n2_
      refine start_ (n:=11) (S:=fun w'=>w'.cell? ⟨gb149,0,none⟩ = some (.int .i64 a0_0) ∧ w'.cell? ⟨gb149,1,none⟩ = some (.int .i64 a0_1) ∧ w'.cell? ⟨gb149,2,none⟩ = some (.int .i64 a0_2) ∧ w'.cell? ⟨gb149,3,none⟩ = some (.int .i64 a0_3) ∧ w'.cell? ⟨gb149,4,none⟩ = some (.int .i64 a0_4) ∧ w'.cell? ⟨gb149,5,none⟩ = some (.int .i64 a0_5) ∧ w'.cell? ⟨gb149,6,none⟩ = some (.int .i64 a0_6) ∧ w'.cell? ⟨gb149,7,none⟩ = some (.int .i64 a0_7) ∧ w'.cell? ⟨gb149,8,none⟩ = some (.int .i64 a0_8) ∧ w'.cell? ⟨gb149,9,none⟩ = some (.slice A0_9 l0_9.length c0_9) ∧ w'.cell? ⟨gb149,10,none⟩ = some (.slice A0_10 l0_10.length c0_10)) (ds:=[]) #[false,false,false,false,false,false,false,false,false,false,false] (by kernel_rfl) rfl rfl ⟨(blk_cell BK149.out 0).trans rfl,(blk_cell BK149.out 1).trans rfl,(blk_cell BK149.out 2).trans rfl,(blk_cell BK149.out 3).trans rfl,(blk_cell BK149.out 4).trans rfl,(blk_cell BK149.out 5).trans rfl,(blk_cell BK149.out 6).trans rfl,(blk_cell BK149.out 7).trans rfl,(blk_cell BK149.out 8).trans rfl,(blk_cell BK149.out 9).trans rfl,(blk_cell BK149.out 10).trans rfl⟩ (fun hHeld=>?_);refine with_tabW bins_Edges.tab7 bins_Edges.bits7 (fun HT_ HW_=>?_)
      generalize wr.drew = w12 at HO_3 BK149 HB hHeld ⊢
      refine pure_ (i:=0) (N:=some 13) (v:=?_) (a':=?_) #[true,false,false,false,false,false,false,false,false,false,false] rfl rfl (any_of HT_.out (by kernel_rfl)) (fun _ _ _ h=>h) (Or.inl ⟨by rfl,?_⟩) ?_ ?_
      rotate_left
      ·intro w'
       go_simp
       with_reducible rfl
      rotate_left
      ·simp only [Act.put,List.setIfInBounds_toArray,List.set_cons_zero,List.set_cons_succ,i64_w,i32_w]
       rfl
      refine pure_ (i:=2) (N:=some 15) (v:=?_) (a':=?_) #[true,false,true,false,false,false,false,false,false,false,false] rfl rfl (any_of HT_.out (by kernel_rfl)) (fun _ _ _ h=>h) (Or.inl ⟨by rfl,?_⟩) ?_ ?_
      rotate_left
      ·intro w'
       go_simp
       with_reducible rfl
      rotate_left
      ·simp only [Act.put,List.setIfInBounds_toArray,List.set_cons_zero,List.set_cons_succ,i64_w,i32_w]
       rfl
      refine pure_ (i:=4) (N:=some 17) (v:=?_) (a':=?_) #[true,false,true,false,true,false,false,false,false,false,false] rfl rfl (any_of HT_.out (by kernel_rfl)) (fun _ _ _ h=>h) (Or.inl ⟨by rfl,?_⟩) ?_ ?_
      rotate_left
      ·intro w'
       go_simp
       with_reducible rfl
      rotate_left
      ·simp only [Act.put,List.setIfInBounds_toArray,List.set_cons_zero,List.set_cons_succ,i64_w,i32_w]
       rfl
      refine pure_ (i:=5) (N:=some 18) (v:=?_) (a':=?_) #[true,false,true,false,true,true,false,false,false,false,false] rfl rfl (any_of HT_.out (by kernel_rfl)) (fun _ _ _ h=>h) (Or.inl ⟨by rfl,?_⟩) ?_ ?_
      rotate_left
      ·intro w'
       go_simp
       with_reducible rfl
      rotate_left
      ·simp only [Act.put,List.setIfInBounds_toArray,List.set_cons_zero,List.set_cons_succ,i64_w,i32_w]
       rfl
      refine take_ (i:=1) (N:=some 14) (v:=?_) (a':=?_) #[true,true,true,false,true,true,false,false,false,false,false] rfl rfl (take_ofW HT_.out HW_.out (by kernel_rfl)) (fun _ _ _ h=>h) (Or.inl ⟨by rfl,?_⟩) hHeld ?_ ?_
      rotate_left
      ·rintro w' ⟨s0,s1,s2,s3,s4,s5,s6,s7,s8,s9,s10⟩
       go_simp
       with_reducible rfl
      rotate_left
      ·simp only [Act.put,List.setIfInBounds_toArray,List.set_cons_zero,List.set_cons_succ,i64_w,i32_w]
       rfl
      refine take_ (i:=6) (N:=some 19) (v:=?_) (a':=?_) #[true,true,true,false,true,true,true,false,false,false,false] rfl rfl (take_ofW HT_.out HW_.out (by kernel_rfl)) (fun _ _ _ h=>h) (Or.inl ⟨by rfl,?_⟩) hHeld ?_ ?_
      rotate_left
      ·rintro w' ⟨s0,s1,s2,s3,s4,s5,s6,s7,s8,s9,s10⟩
       go_simp
       with_reducible rfl
      rotate_left
      ·simp only [Act.put,List.setIfInBounds_toArray,List.set_cons_zero,List.set_cons_succ,i64_w,i32_w]
       rfl
      refine one_ (i:=3) (N:=some 16) #[true,true,true,true,true,true,true,false,false,false,false] rfl rfl (one_of HT_.out (by kernel_rfl)) (by decide) (fun K hK=>?_)
      refine goes_ Try.func15 (by kernel_rfl) rfl #[.agg #[.int .i64 a0_0,.int .i64 a0_1,.int .i64 a0_2,.int .i64 a0_3,.int .i64 a0_4,.int .i64 a0_5,.int .i64 a0_6,.int .i64 a0_7,.int .i64 a0_8,.slice A0_9 l0_9.length c0_9,.slice A0_10 l0_10.length c0_10],.int .i64 x10_1] (by rfl) rfl rfl (by (try simp only [List.map_toArray,List.map_cons,List.map_nil]);first|done|rfl|(simp only [List.length_drop,List.length_take];rfl)) ?_
      with_reducible refine (dataset_Column.calls a0_0 a0_1 a0_2 a0_3 a0_4 a0_5 a0_6 a0_7 a0_8 _ _ l0_9 _ _ l0_10 x10_1 t151 _ ?side1 ?side2 ?side3 ?side4 A9.out).mono ?_
      (case side1=>repeat(first|exact (Kd.C_below HR0_9.out HB.out)|(with_reducible refine Kd.C_alloc ?_ _)|(with_reducible refine Kd.C_drewN ?_ _)|(with_reducible refine Kd.C_drew ?_)))
      (case side2=>exact HC0_9.out)
      (case side3=>repeat(first|exact (Kd.C_below HR0_10.out HB.out)|(with_reducible refine Kd.C_alloc ?_ _)|(with_reducible refine Kd.C_drewN ?_ _)|(with_reducible refine Kd.C_drew ?_)))
      (case side4=>exact HC0_10.out)
      rintro e w13 ⟨v152,rfl,ho0,hb⟩
      refine ⟨_,rfl,?_⟩
      have n0_:=Aside0.mk (Kd.S_elder' (by (with_reducible repeat(first|apply Kd.S_alloc|apply Kd.S_drewN|apply Kd.S_drew));exact HO_3.out) (Kd.R_base ho0) hb)
      have n1_:=Aside0.mk (Kd.R_lower ho0 (below_size (by repeat(first|(with_reducible first|exact HB.out|apply below_alloc|apply pw_below_drewN|apply below_drew1|refine below_set ?_ GE149.out)|exact HB.out))))
      have n2_:=Aside0.mk (blk_below (g:=gb149) (o:=.cells #[.int .i64 a0_0,.int .i64 a0_1,.int .i64 a0_2,.int .i64 a0_3,.int .i64 a0_4,.int .i64 a0_5,.int .i64 a0_6,.int .i64 a0_7,.int .i64 a0_8,.slice A0_9 l0_9.length c0_9,.slice A0_10 l0_10.length c0_10] 32 (0,0)) (by (with_reducible repeat(first|refine blk_drewN ?_ _|refine blk_drew ?_|refine blk_alloc ?_ _));exact BK149.out) hb)
      have n3_:=Aside0.mk (below_step (by repeat(first|(with_reducible first|exact HB.out|apply below_alloc|apply pw_below_drewN|apply below_drew1|refine below_set ?_ GE149.out)|exact HB.out)) hb)
      clear HO_3
      clear BK149
      clear HB
      have HO_3:=n0_
      have HO153:=n1_
      have BK149:=n2_
      have HB:=n3_
      clear n0_ n1_ n2_ n3_
      (try clear hb)
      (try clear hb2)
      (try clear hk)
      (try clear hi)
      (try clear ho0)
      obtain ⟨Ao14,co14,eo14⟩:=Kd.R_slice HO153.out
      (first|subst eo14|(injection eo14 with f1_ f2_ f3_;have f4_:=f1_.symm;have f5_:=f3_.symm;clear f1_ f2_ f3_;subst f4_;subst f5_))
      refine hK.out _ _ ⟨(blk_cell BK149.out 0).trans rfl,(blk_cell BK149.out 1).trans rfl,(blk_cell BK149.out 2).trans rfl,(blk_cell BK149.out 3).trans rfl,(blk_cell BK149.out 4).trans rfl,(blk_cell BK149.out 5).trans rfl,(blk_cell BK149.out 6).trans rfl,(blk_cell BK149.out 7).trans rfl,(blk_cell BK149.out 8).trans rfl,(blk_cell BK149.out 9).trans rfl,(blk_cell BK149.out 10).trans rfl⟩ (fun hHeld=>?_)
      clear hK K
      refine norm_ (a':=?_) ?_ ?_
      rotate_left
      ·show Act.put _ (some 16) _ = _
       simp only [Act.put,List.setIfInBounds_toArray,List.set_cons_zero,List.set_cons_succ,i64_w,i32_w]
       rfl
      refine one_ (i:=7) (N:=some 20) #[true,true,true,true,true,true,true,true,false,false,false] rfl rfl (one_of HT_.out (by kernel_rfl)) (by decide) (fun K hK=>?_)
      refine goes_ Try.func68 (by kernel_rfl) rfl #[.slice Ao14 t151.length co14,.int .i64 a0_2] (by rfl) rfl rfl (by (try simp only [List.map_toArray,List.map_cons,List.map_nil]);first|done|rfl|(simp only [List.length_drop,List.length_take];rfl)) ?_
      with_reducible refine (edges_Of.calls _ _ t151 a0_2 t154 _ ?side1 ?side2 A10.out).mono ?_
      (case side1=>repeat(first|exact (Kd.R_reads' HO153.out).2.2|(with_reducible refine Kd.C_alloc ?_ _)|(with_reducible refine Kd.C_drewN ?_ _)|(with_reducible refine Kd.C_drew ?_)))
      (case side2=>exact (Kd.R_reads' HO153.out).2.1)
      rintro e w15 ⟨v155,rfl,ho0,hb⟩
      refine ⟨_,rfl,?_⟩
      have n0_:=Aside0.mk (Kd.S_elder' (by (with_reducible repeat(first|apply Kd.S_alloc|apply Kd.S_drewN|apply Kd.S_drew));exact HO_3.out) (Kd.R_base ho0) hb)
      have n1_:=Aside0.mk (Kd.R_elder' (by (with_reducible repeat(first|apply Kd.R_alloc|apply Kd.R_drewN|apply Kd.R_drew));exact HO153.out) (Kd.R_base ho0) hb)
      have n2_:=Aside0.mk (Kd.R_lower (Kd.R_new' ho0 (Kd.R_lt (by (with_reducible repeat(first|apply Kd.R_alloc|apply Kd.R_drewN|apply Kd.R_drew));exact HO153.out))) (below_size (by repeat(first|(with_reducible first|exact HB.out|apply below_alloc|apply pw_below_drewN|apply below_drew1|refine below_set ?_ GE149.out)|exact HB.out))))
      have n3_:=Aside0.mk (blk_below (g:=gb149) (o:=.cells #[.int .i64 a0_0,.int .i64 a0_1,.int .i64 a0_2,.int .i64 a0_3,.int .i64 a0_4,.int .i64 a0_5,.int .i64 a0_6,.int .i64 a0_7,.int .i64 a0_8,.slice A0_9 l0_9.length c0_9,.slice A0_10 l0_10.length c0_10] 32 (0,0)) (by (with_reducible repeat(first|refine blk_drewN ?_ _|refine blk_drew ?_|refine blk_alloc ?_ _));exact BK149.out) hb)
      have n4_:=Aside0.mk (below_step (by repeat(first|(with_reducible first|exact HB.out|apply below_alloc|apply pw_below_drewN|apply below_drew1|refine below_set ?_ GE149.out)|exact HB.out)) hb)
      clear HO_3
      clear HO153
      clear BK149
      clear HB
      have HO_3:=n0_
      have HO153:=n1_
      have HO156:=n2_
      have BK149:=n3_
      have HB:=n4_
      clear n0_ n1_ n2_ n3_ n4_
      (try clear hb)
      (try clear hb2)
      (try clear hk)
      (try clear hi)
      (try clear ho0)
      obtain ⟨Ao17,co17,eo17⟩:=Kd.R_slice HO156.out
      (first|subst eo17|(injection eo17 with f1_ f2_ f3_;have f4_:=f1_.symm;have f5_:=f3_.symm;clear f1_ f2_ f3_;subst f4_;subst f5_))
      refine hK.out _ _ ⟨(blk_cell BK149.out 0).trans rfl,(blk_cell BK149.out 1).trans rfl,(blk_cell BK149.out 2).trans rfl,(blk_cell BK149.out 3).trans rfl,(blk_cell BK149.out 4).trans rfl,(blk_cell BK149.out 5).trans rfl,(blk_cell BK149.out 6).trans rfl,(blk_cell BK149.out 7).trans rfl,(blk_cell BK149.out 8).trans rfl,(blk_cell BK149.out 9).trans rfl,(blk_cell BK149.out 10).trans rfl⟩ (fun hHeld=>?_)
      clear hK K
      refine norm_ (a':=?_) ?_ ?_
      rotate_left
      ·show Act.put _ (some 20) _ = _
       simp only [Act.put,List.setIfInBounds_toArray,List.set_cons_zero,List.set_cons_succ,i64_w,i32_w]
       rfl
      refine one_ (i:=8) (N:=some 21) #[true,true,true,true,true,true,true,true,true,false,false] rfl rfl (one_of HT_.out (by kernel_rfl)) (by decide) (fun K hK=>?_)
      refine value_ (w1:=?_) (v:=?_) (by rfl) rfl ?_ ?_
      rotate_left 2
      ·go_simp
       constructor
       ·rfl
       ·rfl
      refine hK.out _ _ ⟨(blk_cell (blk_alloc BK149.out _) 0).trans rfl,(blk_cell (blk_alloc BK149.out _) 1).trans rfl,(blk_cell (blk_alloc BK149.out _) 2).trans rfl,(blk_cell (blk_alloc BK149.out _) 3).trans rfl,(blk_cell (blk_alloc BK149.out _) 4).trans rfl,(blk_cell (blk_alloc BK149.out _) 5).trans rfl,(blk_cell (blk_alloc BK149.out _) 6).trans rfl,(blk_cell (blk_alloc BK149.out _) 7).trans rfl,(blk_cell (blk_alloc BK149.out _) 8).trans rfl,(blk_cell (blk_alloc BK149.out _) 9).trans rfl,(blk_cell (blk_alloc BK149.out _) 10).trans rfl⟩ (fun hHeld=>?_)
      clear hK K
      refine norm_ (a':=?_) ?_ ?_
      rotate_left
      ·show Act.put _ (some 21) _ = _
       simp only [Act.put,List.setIfInBounds_toArray,List.set_cons_zero,List.set_cons_succ,i64_w,i32_w]
       rfl
      refine one_ (i:=9) (N:=some 22) #[true,true,true,true,true,true,true,true,true,true,false] rfl rfl (one_of HT_.out (by kernel_rfl)) (by decide) (fun K hK=>?_)
      refine Kd.S_append_step (Kd.slice 36 Flt.kf) (w0:=w) w.heap.size (by rfl) (.tmp 13) (.tmp 21) 56 30 (.slice none 0 0) 24 rfl Try.underlying56 info30 rfl (by decide) (by omega) u3 x3_1 t154 [.slice Ao17 t154.length co17] (fun k_=>some k_ ≠ (.slice Ao14 t151.length co14 : Value).ownBlock) (fun k_=>some k_ = (.slice Ao17 t154.length co17 : Value).ownBlock) rfl rfl ?aP (fun k_ hk_=>((Kd.R_mono (ok':=fun k_=>((fun k_=>some k_ ≠ (.slice Ao14 t151.length co14 : Value).ownBlock)) k_ ∧ some k_ ≠ (u3 : Value).ownBlock) (Kd.R_apart' (HO156.out) (Kd.S_typed HO_3.out) (by decide)) (fun k_ hk=>⟨hk.1.2,hk.2⟩))).1 k_ hk_.symm) ?aF ?aO ?aB ?aS ?aL ?_
      (case aP=>exact Kd.M_row (Kd.R_mono (Kd.R_tight rfl (Kd.R_mono (ok':=fun k_=>((fun k_=>some k_ ≠ (.slice Ao14 t151.length co14 : Value).ownBlock)) k_ ∧ some k_ ≠ (u3 : Value).ownBlock) (Kd.R_apart' (HO156.out) (Kd.S_typed HO_3.out) (by decide)) (fun k_ hk=>⟨hk.1.2,hk.2⟩))) (fun _ h_=>h_)))
      (case aB=>exact (by repeat(first|(with_reducible first|exact HB.out|apply below_alloc|apply pw_below_drewN|apply below_drew1|refine below_set ?_ GE149.out)|exact HB.out)))
      (case aF=>exact (fun k_ hk=>Kd.fresh' (Kd.R_lt (by (with_reducible repeat(first|apply Kd.R_alloc|apply Kd.R_drewN|apply Kd.R_drew));exact HO153.out)) k_ hk))
      (case aO=>exact (by (with_reducible repeat(first|apply Kd.S_alloc|apply Kd.S_drewN|apply Kd.S_drew));exact Kd.S_mono HO_3.out (fun k_ hk=>⟨hk.1.2,fun e_=>hk.2 e_⟩)))
      (case aS=>exact (below_size (by repeat(first|(with_reducible first|exact HB.out|apply below_alloc|apply pw_below_drewN|apply below_drew1|refine below_set ?_ GE149.out)|exact HB.out))))
      (case aL=>have:=LMc11.out;omega)
      intro v158 w16 ho hb hg hat
      rw [← Ny157.out] at ho
      have n0_:=Aside0.mk (blk_grown (g:=gb149) (o:=.cells #[.int .i64 a0_0,.int .i64 a0_1,.int .i64 a0_2,.int .i64 a0_3,.int .i64 a0_4,.int .i64 a0_5,.int .i64 a0_6,.int .i64 a0_7,.int .i64 a0_8,.slice A0_9 l0_9.length c0_9,.slice A0_10 l0_10.length c0_10] 32 (0,0)) (by (with_reducible repeat(first|refine blk_drewN ?_ _|refine blk_drew ?_|refine blk_alloc ?_ _));exact BK149.out) hg (Kd.S_ne HO_3.out BK149.out (by decide)))
      have n1_:=Aside0.mk (Kd.R_over' (by (with_reducible repeat(first|apply Kd.R_alloc|apply Kd.R_drewN|apply Kd.R_drew));exact HO153.out) (Kd.S_typed (by (with_reducible repeat(first|apply Kd.S_alloc|apply Kd.S_drewN|apply Kd.S_drew));exact HO_3.out)) (by decide) hg)
      have n2_:=Aside0.mk (hb)
      have n3_:=Aside0.mk (ho)
      clear BK149
      clear HO153
      clear HB
      clear HO_3
      clear HO156
      have BK149:=n0_
      have HO153:=n1_
      have HB:=n2_
      have HO159:=n3_
      clear n0_ n1_ n2_ n3_
      clear ho hb hg hat
      refine hK.out _ _ ⟨(blk_cell BK149.out 0).trans rfl,(blk_cell BK149.out 1).trans rfl,(blk_cell BK149.out 2).trans rfl,(blk_cell BK149.out 3).trans rfl,(blk_cell BK149.out 4).trans rfl,(blk_cell BK149.out 5).trans rfl,(blk_cell BK149.out 6).trans rfl,(blk_cell BK149.out 7).trans rfl,(blk_cell BK149.out 8).trans rfl,(blk_cell BK149.out 9).trans rfl,(blk_cell BK149.out 10).trans rfl⟩ (fun hHeld=>?_)
      clear hK K
      refine norm_ (a':=?_) ?_ ?_
      rotate_left
      ·show Act.put _ (some 22) _ = _
       simp only [Act.put,List.setIfInBounds_toArray,List.set_cons_zero,List.set_cons_succ,i64_w,i32_w]
       rfl
      refine pure_ (i:=10) (N:=some 3) (v:=?_) (a':=?_) #[true,true,true,true,true,true,true,true,true,true,true] rfl rfl (any_of HT_.out (by kernel_rfl)) (fun _ _ _ h=>h) (Or.inl ⟨by rfl,?_⟩) ?_ ?_
      rotate_left
      ·intro w'
       go_simp
       with_reducible rfl
      rotate_left
      ·simp only [Act.put,List.setIfInBounds_toArray,List.set_cons_zero,List.set_cons_succ,i64_w,i32_w]
       rfl
      refine done_ (done_of HT_.out (by kernel_rfl)) ?_
      try go_wp2
      go_roundg k1
      case measure=>have:=HK1.out;omega
      case rel=>exact ⟨(y157),(wrap64 (x10_1 + 1)),(by first|rfl|(simp;done)|(simp [*];done)),H',⟨by have:=HK1.out;omega⟩,⟨by (with_reducible repeat(first|apply Kd.S_alloc|apply Kd.S_drewN|apply Kd.S_drew));exact Kd.S_mono HO159.out (fun _ hk=>trivial)⟩,⟨by (with_reducible repeat(first|refine blk_drewN ?_ _|refine blk_drew ?_|refine blk_alloc ?_ _));exact BK149.out⟩,⟨by repeat(first|(with_reducible first|exact HB.out|apply below_alloc|apply pw_below_drewN|apply below_drew1|refine below_set ?_ GE149.out)|exact HB.out)⟩⟩
     ·rw [if_neg c11] at H
      exact absurd H (by simp)
    ·rw [if_neg c8] at H
     have c8b0 : decide (x10_1 < a0_8) = false:=decide_eq_false c8
     clear c8
     obtain rfl:=Option.some.inj H
     go_wp2
     go_ret
     exact ⟨_,by first|rfl|(simp [errW_none,errW_some] <;> rfl)|(simp [*,errW_none,errW_some] <;> rfl),by (with_reducible repeat(first|apply Kd.S_alloc|apply Kd.S_drewN|apply Kd.S_drew));exact HO_3.out,by repeat(first|(with_reducible first|exact HB.out|apply below_alloc|apply pw_below_drewN|apply below_drew1|refine below_set ?_ GE149.out)|exact HB.out)⟩
 ·replace c3:=Bool.eq_false_iff.mpr c3
  subst c3
  have H1 : (some ([] : List (List Nat))) = some r:=by rw [if_neg (show ¬ (false = true) by decide)] at H;exact H
  clear H
  have H:=H1
  clear H1
  obtain rfl:=Option.some.inj H
  go_enter Try.func26,Try.ntmps26
  go_wp2_with (first|((with_reducible refine gate_dst (N:=1) rfl ?_);refine box_event ?hg (N:=1) ?hd (cs:=#[.int .i64 a0_0,.int .i64 a0_1,.int .i64 a0_2,.int .i64 a0_3,.int .i64 a0_4,.int .i64 a0_5,.int .i64 a0_6,.int .i64 a0_7,.int .i64 a0_8,.slice A0_9 l0_9.length c0_9,.slice A0_10 l0_10.length c0_10]) (t:=32) ?hr ?_;(case hd=>rfl);(case hg=>rfl);(case hr=>first|(go_simp;done)|(go_simp;rfl));intro gb149 hg w18 hbox hb;have n0_:=Aside0.mk (below_step (by repeat(first|(with_reducible first|exact HB.out|apply below_alloc|apply pw_below_drewN|apply below_drew1)|exact HB.out)) hb);have n1_:=Aside0.mk (hbox);have n2_:=Aside0.mk ((by rw [hg];exact (below_size (by repeat(first|(with_reducible first|exact HB.out|apply below_alloc|apply pw_below_drewN|apply below_drew1)|exact HB.out))) : w.heap.size ≤ gb149));have n3_:=Aside0.mk ((by rw [hg];exact (below_size (by repeat(first|(with_reducible first|exact HB.out|apply below_alloc|apply pw_below_drewN|apply below_drew1)|exact HB.out))) : w.heap.size ≤ gb149));clear HB;have HB:=n0_;have BK149:=n1_;have GW149:=n2_;have GE149:=n3_;clear n0_ n1_ n2_ n3_;clear hb hbox hg;have hcz19_0 : w18.cell? ⟨gb149,0,none⟩ = some (.int .i64 a0_0):=(blk_cell BK149.out 0).trans rfl;have hcz19_1 : w18.cell? ⟨gb149,1,none⟩ = some (.int .i64 a0_1):=(blk_cell BK149.out 1).trans rfl;have hcz19_2 : w18.cell? ⟨gb149,2,none⟩ = some (.int .i64 a0_2):=(blk_cell BK149.out 2).trans rfl;have hcz19_3 : w18.cell? ⟨gb149,3,none⟩ = some (.int .i64 a0_3):=(blk_cell BK149.out 3).trans rfl;have hcz19_4 : w18.cell? ⟨gb149,4,none⟩ = some (.int .i64 a0_4):=(blk_cell BK149.out 4).trans rfl;have hcz19_5 : w18.cell? ⟨gb149,5,none⟩ = some (.int .i64 a0_5):=(blk_cell BK149.out 5).trans rfl;have hcz19_6 : w18.cell? ⟨gb149,6,none⟩ = some (.int .i64 a0_6):=(blk_cell BK149.out 6).trans rfl;have hcz19_7 : w18.cell? ⟨gb149,7,none⟩ = some (.int .i64 a0_7):=(blk_cell BK149.out 7).trans rfl;have hcz19_8 : w18.cell? ⟨gb149,8,none⟩ = some (.int .i64 a0_8):=(blk_cell BK149.out 8).trans rfl;have hcz19_9 : w18.cell? ⟨gb149,9,none⟩ = some (.slice A0_9 l0_9.length c0_9):=(blk_cell BK149.out 9).trans rfl;have hcz19_10 : w18.cell? ⟨gb149,10,none⟩ = some (.slice A0_10 l0_10.length c0_10):=(blk_cell BK149.out 10).trans rfl;have hfz19_0:=blk_frozen BK149.out 0;have hfz19_1:=blk_frozen BK149.out 1;have hfz19_2:=blk_frozen BK149.out 2;have hfz19_3:=blk_frozen BK149.out 3;have hfz19_4:=blk_frozen BK149.out 4;have hfz19_5:=blk_frozen BK149.out 5;have hfz19_6:=blk_frozen BK149.out 6;have hfz19_7:=blk_frozen BK149.out 7;have hfz19_8:=blk_frozen BK149.out 8;have hfz19_9:=blk_frozen BK149.out 9;have hfz19_10:=blk_frozen BK149.out 10)|((with_reducible refine gate_callee (f:=67) rfl ?_);refine goesL_ (some 6) rfl rfl Try.func67 (by kernel_rfl) rfl #[.agg #[.int .i64 a0_0,.int .i64 a0_1,.int .i64 a0_2,.int .i64 a0_3,.int .i64 a0_4,.int .i64 a0_5,.int .i64 a0_6,.int .i64 a0_7,.int .i64 a0_8,.slice A0_9 l0_9.length c0_9,.slice A0_10 l0_10.length c0_10]] rfl (by (try simp only [List.map_toArray,List.map_cons,List.map_nil]);first|done|rfl|(simp only [List.length_drop,List.length_take];rfl)) ?_;(with_reducible refine (bins_shaped.calls a0_0 a0_1 a0_2 a0_3 a0_4 a0_5 a0_6 a0_7 a0_8 _ _ l0_9 _ _ l0_10 false _ ?side1 ?side2 ?side3 ?side4 A2.out).mono ?_);(case side1=>repeat(first|exact (Kd.C_below HR0_9.out HB.out)|(with_reducible refine Kd.C_alloc ?_ _)|(with_reducible refine Kd.C_drewN ?_ _)|(with_reducible refine Kd.C_drew ?_)));(case side2=>exact HC0_9.out);(case side3=>repeat(first|exact (Kd.C_below HR0_10.out HB.out)|(with_reducible refine Kd.C_alloc ?_ _)|(with_reducible refine Kd.C_drewN ?_ _)|(with_reducible refine Kd.C_drew ?_)));(case side4=>exact HC0_10.out);rintro e w20 ⟨rfl,hb⟩;refine ⟨_,rfl,?_⟩;have n0_:=Aside0.mk (blk_below (g:=gb149) (o:=.cells #[.int .i64 a0_0,.int .i64 a0_1,.int .i64 a0_2,.int .i64 a0_3,.int .i64 a0_4,.int .i64 a0_5,.int .i64 a0_6,.int .i64 a0_7,.int .i64 a0_8,.slice A0_9 l0_9.length c0_9,.slice A0_10 l0_10.length c0_10] 32 (0,0)) (by (with_reducible repeat(first|refine blk_drewN ?_ _|refine blk_drew ?_|refine blk_alloc ?_ _));exact BK149.out) hb);have n1_:=Aside0.mk (below_step (by repeat(first|(with_reducible first|exact HB.out|apply below_alloc|apply pw_below_drewN|apply below_drew1|refine below_set ?_ GE149.out)|exact HB.out)) hb);clear BK149;clear HB;have BK149:=n0_;have HB:=n1_;clear n0_ n1_;(try clear hb);(try clear hb2);(try clear hk);(try clear hi)))
  go_ret
  exact ⟨_,by first|rfl|(simp [errW_none,errW_some] <;> rfl)|(simp [*,errW_none,errW_some] <;> rfl),by first|exact Kd.S_nil _ _ _ _ _|exact Kd.N_nil _ _ _ _ _|exact Kd.V_nil _ _ _ _ _|exact Kd.Q_nil _ _ _ _ _|exact Kd.R_nil _ _ _ _ _,by repeat(first|(with_reducible first|exact HB.out|apply below_alloc|apply pw_below_drewN|apply below_drew1|refine below_set ?_ GE149.out)|exact HB.out)⟩

end Go.Proofs.Ytnagfbadjbkhmaa.PB
