import Derived.Test.YtebbnjgaikppgaaPAx0
import Derived.Test.YtebbnjgaikppgaaPAx9
import Derived.Test.YtebbnjgaikppgaaPAx10
import Derived.Test.YtebbnjgaikppgaaPAx11
import Derived.Test.YtebbnjgaikppgaaPAx32
import Derived.Test.YtebbnjgaikppgaaPAx38
namespace Go.Proofs.Ytebbnjgaikppgaa.PA
open Go.RowKit Go.Proofs.YtebbnjgaikppgaaW.PrintWords Go.Proofs.YtebbnjgaikppgaaW.PrintLast Go.Proofs.YtebbnjgaikppgaaW.PrintMore
attribute [local go_sem] max2_int min2_int max_two min_two max_three min_three max_four min_four   -- for this text's walks alone
attribute [local go_sem high] Flt.fold_eq Flt.fold_ne Flt.fold_lt Flt.fold_gt Flt.fold_le Flt.fold_ge Flt.run_bits Flt.run_frombits
set_option linter.unusedVariables false
set_option linter.unusedSimpArgs false

/-! ### node_Put: function 48 -/
def node_Put.l0 : Nat → List Int → List (S75) → Int → Int → Int → Int → Int → Int → Option (List Int)
 | 0,_,_,_,_,_,_,_,_=>none
 | k + 1,x7,x23,x24,x25,x367000,x367001,x367002,x367003=>if x25 < x24 then (if 0 ≤ x25 then (if x25 < (x23.length : Int) then ((node_leaf.f ((rd_T75 x23 x25).f0) ((rd_T75 x23 x25).f1) ((rd_T75 x23 x25).f2) ((rd_T75 x23 x25).f3) ((rd_T75 x23 x25).f4) ((rd_T75 x23 x25).f5)).bind fun t379=>(if t379 = true then (if x367002 = 0 then ((some (([0,((rd_T75 x23 x25).f3) % 256] : List Int) : List Int)).bind fun y380=>(if x7.length + y380.length < 140737488355328 then (node_Put.l0 k (x7 ++ y380) x23 x24 (wrap64 (x25 + 1)) x367000 x367001 x367002 x367003) else (none))) else (if x7.length < 140737488355328 then ((some (x7 ++ [0] : List Int)).bind fun y386=>((take_PutWhole.f k ([] : List Int) ((rd_T75 x23 x25).f4)).bind fun t389=>((take_Put.f k t389 (IntKind.u64.wrap ((rd_T75 x23 x25).f5)) 4).bind fun t392=>(if y386.length + t392.length < 140737488355328 then (node_Put.l0 k (y386 ++ t392) x23 x24 (wrap64 (x25 + 1)) x367000 x367001 x367002 x367003) else (none))))) else (none))) else (if x7.length < 140737488355328 then ((some (x7 ++ [1] : List Int)).bind fun y398=>((take_Put.f k ([] : List Int) (IntKind.u64.wrap ((rd_T75 x23 x25).f0)) 2).bind fun t401=>((take_Put.f k t401 (IntKind.u64.wrap ((rd_T75 x23 x25).f1)) 2).bind fun t404=>(if y398.length + t404.length < 140737488355328 then (node_Put.l0 k (y398 ++ t404) x23 x24 (wrap64 (x25 + 1)) x367000 x367001 x367002 x367003) else (none))))) else (none)))) else (none)) else (none)) else (some x7)
def node_Put.f (k : Nat) (l0 : List Int) (l1 : List (S75)) (a2_0 : Int) (a2_1 : Int) (a2_2 : Int) (a2_3 : Int) : Option (List Int):=(slices_Clone_byte_byte.f l0).bind fun t367=>((node_Right.f k l1 a2_0 a2_1 a2_2 a2_3).bind fun t370=>(if t370 = true then ((take_Put.f k ([] : List Int) (IntKind.u64.wrap ((l1.length : Int))) 4).bind fun t371=>(if t367.length + t371.length < 140737488355328 then (node_Put.l0 k (t367 ++ t371) l1 (l1.length : Int) 0 a2_0 a2_1 a2_2 a2_3) else (none))) else (some t367)))
theorem node_Put.mono_l : ∀ k,(∀ y0 y1 y2 y3 y4 y5 y6 y7,LeO (node_Put.l0 k y0 y1 y2 y3 y4 y5 y6 y7) (node_Put.l0 (k + 1) y0 y1 y2 y3 y4 y5 y6 y7))
 | 0=>fun _ _ _ _ _ _ _ _ r h=>by simp [node_Put.l0] at h
 | k + 1=>by
  have ih0:=node_Put.mono_l k
  ·intro y0 y1 y2 y3 y4 y5 y6 y7
   unfold node_Put.l0
   repeat' first
   | (with_reducible exact ih0 _ _ _ _ _ _ _ _)
   | (with_reducible exact node_Right.mono _ _ _ _ _ _)
   | (with_reducible exact take_Put.mono _ _ _ _)
   | (with_reducible exact take_PutWhole.mono _ _ _)
   | (with_reducible exact LeO.refl _)
   | (with_reducible exact LeO.none _)
   | (with_reducible refine LeO.ite ?_ ?_)
   | (with_reducible refine LeO.bind ?_ (fun _=>?_))
   | exact ih0 _ _ _ _ _ _ _ _
   | exact node_Right.mono _ _ _ _ _ _
   | exact take_Put.mono _ _ _ _
   | exact take_PutWhole.mono _ _ _
   | exact LeO.none _
   | refine LeO.ite ?_ ?_
   | refine LeO.bind ?_ (fun _=>?_)
theorem node_Put.mono : ∀ a0 a1 a2 a3 a4 a5 k,LeO (node_Put.f k a0 a1 a2 a3 a4 a5) (node_Put.f (k + 1) a0 a1 a2 a3 a4 a5):=by
 intro a0 a1 a2 a3 a4 a5 k
 have ih0:=node_Put.mono_l k
 unfold node_Put.f
 repeat' first
   | (with_reducible exact ih0 _ _ _ _ _ _ _ _)
   | (with_reducible exact node_Right.mono _ _ _ _ _ _)
   | (with_reducible exact take_Put.mono _ _ _ _)
   | (with_reducible exact take_PutWhole.mono _ _ _)
   | (with_reducible exact LeO.refl _)
   | (with_reducible exact LeO.none _)
   | (with_reducible refine LeO.ite ?_ ?_)
   | (with_reducible refine LeO.bind ?_ (fun _=>?_))
   | exact ih0 _ _ _ _ _ _ _ _
   | exact node_Right.mono _ _ _ _ _ _
   | exact take_Put.mono _ _ _ _
   | exact take_PutWhole.mono _ _ _
   | exact LeO.none _
   | refine LeO.ite ?_ ?_
   | refine LeO.bind ?_ (fun _=>?_)
def node_Put.T9 : Bool × List (List Nat × List Nat):=(true,[([],[]),([],[]),([1],[1]),([2],[2]),([],[]),([4],[4]),([5],[5]),([3,6,3],[3,6]),([0,7,7],[0,7]),([8,8,0,1,2,3,4,5,6,7,8],[0,8])])
def node_Put.B9 : List Nat:=[0,0,2,6,0,16,48,126,255,511]
theorem node_Put.tab9 : rtab .any (opsOf Try.f48 9) = node_Put.T9:=by kernel_rfl
theorem node_Put.bits9 : waitsOk node_Put.T9.2 node_Put.B9 = true:=by kernel_rfl
def node_Put.T12 : Bool × List (List Nat × List Nat):=(true,[([],[]),([],[]),([1],[1]),([2],[2]),([3],[3]),([],[]),([5],[5]),([6],[6]),([4,7,4],[4,7]),([0,8,8],[0,8]),([9,9,0,1,2,3,4,5,6,7,8,9],[0,9])])
def node_Put.B12 : List Nat:=[0,0,2,6,14,0,32,96,254,511,1023]
theorem node_Put.tab12 : rtab .any (opsOf Try.f48 12) = node_Put.T12:=by kernel_rfl
theorem node_Put.bits12 : waitsOk node_Put.T12.2 node_Put.B12 = true:=by kernel_rfl
set_option maxHeartbeats 8000000 in
set_option maxRecDepth 100000 in
theorem node_Put.calls (k : Nat) (A0 : Option Addr) (c0 : Nat) (l0 : List Int) (A1 : Option Addr) (c1 : Nat) (l1 : List (S75)) (a2_0 : Int) (a2_1 : Int) (a2_2 : Int) (a2_3 : Int) (r : List Int) (w : World) (hr0 : Kd.C (Kd.int .u8) w A0 l0.length l0) (hc0 : l0.length ≤ c0) (hr1 : Kd.C k75 w A1 l1.length l1) (hc1 : l1.length ≤ c1) (h : node_Put.f k l0 l1 a2_0 a2_1 a2_2 a2_3 = some r) :
  Calls Try.prog 48 #[.slice A0 l0.length c0,.slice A1 l1.length c1,.agg #[.int .i64 a2_0,.int .i64 a2_1,.int .i64 a2_2,.int .i64 a2_3]] w fun e w'=>∃ v0_ : Value,e = .returned (v0_) ∧ Kd.R (Kd.int .u8) 5 w' w.heap.size (fun _=>True) v0_ r ∧ Below w.heap.size w w':=by
 have hu72:=Try.underlying72
 have hu75:=Try.underlying75
 have HR0:=Aside0.mk hr0
 have HC0:=Aside0.mk hc0
 clear hr0 hc0
 have HR1:=Aside0.mk hr1
 have HC1:=Aside0.mk hc1
 clear hr1 hc1
 have HB:=Aside0.mk (Below.refl w.heap.size w)
 have H : ((slices_Clone_byte_byte.f l0).bind fun t367=>((node_Right.f k l1 a2_0 a2_1 a2_2 a2_3).bind fun t370=>(if t370 = true then ((take_Put.f k ([] : List Int) (IntKind.u64.wrap ((l1.length : Int))) 4).bind fun t371=>(if t367.length + t371.length < 140737488355328 then (node_Put.l0 k (t367 ++ t371) l1 (l1.length : Int) 0 a2_0 a2_1 a2_2 a2_3) else (none))) else (some t367)))) = some r:=h
 clear h
 replace H:=Option.bind_eq_some_iff.mp H
 obtain ⟨t367,A40,H⟩:=H
 replace H : ((node_Right.f k l1 a2_0 a2_1 a2_2 a2_3).bind fun t370=>(if t370 = true then ((take_Put.f k ([] : List Int) (IntKind.u64.wrap ((l1.length : Int))) 4).bind fun t371=>(if t367.length + t371.length < 140737488355328 then (node_Put.l0 k (t367 ++ t371) l1 (l1.length : Int) 0 a2_0 a2_1 a2_2 a2_3) else (none))) else (some t367))) = some r:=H
 have A4:=Aside0.mk A40
 clear A40
 replace H:=Option.bind_eq_some_iff.mp H
 obtain ⟨t370,A50,H⟩:=H
 replace H : (if t370 = true then ((take_Put.f k ([] : List Int) (IntKind.u64.wrap ((l1.length : Int))) 4).bind fun t371=>(if t367.length + t371.length < 140737488355328 then (node_Put.l0 k (t367 ++ t371) l1 (l1.length : Int) 0 a2_0 a2_1 a2_2 a2_3) else (none))) else (some t367)) = some r:=H
 have A5:=Aside0.mk A50
 clear A50
 by_cases c6 : t370 = true
 ·subst c6
  have H1 : ((take_Put.f k ([] : List Int) (IntKind.u64.wrap ((l1.length : Int))) 4).bind fun t371=>(if t367.length + t371.length < 140737488355328 then (node_Put.l0 k (t367 ++ t371) l1 (l1.length : Int) 0 a2_0 a2_1 a2_2 a2_3) else (none))) = some r:=by rw [if_pos rfl] at H;exact H
  clear H
  have H:=H1
  clear H1
  replace H:=Option.bind_eq_some_iff.mp H
  obtain ⟨t371,A70,H⟩:=H
  replace H : (if t367.length + t371.length < 140737488355328 then (node_Put.l0 k (t367 ++ t371) l1 (l1.length : Int) 0 a2_0 a2_1 a2_2 a2_3) else (none)) = some r:=H
  have A7:=Aside0.mk A70
  clear A70
  by_cases c8 : t367.length + t371.length < 140737488355328
  ·rw [if_pos c8] at H
   have LMc8:=Aside0.mk c8
   clear c8
   obtain ⟨y374,hy374⟩ : ∃ y_ : List Int,y_ = (t367 ++ t371):=⟨_,rfl⟩
   replace H : (node_Put.l0 k y374 l1 (l1.length : Int) 0 a2_0 a2_1 a2_2 a2_3) = some r:=by first|(rw [hy374];with_reducible exact H)|(have H2_:=(Option.bind_some _ _).symm.trans H;rw [hy374];with_reducible exact H2_)|(have H2_:=(Option.bind_some _ _).symm.trans H;with_reducible exact H2_)|with_reducible exact H|(rw [hy374];exact H)|exact H
   have Ny374:=Aside0.mk hy374
   clear hy374
   have H':=Aside0.mk H
   clear H
   go_enter Try.func48,Try.ntmps48
   go_wp2_with (first|((with_reducible refine gate_dst (N:=5) rfl ?_);refine box_event ?hg (N:=5) ?hd (cs:=#[.int .i64 a2_0,.int .i64 a2_1,.int .i64 a2_2,.int .i64 a2_3]) (t:=72) ?hr ?_;(case hd=>rfl);(case hg=>rfl);(case hr=>first|(go_simp;done)|(go_simp;rfl));intro gb366 hg w9 hbox hb;have n0_:=Aside0.mk (below_step (by repeat(first|(with_reducible first|exact HB.out|apply below_alloc|apply pw_below_drewN|apply below_drew1)|exact HB.out)) hb);have n1_:=Aside0.mk (hbox);have n2_:=Aside0.mk ((by rw [hg];exact (below_size (by repeat(first|(with_reducible first|exact HB.out|apply below_alloc|apply pw_below_drewN|apply below_drew1)|exact HB.out))) : w.heap.size ≤ gb366));have n3_:=Aside0.mk ((by rw [hg];exact (below_size (by repeat(first|(with_reducible first|exact HB.out|apply below_alloc|apply pw_below_drewN|apply below_drew1)|exact HB.out))) : w.heap.size ≤ gb366));clear HB;have HB:=n0_;have BK366:=n1_;have GW366:=n2_;have GE366:=n3_;clear n0_ n1_ n2_ n3_;clear hb hbox hg)|((with_reducible refine gate_callee (f:=58) rfl ?_);refine goesL_ (some 11) rfl rfl Try.func58 (by kernel_rfl) rfl #[.slice A0 l0.length c0] rfl (by (try simp only [List.map_toArray,List.map_cons,List.map_nil]);first|done|rfl|(simp only [List.length_drop,List.length_take];rfl)) ?_;(with_reducible refine (slices_Clone_byte_byte.calls _ _ l0 t367 _ ?side1 ?side2 A4.out).mono ?_);(case side1=>repeat(first|exact (Kd.C_below HR0.out HB.out)|(with_reducible refine Kd.C_alloc ?_ _)|(with_reducible refine Kd.C_drewN ?_ _)|(with_reducible refine Kd.C_drew ?_)));(case side2=>exact HC0.out);rintro e w10 ⟨v368,rfl,ho0,hb⟩;refine ⟨_,rfl,?_⟩;have n0_:=Aside0.mk (Kd.R_lower ho0 (below_size (by repeat(first|(with_reducible first|exact HB.out|apply below_alloc|apply pw_below_drewN|apply below_drew1|refine below_set ?_ GE366.out)|exact HB.out))));have n1_:=Aside0.mk (blk_below (g:=gb366) (o:=.cells #[.int .i64 a2_0,.int .i64 a2_1,.int .i64 a2_2,.int .i64 a2_3] 72 (0,0)) (by (with_reducible repeat(first|refine blk_drewN ?_ _|refine blk_drew ?_|refine blk_alloc ?_ _));exact BK366.out) hb);have n2_:=Aside0.mk (below_step (by repeat(first|(with_reducible first|exact HB.out|apply below_alloc|apply pw_below_drewN|apply below_drew1|refine below_set ?_ GE366.out)|exact HB.out)) hb);clear BK366;clear HB;have HO369:=n0_;have BK366:=n1_;have HB:=n2_;clear n0_ n1_ n2_;(try clear hb);(try clear hb2);(try clear hk);(try clear hi);(try clear ho0);have hcz11_0 : w10.cell? ⟨gb366,0,none⟩ = some (.int .i64 a2_0):=(blk_cell BK366.out 0).trans rfl;have hcz11_1 : w10.cell? ⟨gb366,1,none⟩ = some (.int .i64 a2_1):=(blk_cell BK366.out 1).trans rfl;have hcz11_2 : w10.cell? ⟨gb366,2,none⟩ = some (.int .i64 a2_2):=(blk_cell BK366.out 2).trans rfl;have hcz11_3 : w10.cell? ⟨gb366,3,none⟩ = some (.int .i64 a2_3):=(blk_cell BK366.out 3).trans rfl;have hfz11_0:=blk_frozen BK366.out 0;have hfz11_1:=blk_frozen BK366.out 1;have hfz11_2:=blk_frozen BK366.out 2;have hfz11_3:=blk_frozen BK366.out 3)|((with_reducible refine gate_callee (f:=41) rfl ?_);refine goesL_ (some 14) rfl rfl Try.func41 (by kernel_rfl) rfl #[.slice A1 l1.length c1,.agg #[.int .i64 a2_0,.int .i64 a2_1,.int .i64 a2_2,.int .i64 a2_3]] rfl (by (try simp only [List.map_toArray,List.map_cons,List.map_nil]);first|done|rfl|(simp only [List.length_drop,List.length_take];rfl)) ?_;(with_reducible refine (node_Right.calls k _ _ l1 a2_0 a2_1 a2_2 a2_3 true _ ?side1 ?side2 A5.out).mono ?_);(case side1=>repeat(first|exact (Kd.C_below HR1.out HB.out)|(with_reducible refine Kd.C_alloc ?_ _)|(with_reducible refine Kd.C_drewN ?_ _)|(with_reducible refine Kd.C_drew ?_)));(case side2=>exact HC1.out);rintro e w12 ⟨rfl,hb⟩;refine ⟨_,rfl,?_⟩;have n0_:=Aside0.mk (Kd.R_below (by (with_reducible repeat(first|apply Kd.R_alloc|apply Kd.R_drewN|apply Kd.R_drew));exact HO369.out) hb);have n1_:=Aside0.mk (blk_below (g:=gb366) (o:=.cells #[.int .i64 a2_0,.int .i64 a2_1,.int .i64 a2_2,.int .i64 a2_3] 72 (0,0)) (by (with_reducible repeat(first|refine blk_drewN ?_ _|refine blk_drew ?_|refine blk_alloc ?_ _));exact BK366.out) hb);have n2_:=Aside0.mk (below_step (by repeat(first|(with_reducible first|exact HB.out|apply below_alloc|apply pw_below_drewN|apply below_drew1|refine below_set ?_ GE366.out)|exact HB.out)) hb);clear HO369;clear BK366;clear HB;have HO369:=n0_;have BK366:=n1_;have HB:=n2_;clear n0_ n1_ n2_;(try clear hb);(try clear hb2);(try clear hk);(try clear hi))|((with_reducible refine gate_callee (f:=24) rfl ?_);refine goesL_ (some 21) rfl rfl Try.func24 (by kernel_rfl) rfl #[.slice none 0 0,.int .u64 (IntKind.u64.wrap ((l1.length : Int))),.int .i64 4] rfl (by (try simp only [List.map_toArray,List.map_cons,List.map_nil]);first|done|rfl|(simp only [List.length_drop,List.length_take];rfl)) ?_;(refine (take_Put.calls k _ _ ([] : List Int) (IntKind.u64.wrap ((l1.length : Int))) 4 t371 _ ?side1 ?side2 A7.out).mono ?_);(case side1=>exact Kd.C_nil _ _);(case side2=>exact Nat.le_refl _);rintro e w13 ⟨v372,rfl,ho0,hb⟩;refine ⟨_,rfl,?_⟩;have n0_:=Aside0.mk (Kd.R_elder' (by (with_reducible repeat(first|apply Kd.R_alloc|apply Kd.R_drewN|apply Kd.R_drew));exact HO369.out) (Kd.R_base ho0) hb);have n1_:=Aside0.mk (Kd.R_lower (Kd.R_new' ho0 (Kd.R_lt (by (with_reducible repeat(first|apply Kd.R_alloc|apply Kd.R_drewN|apply Kd.R_drew));exact HO369.out))) (below_size (by repeat(first|(with_reducible first|exact HB.out|apply below_alloc|apply pw_below_drewN|apply below_drew1|refine below_set ?_ GE366.out)|exact HB.out))));have n2_:=Aside0.mk (blk_below (g:=gb366) (o:=.cells #[.int .i64 a2_0,.int .i64 a2_1,.int .i64 a2_2,.int .i64 a2_3] 72 (0,0)) (by (with_reducible repeat(first|refine blk_drewN ?_ _|refine blk_drew ?_|refine blk_alloc ?_ _));exact BK366.out) hb);have n3_:=Aside0.mk (below_step (by repeat(first|(with_reducible first|exact HB.out|apply below_alloc|apply pw_below_drewN|apply below_drew1|refine below_set ?_ GE366.out)|exact HB.out)) hb);clear HO369;clear BK366;clear HB;have HO369:=n0_;have HO373:=n1_;have BK366:=n2_;have HB:=n3_;clear n0_ n1_ n2_ n3_;(try clear hb);(try clear hb2);(try clear hk);(try clear hi);(try clear ho0);obtain ⟨Ao15,co15,eo15⟩:=Kd.R_slice HO373.out;subst eo15)|((with_reducible refine gate_builtin (b:=.append) (xs:=#[.tmp 17,.tmp 21]) rfl ?_);at_builtin;refine Kd.R_append_rows (Kd.int .u8) (w0:=w) w.heap.size rfl (.tmp 17) (.tmp 21) 22 5 (.int .u8 0) 1 rfl Try.underlying22 info5 rfl (by decide) (by omega) v368 t367 t371 _ _ _ (fun k_=>some k_ ≠ (.slice Ao15 t371.length co15 : Value).ownBlock) (fun _=>False) rfl rfl ?aO ?aR (fun _ _ h=>h) (fun _ h=>h.elim) ?aF ?aB ?aS ?aL ?_;(case aR=>repeat(first|exact (Kd.R_reads' HO373.out).2.2|(with_reducible refine Kd.C_alloc ?_ _)|(with_reducible refine Kd.C_drewN ?_ _)|(with_reducible refine Kd.C_drew ?_)));(case aB=>exact (by repeat(first|(with_reducible first|exact HB.out|apply below_alloc|apply pw_below_drewN|apply below_drew1|refine below_set ?_ GE366.out)|exact HB.out)));(case aF=>exact (fun k_ hk=>Kd.fresh' (Kd.R_lt (by (with_reducible repeat(first|apply Kd.R_alloc|apply Kd.R_drewN|apply Kd.R_drew));exact HO373.out)) k_ hk));(case aO=>exact (by (with_reducible repeat(first|apply Kd.R_alloc|apply Kd.R_drewN|apply Kd.R_drew));exact Kd.R_mono HO369.out (fun _ hk=>hk.2)));(case aS=>exact (below_size (by repeat(first|(with_reducible first|exact HB.out|apply below_alloc|apply pw_below_drewN|apply below_drew1|refine below_set ?_ GE366.out)|exact HB.out))));(case aL=>have:=LMc8.out;omega);intro v375 w14 ho hb hg hat;rw [← Ny374.out] at ho;have n0_:=Aside0.mk (blk_grown (g:=gb366) (o:=.cells #[.int .i64 a2_0,.int .i64 a2_1,.int .i64 a2_2,.int .i64 a2_3] 72 (0,0)) (by (with_reducible repeat(first|refine blk_drewN ?_ _|refine blk_drew ?_|refine blk_alloc ?_ _));exact BK366.out) hg (Kd.R_ne HO369.out BK366.out (by decide)));have n1_:=Aside0.mk (Kd.R_after (ok:=(fun _=>True)) (by (with_reducible repeat(first|apply Kd.R_alloc|apply Kd.R_drewN|apply Kd.R_drew));exact HO373.out) hg hat);have n2_:=Aside0.mk (hb);have n3_:=Aside0.mk (ho);clear BK366;clear HO373;clear HB;clear HO369;have BK366:=n0_;have HO373:=n1_;have HB:=n2_;have HO376:=n3_;clear n0_ n1_ n2_ n3_;clear ho hb hg hat))
   go_loopg [7,25] k (fun kq v7 v25 w'=>∃ (x7_1 : List Int) (x25_1 : Int),v25 = .int .i64 x25_1 ∧ Aside0 (node_Put.l0 kq x7_1 l1 (l1.length : Int) x25_1 a2_0 a2_1 a2_2 a2_3 = some r) ∧ Aside0 (kq ≤ k) ∧ Aside0 (Kd.R (Kd.int .u8) 5 w' w.heap.size (fun _=>True) v7 x7_1) ∧ Aside0 (w'.heap[gb366]? = some (.cells #[.int .i64 a2_0,.int .i64 a2_1,.int .i64 a2_2,.int .i64 a2_3] 72 (0,0))) ∧ Aside0 (Below w.heap.size w w'))
   case atStart=>exact ⟨(y374),(0),(by first|rfl|(simp;done)|(simp [*];done)),H',⟨Nat.le_refl _⟩,⟨by (with_reducible repeat(first|apply Kd.R_alloc|apply Kd.R_drewN|apply Kd.R_drew));exact Kd.R_mono HO376.out (fun _ hk=>trivial)⟩,⟨by (with_reducible repeat(first|refine blk_drewN ?_ _|refine blk_drew ?_|refine blk_alloc ?_ _));exact BK366.out⟩,⟨by repeat(first|(with_reducible first|exact HB.out|apply below_alloc|apply pw_below_drewN|apply below_drew1|refine below_set ?_ GE366.out)|exact HB.out)⟩⟩
   case round =>
    clear H'
    try clear c1
    try clear c2
    try clear p2
    try clear c4
    try clear c5
    try clear c6
    try clear c8
    try clear hcz11_0
    try clear hcz11_1
    try clear hcz11_2
    try clear hcz11_3
    try clear hfz11_0
    try clear hfz11_1
    try clear hfz11_2
    try clear hfz11_3
    obtain ⟨x7_1,x25_1,rfl,HA,HK1,HO_7,BK366,HB⟩:=hrel
    cases gk with
    | zero=>exact absurd HA.out (by simp [node_Put.l0])
    | succ k1 =>
     have H:=HA.out
     clear HA
     simp only [node_Put.l0] at H
     by_cases c16 : x25_1 < (l1.length : Int)
     ·rw [if_pos c16] at H
      have c16b0 : decide (x25_1 < (l1.length : Int)) = true:=decide_eq_true c16
      clear c16
      by_cases c17 : 0 ≤ x25_1
      ·rw [if_pos c17] at H
       have c17b0 : decide (0 ≤ x25_1) = true:=decide_eq_true c17
       clear c17
       by_cases c18 : x25_1 < (l1.length : Int)
       ·rw [if_pos c18] at H
        have c18b0 : decide (x25_1 < (l1.length : Int)) = true:=decide_eq_true c18
        clear c18
        replace H:=Option.bind_eq_some_iff.mp H
        obtain ⟨t379,A190,H⟩:=H
        replace H : (if t379 = true then (if a2_2 = 0 then ((some (([0,((rd_T75 l1 x25_1).f3) % 256] : List Int) : List Int)).bind fun y380=>(if x7_1.length + y380.length < 140737488355328 then (node_Put.l0 k1 (x7_1 ++ y380) l1 (l1.length : Int) (wrap64 (x25_1 + 1)) a2_0 a2_1 a2_2 a2_3) else (none))) else (if x7_1.length < 140737488355328 then ((some (x7_1 ++ [0] : List Int)).bind fun y386=>((take_PutWhole.f k1 ([] : List Int) ((rd_T75 l1 x25_1).f4)).bind fun t389=>((take_Put.f k1 t389 (IntKind.u64.wrap ((rd_T75 l1 x25_1).f5)) 4).bind fun t392=>(if y386.length + t392.length < 140737488355328 then (node_Put.l0 k1 (y386 ++ t392) l1 (l1.length : Int) (wrap64 (x25_1 + 1)) a2_0 a2_1 a2_2 a2_3) else (none))))) else (none))) else (if x7_1.length < 140737488355328 then ((some (x7_1 ++ [1] : List Int)).bind fun y398=>((take_Put.f k1 ([] : List Int) (IntKind.u64.wrap ((rd_T75 l1 x25_1).f0)) 2).bind fun t401=>((take_Put.f k1 t401 (IntKind.u64.wrap ((rd_T75 l1 x25_1).f1)) 2).bind fun t404=>(if y398.length + t404.length < 140737488355328 then (node_Put.l0 k1 (y398 ++ t404) l1 (l1.length : Int) (wrap64 (x25_1 + 1)) a2_0 a2_1 a2_2 a2_3) else (none))))) else (none))) = some r:=H
        have A19:=Aside0.mk A190
        clear A190
        by_cases c20 : t379 = true
        ·subst c20
         have H1 : (if a2_2 = 0 then ((some (([0,((rd_T75 l1 x25_1).f3) % 256] : List Int) : List Int)).bind fun y380=>(if x7_1.length + y380.length < 140737488355328 then (node_Put.l0 k1 (x7_1 ++ y380) l1 (l1.length : Int) (wrap64 (x25_1 + 1)) a2_0 a2_1 a2_2 a2_3) else (none))) else (if x7_1.length < 140737488355328 then ((some (x7_1 ++ [0] : List Int)).bind fun y386=>((take_PutWhole.f k1 ([] : List Int) ((rd_T75 l1 x25_1).f4)).bind fun t389=>((take_Put.f k1 t389 (IntKind.u64.wrap ((rd_T75 l1 x25_1).f5)) 4).bind fun t392=>(if y386.length + t392.length < 140737488355328 then (node_Put.l0 k1 (y386 ++ t392) l1 (l1.length : Int) (wrap64 (x25_1 + 1)) a2_0 a2_1 a2_2 a2_3) else (none))))) else (none))) = some r:=by rw [if_pos rfl] at H;exact H
         clear H
         have H:=H1
         clear H1
         by_cases c21 : a2_2 = 0
         ·rw [if_pos c21] at H
          have c21b0 : (a2_2 == 0) = true:=beq_iff_eq.mpr c21
          have c21b1 : (a2_2 != 0) = false:=bne_eq_false_iff_eq.mpr c21
          clear c21
          obtain ⟨y380,hy380⟩ : ∃ y_ : List Int,y_ = (([0,((rd_T75 l1 x25_1).f3) % 256] : List Int)):=⟨_,rfl⟩
          replace H : (if x7_1.length + y380.length < 140737488355328 then (node_Put.l0 k1 (x7_1 ++ y380) l1 (l1.length : Int) (wrap64 (x25_1 + 1)) a2_0 a2_1 a2_2 a2_3) else (none)) = some r:=by first|(rw [hy380];with_reducible exact H)|(have H2_:=(Option.bind_some _ _).symm.trans H;rw [hy380];with_reducible exact H2_)|(have H2_:=(Option.bind_some _ _).symm.trans H;with_reducible exact H2_)|with_reducible exact H|(rw [hy380];exact H)|exact H
          have Ny380:=Aside0.mk hy380
          clear hy380
          by_cases c22 : x7_1.length + y380.length < 140737488355328
          ·rw [if_pos c22] at H
           have LMc22:=Aside0.mk c22
           clear c22
           obtain ⟨y383,hy383⟩ : ∃ y_ : List Int,y_ = (x7_1 ++ y380):=⟨_,rfl⟩
           replace H : (node_Put.l0 k1 y383 l1 (l1.length : Int) (wrap64 (x25_1 + 1)) a2_0 a2_1 a2_2 a2_3) = some r:=by first|(rw [hy383];with_reducible exact H)|(have H2_:=(Option.bind_some _ _).symm.trans H;rw [hy383];with_reducible exact H2_)|(have H2_:=(Option.bind_some _ _).symm.trans H;with_reducible exact H2_)|with_reducible exact H|(rw [hy383];exact H)|exact H
           have Ny383:=Aside0.mk hy383
           clear hy383
           have H':=Aside0.mk H
           clear H
           have p377 : 0 ≤ (x25_1 : Int):=of_decide_eq_true (by first|(with_reducible assumption)|assumption)
           have q377 : x25_1 < (l1.length : Int):=of_decide_eq_true (by first|(with_reducible assumption)|assumption)
           obtain ⟨ad377,e377,hx377_0,hx377_1,hx377_2,hx377_3,hx377_4,hx377_5⟩:=at_T75 HR1.out x25_1 p377 q377
           cases e377
           replace hx377_0:=(HB.out.cell (World.block_lt_of_cell? w _ hx377_0)).trans hx377_0
           replace hx377_1:=(HB.out.cell (World.block_lt_of_cell? w _ hx377_1)).trans hx377_1
           replace hx377_2:=(HB.out.cell (World.block_lt_of_cell? w _ hx377_2)).trans hx377_2
           replace hx377_3:=(HB.out.cell (World.block_lt_of_cell? w _ hx377_3)).trans hx377_3
           replace hx377_4:=(HB.out.cell (World.block_lt_of_cell? w _ hx377_4)).trans hx377_4
           replace hx377_5:=(HB.out.cell (World.block_lt_of_cell? w _ hx377_5)).trans hx377_5
           replace p377:=eq_true p377
           replace q377:=eq_true q377
           go_wp2_with (first|((with_reducible refine gate_dst (N:=9) rfl ?_);refine box_event ?hg (N:=9) ?hd (cs:=#[.int .i64 0,.int .i64 0,.int .i64 0,.int .i64 0,.int .i64 0,.int .i64 0]) (t:=75) ?hr ?_;(case hd=>rfl);(case hg=>rfl);(case hr=>first|(go_simp;done)|(go_simp;rfl));intro gb378 hg w23 hbox hb;have n0_:=Aside0.mk (Kd.R_below (by (with_reducible repeat(first|apply Kd.R_alloc|apply Kd.R_drewN|apply Kd.R_drew));exact HO_7.out) hb);have n1_:=Aside0.mk (blk_below (g:=gb366) (o:=.cells #[.int .i64 a2_0,.int .i64 a2_1,.int .i64 a2_2,.int .i64 a2_3] 72 (0,0)) (by (with_reducible repeat(first|refine blk_drewN ?_ _|refine blk_drew ?_|refine blk_alloc ?_ _));exact BK366.out) hb);have n2_:=Aside0.mk (below_step (by repeat(first|(with_reducible first|exact HB.out|apply below_alloc|apply pw_below_drewN|apply below_drew1|refine below_set ?_ GE366.out)|exact HB.out)) hb);have n3_:=Aside0.mk (hbox);have n4_:=Aside0.mk ((by rw [hg];exact (below_size (by repeat(first|(with_reducible first|exact HB.out|apply below_alloc|apply pw_below_drewN|apply below_drew1|refine below_set ?_ GE366.out)|exact HB.out))) : w.heap.size ≤ gb378));have n5_:=Aside0.mk ((by rw [hg];exact (below_size (by repeat(first|(with_reducible first|exact HB.out|apply below_alloc|apply pw_below_drewN|apply below_drew1|refine below_set ?_ GE366.out)|exact HB.out))) : w.heap.size ≤ gb378));have n6_:=Aside0.mk ((by rw [hg];exact Nat.ne_of_lt (blk_lt (g:=gb366) (o:=.cells #[.int .i64 a2_0,.int .i64 a2_1,.int .i64 a2_2,.int .i64 a2_3] 72 (0,0)) (by (with_reducible repeat(first|refine blk_drewN ?_ _|refine blk_drew ?_|refine blk_alloc ?_ _));exact BK366.out)) : gb366 ≠ gb378));have n7_:=Aside0.mk ((by rw [hg];exact Nat.ne_of_gt (blk_lt (g:=gb366) (o:=.cells #[.int .i64 a2_0,.int .i64 a2_1,.int .i64 a2_2,.int .i64 a2_3] 72 (0,0)) (by (with_reducible repeat(first|refine blk_drewN ?_ _|refine blk_drew ?_|refine blk_alloc ?_ _));exact BK366.out)) : gb378 ≠ gb366));clear HO_7;clear BK366;clear HB;have HO_7:=n0_;have BK366:=n1_;have HB:=n2_;have BK378:=n3_;have GW378:=n4_;have GE378:=n5_;have NB366_378:=n6_;have NB378_366:=n7_;clear n0_ n1_ n2_ n3_ n4_ n5_ n6_ n7_;clear hb hbox hg;have hnb24:=NB378_366.out;have hnc24:=NB366_378.out;have hcz25_0 : w23.cell? ⟨gb378,0,none⟩ = some (.int .i64 0):=(blk_cell BK378.out 0).trans rfl;have hcz25_1 : w23.cell? ⟨gb378,1,none⟩ = some (.int .i64 0):=(blk_cell BK378.out 1).trans rfl;have hcz25_2 : w23.cell? ⟨gb378,2,none⟩ = some (.int .i64 0):=(blk_cell BK378.out 2).trans rfl;have hcz25_3 : w23.cell? ⟨gb378,3,none⟩ = some (.int .i64 0):=(blk_cell BK378.out 3).trans rfl;have hcz25_4 : w23.cell? ⟨gb378,4,none⟩ = some (.int .i64 0):=(blk_cell BK378.out 4).trans rfl;have hcz25_5 : w23.cell? ⟨gb378,5,none⟩ = some (.int .i64 0):=(blk_cell BK378.out 5).trans rfl;have hfz25_0:=blk_frozen BK378.out 0;have hfz25_1:=blk_frozen BK378.out 1;have hfz25_2:=blk_frozen BK378.out 2;have hfz25_3:=blk_frozen BK378.out 3;have hfz25_4:=blk_frozen BK378.out 4;have hfz25_5:=blk_frozen BK378.out 5)|((with_reducible refine gate_callee (f:=70) rfl ?_);refine goesL_ (some 43) rfl rfl Try.func70 (by kernel_rfl) rfl #[.agg #[.int .i64 ((rd_T75 l1 x25_1).f0),.int .i64 ((rd_T75 l1 x25_1).f1),.int .i64 ((rd_T75 l1 x25_1).f2),.int .i64 ((rd_T75 l1 x25_1).f3),.int .i64 ((rd_T75 l1 x25_1).f4),.int .i64 ((rd_T75 l1 x25_1).f5)]] rfl (by (try simp only [List.map_toArray,List.map_cons,List.map_nil]);first|done|rfl|(simp only [List.length_drop,List.length_take];rfl)) ?_;(with_reducible refine (node_leaf.calls ((rd_T75 l1 x25_1).f0) ((rd_T75 l1 x25_1).f1) ((rd_T75 l1 x25_1).f2) ((rd_T75 l1 x25_1).f3) ((rd_T75 l1 x25_1).f4) ((rd_T75 l1 x25_1).f5) true _ A19.out).mono ?_);rintro e w26 ⟨rfl,hb⟩;refine ⟨_,rfl,?_⟩;have n0_:=Aside0.mk (Kd.R_below (by (with_reducible repeat(first|apply Kd.R_alloc|apply Kd.R_drewN|apply Kd.R_drew));exact (Kd.R_mono (Kd.R_far (p:=⟨gb378,5,none⟩) (Kd.R_far (p:=⟨gb378,4,none⟩) (Kd.R_far (p:=⟨gb378,3,none⟩) (Kd.R_far (p:=⟨gb378,2,none⟩) (Kd.R_far (p:=⟨gb378,1,none⟩) (Kd.R_far (p:=⟨gb378,0,none⟩) (Kd.R_types HO_7.out BK378.out (by decide)) (fun _ hk=>hk.2) (.int .i64 ((rd_T75 l1 x25_1).f0))) (fun _ hk=>hk.2) (.int .i64 ((rd_T75 l1 x25_1).f1))) (fun _ hk=>hk.2) (.int .i64 ((rd_T75 l1 x25_1).f2))) (fun _ hk=>hk.2) (.int .i64 ((rd_T75 l1 x25_1).f3))) (fun _ hk=>hk.2) (.int .i64 ((rd_T75 l1 x25_1).f4))) (fun _ hk=>hk.2) (.int .i64 ((rd_T75 l1 x25_1).f5))) (fun _ h_=>h_.1))) hb);have n1_:=Aside0.mk (blk_below (g:=gb366) (o:=.cells #[.int .i64 a2_0,.int .i64 a2_1,.int .i64 a2_2,.int .i64 a2_3] 72 (0,0)) (by (with_reducible repeat(first|refine blk_drewN ?_ _|refine blk_drew ?_|refine blk_alloc ?_ _));refine blk_far ?_ NB366_378.out _;(with_reducible repeat(first|refine blk_drewN ?_ _|refine blk_drew ?_|refine blk_alloc ?_ _));refine blk_far ?_ NB366_378.out _;(with_reducible repeat(first|refine blk_drewN ?_ _|refine blk_drew ?_|refine blk_alloc ?_ _));refine blk_far ?_ NB366_378.out _;(with_reducible repeat(first|refine blk_drewN ?_ _|refine blk_drew ?_|refine blk_alloc ?_ _));refine blk_far ?_ NB366_378.out _;(with_reducible repeat(first|refine blk_drewN ?_ _|refine blk_drew ?_|refine blk_alloc ?_ _));refine blk_far ?_ NB366_378.out _;(with_reducible repeat(first|refine blk_drewN ?_ _|refine blk_drew ?_|refine blk_alloc ?_ _));refine blk_far ?_ NB366_378.out _;(with_reducible repeat(first|refine blk_drewN ?_ _|refine blk_drew ?_|refine blk_alloc ?_ _));exact BK366.out) hb);have n2_:=Aside0.mk (blk_below (g:=gb378) (o:=.cells #[.int .i64 ((rd_T75 l1 x25_1).f0),.int .i64 ((rd_T75 l1 x25_1).f1),.int .i64 ((rd_T75 l1 x25_1).f2),.int .i64 ((rd_T75 l1 x25_1).f3),.int .i64 ((rd_T75 l1 x25_1).f4),.int .i64 ((rd_T75 l1 x25_1).f5)] 75 (0,0)) (by (with_reducible repeat(first|refine blk_drewN ?_ _|refine blk_drew ?_|refine blk_alloc ?_ _));refine blk_put (cs:=#[.int .i64 ((rd_T75 l1 x25_1).f0),.int .i64 ((rd_T75 l1 x25_1).f1),.int .i64 ((rd_T75 l1 x25_1).f2),.int .i64 ((rd_T75 l1 x25_1).f3),.int .i64 ((rd_T75 l1 x25_1).f4),.int .i64 0]) ?_ 5 _ rfl;(with_reducible repeat(first|refine blk_drewN ?_ _|refine blk_drew ?_|refine blk_alloc ?_ _));refine blk_put (cs:=#[.int .i64 ((rd_T75 l1 x25_1).f0),.int .i64 ((rd_T75 l1 x25_1).f1),.int .i64 ((rd_T75 l1 x25_1).f2),.int .i64 ((rd_T75 l1 x25_1).f3),.int .i64 0,.int .i64 0]) ?_ 4 _ rfl;(with_reducible repeat(first|refine blk_drewN ?_ _|refine blk_drew ?_|refine blk_alloc ?_ _));refine blk_put (cs:=#[.int .i64 ((rd_T75 l1 x25_1).f0),.int .i64 ((rd_T75 l1 x25_1).f1),.int .i64 ((rd_T75 l1 x25_1).f2),.int .i64 0,.int .i64 0,.int .i64 0]) ?_ 3 _ rfl;(with_reducible repeat(first|refine blk_drewN ?_ _|refine blk_drew ?_|refine blk_alloc ?_ _));refine blk_put (cs:=#[.int .i64 ((rd_T75 l1 x25_1).f0),.int .i64 ((rd_T75 l1 x25_1).f1),.int .i64 0,.int .i64 0,.int .i64 0,.int .i64 0]) ?_ 2 _ rfl;(with_reducible repeat(first|refine blk_drewN ?_ _|refine blk_drew ?_|refine blk_alloc ?_ _));refine blk_put (cs:=#[.int .i64 ((rd_T75 l1 x25_1).f0),.int .i64 0,.int .i64 0,.int .i64 0,.int .i64 0,.int .i64 0]) ?_ 1 _ rfl;(with_reducible repeat(first|refine blk_drewN ?_ _|refine blk_drew ?_|refine blk_alloc ?_ _));refine blk_put (cs:=#[.int .i64 0,.int .i64 0,.int .i64 0,.int .i64 0,.int .i64 0,.int .i64 0]) ?_ 0 _ rfl;(with_reducible repeat(first|refine blk_drewN ?_ _|refine blk_drew ?_|refine blk_alloc ?_ _));exact BK378.out) hb);have n3_:=Aside0.mk (below_step (by repeat(first|(with_reducible first|exact HB.out|apply below_alloc|apply pw_below_drewN|apply below_drew1|refine below_set ?_ GE366.out|refine below_set ?_ GE378.out)|exact HB.out)) hb);clear HO_7;clear BK366;clear BK378;clear HB;have HO_7:=n0_;have BK366:=n1_;have BK378:=n2_;have HB:=n3_;clear n0_ n1_ n2_ n3_;(try clear hb);(try clear hb2);(try clear hk);(try clear hi);have hcz27_0 : w26.cell? ⟨gb366,0,none⟩ = some (.int .i64 a2_0):=(blk_cell BK366.out 0).trans rfl;have hcz27_1 : w26.cell? ⟨gb366,1,none⟩ = some (.int .i64 a2_1):=(blk_cell BK366.out 1).trans rfl;have hcz27_2 : w26.cell? ⟨gb366,2,none⟩ = some (.int .i64 a2_2):=(blk_cell BK366.out 2).trans rfl;have hcz27_3 : w26.cell? ⟨gb366,3,none⟩ = some (.int .i64 a2_3):=(blk_cell BK366.out 3).trans rfl;have hfz27_0:=blk_frozen BK366.out 0;have hfz27_1:=blk_frozen BK366.out 1;have hfz27_2:=blk_frozen BK366.out 2;have hfz27_3:=blk_frozen BK366.out 3;have hcz28_0 : w26.cell? ⟨gb378,0,none⟩ = some (.int .i64 ((rd_T75 l1 x25_1).f0)):=(blk_cell BK378.out 0).trans rfl;have hcz28_1 : w26.cell? ⟨gb378,1,none⟩ = some (.int .i64 ((rd_T75 l1 x25_1).f1)):=(blk_cell BK378.out 1).trans rfl;have hcz28_2 : w26.cell? ⟨gb378,2,none⟩ = some (.int .i64 ((rd_T75 l1 x25_1).f2)):=(blk_cell BK378.out 2).trans rfl;have hcz28_3 : w26.cell? ⟨gb378,3,none⟩ = some (.int .i64 ((rd_T75 l1 x25_1).f3)):=(blk_cell BK378.out 3).trans rfl;have hcz28_4 : w26.cell? ⟨gb378,4,none⟩ = some (.int .i64 ((rd_T75 l1 x25_1).f4)):=(blk_cell BK378.out 4).trans rfl;have hcz28_5 : w26.cell? ⟨gb378,5,none⟩ = some (.int .i64 ((rd_T75 l1 x25_1).f5)):=(blk_cell BK378.out 5).trans rfl;have hfz28_0:=blk_frozen BK378.out 0;have hfz28_1:=blk_frozen BK378.out 1;have hfz28_2:=blk_frozen BK378.out 2;have hfz28_3:=blk_frozen BK378.out 3;have hfz28_4:=blk_frozen BK378.out 4;have hfz28_5:=blk_frozen BK378.out 5)|((with_reducible refine gate_dst (N:=66) rfl ?_);refine Kd.R_lit (Kd.int .u8) _ 5 ?hg (N:=66) ?hd (xs:=([0,((rd_T75 l1 x25_1).f3) % 256] : List Int)) (inner:=[.int .u8 0,.int .u8 (((rd_T75 l1 x25_1).f3) % 256)]) (ok:=fun _=>True) (okp:=fun _=>True) ?hr ?hp (fun _ hk=>hk) trivial (Below.refl _ _) (Nat.le_refl _) (by simp) ?_;(case hd=>rfl);(case hg=>rfl);(case hr=>first|(go_simp;done)|(go_simp;rfl));(case hp=>exact (Reps.one (show Kd.M (Kd.int .u8) _ _ _ 0 [.int .u8 0] from rfl) (Reps.one (show Kd.M (Kd.int .u8) _ _ _ (((rd_T75 l1 x25_1).f3) % 256) [.int .u8 (((rd_T75 l1 x25_1).f3) % 256)] from rfl) (Reps.none _ _))));intro v381 w29 ho30 hb hg_ hnew_;clear hg_ hnew_;(first|rw [← Ny380.out] at ho30|(simp only [Int.reduceToNat] at ho30;rw [← Ny380.out] at ho30));have n0_:=Aside0.mk (Kd.R_elder' (by (with_reducible repeat(first|apply Kd.R_alloc|apply Kd.R_drewN|apply Kd.R_drew));exact HO_7.out) (Kd.R_base ho30) hb);have n1_:=Aside0.mk (Kd.R_lower (Kd.R_new' ho30 (Kd.R_lt (by (with_reducible repeat(first|apply Kd.R_alloc|apply Kd.R_drewN|apply Kd.R_drew));exact HO_7.out))) (below_size (by repeat(first|(with_reducible first|exact HB.out|apply below_alloc|apply pw_below_drewN|apply below_drew1|refine below_set ?_ GE366.out|refine below_set ?_ GE378.out)|exact HB.out))));have n2_:=Aside0.mk (blk_below (g:=gb366) (o:=.cells #[.int .i64 a2_0,.int .i64 a2_1,.int .i64 a2_2,.int .i64 a2_3] 72 (0,0)) (by (with_reducible repeat(first|refine blk_drewN ?_ _|refine blk_drew ?_|refine blk_alloc ?_ _));exact BK366.out) hb);have n3_:=Aside0.mk (blk_below (g:=gb378) (o:=.cells #[.int .i64 ((rd_T75 l1 x25_1).f0),.int .i64 ((rd_T75 l1 x25_1).f1),.int .i64 ((rd_T75 l1 x25_1).f2),.int .i64 ((rd_T75 l1 x25_1).f3),.int .i64 ((rd_T75 l1 x25_1).f4),.int .i64 ((rd_T75 l1 x25_1).f5)] 75 (0,0)) (by (with_reducible repeat(first|refine blk_drewN ?_ _|refine blk_drew ?_|refine blk_alloc ?_ _));exact BK378.out) hb);have n4_:=Aside0.mk (below_step (by repeat(first|(with_reducible first|exact HB.out|apply below_alloc|apply pw_below_drewN|apply below_drew1|refine below_set ?_ GE366.out|refine below_set ?_ GE378.out)|exact HB.out)) hb);clear HO_7;clear BK366;clear BK378;clear HB;have HO_7:=n0_;have HO382:=n1_;have BK366:=n2_;have BK378:=n3_;have HB:=n4_;clear n0_ n1_ n2_ n3_ n4_;clear hb ho30;obtain ⟨Ao32,co32,eo32⟩:=Kd.R_slice HO382.out;subst eo32)|((with_reducible refine gate_builtin (b:=.append) (xs:=#[.tmp 62,.tmp 66]) rfl ?_);at_builtin;refine Kd.R_append_rows (Kd.int .u8) (w0:=w) w.heap.size rfl (.tmp 62) (.tmp 66) 22 5 (.int .u8 0) 1 rfl Try.underlying22 info5 rfl (by decide) (by omega) u7 x7_1 y380 _ _ _ (fun k_=>some k_ ≠ (.slice Ao32 y380.length co32 : Value).ownBlock) (fun _=>False) rfl rfl ?aO ?aR (fun _ _ h=>h) (fun _ h=>h.elim) ?aF ?aB ?aS ?aL ?_;(case aR=>repeat(first|exact (Kd.R_reads' HO382.out).2.2|(with_reducible refine Kd.C_alloc ?_ _)|(with_reducible refine Kd.C_drewN ?_ _)|(with_reducible refine Kd.C_drew ?_)));(case aB=>exact (by repeat(first|(with_reducible first|exact HB.out|apply below_alloc|apply pw_below_drewN|apply below_drew1|refine below_set ?_ GE366.out|refine below_set ?_ GE378.out)|exact HB.out)));(case aF=>exact (fun k_ hk=>Kd.fresh' (Kd.R_lt (by (with_reducible repeat(first|apply Kd.R_alloc|apply Kd.R_drewN|apply Kd.R_drew));exact HO382.out)) k_ hk));(case aO=>exact (by (with_reducible repeat(first|apply Kd.R_alloc|apply Kd.R_drewN|apply Kd.R_drew));exact Kd.R_mono HO_7.out (fun _ hk=>hk.2)));(case aS=>exact (below_size (by repeat(first|(with_reducible first|exact HB.out|apply below_alloc|apply pw_below_drewN|apply below_drew1|refine below_set ?_ GE366.out|refine below_set ?_ GE378.out)|exact HB.out))));(case aL=>have:=LMc22.out;omega);intro v384 w31 ho hb hg hat;rw [← Ny383.out] at ho;have n0_:=Aside0.mk (blk_grown (g:=gb366) (o:=.cells #[.int .i64 a2_0,.int .i64 a2_1,.int .i64 a2_2,.int .i64 a2_3] 72 (0,0)) (by (with_reducible repeat(first|refine blk_drewN ?_ _|refine blk_drew ?_|refine blk_alloc ?_ _));exact BK366.out) hg (Kd.R_ne HO_7.out BK366.out (by decide)));have n1_:=Aside0.mk (blk_grown (g:=gb378) (o:=.cells #[.int .i64 ((rd_T75 l1 x25_1).f0),.int .i64 ((rd_T75 l1 x25_1).f1),.int .i64 ((rd_T75 l1 x25_1).f2),.int .i64 ((rd_T75 l1 x25_1).f3),.int .i64 ((rd_T75 l1 x25_1).f4),.int .i64 ((rd_T75 l1 x25_1).f5)] 75 (0,0)) (by (with_reducible repeat(first|refine blk_drewN ?_ _|refine blk_drew ?_|refine blk_alloc ?_ _));exact BK378.out) hg (Kd.R_ne HO_7.out BK378.out (by decide)));have n2_:=Aside0.mk (Kd.R_after (ok:=(fun _=>True)) (by (with_reducible repeat(first|apply Kd.R_alloc|apply Kd.R_drewN|apply Kd.R_drew));exact HO382.out) hg hat);have n3_:=Aside0.mk (hb);have n4_:=Aside0.mk (ho);clear BK366;clear BK378;clear HO382;clear HB;clear HO_7;have BK366:=n0_;have BK378:=n1_;have HO382:=n2_;have HB:=n3_;have HO385:=n4_;clear n0_ n1_ n2_ n3_ n4_;clear ho hb hg hat))
           go_roundg k1
           case measure=>have:=HK1.out;omega
           case rel=>exact ⟨(y383),(wrap64 (x25_1 + 1)),(by first|rfl|(simp;done)|(simp [*];done)),H',⟨by have:=HK1.out;omega⟩,⟨by (with_reducible repeat(first|apply Kd.R_alloc|apply Kd.R_drewN|apply Kd.R_drew));exact Kd.R_mono HO385.out (fun _ hk=>trivial)⟩,⟨by (with_reducible repeat(first|refine blk_drewN ?_ _|refine blk_drew ?_|refine blk_alloc ?_ _));exact BK366.out⟩,⟨by repeat(first|(with_reducible first|exact HB.out|apply below_alloc|apply pw_below_drewN|apply below_drew1|refine below_set ?_ GE366.out|refine below_set ?_ GE378.out)|exact HB.out)⟩⟩
          ·rw [if_neg c22] at H
           exact absurd H (by simp)
         ·rw [if_neg c21] at H
          have c21b0 : (a2_2 == 0) = false:=beq_eq_false_iff_ne.mpr c21
          have c21b1 : (a2_2 != 0) = true:=bne_iff_ne.mpr c21
          by_cases c33 : x7_1.length < 140737488355328
          ·rw [if_pos c33] at H
           have LMc33:=Aside0.mk c33
           clear c33
           obtain ⟨y386,hy386⟩ : ∃ y_ : List Int,y_ = (x7_1 ++ [0]):=⟨_,rfl⟩
           replace H : ((take_PutWhole.f k1 ([] : List Int) ((rd_T75 l1 x25_1).f4)).bind fun t389=>((take_Put.f k1 t389 (IntKind.u64.wrap ((rd_T75 l1 x25_1).f5)) 4).bind fun t392=>(if y386.length + t392.length < 140737488355328 then (node_Put.l0 k1 (y386 ++ t392) l1 (l1.length : Int) (wrap64 (x25_1 + 1)) a2_0 a2_1 a2_2 a2_3) else (none)))) = some r:=by first|(rw [hy386];with_reducible exact H)|(have H2_:=(Option.bind_some _ _).symm.trans H;rw [hy386];with_reducible exact H2_)|(have H2_:=(Option.bind_some _ _).symm.trans H;with_reducible exact H2_)|with_reducible exact H|(rw [hy386];exact H)|exact H
           have Ny386:=Aside0.mk hy386
           clear hy386
           replace H:=Option.bind_eq_some_iff.mp H
           obtain ⟨t389,A340,H⟩:=H
           replace H : ((take_Put.f k1 t389 (IntKind.u64.wrap ((rd_T75 l1 x25_1).f5)) 4).bind fun t392=>(if y386.length + t392.length < 140737488355328 then (node_Put.l0 k1 (y386 ++ t392) l1 (l1.length : Int) (wrap64 (x25_1 + 1)) a2_0 a2_1 a2_2 a2_3) else (none))) = some r:=H
           have A34:=Aside0.mk A340
           clear A340
           replace H:=Option.bind_eq_some_iff.mp H
           obtain ⟨t392,A350,H⟩:=H
           replace H : (if y386.length + t392.length < 140737488355328 then (node_Put.l0 k1 (y386 ++ t392) l1 (l1.length : Int) (wrap64 (x25_1 + 1)) a2_0 a2_1 a2_2 a2_3) else (none)) = some r:=H
           have A35:=Aside0.mk A350
           clear A350
           by_cases c36 : y386.length + t392.length < 140737488355328
           ·rw [if_pos c36] at H
            have LMc36:=Aside0.mk c36
            clear c36
            obtain ⟨y395,hy395⟩ : ∃ y_ : List Int,y_ = (y386 ++ t392):=⟨_,rfl⟩
            replace H : (node_Put.l0 k1 y395 l1 (l1.length : Int) (wrap64 (x25_1 + 1)) a2_0 a2_1 a2_2 a2_3) = some r:=by first|(rw [hy395];with_reducible exact H)|(have H2_:=(Option.bind_some _ _).symm.trans H;rw [hy395];with_reducible exact H2_)|(have H2_:=(Option.bind_some _ _).symm.trans H;with_reducible exact H2_)|with_reducible exact H|(rw [hy395];exact H)|exact H
            have Ny395:=Aside0.mk hy395
            clear hy395
            have H':=Aside0.mk H
            clear H
            have p377 : 0 ≤ (x25_1 : Int):=of_decide_eq_true (by first|(with_reducible assumption)|assumption)
            have q377 : x25_1 < (l1.length : Int):=of_decide_eq_true (by first|(with_reducible assumption)|assumption)
            obtain ⟨ad377,e377,hx377_0,hx377_1,hx377_2,hx377_3,hx377_4,hx377_5⟩:=at_T75 HR1.out x25_1 p377 q377
            cases e377
            replace hx377_0:=(HB.out.cell (World.block_lt_of_cell? w _ hx377_0)).trans hx377_0
            replace hx377_1:=(HB.out.cell (World.block_lt_of_cell? w _ hx377_1)).trans hx377_1
            replace hx377_2:=(HB.out.cell (World.block_lt_of_cell? w _ hx377_2)).trans hx377_2
            replace hx377_3:=(HB.out.cell (World.block_lt_of_cell? w _ hx377_3)).trans hx377_3
            replace hx377_4:=(HB.out.cell (World.block_lt_of_cell? w _ hx377_4)).trans hx377_4
            replace hx377_5:=(HB.out.cell (World.block_lt_of_cell? w _ hx377_5)).trans hx377_5
            replace p377:=eq_true p377
            replace q377:=eq_true q377
            try go_wp2_with (first|((with_reducible refine gate_dst (N:=9) rfl ?_);refine box_event ?hg (N:=9) ?hd (cs:=#[.int .i64 0,.int .i64 0,.int .i64 0,.int .i64 0,.int .i64 0,.int .i64 0]) (t:=75) ?hr ?_;(case hd=>rfl);(case hg=>rfl);(case hr=>first|(go_simp;done)|(go_simp;rfl));intro gb378 hg w37 hbox hb;have n0_:=Aside0.mk (Kd.R_below (by (with_reducible repeat(first|apply Kd.R_alloc|apply Kd.R_drewN|apply Kd.R_drew));exact HO_7.out) hb);have n1_:=Aside0.mk (blk_below (g:=gb366) (o:=.cells #[.int .i64 a2_0,.int .i64 a2_1,.int .i64 a2_2,.int .i64 a2_3] 72 (0,0)) (by (with_reducible repeat(first|refine blk_drewN ?_ _|refine blk_drew ?_|refine blk_alloc ?_ _));exact BK366.out) hb);have n2_:=Aside0.mk (below_step (by repeat(first|(with_reducible first|exact HB.out|apply below_alloc|apply pw_below_drewN|apply below_drew1|refine below_set ?_ GE366.out)|exact HB.out)) hb);have n3_:=Aside0.mk (hbox);have n4_:=Aside0.mk ((by rw [hg];exact (below_size (by repeat(first|(with_reducible first|exact HB.out|apply below_alloc|apply pw_below_drewN|apply below_drew1|refine below_set ?_ GE366.out)|exact HB.out))) : w.heap.size ≤ gb378));have n5_:=Aside0.mk ((by rw [hg];exact (below_size (by repeat(first|(with_reducible first|exact HB.out|apply below_alloc|apply pw_below_drewN|apply below_drew1|refine below_set ?_ GE366.out)|exact HB.out))) : w.heap.size ≤ gb378));have n6_:=Aside0.mk ((by rw [hg];exact Nat.ne_of_lt (blk_lt (g:=gb366) (o:=.cells #[.int .i64 a2_0,.int .i64 a2_1,.int .i64 a2_2,.int .i64 a2_3] 72 (0,0)) (by (with_reducible repeat(first|refine blk_drewN ?_ _|refine blk_drew ?_|refine blk_alloc ?_ _));exact BK366.out)) : gb366 ≠ gb378));have n7_:=Aside0.mk ((by rw [hg];exact Nat.ne_of_gt (blk_lt (g:=gb366) (o:=.cells #[.int .i64 a2_0,.int .i64 a2_1,.int .i64 a2_2,.int .i64 a2_3] 72 (0,0)) (by (with_reducible repeat(first|refine blk_drewN ?_ _|refine blk_drew ?_|refine blk_alloc ?_ _));exact BK366.out)) : gb378 ≠ gb366));clear HO_7;clear BK366;clear HB;have HO_7:=n0_;have BK366:=n1_;have HB:=n2_;have BK378:=n3_;have GW378:=n4_;have GE378:=n5_;have NB366_378:=n6_;have NB378_366:=n7_;clear n0_ n1_ n2_ n3_ n4_ n5_ n6_ n7_;clear hb hbox hg;have hnb38:=NB378_366.out;have hnc38:=NB366_378.out;have hcz39_0 : w37.cell? ⟨gb378,0,none⟩ = some (.int .i64 0):=(blk_cell BK378.out 0).trans rfl;have hcz39_1 : w37.cell? ⟨gb378,1,none⟩ = some (.int .i64 0):=(blk_cell BK378.out 1).trans rfl;have hcz39_2 : w37.cell? ⟨gb378,2,none⟩ = some (.int .i64 0):=(blk_cell BK378.out 2).trans rfl;have hcz39_3 : w37.cell? ⟨gb378,3,none⟩ = some (.int .i64 0):=(blk_cell BK378.out 3).trans rfl;have hcz39_4 : w37.cell? ⟨gb378,4,none⟩ = some (.int .i64 0):=(blk_cell BK378.out 4).trans rfl;have hcz39_5 : w37.cell? ⟨gb378,5,none⟩ = some (.int .i64 0):=(blk_cell BK378.out 5).trans rfl;have hfz39_0:=blk_frozen BK378.out 0;have hfz39_1:=blk_frozen BK378.out 1;have hfz39_2:=blk_frozen BK378.out 2;have hfz39_3:=blk_frozen BK378.out 3;have hfz39_4:=blk_frozen BK378.out 4;have hfz39_5:=blk_frozen BK378.out 5)|((with_reducible refine gate_callee (f:=70) rfl ?_);refine goesL_ (some 43) rfl rfl Try.func70 (by kernel_rfl) rfl #[.agg #[.int .i64 ((rd_T75 l1 x25_1).f0),.int .i64 ((rd_T75 l1 x25_1).f1),.int .i64 ((rd_T75 l1 x25_1).f2),.int .i64 ((rd_T75 l1 x25_1).f3),.int .i64 ((rd_T75 l1 x25_1).f4),.int .i64 ((rd_T75 l1 x25_1).f5)]] rfl (by (try simp only [List.map_toArray,List.map_cons,List.map_nil]);first|done|rfl|(simp only [List.length_drop,List.length_take];rfl)) ?_;(with_reducible refine (node_leaf.calls ((rd_T75 l1 x25_1).f0) ((rd_T75 l1 x25_1).f1) ((rd_T75 l1 x25_1).f2) ((rd_T75 l1 x25_1).f3) ((rd_T75 l1 x25_1).f4) ((rd_T75 l1 x25_1).f5) true _ A19.out).mono ?_);rintro e w40 ⟨rfl,hb⟩;refine ⟨_,rfl,?_⟩;have n0_:=Aside0.mk (Kd.R_below (by (with_reducible repeat(first|apply Kd.R_alloc|apply Kd.R_drewN|apply Kd.R_drew));exact (Kd.R_mono (Kd.R_far (p:=⟨gb378,5,none⟩) (Kd.R_far (p:=⟨gb378,4,none⟩) (Kd.R_far (p:=⟨gb378,3,none⟩) (Kd.R_far (p:=⟨gb378,2,none⟩) (Kd.R_far (p:=⟨gb378,1,none⟩) (Kd.R_far (p:=⟨gb378,0,none⟩) (Kd.R_types HO_7.out BK378.out (by decide)) (fun _ hk=>hk.2) (.int .i64 ((rd_T75 l1 x25_1).f0))) (fun _ hk=>hk.2) (.int .i64 ((rd_T75 l1 x25_1).f1))) (fun _ hk=>hk.2) (.int .i64 ((rd_T75 l1 x25_1).f2))) (fun _ hk=>hk.2) (.int .i64 ((rd_T75 l1 x25_1).f3))) (fun _ hk=>hk.2) (.int .i64 ((rd_T75 l1 x25_1).f4))) (fun _ hk=>hk.2) (.int .i64 ((rd_T75 l1 x25_1).f5))) (fun _ h_=>h_.1))) hb);have n1_:=Aside0.mk (blk_below (g:=gb366) (o:=.cells #[.int .i64 a2_0,.int .i64 a2_1,.int .i64 a2_2,.int .i64 a2_3] 72 (0,0)) (by (with_reducible repeat(first|refine blk_drewN ?_ _|refine blk_drew ?_|refine blk_alloc ?_ _));refine blk_far ?_ NB366_378.out _;(with_reducible repeat(first|refine blk_drewN ?_ _|refine blk_drew ?_|refine blk_alloc ?_ _));refine blk_far ?_ NB366_378.out _;(with_reducible repeat(first|refine blk_drewN ?_ _|refine blk_drew ?_|refine blk_alloc ?_ _));refine blk_far ?_ NB366_378.out _;(with_reducible repeat(first|refine blk_drewN ?_ _|refine blk_drew ?_|refine blk_alloc ?_ _));refine blk_far ?_ NB366_378.out _;(with_reducible repeat(first|refine blk_drewN ?_ _|refine blk_drew ?_|refine blk_alloc ?_ _));refine blk_far ?_ NB366_378.out _;(with_reducible repeat(first|refine blk_drewN ?_ _|refine blk_drew ?_|refine blk_alloc ?_ _));refine blk_far ?_ NB366_378.out _;(with_reducible repeat(first|refine blk_drewN ?_ _|refine blk_drew ?_|refine blk_alloc ?_ _));exact BK366.out) hb);have n2_:=Aside0.mk (blk_below (g:=gb378) (o:=.cells #[.int .i64 ((rd_T75 l1 x25_1).f0),.int .i64 ((rd_T75 l1 x25_1).f1),.int .i64 ((rd_T75 l1 x25_1).f2),.int .i64 ((rd_T75 l1 x25_1).f3),.int .i64 ((rd_T75 l1 x25_1).f4),.int .i64 ((rd_T75 l1 x25_1).f5)] 75 (0,0)) (by (with_reducible repeat(first|refine blk_drewN ?_ _|refine blk_drew ?_|refine blk_alloc ?_ _));refine blk_put (cs:=#[.int .i64 ((rd_T75 l1 x25_1).f0),.int .i64 ((rd_T75 l1 x25_1).f1),.int .i64 ((rd_T75 l1 x25_1).f2),.int .i64 ((rd_T75 l1 x25_1).f3),.int .i64 ((rd_T75 l1 x25_1).f4),.int .i64 0]) ?_ 5 _ rfl;(with_reducible repeat(first|refine blk_drewN ?_ _|refine blk_drew ?_|refine blk_alloc ?_ _));refine blk_put (cs:=#[.int .i64 ((rd_T75 l1 x25_1).f0),.int .i64 ((rd_T75 l1 x25_1).f1),.int .i64 ((rd_T75 l1 x25_1).f2),.int .i64 ((rd_T75 l1 x25_1).f3),.int .i64 0,.int .i64 0]) ?_ 4 _ rfl;(with_reducible repeat(first|refine blk_drewN ?_ _|refine blk_drew ?_|refine blk_alloc ?_ _));refine blk_put (cs:=#[.int .i64 ((rd_T75 l1 x25_1).f0),.int .i64 ((rd_T75 l1 x25_1).f1),.int .i64 ((rd_T75 l1 x25_1).f2),.int .i64 0,.int .i64 0,.int .i64 0]) ?_ 3 _ rfl;(with_reducible repeat(first|refine blk_drewN ?_ _|refine blk_drew ?_|refine blk_alloc ?_ _));refine blk_put (cs:=#[.int .i64 ((rd_T75 l1 x25_1).f0),.int .i64 ((rd_T75 l1 x25_1).f1),.int .i64 0,.int .i64 0,.int .i64 0,.int .i64 0]) ?_ 2 _ rfl;(with_reducible repeat(first|refine blk_drewN ?_ _|refine blk_drew ?_|refine blk_alloc ?_ _));refine blk_put (cs:=#[.int .i64 ((rd_T75 l1 x25_1).f0),.int .i64 0,.int .i64 0,.int .i64 0,.int .i64 0,.int .i64 0]) ?_ 1 _ rfl;(with_reducible repeat(first|refine blk_drewN ?_ _|refine blk_drew ?_|refine blk_alloc ?_ _));refine blk_put (cs:=#[.int .i64 0,.int .i64 0,.int .i64 0,.int .i64 0,.int .i64 0,.int .i64 0]) ?_ 0 _ rfl;(with_reducible repeat(first|refine blk_drewN ?_ _|refine blk_drew ?_|refine blk_alloc ?_ _));exact BK378.out) hb);have n3_:=Aside0.mk (below_step (by repeat(first|(with_reducible first|exact HB.out|apply below_alloc|apply pw_below_drewN|apply below_drew1|refine below_set ?_ GE366.out|refine below_set ?_ GE378.out)|exact HB.out)) hb);clear HO_7;clear BK366;clear BK378;clear HB;have HO_7:=n0_;have BK366:=n1_;have BK378:=n2_;have HB:=n3_;clear n0_ n1_ n2_ n3_;(try clear hb);(try clear hb2);(try clear hk);(try clear hi);have hcz41_0 : w40.cell? ⟨gb366,0,none⟩ = some (.int .i64 a2_0):=(blk_cell BK366.out 0).trans rfl;have hcz41_1 : w40.cell? ⟨gb366,1,none⟩ = some (.int .i64 a2_1):=(blk_cell BK366.out 1).trans rfl;have hcz41_2 : w40.cell? ⟨gb366,2,none⟩ = some (.int .i64 a2_2):=(blk_cell BK366.out 2).trans rfl;have hcz41_3 : w40.cell? ⟨gb366,3,none⟩ = some (.int .i64 a2_3):=(blk_cell BK366.out 3).trans rfl;have hfz41_0:=blk_frozen BK366.out 0;have hfz41_1:=blk_frozen BK366.out 1;have hfz41_2:=blk_frozen BK366.out 2;have hfz41_3:=blk_frozen BK366.out 3)|((with_reducible refine gate_builtin (b:=.append) (xs:=#[.tmp 29,.tmp 30]) rfl ?_);at_builtin;refine Kd.R_append (Kd.int .u8) (w0:=w) w.heap.size rfl (.tmp 29) (.tmp 30) 22 5 (.int .u8 0) 1 rfl Try.underlying22 info5 rfl (by decide) (by omega) u7 x7_1 0 [.int .u8 0] (fun _=>True) (fun _=>False) rfl rfl ?aP (fun _ hk=>hk.elim) ?aF ?aO ?aB ?aS ?aL ?_;(case aP=>exact rfl);(case aB=>exact (by repeat(first|(with_reducible first|exact HB.out|apply below_alloc|apply pw_below_drewN|apply below_drew1|refine below_set ?_ GE366.out|refine below_set ?_ GE378.out)|exact HB.out)));(case aF=>exact (fun _ _=>trivial));(case aO=>exact (by (with_reducible repeat(first|apply Kd.R_alloc|apply Kd.R_drewN|apply Kd.R_drew));exact HO_7.out));(case aS=>exact (below_size (by repeat(first|(with_reducible first|exact HB.out|apply below_alloc|apply pw_below_drewN|apply below_drew1|refine below_set ?_ GE366.out|refine below_set ?_ GE378.out)|exact HB.out))));(case aL=>have:=LMc33.out;omega);intro v387 w42 ho hb hg hat;rw [← Ny386.out] at ho;have n0_:=Aside0.mk (blk_grown (g:=gb366) (o:=.cells #[.int .i64 a2_0,.int .i64 a2_1,.int .i64 a2_2,.int .i64 a2_3] 72 (0,0)) (by (with_reducible repeat(first|refine blk_drewN ?_ _|refine blk_drew ?_|refine blk_alloc ?_ _));exact BK366.out) hg (Kd.R_ne HO_7.out BK366.out (by decide)));have n1_:=Aside0.mk (blk_grown (g:=gb378) (o:=.cells #[.int .i64 ((rd_T75 l1 x25_1).f0),.int .i64 ((rd_T75 l1 x25_1).f1),.int .i64 ((rd_T75 l1 x25_1).f2),.int .i64 ((rd_T75 l1 x25_1).f3),.int .i64 ((rd_T75 l1 x25_1).f4),.int .i64 ((rd_T75 l1 x25_1).f5)] 75 (0,0)) (by (with_reducible repeat(first|refine blk_drewN ?_ _|refine blk_drew ?_|refine blk_alloc ?_ _));exact BK378.out) hg (Kd.R_ne HO_7.out BK378.out (by decide)));have n2_:=Aside0.mk (hb);have n3_:=Aside0.mk (ho);clear BK366;clear BK378;clear HB;clear HO_7;have BK366:=n0_;have BK378:=n1_;have HB:=n2_;have HO388:=n3_;clear n0_ n1_ n2_ n3_;clear ho hb hg hat))
            have n0_:=Aside0.mk (Kd.R_drew HO388.out)
            have n1_:=Aside0.mk (blk_drew BK366.out)
            have n2_:=Aside0.mk (blk_drew BK378.out)
            have n3_:=Aside0.mk (below_drew1 HB.out)
            clear HO388
            clear BK366
            clear BK378
            clear HB
            have HO388:=n0_
            have BK366:=n1_
            have BK378:=n2_
            have HB:=n3_
            clear n0_ n1_ n2_ n3_
            refine start_ (n:=10) (S:=fun w'=>w'.cell? ⟨gb378,0,none⟩ = some (.int .i64 ((rd_T75 l1 x25_1).f0)) ∧ w'.cell? ⟨gb378,1,none⟩ = some (.int .i64 ((rd_T75 l1 x25_1).f1)) ∧ w'.cell? ⟨gb378,2,none⟩ = some (.int .i64 ((rd_T75 l1 x25_1).f2)) ∧ w'.cell? ⟨gb378,3,none⟩ = some (.int .i64 ((rd_T75 l1 x25_1).f3)) ∧ w'.cell? ⟨gb378,4,none⟩ = some (.int .i64 ((rd_T75 l1 x25_1).f4)) ∧ w'.cell? ⟨gb378,5,none⟩ = some (.int .i64 ((rd_T75 l1 x25_1).f5))) (ds:=[]) #[false,false,false,false,false,false,false,false,false,false] (by kernel_rfl) rfl rfl ⟨(blk_cell BK378.out 0).trans rfl,(blk_cell BK378.out 1).trans rfl,(blk_cell BK378.out 2).trans rfl,(blk_cell BK378.out 3).trans rfl,(blk_cell BK378.out 4).trans rfl,(blk_cell BK378.out 5).trans rfl⟩ (fun hHeld=>?_);refine with_tabW node_Put.tab9 node_Put.bits9 (fun HT_ HW_=>?_)
            generalize w42.drew = w43 at HO388 BK366 BK378 HB hHeld ⊢
            refine pure_ (i:=0) (N:=some 32) (v:=?_) (a':=?_) #[true,false,false,false,false,false,false,false,false,false] rfl rfl (any_of HT_.out (by kernel_rfl)) (fun _ _ _ h=>h) (Or.inl ⟨by rfl,?_⟩) ?_ ?_
            rotate_left
            ·intro w'
             go_simp
             with_reducible rfl
            rotate_left
            ·simp only [Act.put,List.setIfInBounds_toArray,List.set_cons_zero,List.set_cons_succ,i64_w,i32_w]
             rfl
            refine pure_ (i:=1) (N:=some 33) (v:=?_) (a':=?_) #[true,true,false,false,false,false,false,false,false,false] rfl rfl (any_of HT_.out (by kernel_rfl)) (fun _ _ _ h=>h) (Or.inl ⟨by rfl,?_⟩) ?_ ?_
            rotate_left
            ·intro w'
             go_simp
             with_reducible rfl
            rotate_left
            ·simp only [Act.put,List.setIfInBounds_toArray,List.set_cons_zero,List.set_cons_succ,i64_w,i32_w]
             rfl
            refine pure_ (i:=4) (N:=some 36) (v:=?_) (a':=?_) #[true,true,false,false,true,false,false,false,false,false] rfl rfl (any_of HT_.out (by kernel_rfl)) (fun _ _ _ h=>h) (Or.inl ⟨by rfl,?_⟩) ?_ ?_
            rotate_left
            ·intro w'
             go_simp
             with_reducible rfl
            rotate_left
            ·simp only [Act.put,List.setIfInBounds_toArray,List.set_cons_zero,List.set_cons_succ,i64_w,i32_w]
             rfl
            refine take_ (i:=2) (N:=some 34) (v:=?_) (a':=?_) #[true,true,true,false,true,false,false,false,false,false] rfl rfl (take_ofW HT_.out HW_.out (by kernel_rfl)) (fun _ _ _ h=>h) (Or.inl ⟨by rfl,?_⟩) hHeld ?_ ?_
            rotate_left
            ·rintro w' ⟨s0,s1,s2,s3,s4,s5⟩
             go_simp
             with_reducible rfl
            rotate_left
            ·simp only [Act.put,List.setIfInBounds_toArray,List.set_cons_zero,List.set_cons_succ,i64_w,i32_w]
             rfl
            refine take_ (i:=5) (N:=some 37) (v:=?_) (a':=?_) #[true,true,true,false,true,true,false,false,false,false] rfl rfl (take_ofW HT_.out HW_.out (by kernel_rfl)) (fun _ _ _ h=>h) (Or.inl ⟨by rfl,?_⟩) hHeld ?_ ?_
            rotate_left
            ·rintro w' ⟨s0,s1,s2,s3,s4,s5⟩
             go_simp
             with_reducible rfl
            rotate_left
            ·simp only [Act.put,List.setIfInBounds_toArray,List.set_cons_zero,List.set_cons_succ,i64_w,i32_w]
             rfl
            refine pure_ (i:=6) (N:=some 38) (v:=?_) (a':=?_) #[true,true,true,false,true,true,true,false,false,false] rfl rfl (any_of HT_.out (by kernel_rfl)) (fun _ _ _ h=>h) (Or.inl ⟨by rfl,?_⟩) ?_ ?_
            rotate_left
            ·intro w'
             go_simp
             with_reducible rfl
            rotate_left
            ·simp only [Act.put,List.setIfInBounds_toArray,List.set_cons_zero,List.set_cons_succ,i64_w,i32_w]
             rfl
            refine one_ (i:=3) (N:=some 35) #[true,true,true,true,true,true,true,false,false,false] rfl rfl (one_of HT_.out (by kernel_rfl)) (by decide) (fun K hK=>?_)
            refine goes_ Try.func25 (by kernel_rfl) rfl #[.slice none 0 0,.int .i64 ((rd_T75 l1 x25_1).f4)] (by rfl) rfl rfl (by (try simp only [List.map_toArray,List.map_cons,List.map_nil]);first|done|rfl|(simp only [List.length_drop,List.length_take];rfl)) ?_
            refine (take_PutWhole.calls k1 _ _ ([] : List Int) ((rd_T75 l1 x25_1).f4) t389 _ ?side1 ?side2 A34.out).mono ?_
            (case side1=>exact Kd.C_nil _ _)
            (case side2=>exact Nat.le_refl _)
            rintro e w44 ⟨v390,rfl,ho0,hb⟩
            refine ⟨_,rfl,?_⟩
            have n0_:=Aside0.mk (Kd.R_elder' (by (with_reducible repeat(first|apply Kd.R_alloc|apply Kd.R_drewN|apply Kd.R_drew));exact HO388.out) (Kd.R_base ho0) hb)
            have n1_:=Aside0.mk (Kd.R_lower (Kd.R_new' ho0 (Kd.R_lt (by (with_reducible repeat(first|apply Kd.R_alloc|apply Kd.R_drewN|apply Kd.R_drew));exact HO388.out))) (below_size (by repeat(first|(with_reducible first|exact HB.out|apply below_alloc|apply pw_below_drewN|apply below_drew1|refine below_set ?_ GE366.out|refine below_set ?_ GE378.out)|exact HB.out))))
            have n2_:=Aside0.mk (blk_below (g:=gb366) (o:=.cells #[.int .i64 a2_0,.int .i64 a2_1,.int .i64 a2_2,.int .i64 a2_3] 72 (0,0)) (by (with_reducible repeat(first|refine blk_drewN ?_ _|refine blk_drew ?_|refine blk_alloc ?_ _));exact BK366.out) hb)
            have n3_:=Aside0.mk (blk_below (g:=gb378) (o:=.cells #[.int .i64 ((rd_T75 l1 x25_1).f0),.int .i64 ((rd_T75 l1 x25_1).f1),.int .i64 ((rd_T75 l1 x25_1).f2),.int .i64 ((rd_T75 l1 x25_1).f3),.int .i64 ((rd_T75 l1 x25_1).f4),.int .i64 ((rd_T75 l1 x25_1).f5)] 75 (0,0)) (by (with_reducible repeat(first|refine blk_drewN ?_ _|refine blk_drew ?_|refine blk_alloc ?_ _));exact BK378.out) hb)
            have n4_:=Aside0.mk (below_step (by repeat(first|(with_reducible first|exact HB.out|apply below_alloc|apply pw_below_drewN|apply below_drew1|refine below_set ?_ GE366.out|refine below_set ?_ GE378.out)|exact HB.out)) hb)
            clear HO388
            clear BK366
            clear BK378
            clear HB
            have HO388:=n0_
            have HO391:=n1_
            have BK366:=n2_
            have BK378:=n3_
            have HB:=n4_
            clear n0_ n1_ n2_ n3_ n4_
            (try clear hb)
            (try clear hb2)
            (try clear hk)
            (try clear hi)
            (try clear ho0)
            obtain ⟨Ao45,co45,eo45⟩:=Kd.R_slice HO391.out
            (first|subst eo45|(injection eo45 with f1_ f2_ f3_;have f4_:=f1_.symm;have f5_:=f3_.symm;clear f1_ f2_ f3_;subst f4_;subst f5_))
            refine hK.out _ _ ⟨(blk_cell BK378.out 0).trans rfl,(blk_cell BK378.out 1).trans rfl,(blk_cell BK378.out 2).trans rfl,(blk_cell BK378.out 3).trans rfl,(blk_cell BK378.out 4).trans rfl,(blk_cell BK378.out 5).trans rfl⟩ (fun hHeld=>?_)
            clear hK K
            refine norm_ (a':=?_) ?_ ?_
            rotate_left
            ·show Act.put _ (some 35) _ = _
             simp only [Act.put,List.setIfInBounds_toArray,List.set_cons_zero,List.set_cons_succ,i64_w,i32_w]
             rfl
            refine one_ (i:=7) (N:=some 39) #[true,true,true,true,true,true,true,true,false,false] rfl rfl (one_of HT_.out (by kernel_rfl)) (by decide) (fun K hK=>?_)
            refine goes_ Try.func24 (by kernel_rfl) rfl #[.slice Ao45 t389.length co45,.int .u64 (IntKind.u64.wrap ((rd_T75 l1 x25_1).f5)),.int .i64 4] (by rfl) rfl rfl (by (try simp only [List.map_toArray,List.map_cons,List.map_nil]);first|done|rfl|(simp only [List.length_drop,List.length_take];rfl)) ?_
            with_reducible refine (take_Put.calls k1 _ _ t389 (IntKind.u64.wrap ((rd_T75 l1 x25_1).f5)) 4 t392 _ ?side1 ?side2 A35.out).mono ?_
            (case side1=>repeat(first|exact (Kd.R_reads' HO391.out).2.2|(with_reducible refine Kd.C_alloc ?_ _)|(with_reducible refine Kd.C_drewN ?_ _)|(with_reducible refine Kd.C_drew ?_)))
            (case side2=>exact (Kd.R_reads' HO391.out).2.1)
            rintro e w46 ⟨v393,rfl,ho0,hb⟩
            refine ⟨_,rfl,?_⟩
            have n0_:=Aside0.mk (Kd.R_elder' (by (with_reducible repeat(first|apply Kd.R_alloc|apply Kd.R_drewN|apply Kd.R_drew));exact HO388.out) (Kd.R_base ho0) hb)
            have n1_:=Aside0.mk (Kd.R_elder' (by (with_reducible repeat(first|apply Kd.R_alloc|apply Kd.R_drewN|apply Kd.R_drew));exact HO391.out) (Kd.R_base ho0) hb)
            have n2_:=Aside0.mk (Kd.R_lower (Kd.R_new' (Kd.R_new' ho0 (Kd.R_lt (by (with_reducible repeat(first|apply Kd.R_alloc|apply Kd.R_drewN|apply Kd.R_drew));exact HO388.out))) (Kd.R_lt (by (with_reducible repeat(first|apply Kd.R_alloc|apply Kd.R_drewN|apply Kd.R_drew));exact HO391.out))) (below_size (by repeat(first|(with_reducible first|exact HB.out|apply below_alloc|apply pw_below_drewN|apply below_drew1|refine below_set ?_ GE366.out|refine below_set ?_ GE378.out)|exact HB.out))))
            have n3_:=Aside0.mk (blk_below (g:=gb366) (o:=.cells #[.int .i64 a2_0,.int .i64 a2_1,.int .i64 a2_2,.int .i64 a2_3] 72 (0,0)) (by (with_reducible repeat(first|refine blk_drewN ?_ _|refine blk_drew ?_|refine blk_alloc ?_ _));exact BK366.out) hb)
            have n4_:=Aside0.mk (blk_below (g:=gb378) (o:=.cells #[.int .i64 ((rd_T75 l1 x25_1).f0),.int .i64 ((rd_T75 l1 x25_1).f1),.int .i64 ((rd_T75 l1 x25_1).f2),.int .i64 ((rd_T75 l1 x25_1).f3),.int .i64 ((rd_T75 l1 x25_1).f4),.int .i64 ((rd_T75 l1 x25_1).f5)] 75 (0,0)) (by (with_reducible repeat(first|refine blk_drewN ?_ _|refine blk_drew ?_|refine blk_alloc ?_ _));exact BK378.out) hb)
            have n5_:=Aside0.mk (below_step (by repeat(first|(with_reducible first|exact HB.out|apply below_alloc|apply pw_below_drewN|apply below_drew1|refine below_set ?_ GE366.out|refine below_set ?_ GE378.out)|exact HB.out)) hb)
            clear HO388
            clear HO391
            clear BK366
            clear BK378
            clear HB
            have HO388:=n0_
            have HO391:=n1_
            have HO394:=n2_
            have BK366:=n3_
            have BK378:=n4_
            have HB:=n5_
            clear n0_ n1_ n2_ n3_ n4_ n5_
            (try clear hb)
            (try clear hb2)
            (try clear hk)
            (try clear hi)
            (try clear ho0)
            obtain ⟨Ao48,co48,eo48⟩:=Kd.R_slice HO394.out
            (first|subst eo48|(injection eo48 with f1_ f2_ f3_;have f4_:=f1_.symm;have f5_:=f3_.symm;clear f1_ f2_ f3_;subst f4_;subst f5_))
            refine hK.out _ _ ⟨(blk_cell BK378.out 0).trans rfl,(blk_cell BK378.out 1).trans rfl,(blk_cell BK378.out 2).trans rfl,(blk_cell BK378.out 3).trans rfl,(blk_cell BK378.out 4).trans rfl,(blk_cell BK378.out 5).trans rfl⟩ (fun hHeld=>?_)
            clear hK K
            refine norm_ (a':=?_) ?_ ?_
            rotate_left
            ·show Act.put _ (some 39) _ = _
             simp only [Act.put,List.setIfInBounds_toArray,List.set_cons_zero,List.set_cons_succ,i64_w,i32_w]
             rfl
            refine one_ (i:=8) (N:=some 40) #[true,true,true,true,true,true,true,true,true,false] rfl rfl (one_of HT_.out (by kernel_rfl)) (by decide) (fun K hK=>?_)
            refine Kd.R_append_rows_step (Kd.int .u8) (w0:=w) w.heap.size (by rfl) (.tmp 32) (.tmp 39) 22 5 (.int .u8 0) 1 rfl Try.underlying22 info5 rfl (by decide) (by omega) v387 y386 t392 _ _ _ (fun k_=>some k_ ≠ (.slice Ao45 t389.length co45 : Value).ownBlock ∧ some k_ ≠ (.slice Ao48 t392.length co48 : Value).ownBlock) (fun _=>False) rfl rfl ?aO ?aR (fun _ _ h=>h) (fun _ h=>h.elim) ?aF ?aB ?aS ?aL ?_
            (case aR=>repeat(first|exact (Kd.R_reads' HO394.out).2.2|(with_reducible refine Kd.C_alloc ?_ _)|(with_reducible refine Kd.C_drewN ?_ _)|(with_reducible refine Kd.C_drew ?_)))
            (case aB=>exact (by repeat(first|(with_reducible first|exact HB.out|apply below_alloc|apply pw_below_drewN|apply below_drew1|refine below_set ?_ GE366.out|refine below_set ?_ GE378.out)|exact HB.out)))
            (case aF=>exact (fun k_ hk=>⟨Kd.fresh' (Kd.R_lt (by (with_reducible repeat(first|apply Kd.R_alloc|apply Kd.R_drewN|apply Kd.R_drew));exact HO391.out)) k_ hk,Kd.fresh' (Kd.R_lt (by (with_reducible repeat(first|apply Kd.R_alloc|apply Kd.R_drewN|apply Kd.R_drew));exact HO394.out)) k_ hk⟩))
            (case aO=>exact (by (with_reducible repeat(first|apply Kd.R_alloc|apply Kd.R_drewN|apply Kd.R_drew));exact Kd.R_mono HO388.out (fun _ hk=>⟨hk.1.2,hk.2⟩)))
            (case aS=>exact (below_size (by repeat(first|(with_reducible first|exact HB.out|apply below_alloc|apply pw_below_drewN|apply below_drew1|refine below_set ?_ GE366.out|refine below_set ?_ GE378.out)|exact HB.out))))
            (case aL=>have:=LMc36.out;omega)
            intro v396 w47 ho hb hg hat
            rw [← Ny395.out] at ho
            have n0_:=Aside0.mk (blk_grown (g:=gb366) (o:=.cells #[.int .i64 a2_0,.int .i64 a2_1,.int .i64 a2_2,.int .i64 a2_3] 72 (0,0)) (by (with_reducible repeat(first|refine blk_drewN ?_ _|refine blk_drew ?_|refine blk_alloc ?_ _));exact BK366.out) hg (Kd.R_ne HO388.out BK366.out (by decide)))
            have n1_:=Aside0.mk (blk_grown (g:=gb378) (o:=.cells #[.int .i64 ((rd_T75 l1 x25_1).f0),.int .i64 ((rd_T75 l1 x25_1).f1),.int .i64 ((rd_T75 l1 x25_1).f2),.int .i64 ((rd_T75 l1 x25_1).f3),.int .i64 ((rd_T75 l1 x25_1).f4),.int .i64 ((rd_T75 l1 x25_1).f5)] 75 (0,0)) (by (with_reducible repeat(first|refine blk_drewN ?_ _|refine blk_drew ?_|refine blk_alloc ?_ _));exact BK378.out) hg (Kd.R_ne HO388.out BK378.out (by decide)))
            have n2_:=Aside0.mk (Kd.R_after (ok:=(fun k_=>some k_ ≠ (.slice Ao48 t392.length co48 : Value).ownBlock)) (by (with_reducible repeat(first|apply Kd.R_alloc|apply Kd.R_drewN|apply Kd.R_drew));exact Kd.R_mono HO391.out (fun _ hk=>⟨hk.2,hk.1.2⟩)) hg hat)
            have n3_:=Aside0.mk (Kd.R_after (ok:=(fun k_=>some k_ ≠ (.slice Ao45 t389.length co45 : Value).ownBlock)) (by (with_reducible repeat(first|apply Kd.R_alloc|apply Kd.R_drewN|apply Kd.R_drew));exact Kd.R_mono HO394.out (fun _ hk=>⟨hk.2,hk.1.2⟩)) hg hat)
            have n4_:=Aside0.mk (hb)
            have n5_:=Aside0.mk (ho)
            clear BK366
            clear BK378
            clear HO391
            clear HO394
            clear HB
            clear HO388
            have BK366:=n0_
            have BK378:=n1_
            have HO391:=n2_
            have HO394:=n3_
            have HB:=n4_
            have HO397:=n5_
            clear n0_ n1_ n2_ n3_ n4_ n5_
            clear ho hb hg hat
            refine hK.out _ _ ⟨(blk_cell BK378.out 0).trans rfl,(blk_cell BK378.out 1).trans rfl,(blk_cell BK378.out 2).trans rfl,(blk_cell BK378.out 3).trans rfl,(blk_cell BK378.out 4).trans rfl,(blk_cell BK378.out 5).trans rfl⟩ (fun hHeld=>?_)
            clear hK K
            refine norm_ (a':=?_) ?_ ?_
            rotate_left
            ·show Act.put _ (some 40) _ = _
             simp only [Act.put,List.setIfInBounds_toArray,List.set_cons_zero,List.set_cons_succ,i64_w,i32_w]
             rfl
            refine pure_ (i:=9) (N:=some 7) (v:=?_) (a':=?_) #[true,true,true,true,true,true,true,true,true,true] rfl rfl (any_of HT_.out (by kernel_rfl)) (fun _ _ _ h=>h) (Or.inl ⟨by rfl,?_⟩) ?_ ?_
            rotate_left
            ·intro w'
             go_simp
             with_reducible rfl
            rotate_left
            ·simp only [Act.put,List.setIfInBounds_toArray,List.set_cons_zero,List.set_cons_succ,i64_w,i32_w]
             rfl
            refine done_ (done_of HT_.out (by kernel_rfl)) ?_
            try go_wp2
            go_roundg k1
            case measure=>have:=HK1.out;omega
            case rel=>exact ⟨(y395),(wrap64 (x25_1 + 1)),(by first|rfl|(simp;done)|(simp [*];done)),H',⟨by have:=HK1.out;omega⟩,⟨by (with_reducible repeat(first|apply Kd.R_alloc|apply Kd.R_drewN|apply Kd.R_drew));exact Kd.R_mono HO397.out (fun _ hk=>trivial)⟩,⟨by (with_reducible repeat(first|refine blk_drewN ?_ _|refine blk_drew ?_|refine blk_alloc ?_ _));exact BK366.out⟩,⟨by repeat(first|(with_reducible first|exact HB.out|apply below_alloc|apply pw_below_drewN|apply below_drew1|refine below_set ?_ GE366.out|refine below_set ?_ GE378.out)|exact HB.out)⟩⟩
           ·rw [if_neg c36] at H
            exact absurd H (by simp)
          ·rw [if_neg c33] at H
           exact absurd H (by simp)
        ·replace c20:=Bool.eq_false_iff.mpr c20
         subst c20
         have H1 : (if x7_1.length < 140737488355328 then ((some (x7_1 ++ [1] : List Int)).bind fun y398=>((take_Put.f k1 ([] : List Int) (IntKind.u64.wrap ((rd_T75 l1 x25_1).f0)) 2).bind fun t401=>((take_Put.f k1 t401 (IntKind.u64.wrap ((rd_T75 l1 x25_1).f1)) 2).bind fun t404=>(if y398.length + t404.length < 140737488355328 then (node_Put.l0 k1 (y398 ++ t404) l1 (l1.length : Int) (wrap64 (x25_1 + 1)) a2_0 a2_1 a2_2 a2_3) else (none))))) else (none)) = some r:=by rw [if_neg (show ¬ (false = true) by decide)] at H;exact H
         clear H
         have H:=H1
         clear H1
         by_cases c49 : x7_1.length < 140737488355328
         ·rw [if_pos c49] at H
          have LMc49:=Aside0.mk c49
          clear c49
          obtain ⟨y398,hy398⟩ : ∃ y_ : List Int,y_ = (x7_1 ++ [1]):=⟨_,rfl⟩
          replace H : ((take_Put.f k1 ([] : List Int) (IntKind.u64.wrap ((rd_T75 l1 x25_1).f0)) 2).bind fun t401=>((take_Put.f k1 t401 (IntKind.u64.wrap ((rd_T75 l1 x25_1).f1)) 2).bind fun t404=>(if y398.length + t404.length < 140737488355328 then (node_Put.l0 k1 (y398 ++ t404) l1 (l1.length : Int) (wrap64 (x25_1 + 1)) a2_0 a2_1 a2_2 a2_3) else (none)))) = some r:=by first|(rw [hy398];with_reducible exact H)|(have H2_:=(Option.bind_some _ _).symm.trans H;rw [hy398];with_reducible exact H2_)|(have H2_:=(Option.bind_some _ _).symm.trans H;with_reducible exact H2_)|with_reducible exact H|(rw [hy398];exact H)|exact H
          have Ny398:=Aside0.mk hy398
          clear hy398
          replace H:=Option.bind_eq_some_iff.mp H
          obtain ⟨t401,A500,H⟩:=H
          replace H : ((take_Put.f k1 t401 (IntKind.u64.wrap ((rd_T75 l1 x25_1).f1)) 2).bind fun t404=>(if y398.length + t404.length < 140737488355328 then (node_Put.l0 k1 (y398 ++ t404) l1 (l1.length : Int) (wrap64 (x25_1 + 1)) a2_0 a2_1 a2_2 a2_3) else (none))) = some r:=H
          have A50:=Aside0.mk A500
          clear A500
          replace H:=Option.bind_eq_some_iff.mp H
          obtain ⟨t404,A510,H⟩:=H
          replace H : (if y398.length + t404.length < 140737488355328 then (node_Put.l0 k1 (y398 ++ t404) l1 (l1.length : Int) (wrap64 (x25_1 + 1)) a2_0 a2_1 a2_2 a2_3) else (none)) = some r:=H
          have A51:=Aside0.mk A510
          clear A510
          by_cases c52 : y398.length + t404.length < 140737488355328
          ·rw [if_pos c52] at H
           have LMc52:=Aside0.mk c52
           clear c52
           obtain ⟨y407,hy407⟩ : ∃ y_ : List Int,y_ = (y398 ++ t404):=⟨_,rfl⟩
           replace H : (node_Put.l0 k1 y407 l1 (l1.length : Int) (wrap64 (x25_1 + 1)) a2_0 a2_1 a2_2 a2_3) = some r:=by first|(rw [hy407];with_reducible exact H)|(have H2_:=(Option.bind_some _ _).symm.trans H;rw [hy407];with_reducible exact H2_)|(have H2_:=(Option.bind_some _ _).symm.trans H;with_reducible exact H2_)|with_reducible exact H|(rw [hy407];exact H)|exact H
           have Ny407:=Aside0.mk hy407
           clear hy407
           have H':=Aside0.mk H
           clear H
           have p377 : 0 ≤ (x25_1 : Int):=of_decide_eq_true (by first|(with_reducible assumption)|assumption)
           have q377 : x25_1 < (l1.length : Int):=of_decide_eq_true (by first|(with_reducible assumption)|assumption)
           obtain ⟨ad377,e377,hx377_0,hx377_1,hx377_2,hx377_3,hx377_4,hx377_5⟩:=at_T75 HR1.out x25_1 p377 q377
           cases e377
           replace hx377_0:=(HB.out.cell (World.block_lt_of_cell? w _ hx377_0)).trans hx377_0
           replace hx377_1:=(HB.out.cell (World.block_lt_of_cell? w _ hx377_1)).trans hx377_1
           replace hx377_2:=(HB.out.cell (World.block_lt_of_cell? w _ hx377_2)).trans hx377_2
           replace hx377_3:=(HB.out.cell (World.block_lt_of_cell? w _ hx377_3)).trans hx377_3
           replace hx377_4:=(HB.out.cell (World.block_lt_of_cell? w _ hx377_4)).trans hx377_4
           replace hx377_5:=(HB.out.cell (World.block_lt_of_cell? w _ hx377_5)).trans hx377_5
           replace p377:=eq_true p377
           replace q377:=eq_true q377
           try go_wp2_with (first|((with_reducible refine gate_dst (N:=9) rfl ?_);refine box_event ?hg (N:=9) ?hd (cs:=#[.int .i64 0,.int .i64 0,.int .i64 0,.int .i64 0,.int .i64 0,.int .i64 0]) (t:=75) ?hr ?_;(case hd=>rfl);(case hg=>rfl);(case hr=>first|(go_simp;done)|(go_simp;rfl));intro gb378 hg w53 hbox hb;have n0_:=Aside0.mk (Kd.R_below (by (with_reducible repeat(first|apply Kd.R_alloc|apply Kd.R_drewN|apply Kd.R_drew));exact HO_7.out) hb);have n1_:=Aside0.mk (blk_below (g:=gb366) (o:=.cells #[.int .i64 a2_0,.int .i64 a2_1,.int .i64 a2_2,.int .i64 a2_3] 72 (0,0)) (by (with_reducible repeat(first|refine blk_drewN ?_ _|refine blk_drew ?_|refine blk_alloc ?_ _));exact BK366.out) hb);have n2_:=Aside0.mk (below_step (by repeat(first|(with_reducible first|exact HB.out|apply below_alloc|apply pw_below_drewN|apply below_drew1|refine below_set ?_ GE366.out)|exact HB.out)) hb);have n3_:=Aside0.mk (hbox);have n4_:=Aside0.mk ((by rw [hg];exact (below_size (by repeat(first|(with_reducible first|exact HB.out|apply below_alloc|apply pw_below_drewN|apply below_drew1|refine below_set ?_ GE366.out)|exact HB.out))) : w.heap.size ≤ gb378));have n5_:=Aside0.mk ((by rw [hg];exact (below_size (by repeat(first|(with_reducible first|exact HB.out|apply below_alloc|apply pw_below_drewN|apply below_drew1|refine below_set ?_ GE366.out)|exact HB.out))) : w.heap.size ≤ gb378));have n6_:=Aside0.mk ((by rw [hg];exact Nat.ne_of_lt (blk_lt (g:=gb366) (o:=.cells #[.int .i64 a2_0,.int .i64 a2_1,.int .i64 a2_2,.int .i64 a2_3] 72 (0,0)) (by (with_reducible repeat(first|refine blk_drewN ?_ _|refine blk_drew ?_|refine blk_alloc ?_ _));exact BK366.out)) : gb366 ≠ gb378));have n7_:=Aside0.mk ((by rw [hg];exact Nat.ne_of_gt (blk_lt (g:=gb366) (o:=.cells #[.int .i64 a2_0,.int .i64 a2_1,.int .i64 a2_2,.int .i64 a2_3] 72 (0,0)) (by (with_reducible repeat(first|refine blk_drewN ?_ _|refine blk_drew ?_|refine blk_alloc ?_ _));exact BK366.out)) : gb378 ≠ gb366));clear HO_7;clear BK366;clear HB;have HO_7:=n0_;have BK366:=n1_;have HB:=n2_;have BK378:=n3_;have GW378:=n4_;have GE378:=n5_;have NB366_378:=n6_;have NB378_366:=n7_;clear n0_ n1_ n2_ n3_ n4_ n5_ n6_ n7_;clear hb hbox hg;have hnb54:=NB378_366.out;have hnc54:=NB366_378.out;have hcz55_0 : w53.cell? ⟨gb378,0,none⟩ = some (.int .i64 0):=(blk_cell BK378.out 0).trans rfl;have hcz55_1 : w53.cell? ⟨gb378,1,none⟩ = some (.int .i64 0):=(blk_cell BK378.out 1).trans rfl;have hcz55_2 : w53.cell? ⟨gb378,2,none⟩ = some (.int .i64 0):=(blk_cell BK378.out 2).trans rfl;have hcz55_3 : w53.cell? ⟨gb378,3,none⟩ = some (.int .i64 0):=(blk_cell BK378.out 3).trans rfl;have hcz55_4 : w53.cell? ⟨gb378,4,none⟩ = some (.int .i64 0):=(blk_cell BK378.out 4).trans rfl;have hcz55_5 : w53.cell? ⟨gb378,5,none⟩ = some (.int .i64 0):=(blk_cell BK378.out 5).trans rfl;have hfz55_0:=blk_frozen BK378.out 0;have hfz55_1:=blk_frozen BK378.out 1;have hfz55_2:=blk_frozen BK378.out 2;have hfz55_3:=blk_frozen BK378.out 3;have hfz55_4:=blk_frozen BK378.out 4;have hfz55_5:=blk_frozen BK378.out 5)|((with_reducible refine gate_callee (f:=70) rfl ?_);refine goesL_ (some 43) rfl rfl Try.func70 (by kernel_rfl) rfl #[.agg #[.int .i64 ((rd_T75 l1 x25_1).f0),.int .i64 ((rd_T75 l1 x25_1).f1),.int .i64 ((rd_T75 l1 x25_1).f2),.int .i64 ((rd_T75 l1 x25_1).f3),.int .i64 ((rd_T75 l1 x25_1).f4),.int .i64 ((rd_T75 l1 x25_1).f5)]] rfl (by (try simp only [List.map_toArray,List.map_cons,List.map_nil]);first|done|rfl|(simp only [List.length_drop,List.length_take];rfl)) ?_;(with_reducible refine (node_leaf.calls ((rd_T75 l1 x25_1).f0) ((rd_T75 l1 x25_1).f1) ((rd_T75 l1 x25_1).f2) ((rd_T75 l1 x25_1).f3) ((rd_T75 l1 x25_1).f4) ((rd_T75 l1 x25_1).f5) false _ A19.out).mono ?_);rintro e w56 ⟨rfl,hb⟩;refine ⟨_,rfl,?_⟩;have n0_:=Aside0.mk (Kd.R_below (by (with_reducible repeat(first|apply Kd.R_alloc|apply Kd.R_drewN|apply Kd.R_drew));exact (Kd.R_mono (Kd.R_far (p:=⟨gb378,5,none⟩) (Kd.R_far (p:=⟨gb378,4,none⟩) (Kd.R_far (p:=⟨gb378,3,none⟩) (Kd.R_far (p:=⟨gb378,2,none⟩) (Kd.R_far (p:=⟨gb378,1,none⟩) (Kd.R_far (p:=⟨gb378,0,none⟩) (Kd.R_types HO_7.out BK378.out (by decide)) (fun _ hk=>hk.2) (.int .i64 ((rd_T75 l1 x25_1).f0))) (fun _ hk=>hk.2) (.int .i64 ((rd_T75 l1 x25_1).f1))) (fun _ hk=>hk.2) (.int .i64 ((rd_T75 l1 x25_1).f2))) (fun _ hk=>hk.2) (.int .i64 ((rd_T75 l1 x25_1).f3))) (fun _ hk=>hk.2) (.int .i64 ((rd_T75 l1 x25_1).f4))) (fun _ hk=>hk.2) (.int .i64 ((rd_T75 l1 x25_1).f5))) (fun _ h_=>h_.1))) hb);have n1_:=Aside0.mk (blk_below (g:=gb366) (o:=.cells #[.int .i64 a2_0,.int .i64 a2_1,.int .i64 a2_2,.int .i64 a2_3] 72 (0,0)) (by (with_reducible repeat(first|refine blk_drewN ?_ _|refine blk_drew ?_|refine blk_alloc ?_ _));refine blk_far ?_ NB366_378.out _;(with_reducible repeat(first|refine blk_drewN ?_ _|refine blk_drew ?_|refine blk_alloc ?_ _));refine blk_far ?_ NB366_378.out _;(with_reducible repeat(first|refine blk_drewN ?_ _|refine blk_drew ?_|refine blk_alloc ?_ _));refine blk_far ?_ NB366_378.out _;(with_reducible repeat(first|refine blk_drewN ?_ _|refine blk_drew ?_|refine blk_alloc ?_ _));refine blk_far ?_ NB366_378.out _;(with_reducible repeat(first|refine blk_drewN ?_ _|refine blk_drew ?_|refine blk_alloc ?_ _));refine blk_far ?_ NB366_378.out _;(with_reducible repeat(first|refine blk_drewN ?_ _|refine blk_drew ?_|refine blk_alloc ?_ _));refine blk_far ?_ NB366_378.out _;(with_reducible repeat(first|refine blk_drewN ?_ _|refine blk_drew ?_|refine blk_alloc ?_ _));exact BK366.out) hb);have n2_:=Aside0.mk (blk_below (g:=gb378) (o:=.cells #[.int .i64 ((rd_T75 l1 x25_1).f0),.int .i64 ((rd_T75 l1 x25_1).f1),.int .i64 ((rd_T75 l1 x25_1).f2),.int .i64 ((rd_T75 l1 x25_1).f3),.int .i64 ((rd_T75 l1 x25_1).f4),.int .i64 ((rd_T75 l1 x25_1).f5)] 75 (0,0)) (by (with_reducible repeat(first|refine blk_drewN ?_ _|refine blk_drew ?_|refine blk_alloc ?_ _));refine blk_put (cs:=#[.int .i64 ((rd_T75 l1 x25_1).f0),.int .i64 ((rd_T75 l1 x25_1).f1),.int .i64 ((rd_T75 l1 x25_1).f2),.int .i64 ((rd_T75 l1 x25_1).f3),.int .i64 ((rd_T75 l1 x25_1).f4),.int .i64 0]) ?_ 5 _ rfl;(with_reducible repeat(first|refine blk_drewN ?_ _|refine blk_drew ?_|refine blk_alloc ?_ _));refine blk_put (cs:=#[.int .i64 ((rd_T75 l1 x25_1).f0),.int .i64 ((rd_T75 l1 x25_1).f1),.int .i64 ((rd_T75 l1 x25_1).f2),.int .i64 ((rd_T75 l1 x25_1).f3),.int .i64 0,.int .i64 0]) ?_ 4 _ rfl;(with_reducible repeat(first|refine blk_drewN ?_ _|refine blk_drew ?_|refine blk_alloc ?_ _));refine blk_put (cs:=#[.int .i64 ((rd_T75 l1 x25_1).f0),.int .i64 ((rd_T75 l1 x25_1).f1),.int .i64 ((rd_T75 l1 x25_1).f2),.int .i64 0,.int .i64 0,.int .i64 0]) ?_ 3 _ rfl;(with_reducible repeat(first|refine blk_drewN ?_ _|refine blk_drew ?_|refine blk_alloc ?_ _));refine blk_put (cs:=#[.int .i64 ((rd_T75 l1 x25_1).f0),.int .i64 ((rd_T75 l1 x25_1).f1),.int .i64 0,.int .i64 0,.int .i64 0,.int .i64 0]) ?_ 2 _ rfl;(with_reducible repeat(first|refine blk_drewN ?_ _|refine blk_drew ?_|refine blk_alloc ?_ _));refine blk_put (cs:=#[.int .i64 ((rd_T75 l1 x25_1).f0),.int .i64 0,.int .i64 0,.int .i64 0,.int .i64 0,.int .i64 0]) ?_ 1 _ rfl;(with_reducible repeat(first|refine blk_drewN ?_ _|refine blk_drew ?_|refine blk_alloc ?_ _));refine blk_put (cs:=#[.int .i64 0,.int .i64 0,.int .i64 0,.int .i64 0,.int .i64 0,.int .i64 0]) ?_ 0 _ rfl;(with_reducible repeat(first|refine blk_drewN ?_ _|refine blk_drew ?_|refine blk_alloc ?_ _));exact BK378.out) hb);have n3_:=Aside0.mk (below_step (by repeat(first|(with_reducible first|exact HB.out|apply below_alloc|apply pw_below_drewN|apply below_drew1|refine below_set ?_ GE366.out|refine below_set ?_ GE378.out)|exact HB.out)) hb);clear HO_7;clear BK366;clear BK378;clear HB;have HO_7:=n0_;have BK366:=n1_;have BK378:=n2_;have HB:=n3_;clear n0_ n1_ n2_ n3_;(try clear hb);(try clear hb2);(try clear hk);(try clear hi))|((with_reducible refine gate_builtin (b:=.append) (xs:=#[.tmp 45,.tmp 46]) rfl ?_);at_builtin;refine Kd.R_append (Kd.int .u8) (w0:=w) w.heap.size rfl (.tmp 45) (.tmp 46) 22 5 (.int .u8 0) 1 rfl Try.underlying22 info5 rfl (by decide) (by omega) u7 x7_1 1 [.int .u8 1] (fun _=>True) (fun _=>False) rfl rfl ?aP (fun _ hk=>hk.elim) ?aF ?aO ?aB ?aS ?aL ?_;(case aP=>exact rfl);(case aB=>exact (by repeat(first|(with_reducible first|exact HB.out|apply below_alloc|apply pw_below_drewN|apply below_drew1|refine below_set ?_ GE366.out|refine below_set ?_ GE378.out)|exact HB.out)));(case aF=>exact (fun _ _=>trivial));(case aO=>exact (by (with_reducible repeat(first|apply Kd.R_alloc|apply Kd.R_drewN|apply Kd.R_drew));exact HO_7.out));(case aS=>exact (below_size (by repeat(first|(with_reducible first|exact HB.out|apply below_alloc|apply pw_below_drewN|apply below_drew1|refine below_set ?_ GE366.out|refine below_set ?_ GE378.out)|exact HB.out))));(case aL=>have:=LMc49.out;omega);intro v399 w57 ho hb hg hat;rw [← Ny398.out] at ho;have n0_:=Aside0.mk (blk_grown (g:=gb366) (o:=.cells #[.int .i64 a2_0,.int .i64 a2_1,.int .i64 a2_2,.int .i64 a2_3] 72 (0,0)) (by (with_reducible repeat(first|refine blk_drewN ?_ _|refine blk_drew ?_|refine blk_alloc ?_ _));exact BK366.out) hg (Kd.R_ne HO_7.out BK366.out (by decide)));have n1_:=Aside0.mk (blk_grown (g:=gb378) (o:=.cells #[.int .i64 ((rd_T75 l1 x25_1).f0),.int .i64 ((rd_T75 l1 x25_1).f1),.int .i64 ((rd_T75 l1 x25_1).f2),.int .i64 ((rd_T75 l1 x25_1).f3),.int .i64 ((rd_T75 l1 x25_1).f4),.int .i64 ((rd_T75 l1 x25_1).f5)] 75 (0,0)) (by (with_reducible repeat(first|refine blk_drewN ?_ _|refine blk_drew ?_|refine blk_alloc ?_ _));exact BK378.out) hg (Kd.R_ne HO_7.out BK378.out (by decide)));have n2_:=Aside0.mk (hb);have n3_:=Aside0.mk (ho);clear BK366;clear BK378;clear HB;clear HO_7;have BK366:=n0_;have BK378:=n1_;have HB:=n2_;have HO400:=n3_;clear n0_ n1_ n2_ n3_;clear ho hb hg hat))
           have n0_:=Aside0.mk (Kd.R_drew HO400.out)
           have n1_:=Aside0.mk (blk_drew BK366.out)
           have n2_:=Aside0.mk (blk_drew BK378.out)
           have n3_:=Aside0.mk (below_drew1 HB.out)
           clear HO400
           clear BK366
           clear BK378
           clear HB
           have HO400:=n0_
           have BK366:=n1_
           have BK378:=n2_
           have HB:=n3_
           clear n0_ n1_ n2_ n3_
           refine start_ (n:=11) (S:=fun w'=>w'.cell? ⟨gb378,0,none⟩ = some (.int .i64 ((rd_T75 l1 x25_1).f0)) ∧ w'.cell? ⟨gb378,1,none⟩ = some (.int .i64 ((rd_T75 l1 x25_1).f1)) ∧ w'.cell? ⟨gb378,2,none⟩ = some (.int .i64 ((rd_T75 l1 x25_1).f2)) ∧ w'.cell? ⟨gb378,3,none⟩ = some (.int .i64 ((rd_T75 l1 x25_1).f3)) ∧ w'.cell? ⟨gb378,4,none⟩ = some (.int .i64 ((rd_T75 l1 x25_1).f4)) ∧ w'.cell? ⟨gb378,5,none⟩ = some (.int .i64 ((rd_T75 l1 x25_1).f5))) (ds:=[]) #[false,false,false,false,false,false,false,false,false,false,false] (by kernel_rfl) rfl rfl ⟨(blk_cell BK378.out 0).trans rfl,(blk_cell BK378.out 1).trans rfl,(blk_cell BK378.out 2).trans rfl,(blk_cell BK378.out 3).trans rfl,(blk_cell BK378.out 4).trans rfl,(blk_cell BK378.out 5).trans rfl⟩ (fun hHeld=>?_);refine with_tabW node_Put.tab12 node_Put.bits12 (fun HT_ HW_=>?_)
           generalize w57.drew = w58 at HO400 BK366 BK378 HB hHeld ⊢
           refine pure_ (i:=0) (N:=some 48) (v:=?_) (a':=?_) #[true,false,false,false,false,false,false,false,false,false,false] rfl rfl (any_of HT_.out (by kernel_rfl)) (fun _ _ _ h=>h) (Or.inl ⟨by rfl,?_⟩) ?_ ?_
           rotate_left
           ·intro w'
            go_simp
            with_reducible rfl
           rotate_left
           ·simp only [Act.put,List.setIfInBounds_toArray,List.set_cons_zero,List.set_cons_succ,i64_w,i32_w]
            rfl
           refine pure_ (i:=1) (N:=some 49) (v:=?_) (a':=?_) #[true,true,false,false,false,false,false,false,false,false,false] rfl rfl (any_of HT_.out (by kernel_rfl)) (fun _ _ _ h=>h) (Or.inl ⟨by rfl,?_⟩) ?_ ?_
           rotate_left
           ·intro w'
            go_simp
            with_reducible rfl
           rotate_left
           ·simp only [Act.put,List.setIfInBounds_toArray,List.set_cons_zero,List.set_cons_succ,i64_w,i32_w]
            rfl
           refine pure_ (i:=5) (N:=some 53) (v:=?_) (a':=?_) #[true,true,false,false,false,true,false,false,false,false,false] rfl rfl (any_of HT_.out (by kernel_rfl)) (fun _ _ _ h=>h) (Or.inl ⟨by rfl,?_⟩) ?_ ?_
           rotate_left
           ·intro w'
            go_simp
            with_reducible rfl
           rotate_left
           ·simp only [Act.put,List.setIfInBounds_toArray,List.set_cons_zero,List.set_cons_succ,i64_w,i32_w]
            rfl
           refine take_ (i:=2) (N:=some 50) (v:=?_) (a':=?_) #[true,true,true,false,false,true,false,false,false,false,false] rfl rfl (take_ofW HT_.out HW_.out (by kernel_rfl)) (fun _ _ _ h=>h) (Or.inl ⟨by rfl,?_⟩) hHeld ?_ ?_
           rotate_left
           ·rintro w' ⟨s0,s1,s2,s3,s4,s5⟩
            go_simp
            with_reducible rfl
           rotate_left
           ·simp only [Act.put,List.setIfInBounds_toArray,List.set_cons_zero,List.set_cons_succ,i64_w,i32_w]
            rfl
           refine pure_ (i:=3) (N:=some 51) (v:=?_) (a':=?_) #[true,true,true,true,false,true,false,false,false,false,false] rfl rfl (any_of HT_.out (by kernel_rfl)) (fun _ _ _ h=>h) (Or.inl ⟨by rfl,?_⟩) ?_ ?_
           rotate_left
           ·intro w'
            go_simp
            with_reducible rfl
           rotate_left
           ·simp only [Act.put,List.setIfInBounds_toArray,List.set_cons_zero,List.set_cons_succ,i64_w,i32_w]
            rfl
           refine take_ (i:=6) (N:=some 54) (v:=?_) (a':=?_) #[true,true,true,true,false,true,true,false,false,false,false] rfl rfl (take_ofW HT_.out HW_.out (by kernel_rfl)) (fun _ _ _ h=>h) (Or.inl ⟨by rfl,?_⟩) hHeld ?_ ?_
           rotate_left
           ·rintro w' ⟨s0,s1,s2,s3,s4,s5⟩
            go_simp
            with_reducible rfl
           rotate_left
           ·simp only [Act.put,List.setIfInBounds_toArray,List.set_cons_zero,List.set_cons_succ,i64_w,i32_w]
            rfl
           refine pure_ (i:=7) (N:=some 55) (v:=?_) (a':=?_) #[true,true,true,true,false,true,true,true,false,false,false] rfl rfl (any_of HT_.out (by kernel_rfl)) (fun _ _ _ h=>h) (Or.inl ⟨by rfl,?_⟩) ?_ ?_
           rotate_left
           ·intro w'
            go_simp
            with_reducible rfl
           rotate_left
           ·simp only [Act.put,List.setIfInBounds_toArray,List.set_cons_zero,List.set_cons_succ,i64_w,i32_w]
            rfl
           refine one_ (i:=4) (N:=some 52) #[true,true,true,true,true,true,true,true,false,false,false] rfl rfl (one_of HT_.out (by kernel_rfl)) (by decide) (fun K hK=>?_)
           refine goes_ Try.func24 (by kernel_rfl) rfl #[.slice none 0 0,.int .u64 (IntKind.u64.wrap ((rd_T75 l1 x25_1).f0)),.int .i64 2] (by rfl) rfl rfl (by (try simp only [List.map_toArray,List.map_cons,List.map_nil]);first|done|rfl|(simp only [List.length_drop,List.length_take];rfl)) ?_
           refine (take_Put.calls k1 _ _ ([] : List Int) (IntKind.u64.wrap ((rd_T75 l1 x25_1).f0)) 2 t401 _ ?side1 ?side2 A50.out).mono ?_
           (case side1=>exact Kd.C_nil _ _)
           (case side2=>exact Nat.le_refl _)
           rintro e w59 ⟨v402,rfl,ho0,hb⟩
           refine ⟨_,rfl,?_⟩
           have n0_:=Aside0.mk (Kd.R_elder' (by (with_reducible repeat(first|apply Kd.R_alloc|apply Kd.R_drewN|apply Kd.R_drew));exact HO400.out) (Kd.R_base ho0) hb)
           have n1_:=Aside0.mk (Kd.R_lower (Kd.R_new' ho0 (Kd.R_lt (by (with_reducible repeat(first|apply Kd.R_alloc|apply Kd.R_drewN|apply Kd.R_drew));exact HO400.out))) (below_size (by repeat(first|(with_reducible first|exact HB.out|apply below_alloc|apply pw_below_drewN|apply below_drew1|refine below_set ?_ GE366.out|refine below_set ?_ GE378.out)|exact HB.out))))
           have n2_:=Aside0.mk (blk_below (g:=gb366) (o:=.cells #[.int .i64 a2_0,.int .i64 a2_1,.int .i64 a2_2,.int .i64 a2_3] 72 (0,0)) (by (with_reducible repeat(first|refine blk_drewN ?_ _|refine blk_drew ?_|refine blk_alloc ?_ _));exact BK366.out) hb)
           have n3_:=Aside0.mk (blk_below (g:=gb378) (o:=.cells #[.int .i64 ((rd_T75 l1 x25_1).f0),.int .i64 ((rd_T75 l1 x25_1).f1),.int .i64 ((rd_T75 l1 x25_1).f2),.int .i64 ((rd_T75 l1 x25_1).f3),.int .i64 ((rd_T75 l1 x25_1).f4),.int .i64 ((rd_T75 l1 x25_1).f5)] 75 (0,0)) (by (with_reducible repeat(first|refine blk_drewN ?_ _|refine blk_drew ?_|refine blk_alloc ?_ _));exact BK378.out) hb)
           have n4_:=Aside0.mk (below_step (by repeat(first|(with_reducible first|exact HB.out|apply below_alloc|apply pw_below_drewN|apply below_drew1|refine below_set ?_ GE366.out|refine below_set ?_ GE378.out)|exact HB.out)) hb)
           clear HO400
           clear BK366
           clear BK378
           clear HB
           have HO400:=n0_
           have HO403:=n1_
           have BK366:=n2_
           have BK378:=n3_
           have HB:=n4_
           clear n0_ n1_ n2_ n3_ n4_
           (try clear hb)
           (try clear hb2)
           (try clear hk)
           (try clear hi)
           (try clear ho0)
           obtain ⟨Ao60,co60,eo60⟩:=Kd.R_slice HO403.out
           (first|subst eo60|(injection eo60 with f1_ f2_ f3_;have f4_:=f1_.symm;have f5_:=f3_.symm;clear f1_ f2_ f3_;subst f4_;subst f5_))
           refine hK.out _ _ ⟨(blk_cell BK378.out 0).trans rfl,(blk_cell BK378.out 1).trans rfl,(blk_cell BK378.out 2).trans rfl,(blk_cell BK378.out 3).trans rfl,(blk_cell BK378.out 4).trans rfl,(blk_cell BK378.out 5).trans rfl⟩ (fun hHeld=>?_)
           clear hK K
           refine norm_ (a':=?_) ?_ ?_
           rotate_left
           ·show Act.put _ (some 52) _ = _
            simp only [Act.put,List.setIfInBounds_toArray,List.set_cons_zero,List.set_cons_succ,i64_w,i32_w]
            rfl
           refine one_ (i:=8) (N:=some 56) #[true,true,true,true,true,true,true,true,true,false,false] rfl rfl (one_of HT_.out (by kernel_rfl)) (by decide) (fun K hK=>?_)
           refine goes_ Try.func24 (by kernel_rfl) rfl #[.slice Ao60 t401.length co60,.int .u64 (IntKind.u64.wrap ((rd_T75 l1 x25_1).f1)),.int .i64 2] (by rfl) rfl rfl (by (try simp only [List.map_toArray,List.map_cons,List.map_nil]);first|done|rfl|(simp only [List.length_drop,List.length_take];rfl)) ?_
           with_reducible refine (take_Put.calls k1 _ _ t401 (IntKind.u64.wrap ((rd_T75 l1 x25_1).f1)) 2 t404 _ ?side1 ?side2 A51.out).mono ?_
           (case side1=>repeat(first|exact (Kd.R_reads' HO403.out).2.2|(with_reducible refine Kd.C_alloc ?_ _)|(with_reducible refine Kd.C_drewN ?_ _)|(with_reducible refine Kd.C_drew ?_)))
           (case side2=>exact (Kd.R_reads' HO403.out).2.1)
           rintro e w61 ⟨v405,rfl,ho0,hb⟩
           refine ⟨_,rfl,?_⟩
           have n0_:=Aside0.mk (Kd.R_elder' (by (with_reducible repeat(first|apply Kd.R_alloc|apply Kd.R_drewN|apply Kd.R_drew));exact HO400.out) (Kd.R_base ho0) hb)
           have n1_:=Aside0.mk (Kd.R_elder' (by (with_reducible repeat(first|apply Kd.R_alloc|apply Kd.R_drewN|apply Kd.R_drew));exact HO403.out) (Kd.R_base ho0) hb)
           have n2_:=Aside0.mk (Kd.R_lower (Kd.R_new' (Kd.R_new' ho0 (Kd.R_lt (by (with_reducible repeat(first|apply Kd.R_alloc|apply Kd.R_drewN|apply Kd.R_drew));exact HO400.out))) (Kd.R_lt (by (with_reducible repeat(first|apply Kd.R_alloc|apply Kd.R_drewN|apply Kd.R_drew));exact HO403.out))) (below_size (by repeat(first|(with_reducible first|exact HB.out|apply below_alloc|apply pw_below_drewN|apply below_drew1|refine below_set ?_ GE366.out|refine below_set ?_ GE378.out)|exact HB.out))))
           have n3_:=Aside0.mk (blk_below (g:=gb366) (o:=.cells #[.int .i64 a2_0,.int .i64 a2_1,.int .i64 a2_2,.int .i64 a2_3] 72 (0,0)) (by (with_reducible repeat(first|refine blk_drewN ?_ _|refine blk_drew ?_|refine blk_alloc ?_ _));exact BK366.out) hb)
           have n4_:=Aside0.mk (blk_below (g:=gb378) (o:=.cells #[.int .i64 ((rd_T75 l1 x25_1).f0),.int .i64 ((rd_T75 l1 x25_1).f1),.int .i64 ((rd_T75 l1 x25_1).f2),.int .i64 ((rd_T75 l1 x25_1).f3),.int .i64 ((rd_T75 l1 x25_1).f4),.int .i64 ((rd_T75 l1 x25_1).f5)] 75 (0,0)) (by (with_reducible repeat(first|refine blk_drewN ?_ _|refine blk_drew ?_|refine blk_alloc ?_ _));exact BK378.out) hb)
           have n5_:=Aside0.mk (below_step (by repeat(first|(with_reducible first|exact HB.out|apply below_alloc|apply pw_below_drewN|apply below_drew1|refine below_set ?_ GE366.out|refine below_set ?_ GE378.out)|exact HB.out)) hb)
           clear HO400
           clear HO403
           clear BK366
           clear BK378
           clear HB
           have HO400:=n0_
           have HO403:=n1_
           have HO406:=n2_
           have BK366:=n3_
           have BK378:=n4_
           have HB:=n5_
           clear n0_ n1_ n2_ n3_ n4_ n5_
           (try clear hb)
           (try clear hb2)
           (try clear hk)
           (try clear hi)
           (try clear ho0)
           obtain ⟨Ao63,co63,eo63⟩:=Kd.R_slice HO406.out
           (first|subst eo63|(injection eo63 with f1_ f2_ f3_;have f4_:=f1_.symm;have f5_:=f3_.symm;clear f1_ f2_ f3_;subst f4_;subst f5_))
           refine hK.out _ _ ⟨(blk_cell BK378.out 0).trans rfl,(blk_cell BK378.out 1).trans rfl,(blk_cell BK378.out 2).trans rfl,(blk_cell BK378.out 3).trans rfl,(blk_cell BK378.out 4).trans rfl,(blk_cell BK378.out 5).trans rfl⟩ (fun hHeld=>?_)
           clear hK K
           refine norm_ (a':=?_) ?_ ?_
           rotate_left
           ·show Act.put _ (some 56) _ = _
            simp only [Act.put,List.setIfInBounds_toArray,List.set_cons_zero,List.set_cons_succ,i64_w,i32_w]
            rfl
           refine one_ (i:=9) (N:=some 57) #[true,true,true,true,true,true,true,true,true,true,false] rfl rfl (one_of HT_.out (by kernel_rfl)) (by decide) (fun K hK=>?_)
           refine Kd.R_append_rows_step (Kd.int .u8) (w0:=w) w.heap.size (by rfl) (.tmp 48) (.tmp 56) 22 5 (.int .u8 0) 1 rfl Try.underlying22 info5 rfl (by decide) (by omega) v399 y398 t404 _ _ _ (fun k_=>some k_ ≠ (.slice Ao60 t401.length co60 : Value).ownBlock ∧ some k_ ≠ (.slice Ao63 t404.length co63 : Value).ownBlock) (fun _=>False) rfl rfl ?aO ?aR (fun _ _ h=>h) (fun _ h=>h.elim) ?aF ?aB ?aS ?aL ?_
           (case aR=>repeat(first|exact (Kd.R_reads' HO406.out).2.2|(with_reducible refine Kd.C_alloc ?_ _)|(with_reducible refine Kd.C_drewN ?_ _)|(with_reducible refine Kd.C_drew ?_)))
           (case aB=>exact (by repeat(first|(with_reducible first|exact HB.out|apply below_alloc|apply pw_below_drewN|apply below_drew1|refine below_set ?_ GE366.out|refine below_set ?_ GE378.out)|exact HB.out)))
           (case aF=>exact (fun k_ hk=>⟨Kd.fresh' (Kd.R_lt (by (with_reducible repeat(first|apply Kd.R_alloc|apply Kd.R_drewN|apply Kd.R_drew));exact HO403.out)) k_ hk,Kd.fresh' (Kd.R_lt (by (with_reducible repeat(first|apply Kd.R_alloc|apply Kd.R_drewN|apply Kd.R_drew));exact HO406.out)) k_ hk⟩))
           (case aO=>exact (by (with_reducible repeat(first|apply Kd.R_alloc|apply Kd.R_drewN|apply Kd.R_drew));exact Kd.R_mono HO400.out (fun _ hk=>⟨hk.1.2,hk.2⟩)))
           (case aS=>exact (below_size (by repeat(first|(with_reducible first|exact HB.out|apply below_alloc|apply pw_below_drewN|apply below_drew1|refine below_set ?_ GE366.out|refine below_set ?_ GE378.out)|exact HB.out))))
           (case aL=>have:=LMc52.out;omega)
           intro v408 w62 ho hb hg hat
           rw [← Ny407.out] at ho
           have n0_:=Aside0.mk (blk_grown (g:=gb366) (o:=.cells #[.int .i64 a2_0,.int .i64 a2_1,.int .i64 a2_2,.int .i64 a2_3] 72 (0,0)) (by (with_reducible repeat(first|refine blk_drewN ?_ _|refine blk_drew ?_|refine blk_alloc ?_ _));exact BK366.out) hg (Kd.R_ne HO400.out BK366.out (by decide)))
           have n1_:=Aside0.mk (blk_grown (g:=gb378) (o:=.cells #[.int .i64 ((rd_T75 l1 x25_1).f0),.int .i64 ((rd_T75 l1 x25_1).f1),.int .i64 ((rd_T75 l1 x25_1).f2),.int .i64 ((rd_T75 l1 x25_1).f3),.int .i64 ((rd_T75 l1 x25_1).f4),.int .i64 ((rd_T75 l1 x25_1).f5)] 75 (0,0)) (by (with_reducible repeat(first|refine blk_drewN ?_ _|refine blk_drew ?_|refine blk_alloc ?_ _));exact BK378.out) hg (Kd.R_ne HO400.out BK378.out (by decide)))
           have n2_:=Aside0.mk (Kd.R_after (ok:=(fun k_=>some k_ ≠ (.slice Ao63 t404.length co63 : Value).ownBlock)) (by (with_reducible repeat(first|apply Kd.R_alloc|apply Kd.R_drewN|apply Kd.R_drew));exact Kd.R_mono HO403.out (fun _ hk=>⟨hk.2,hk.1.2⟩)) hg hat)
           have n3_:=Aside0.mk (Kd.R_after (ok:=(fun k_=>some k_ ≠ (.slice Ao60 t401.length co60 : Value).ownBlock)) (by (with_reducible repeat(first|apply Kd.R_alloc|apply Kd.R_drewN|apply Kd.R_drew));exact Kd.R_mono HO406.out (fun _ hk=>⟨hk.2,hk.1.2⟩)) hg hat)
           have n4_:=Aside0.mk (hb)
           have n5_:=Aside0.mk (ho)
           clear BK366
           clear BK378
           clear HO403
           clear HO406
           clear HB
           clear HO400
           have BK366:=n0_
           have BK378:=n1_
           have HO403:=n2_
           have HO406:=n3_
           have HB:=n4_
           have HO409:=n5_
           clear n0_ n1_ n2_ n3_ n4_ n5_
           clear ho hb hg hat
           refine hK.out _ _ ⟨(blk_cell BK378.out 0).trans rfl,(blk_cell BK378.out 1).trans rfl,(blk_cell BK378.out 2).trans rfl,(blk_cell BK378.out 3).trans rfl,(blk_cell BK378.out 4).trans rfl,(blk_cell BK378.out 5).trans rfl⟩ (fun hHeld=>?_)
           clear hK K
           refine norm_ (a':=?_) ?_ ?_
           rotate_left
           ·show Act.put _ (some 57) _ = _
            simp only [Act.put,List.setIfInBounds_toArray,List.set_cons_zero,List.set_cons_succ,i64_w,i32_w]
            rfl
           refine pure_ (i:=10) (N:=some 7) (v:=?_) (a':=?_) #[true,true,true,true,true,true,true,true,true,true,true] rfl rfl (any_of HT_.out (by kernel_rfl)) (fun _ _ _ h=>h) (Or.inl ⟨by rfl,?_⟩) ?_ ?_
           rotate_left
           ·intro w'
            go_simp
            with_reducible rfl
           rotate_left
           ·simp only [Act.put,List.setIfInBounds_toArray,List.set_cons_zero,List.set_cons_succ,i64_w,i32_w]
            rfl
           refine done_ (done_of HT_.out (by kernel_rfl)) ?_
           try go_wp2
           go_roundg k1
           case measure=>have:=HK1.out;omega
           case rel=>exact ⟨(y407),(wrap64 (x25_1 + 1)),(by first|rfl|(simp;done)|(simp [*];done)),H',⟨by have:=HK1.out;omega⟩,⟨by (with_reducible repeat(first|apply Kd.R_alloc|apply Kd.R_drewN|apply Kd.R_drew));exact Kd.R_mono HO409.out (fun _ hk=>trivial)⟩,⟨by (with_reducible repeat(first|refine blk_drewN ?_ _|refine blk_drew ?_|refine blk_alloc ?_ _));exact BK366.out⟩,⟨by repeat(first|(with_reducible first|exact HB.out|apply below_alloc|apply pw_below_drewN|apply below_drew1|refine below_set ?_ GE366.out|refine below_set ?_ GE378.out)|exact HB.out)⟩⟩
          ·rw [if_neg c52] at H
           exact absurd H (by simp)
         ·rw [if_neg c49] at H
          exact absurd H (by simp)
       ·rw [if_neg c18] at H
        exact absurd H (by simp)
      ·rw [if_neg c17] at H
       exact absurd H (by simp)
     ·rw [if_neg c16] at H
      have c16b0 : decide (x25_1 < (l1.length : Int)) = false:=decide_eq_false c16
      clear c16
      obtain rfl:=Option.some.inj H
      go_wp2
      go_ret
      exact ⟨_,by first|rfl|(simp [errW_none,errW_some] <;> rfl)|(simp [*,errW_none,errW_some] <;> rfl),by (with_reducible repeat(first|apply Kd.R_alloc|apply Kd.R_drewN|apply Kd.R_drew));exact HO_7.out,by repeat(first|(with_reducible first|exact HB.out|apply below_alloc|apply pw_below_drewN|apply below_drew1|refine below_set ?_ GE366.out)|exact HB.out)⟩
  ·rw [if_neg c8] at H
   exact absurd H (by simp)
 ·replace c6:=Bool.eq_false_iff.mpr c6
  subst c6
  have H1 : (some t367) = some r:=by rw [if_neg (show ¬ (false = true) by decide)] at H;exact H
  clear H
  have H:=H1
  clear H1
  obtain rfl:=Option.some.inj H
  go_enter Try.func48,Try.ntmps48
  go_wp2_with (first|((with_reducible refine gate_dst (N:=5) rfl ?_);refine box_event ?hg (N:=5) ?hd (cs:=#[.int .i64 a2_0,.int .i64 a2_1,.int .i64 a2_2,.int .i64 a2_3]) (t:=72) ?hr ?_;(case hd=>rfl);(case hg=>rfl);(case hr=>first|(go_simp;done)|(go_simp;rfl));intro gb366 hg w64 hbox hb;have n0_:=Aside0.mk (below_step (by repeat(first|(with_reducible first|exact HB.out|apply below_alloc|apply pw_below_drewN|apply below_drew1)|exact HB.out)) hb);have n1_:=Aside0.mk (hbox);have n2_:=Aside0.mk ((by rw [hg];exact (below_size (by repeat(first|(with_reducible first|exact HB.out|apply below_alloc|apply pw_below_drewN|apply below_drew1)|exact HB.out))) : w.heap.size ≤ gb366));have n3_:=Aside0.mk ((by rw [hg];exact (below_size (by repeat(first|(with_reducible first|exact HB.out|apply below_alloc|apply pw_below_drewN|apply below_drew1)|exact HB.out))) : w.heap.size ≤ gb366));clear HB;have HB:=n0_;have BK366:=n1_;have GW366:=n2_;have GE366:=n3_;clear n0_ n1_ n2_ n3_;clear hb hbox hg)|((with_reducible refine gate_callee (f:=58) rfl ?_);refine goesL_ (some 11) rfl rfl Try.func58 (by kernel_rfl) rfl #[.slice A0 l0.length c0] rfl (by (try simp only [List.map_toArray,List.map_cons,List.map_nil]);first|done|rfl|(simp only [List.length_drop,List.length_take];rfl)) ?_;(with_reducible refine (slices_Clone_byte_byte.calls _ _ l0 t367 _ ?side1 ?side2 A4.out).mono ?_);(case side1=>repeat(first|exact (Kd.C_below HR0.out HB.out)|(with_reducible refine Kd.C_alloc ?_ _)|(with_reducible refine Kd.C_drewN ?_ _)|(with_reducible refine Kd.C_drew ?_)));(case side2=>exact HC0.out);rintro e w65 ⟨v368,rfl,ho0,hb⟩;refine ⟨_,rfl,?_⟩;have n0_:=Aside0.mk (Kd.R_lower ho0 (below_size (by repeat(first|(with_reducible first|exact HB.out|apply below_alloc|apply pw_below_drewN|apply below_drew1|refine below_set ?_ GE366.out)|exact HB.out))));have n1_:=Aside0.mk (blk_below (g:=gb366) (o:=.cells #[.int .i64 a2_0,.int .i64 a2_1,.int .i64 a2_2,.int .i64 a2_3] 72 (0,0)) (by (with_reducible repeat(first|refine blk_drewN ?_ _|refine blk_drew ?_|refine blk_alloc ?_ _));exact BK366.out) hb);have n2_:=Aside0.mk (below_step (by repeat(first|(with_reducible first|exact HB.out|apply below_alloc|apply pw_below_drewN|apply below_drew1|refine below_set ?_ GE366.out)|exact HB.out)) hb);clear BK366;clear HB;have HO369:=n0_;have BK366:=n1_;have HB:=n2_;clear n0_ n1_ n2_;(try clear hb);(try clear hb2);(try clear hk);(try clear hi);(try clear ho0);have hcz66_0 : w65.cell? ⟨gb366,0,none⟩ = some (.int .i64 a2_0):=(blk_cell BK366.out 0).trans rfl;have hcz66_1 : w65.cell? ⟨gb366,1,none⟩ = some (.int .i64 a2_1):=(blk_cell BK366.out 1).trans rfl;have hcz66_2 : w65.cell? ⟨gb366,2,none⟩ = some (.int .i64 a2_2):=(blk_cell BK366.out 2).trans rfl;have hcz66_3 : w65.cell? ⟨gb366,3,none⟩ = some (.int .i64 a2_3):=(blk_cell BK366.out 3).trans rfl;have hfz66_0:=blk_frozen BK366.out 0;have hfz66_1:=blk_frozen BK366.out 1;have hfz66_2:=blk_frozen BK366.out 2;have hfz66_3:=blk_frozen BK366.out 3)|((with_reducible refine gate_callee (f:=41) rfl ?_);refine goesL_ (some 14) rfl rfl Try.func41 (by kernel_rfl) rfl #[.slice A1 l1.length c1,.agg #[.int .i64 a2_0,.int .i64 a2_1,.int .i64 a2_2,.int .i64 a2_3]] rfl (by (try simp only [List.map_toArray,List.map_cons,List.map_nil]);first|done|rfl|(simp only [List.length_drop,List.length_take];rfl)) ?_;(with_reducible refine (node_Right.calls k _ _ l1 a2_0 a2_1 a2_2 a2_3 false _ ?side1 ?side2 A5.out).mono ?_);(case side1=>repeat(first|exact (Kd.C_below HR1.out HB.out)|(with_reducible refine Kd.C_alloc ?_ _)|(with_reducible refine Kd.C_drewN ?_ _)|(with_reducible refine Kd.C_drew ?_)));(case side2=>exact HC1.out);rintro e w67 ⟨rfl,hb⟩;refine ⟨_,rfl,?_⟩;have n0_:=Aside0.mk (Kd.R_below (by (with_reducible repeat(first|apply Kd.R_alloc|apply Kd.R_drewN|apply Kd.R_drew));exact HO369.out) hb);have n1_:=Aside0.mk (blk_below (g:=gb366) (o:=.cells #[.int .i64 a2_0,.int .i64 a2_1,.int .i64 a2_2,.int .i64 a2_3] 72 (0,0)) (by (with_reducible repeat(first|refine blk_drewN ?_ _|refine blk_drew ?_|refine blk_alloc ?_ _));exact BK366.out) hb);have n2_:=Aside0.mk (below_step (by repeat(first|(with_reducible first|exact HB.out|apply below_alloc|apply pw_below_drewN|apply below_drew1|refine below_set ?_ GE366.out)|exact HB.out)) hb);clear HO369;clear BK366;clear HB;have HO369:=n0_;have BK366:=n1_;have HB:=n2_;clear n0_ n1_ n2_;(try clear hb);(try clear hb2);(try clear hk);(try clear hi)))
  go_ret
  exact ⟨_,by first|rfl|(simp [errW_none,errW_some] <;> rfl)|(simp [*,errW_none,errW_some] <;> rfl),by (with_reducible repeat(first|apply Kd.R_alloc|apply Kd.R_drewN|apply Kd.R_drew));exact HO369.out,by repeat(first|(with_reducible first|exact HB.out|apply below_alloc|apply pw_below_drewN|apply below_drew1|refine below_set ?_ GE366.out)|exact HB.out)⟩

end Go.Proofs.Ytebbnjgaikppgaa.PA
