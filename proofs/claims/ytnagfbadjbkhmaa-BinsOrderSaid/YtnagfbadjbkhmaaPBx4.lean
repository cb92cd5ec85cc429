import Derived.Test.YtnagfbadjbkhmaaPBx0
import Derived.Test.YtnagfbadjbkhmaaPBx3
namespace Go.Proofs.Ytnagfbadjbkhmaa.PB
open Go.RowKit Go.Proofs.YtnagfbadjbkhmaaW.PrintWords Go.Proofs.YtnagfbadjbkhmaaW.PrintLast Go.Proofs.YtnagfbadjbkhmaaW.PrintMore
attribute [local go_sem] max2_int min2_int max_two min_two max_three min_three max_four min_four   -- for this text's walks alone
attribute [local go_sem high] Flt.fold_eq Flt.fold_ne Flt.fold_lt Flt.fold_gt Flt.fold_le Flt.fold_ge Flt.run_bits Flt.run_frombits
set_option linter.unusedVariables false
set_option linter.unusedSimpArgs false

/-! ### bins_shaped: function 67 -/
def bins_shaped.f (a0_0 : Int) (a0_1 : Int) (a0_2 : Int) (a0_3 : Int) (a0_4 : Int) (a0_5 : Int) (a0_6 : Int) (a0_7 : Int) (a0_8 : Int) (l0_9 : List Nat) (l0_10 : List Int) : Option (Bool):=(bins_count.f a0_7).bind fun t134=>(if t134 = true then ((bins_count.f a0_8).bind fun t135=>(if t135 = true then (some ((l0_9.length : Int) == (wrap64 (a0_7 * a0_8)))) else (some false))) else (some false))
set_option maxHeartbeats 8000000 in
set_option maxRecDepth 100000 in
theorem bins_shaped.calls (a0_0 : Int) (a0_1 : Int) (a0_2 : Int) (a0_3 : Int) (a0_4 : Int) (a0_5 : Int) (a0_6 : Int) (a0_7 : Int) (a0_8 : Int) (A0_9 : Option Addr) (c0_9 : Nat) (l0_9 : List Nat) (A0_10 : Option Addr) (c0_10 : Nat) (l0_10 : List Int) (r : Bool) (w : World) (hr0_9 : Kd.C Flt.kf w A0_9 l0_9.length l0_9) (hc0_9 : l0_9.length ≤ c0_9) (hr0_10 : Kd.C (Kd.int .i64) w A0_10 l0_10.length l0_10) (hc0_10 : l0_10.length ≤ c0_10) (h : bins_shaped.f a0_0 a0_1 a0_2 a0_3 a0_4 a0_5 a0_6 a0_7 a0_8 l0_9 l0_10 = some r) :
  Calls Try.prog 67 #[.agg #[.int .i64 a0_0,.int .i64 a0_1,.int .i64 a0_2,.int .i64 a0_3,.int .i64 a0_4,.int .i64 a0_5,.int .i64 a0_6,.int .i64 a0_7,.int .i64 a0_8,.slice A0_9 l0_9.length c0_9,.slice A0_10 l0_10.length c0_10]] w fun e w'=>e = .returned (.bool r) ∧ Below w.heap.size w w':=by
 have hu32:=Try.underlying32
 have HR0_9:=Aside0.mk hr0_9
 have HC0_9:=Aside0.mk hc0_9
 clear hr0_9 hc0_9
 have HR0_10:=Aside0.mk hr0_10
 have HC0_10:=Aside0.mk hc0_10
 clear hr0_10 hc0_10
 have HB:=Aside0.mk (Below.refl w.heap.size w)
 have H : ((bins_count.f a0_7).bind fun t134=>(if t134 = true then ((bins_count.f a0_8).bind fun t135=>(if t135 = true then (some ((l0_9.length : Int) == (wrap64 (a0_7 * a0_8)))) else (some false))) else (some false))) = some r:=h
 clear h
 replace H:=Option.bind_eq_some_iff.mp H
 obtain ⟨t134,A20,H⟩:=H
 replace H : (if t134 = true then ((bins_count.f a0_8).bind fun t135=>(if t135 = true then (some ((l0_9.length : Int) == (wrap64 (a0_7 * a0_8)))) else (some false))) else (some false)) = some r:=H
 have A2:=Aside0.mk A20
 clear A20
 by_cases c3 : t134 = true
 ·subst c3
  have H1 : ((bins_count.f a0_8).bind fun t135=>(if t135 = true then (some ((l0_9.length : Int) == (wrap64 (a0_7 * a0_8)))) else (some false))) = some r:=by rw [if_pos rfl] at H;exact H
  clear H
  have H:=H1
  clear H1
  replace H:=Option.bind_eq_some_iff.mp H
  obtain ⟨t135,A40,H⟩:=H
  replace H : (if t135 = true then (some ((l0_9.length : Int) == (wrap64 (a0_7 * a0_8)))) else (some false)) = some r:=H
  have A4:=Aside0.mk A40
  clear A40
  by_cases c5 : t135 = true
  ·subst c5
   have H1 : (some ((l0_9.length : Int) == (wrap64 (a0_7 * a0_8)))) = some r:=by rw [if_pos rfl] at H;exact H
   clear H
   have H:=H1
   clear H1
   obtain rfl:=Option.some.inj H
   go_enter Try.func67,Try.ntmps67
   go_wp2_with (first|((with_reducible refine gate_dst (N:=1) rfl ?_);(try (refine gate_guard (by rfl) ?_;dsimp only));refine box_event ?hg (N:=1) ?hd (cs:=#[.int .i64 a0_0,.int .i64 a0_1,.int .i64 a0_2,.int .i64 a0_3,.int .i64 a0_4,.int .i64 a0_5,.int .i64 a0_6,.int .i64 a0_7,.int .i64 a0_8,.slice A0_9 l0_9.length c0_9,.slice A0_10 l0_10.length c0_10]) (t:=32) ?hr ?_;(case hd=>rfl);(case hg=>rfl);(case hr=>first|(go_simp;done)|(go_simp;rfl));intro gb133 hg w6 hbox hb;have n0_:=Aside0.mk (below_step (by repeat(first|(with_reducible first|exact HB.out|apply below_alloc|apply pw_below_drewN|apply below_drew1)|exact HB.out)) hb);have n1_:=Aside0.mk (hbox);have n2_:=Aside0.mk ((by rw [hg];exact (below_size (by repeat(first|(with_reducible first|exact HB.out|apply below_alloc|apply pw_below_drewN|apply below_drew1)|exact HB.out))) : w.heap.size ≤ gb133));have n3_:=Aside0.mk ((by rw [hg];exact (below_size (by repeat(first|(with_reducible first|exact HB.out|apply below_alloc|apply pw_below_drewN|apply below_drew1)|exact HB.out))) : w.heap.size ≤ gb133));clear HB;have HB:=n0_;have BK133:=n1_;have GW133:=n2_;have GE133:=n3_;clear n0_ n1_ n2_ n3_;clear hb hbox hg;have hcz7_0 : w6.cell? ⟨gb133,0,none⟩ = some (.int .i64 a0_0):=(blk_cell BK133.out 0).trans rfl;have hcz7_1 : w6.cell? ⟨gb133,1,none⟩ = some (.int .i64 a0_1):=(blk_cell BK133.out 1).trans rfl;have hcz7_2 : w6.cell? ⟨gb133,2,none⟩ = some (.int .i64 a0_2):=(blk_cell BK133.out 2).trans rfl;have hcz7_3 : w6.cell? ⟨gb133,3,none⟩ = some (.int .i64 a0_3):=(blk_cell BK133.out 3).trans rfl;have hcz7_4 : w6.cell? ⟨gb133,4,none⟩ = some (.int .i64 a0_4):=(blk_cell BK133.out 4).trans rfl;have hcz7_5 : w6.cell? ⟨gb133,5,none⟩ = some (.int .i64 a0_5):=(blk_cell BK133.out 5).trans rfl;have hcz7_6 : w6.cell? ⟨gb133,6,none⟩ = some (.int .i64 a0_6):=(blk_cell BK133.out 6).trans rfl;have hcz7_7 : w6.cell? ⟨gb133,7,none⟩ = some (.int .i64 a0_7):=(blk_cell BK133.out 7).trans rfl;have hcz7_8 : w6.cell? ⟨gb133,8,none⟩ = some (.int .i64 a0_8):=(blk_cell BK133.out 8).trans rfl;have hcz7_9 : w6.cell? ⟨gb133,9,none⟩ = some (.slice A0_9 l0_9.length c0_9):=(blk_cell BK133.out 9).trans rfl;have hcz7_10 : w6.cell? ⟨gb133,10,none⟩ = some (.slice A0_10 l0_10.length c0_10):=(blk_cell BK133.out 10).trans rfl;have hfz7_0:=blk_frozen BK133.out 0;have hfz7_1:=blk_frozen BK133.out 1;have hfz7_2:=blk_frozen BK133.out 2;have hfz7_3:=blk_frozen BK133.out 3;have hfz7_4:=blk_frozen BK133.out 4;have hfz7_5:=blk_frozen BK133.out 5;have hfz7_6:=blk_frozen BK133.out 6;have hfz7_7:=blk_frozen BK133.out 7;have hfz7_8:=blk_frozen BK133.out 8;have hfz7_9:=blk_frozen BK133.out 9;have hfz7_10:=blk_frozen BK133.out 10)|((with_reducible refine gate_callee (f:=75) rfl ?_);refine goesL_ (some 5) rfl rfl Try.func75 (by kernel_rfl) rfl #[.int .i64 a0_7] rfl (by (try simp only [List.map_toArray,List.map_cons,List.map_nil]);first|done|rfl|(simp only [List.length_drop,List.length_take];rfl)) ?_;(with_reducible refine (bins_count.calls a0_7 true _ A2.out).mono ?_);rintro e w' ⟨rfl,⟨nd,rfl⟩⟩;refine ⟨_,rfl,?_⟩)|(go_at_call 75;(with_reducible refine (bins_count.calls a0_8 true _ A4.out).mono ?_);rintro e w' ⟨rfl,⟨nd,rfl⟩⟩))
   go_ret
   exact ⟨by first|rfl|(simp [errW_none,errW_some] <;> rfl)|(simp [*,errW_none,errW_some] <;> rfl),by repeat(first|(with_reducible first|exact HB.out|apply below_alloc|apply pw_below_drewN|apply below_drew1|refine below_set ?_ GE133.out)|exact HB.out)⟩
  ·replace c5:=Bool.eq_false_iff.mpr c5
   subst c5
   have H1 : (some false) = some r:=by rw [if_neg (show ¬ (false = true) by decide)] at H;exact H
   clear H
   have H:=H1
   clear H1
   obtain rfl:=Option.some.inj H
   go_enter Try.func67,Try.ntmps67
   go_wp2_with (first|((with_reducible refine gate_dst (N:=1) rfl ?_);(try (refine gate_guard (by rfl) ?_;dsimp only));refine box_event ?hg (N:=1) ?hd (cs:=#[.int .i64 a0_0,.int .i64 a0_1,.int .i64 a0_2,.int .i64 a0_3,.int .i64 a0_4,.int .i64 a0_5,.int .i64 a0_6,.int .i64 a0_7,.int .i64 a0_8,.slice A0_9 l0_9.length c0_9,.slice A0_10 l0_10.length c0_10]) (t:=32) ?hr ?_;(case hd=>rfl);(case hg=>rfl);(case hr=>first|(go_simp;done)|(go_simp;rfl));intro gb133 hg w8 hbox hb;have n0_:=Aside0.mk (below_step (by repeat(first|(with_reducible first|exact HB.out|apply below_alloc|apply pw_below_drewN|apply below_drew1)|exact HB.out)) hb);have n1_:=Aside0.mk (hbox);have n2_:=Aside0.mk ((by rw [hg];exact (below_size (by repeat(first|(with_reducible first|exact HB.out|apply below_alloc|apply pw_below_drewN|apply below_drew1)|exact HB.out))) : w.heap.size ≤ gb133));have n3_:=Aside0.mk ((by rw [hg];exact (below_size (by repeat(first|(with_reducible first|exact HB.out|apply below_alloc|apply pw_below_drewN|apply below_drew1)|exact HB.out))) : w.heap.size ≤ gb133));clear HB;have HB:=n0_;have BK133:=n1_;have GW133:=n2_;have GE133:=n3_;clear n0_ n1_ n2_ n3_;clear hb hbox hg;have hcz9_0 : w8.cell? ⟨gb133,0,none⟩ = some (.int .i64 a0_0):=(blk_cell BK133.out 0).trans rfl;have hcz9_1 : w8.cell? ⟨gb133,1,none⟩ = some (.int .i64 a0_1):=(blk_cell BK133.out 1).trans rfl;have hcz9_2 : w8.cell? ⟨gb133,2,none⟩ = some (.int .i64 a0_2):=(blk_cell BK133.out 2).trans rfl;have hcz9_3 : w8.cell? ⟨gb133,3,none⟩ = some (.int .i64 a0_3):=(blk_cell BK133.out 3).trans rfl;have hcz9_4 : w8.cell? ⟨gb133,4,none⟩ = some (.int .i64 a0_4):=(blk_cell BK133.out 4).trans rfl;have hcz9_5 : w8.cell? ⟨gb133,5,none⟩ = some (.int .i64 a0_5):=(blk_cell BK133.out 5).trans rfl;have hcz9_6 : w8.cell? ⟨gb133,6,none⟩ = some (.int .i64 a0_6):=(blk_cell BK133.out 6).trans rfl;have hcz9_7 : w8.cell? ⟨gb133,7,none⟩ = some (.int .i64 a0_7):=(blk_cell BK133.out 7).trans rfl;have hcz9_8 : w8.cell? ⟨gb133,8,none⟩ = some (.int .i64 a0_8):=(blk_cell BK133.out 8).trans rfl;have hcz9_9 : w8.cell? ⟨gb133,9,none⟩ = some (.slice A0_9 l0_9.length c0_9):=(blk_cell BK133.out 9).trans rfl;have hcz9_10 : w8.cell? ⟨gb133,10,none⟩ = some (.slice A0_10 l0_10.length c0_10):=(blk_cell BK133.out 10).trans rfl;have hfz9_0:=blk_frozen BK133.out 0;have hfz9_1:=blk_frozen BK133.out 1;have hfz9_2:=blk_frozen BK133.out 2;have hfz9_3:=blk_frozen BK133.out 3;have hfz9_4:=blk_frozen BK133.out 4;have hfz9_5:=blk_frozen BK133.out 5;have hfz9_6:=blk_frozen BK133.out 6;have hfz9_7:=blk_frozen BK133.out 7;have hfz9_8:=blk_frozen BK133.out 8;have hfz9_9:=blk_frozen BK133.out 9;have hfz9_10:=blk_frozen BK133.out 10)|((with_reducible refine gate_callee (f:=75) rfl ?_);refine goesL_ (some 5) rfl rfl Try.func75 (by kernel_rfl) rfl #[.int .i64 a0_7] rfl (by (try simp only [List.map_toArray,List.map_cons,List.map_nil]);first|done|rfl|(simp only [List.length_drop,List.length_take];rfl)) ?_;(with_reducible refine (bins_count.calls a0_7 true _ A2.out).mono ?_);rintro e w' ⟨rfl,⟨nd,rfl⟩⟩;refine ⟨_,rfl,?_⟩)|(go_at_call 75;(with_reducible refine (bins_count.calls a0_8 false _ A4.out).mono ?_);rintro e w' ⟨rfl,⟨nd,rfl⟩⟩))
   go_ret
   exact ⟨by first|rfl|(simp [errW_none,errW_some] <;> rfl)|(simp [*,errW_none,errW_some] <;> rfl),by repeat(first|(with_reducible first|exact HB.out|apply below_alloc|apply pw_below_drewN|apply below_drew1|refine below_set ?_ GE133.out)|exact HB.out)⟩
 ·replace c3:=Bool.eq_false_iff.mpr c3
  subst c3
  have H1 : (some false) = some r:=by rw [if_neg (show ¬ (false = true) by decide)] at H;exact H
  clear H
  have H:=H1
  clear H1
  obtain rfl:=Option.some.inj H
  go_enter Try.func67,Try.ntmps67
  go_wp2_with (first|((with_reducible refine gate_dst (N:=1) rfl ?_);(try (refine gate_guard (by rfl) ?_;dsimp only));refine box_event ?hg (N:=1) ?hd (cs:=#[.int .i64 a0_0,.int .i64 a0_1,.int .i64 a0_2,.int .i64 a0_3,.int .i64 a0_4,.int .i64 a0_5,.int .i64 a0_6,.int .i64 a0_7,.int .i64 a0_8,.slice A0_9 l0_9.length c0_9,.slice A0_10 l0_10.length c0_10]) (t:=32) ?hr ?_;(case hd=>rfl);(case hg=>rfl);(case hr=>first|(go_simp;done)|(go_simp;rfl));intro gb133 hg w10 hbox hb;have n0_:=Aside0.mk (below_step (by repeat(first|(with_reducible first|exact HB.out|apply below_alloc|apply pw_below_drewN|apply below_drew1)|exact HB.out)) hb);have n1_:=Aside0.mk (hbox);have n2_:=Aside0.mk ((by rw [hg];exact (below_size (by repeat(first|(with_reducible first|exact HB.out|apply below_alloc|apply pw_below_drewN|apply below_drew1)|exact HB.out))) : w.heap.size ≤ gb133));have n3_:=Aside0.mk ((by rw [hg];exact (below_size (by repeat(first|(with_reducible first|exact HB.out|apply below_alloc|apply pw_below_drewN|apply below_drew1)|exact HB.out))) : w.heap.size ≤ gb133));clear HB;have HB:=n0_;have BK133:=n1_;have GW133:=n2_;have GE133:=n3_;clear n0_ n1_ n2_ n3_;clear hb hbox hg;have hcz11_0 : w10.cell? ⟨gb133,0,none⟩ = some (.int .i64 a0_0):=(blk_cell BK133.out 0).trans rfl;have hcz11_1 : w10.cell? ⟨gb133,1,none⟩ = some (.int .i64 a0_1):=(blk_cell BK133.out 1).trans rfl;have hcz11_2 : w10.cell? ⟨gb133,2,none⟩ = some (.int .i64 a0_2):=(blk_cell BK133.out 2).trans rfl;have hcz11_3 : w10.cell? ⟨gb133,3,none⟩ = some (.int .i64 a0_3):=(blk_cell BK133.out 3).trans rfl;have hcz11_4 : w10.cell? ⟨gb133,4,none⟩ = some (.int .i64 a0_4):=(blk_cell BK133.out 4).trans rfl;have hcz11_5 : w10.cell? ⟨gb133,5,none⟩ = some (.int .i64 a0_5):=(blk_cell BK133.out 5).trans rfl;have hcz11_6 : w10.cell? ⟨gb133,6,none⟩ = some (.int .i64 a0_6):=(blk_cell BK133.out 6).trans rfl;have hcz11_7 : w10.cell? ⟨gb133,7,none⟩ = some (.int .i64 a0_7):=(blk_cell BK133.out 7).trans rfl;have hcz11_8 : w10.cell? ⟨gb133,8,none⟩ = some (.int .i64 a0_8):=(blk_cell BK133.out 8).trans rfl;have hcz11_9 : w10.cell? ⟨gb133,9,none⟩ = some (.slice A0_9 l0_9.length c0_9):=(blk_cell BK133.out 9).trans rfl;have hcz11_10 : w10.cell? ⟨gb133,10,none⟩ = some (.slice A0_10 l0_10.length c0_10):=(blk_cell BK133.out 10).trans rfl;have hfz11_0:=blk_frozen BK133.out 0;have hfz11_1:=blk_frozen BK133.out 1;have hfz11_2:=blk_frozen BK133.out 2;have hfz11_3:=blk_frozen BK133.out 3;have hfz11_4:=blk_frozen BK133.out 4;have hfz11_5:=blk_frozen BK133.out 5;have hfz11_6:=blk_frozen BK133.out 6;have hfz11_7:=blk_frozen BK133.out 7;have hfz11_8:=blk_frozen BK133.out 8;have hfz11_9:=blk_frozen BK133.out 9;have hfz11_10:=blk_frozen BK133.out 10)|((with_reducible refine gate_callee (f:=75) rfl ?_);refine goesL_ (some 5) rfl rfl Try.func75 (by kernel_rfl) rfl #[.int .i64 a0_7] rfl (by (try simp only [List.map_toArray,List.map_cons,List.map_nil]);first|done|rfl|(simp only [List.length_drop,List.length_take];rfl)) ?_;(with_reducible refine (bins_count.calls a0_7 false _ A2.out).mono ?_);rintro e w' ⟨rfl,⟨nd,rfl⟩⟩;refine ⟨_,rfl,?_⟩))
  go_ret
  exact ⟨by first|rfl|(simp [errW_none,errW_some] <;> rfl)|(simp [*,errW_none,errW_some] <;> rfl),by repeat(first|(with_reducible first|exact HB.out|apply below_alloc|apply pw_below_drewN|apply below_drew1|refine below_set ?_ GE133.out)|exact HB.out)⟩



/-! ### rank_Missing: function 93 -/
def rank_Missing.f (a0 : Nat) : Option (Bool):=some (!(Flt.eq a0 a0))
set_option maxHeartbeats 8000000 in
set_option maxRecDepth 100000 in
theorem rank_Missing.calls (a0 : Nat) (r : Bool) (w : World) (h : rank_Missing.f a0 = some r) :
  Calls Try.prog 93 #[.float .f64 a0] w fun e w'=>e = .returned (.bool r) ∧ Drawn0 w w':=by
 have H : (some (!(Flt.eq a0 a0))) = some r:=h
 clear h
 obtain rfl:=Option.some.inj H
 go_enter Try.func93,Try.ntmps93
 go_wp2
 go_ret
 exact ⟨by first|rfl|(simp;done)|(simp [*];done),by repeat(first|exact Drawn0.refl _|apply Drawn0.step)⟩

/-! ### rank_Clean: function 79 -/
def rank_Clean.f (a0 : Nat) : Option (Nat):=(rank_Missing.f a0).bind fun t136=>(if t136 = true then (some (Flt.fbits 9221120237041090561)) else (if (Flt.eq a0 0) = true then (some 0) else (some a0)))
set_option maxHeartbeats 8000000 in
set_option maxRecDepth 100000 in
theorem rank_Clean.calls (a0 : Nat) (r : Nat) (w : World) (h : rank_Clean.f a0 = some r) :
  Calls Try.prog 79 #[.float .f64 a0] w fun e w'=>e = .returned (.float .f64 r) ∧ Drawn0 w w':=by
 have H : ((rank_Missing.f a0).bind fun t136=>(if t136 = true then (some (Flt.fbits 9221120237041090561)) else (if (Flt.eq a0 0) = true then (some 0) else (some a0)))) = some r:=h
 clear h
 replace H:=Option.bind_eq_some_iff.mp H
 obtain ⟨t136,A20,H⟩:=H
 replace H : (if t136 = true then (some (Flt.fbits 9221120237041090561)) else (if (Flt.eq a0 0) = true then (some 0) else (some a0))) = some r:=H
 have A2:=Aside0.mk A20
 clear A20
 by_cases c3 : t136 = true
 ·subst c3
  have H1 : (some (Flt.fbits 9221120237041090561)) = some r:=by rw [if_pos rfl] at H;exact H
  clear H
  have H:=H1
  clear H1
  obtain rfl:=Option.some.inj H
  go_enter Try.func79,Try.ntmps79
  go_wp2_with (first|((with_reducible refine gate_callee (f:=93) rfl ?_);refine goesL_ (some 5) rfl rfl Try.func93 (by kernel_rfl) rfl #[.float .f64 a0] rfl (by (try simp only [List.map_toArray,List.map_cons,List.map_nil]);first|done|rfl|(simp only [List.length_drop,List.length_take];rfl)) ?_;(with_reducible refine (rank_Missing.calls a0 true _ A2.out).mono ?_);rintro e w' ⟨rfl,⟨nd,rfl⟩⟩;refine ⟨_,rfl,?_⟩))
  go_ret
  exact ⟨by first|rfl|(simp;done)|(simp [*];done),by repeat(first|exact Drawn0.refl _|apply Drawn0.step)⟩
 ·replace c3:=Bool.eq_false_iff.mpr c3
  subst c3
  have H1 : (if (Flt.eq a0 0) = true then (some 0) else (some a0)) = some r:=by rw [if_neg (show ¬ (false = true) by decide)] at H;exact H
  clear H
  have H:=H1
  clear H1
  by_cases c4 : (Flt.eq a0 0) = true
  ·rw [if_pos c4] at H
   have c4b0 : (Flt.eq a0 0) = true:=c4
   clear c4
   obtain rfl:=Option.some.inj H
   go_enter Try.func79,Try.ntmps79
   go_wp2_with (first|((with_reducible refine gate_callee (f:=93) rfl ?_);refine goesL_ (some 5) rfl rfl Try.func93 (by kernel_rfl) rfl #[.float .f64 a0] rfl (by (try simp only [List.map_toArray,List.map_cons,List.map_nil]);first|done|rfl|(simp only [List.length_drop,List.length_take];rfl)) ?_;(with_reducible refine (rank_Missing.calls a0 false _ A2.out).mono ?_);rintro e w' ⟨rfl,⟨nd,rfl⟩⟩;refine ⟨_,rfl,?_⟩))
   go_ret
   exact ⟨by first|rfl|(simp;done)|(simp [*];done),by repeat(first|exact Drawn0.refl _|apply Drawn0.step)⟩
  ·rw [if_neg c4] at H
   have c4b0 : (Flt.eq a0 0) = false:=by simpa using c4
   clear c4
   obtain rfl:=Option.some.inj H
   go_enter Try.func79,Try.ntmps79
   go_wp2_with (first|((with_reducible refine gate_callee (f:=93) rfl ?_);refine goesL_ (some 5) rfl rfl Try.func93 (by kernel_rfl) rfl #[.float .f64 a0] rfl (by (try simp only [List.map_toArray,List.map_cons,List.map_nil]);first|done|rfl|(simp only [List.length_drop,List.length_take];rfl)) ?_;(with_reducible refine (rank_Missing.calls a0 false _ A2.out).mono ?_);rintro e w' ⟨rfl,⟨nd,rfl⟩⟩;refine ⟨_,rfl,?_⟩))
   go_ret
   exact ⟨by first|rfl|(simp;done)|(simp [*];done),by repeat(first|exact Drawn0.refl _|apply Drawn0.step)⟩

/-! ### cmp_isNaN_uint64: function 105 -/
def cmp_isNaN_uint64.f (a0 : Int) : Option (Bool):=some (a0 != a0)
set_option maxHeartbeats 8000000 in
set_option maxRecDepth 100000 in
theorem cmp_isNaN_uint64.calls (a0 : Int) (r : Bool) (w : World) (h : cmp_isNaN_uint64.f a0 = some r) :
  Calls Try.prog 105 #[.int .u64 a0] w fun e w'=>e = .returned (.bool r) ∧ Drawn0 w w':=by
 have H : (some (a0 != a0)) = some r:=h
 clear h
 obtain rfl:=Option.some.inj H
 go_enter Try.func105,Try.ntmps105
 go_wp2
 go_ret
 exact ⟨by first|rfl|(simp;done)|(simp [*];done),by repeat(first|exact Drawn0.refl _|apply Drawn0.step)⟩

/-! ### cmp_Compare_uint64: function 100 -/
def cmp_Compare_uint64.f (a0 : Int) (a1 : Int) : Option (Int):=(cmp_isNaN_uint64.f a0).bind fun t137=>((cmp_isNaN_uint64.f a1).bind fun t138=>(if t137 = true then (if t138 = true then (some 0) else (some (-1))) else (if t138 = true then (some 1) else (if a0 < a1 then (some (-1)) else (if a0 > a1 then (some 1) else (some 0))))))
set_option maxHeartbeats 8000000 in
set_option maxRecDepth 100000 in
theorem cmp_Compare_uint64.calls (a0 : Int) (a1 : Int) (r : Int) (w : World) (h : cmp_Compare_uint64.f a0 a1 = some r) :
  Calls Try.prog 100 #[.int .u64 a0,.int .u64 a1] w fun e w'=>e = .returned (.int .i64 r) ∧ Drawn0 w w':=by
 have H : ((cmp_isNaN_uint64.f a0).bind fun t137=>((cmp_isNaN_uint64.f a1).bind fun t138=>(if t137 = true then (if t138 = true then (some 0) else (some (-1))) else (if t138 = true then (some 1) else (if a0 < a1 then (some (-1)) else (if a0 > a1 then (some 1) else (some 0))))))) = some r:=h
 clear h
 replace H:=Option.bind_eq_some_iff.mp H
 obtain ⟨t137,A30,H⟩:=H
 replace H : ((cmp_isNaN_uint64.f a1).bind fun t138=>(if t137 = true then (if t138 = true then (some 0) else (some (-1))) else (if t138 = true then (some 1) else (if a0 < a1 then (some (-1)) else (if a0 > a1 then (some 1) else (some 0)))))) = some r:=H
 have A3:=Aside0.mk A30
 clear A30
 replace H:=Option.bind_eq_some_iff.mp H
 obtain ⟨t138,A40,H⟩:=H
 replace H : (if t137 = true then (if t138 = true then (some 0) else (some (-1))) else (if t138 = true then (some 1) else (if a0 < a1 then (some (-1)) else (if a0 > a1 then (some 1) else (some 0))))) = some r:=H
 have A4:=Aside0.mk A40
 clear A40
 by_cases c5 : t137 = true
 ·subst c5
  have H1 : (if t138 = true then (some 0) else (some (-1))) = some r:=by rw [if_pos rfl] at H;exact H
  clear H
  have H:=H1
  clear H1
  by_cases c6 : t138 = true
  ·subst c6
   have H1 : (some 0) = some r:=by rw [if_pos rfl] at H;exact H
   clear H
   have H:=H1
   clear H1
   obtain rfl:=Option.some.inj H
   go_enter Try.func100,Try.ntmps100
   go_wp2_with (first|((with_reducible refine gate_callee (f:=105) rfl ?_);refine goesL_ (some 8) rfl rfl Try.func105 (by kernel_rfl) rfl #[.int .u64 a0] rfl (by (try simp only [List.map_toArray,List.map_cons,List.map_nil]);first|done|rfl|(simp only [List.length_drop,List.length_take];rfl)) ?_;(with_reducible refine (cmp_isNaN_uint64.calls a0 true _ A3.out).mono ?_);rintro e w' ⟨rfl,⟨nd,rfl⟩⟩;refine ⟨_,rfl,?_⟩)|((with_reducible refine gate_callee (f:=105) rfl ?_);refine goesL_ (some 10) rfl rfl Try.func105 (by kernel_rfl) rfl #[.int .u64 a1] rfl (by (try simp only [List.map_toArray,List.map_cons,List.map_nil]);first|done|rfl|(simp only [List.length_drop,List.length_take];rfl)) ?_;(with_reducible refine (cmp_isNaN_uint64.calls a1 true _ A4.out).mono ?_);rintro e w' ⟨rfl,⟨nd,rfl⟩⟩;refine ⟨_,rfl,?_⟩))
   go_ret
   exact ⟨by first|rfl|(simp;done)|(simp [*];done),by repeat(first|exact Drawn0.refl _|apply Drawn0.step)⟩
  ·replace c6:=Bool.eq_false_iff.mpr c6
   subst c6
   have H1 : (some (-1)) = some r:=by rw [if_neg (show ¬ (false = true) by decide)] at H;exact H
   clear H
   have H:=H1
   clear H1
   obtain rfl:=Option.some.inj H
   go_enter Try.func100,Try.ntmps100
   go_wp2_with (first|((with_reducible refine gate_callee (f:=105) rfl ?_);refine goesL_ (some 8) rfl rfl Try.func105 (by kernel_rfl) rfl #[.int .u64 a0] rfl (by (try simp only [List.map_toArray,List.map_cons,List.map_nil]);first|done|rfl|(simp only [List.length_drop,List.length_take];rfl)) ?_;(with_reducible refine (cmp_isNaN_uint64.calls a0 true _ A3.out).mono ?_);rintro e w' ⟨rfl,⟨nd,rfl⟩⟩;refine ⟨_,rfl,?_⟩)|((with_reducible refine gate_callee (f:=105) rfl ?_);refine goesL_ (some 10) rfl rfl Try.func105 (by kernel_rfl) rfl #[.int .u64 a1] rfl (by (try simp only [List.map_toArray,List.map_cons,List.map_nil]);first|done|rfl|(simp only [List.length_drop,List.length_take];rfl)) ?_;(with_reducible refine (cmp_isNaN_uint64.calls a1 false _ A4.out).mono ?_);rintro e w' ⟨rfl,⟨nd,rfl⟩⟩;refine ⟨_,rfl,?_⟩))
   go_ret
   exact ⟨by first|rfl|(simp;done)|(simp [*];done),by repeat(first|exact Drawn0.refl _|apply Drawn0.step)⟩
 ·replace c5:=Bool.eq_false_iff.mpr c5
  subst c5
  have H1 : (if t138 = true then (some 1) else (if a0 < a1 then (some (-1)) else (if a0 > a1 then (some 1) else (some 0)))) = some r:=by rw [if_neg (show ¬ (false = true) by decide)] at H;exact H
  clear H
  have H:=H1
  clear H1
  by_cases c7 : t138 = true
  ·subst c7
   have H1 : (some 1) = some r:=by rw [if_pos rfl] at H;exact H
   clear H
   have H:=H1
   clear H1
   obtain rfl:=Option.some.inj H
   go_enter Try.func100,Try.ntmps100
   go_wp2_with (first|((with_reducible refine gate_callee (f:=105) rfl ?_);refine goesL_ (some 8) rfl rfl Try.func105 (by kernel_rfl) rfl #[.int .u64 a0] rfl (by (try simp only [List.map_toArray,List.map_cons,List.map_nil]);first|done|rfl|(simp only [List.length_drop,List.length_take];rfl)) ?_;(with_reducible refine (cmp_isNaN_uint64.calls a0 false _ A3.out).mono ?_);rintro e w' ⟨rfl,⟨nd,rfl⟩⟩;refine ⟨_,rfl,?_⟩)|((with_reducible refine gate_callee (f:=105) rfl ?_);refine goesL_ (some 10) rfl rfl Try.func105 (by kernel_rfl) rfl #[.int .u64 a1] rfl (by (try simp only [List.map_toArray,List.map_cons,List.map_nil]);first|done|rfl|(simp only [List.length_drop,List.length_take];rfl)) ?_;(with_reducible refine (cmp_isNaN_uint64.calls a1 true _ A4.out).mono ?_);rintro e w' ⟨rfl,⟨nd,rfl⟩⟩;refine ⟨_,rfl,?_⟩))
   go_ret
   exact ⟨by first|rfl|(simp;done)|(simp [*];done),by repeat(first|exact Drawn0.refl _|apply Drawn0.step)⟩
  ·replace c7:=Bool.eq_false_iff.mpr c7
   subst c7
   have H1 : (if a0 < a1 then (some (-1)) else (if a0 > a1 then (some 1) else (some 0))) = some r:=by rw [if_neg (show ¬ (false = true) by decide)] at H;exact H
   clear H
   have H:=H1
   clear H1
   by_cases c8 : a0 < a1
   ·rw [if_pos c8] at H
    have c8b0 : decide (a0 < a1) = true:=decide_eq_true c8
    clear c8
    obtain rfl:=Option.some.inj H
    go_enter Try.func100,Try.ntmps100
    go_wp2_with (first|((with_reducible refine gate_callee (f:=105) rfl ?_);refine goesL_ (some 8) rfl rfl Try.func105 (by kernel_rfl) rfl #[.int .u64 a0] rfl (by (try simp only [List.map_toArray,List.map_cons,List.map_nil]);first|done|rfl|(simp only [List.length_drop,List.length_take];rfl)) ?_;(with_reducible refine (cmp_isNaN_uint64.calls a0 false _ A3.out).mono ?_);rintro e w' ⟨rfl,⟨nd,rfl⟩⟩;refine ⟨_,rfl,?_⟩)|((with_reducible refine gate_callee (f:=105) rfl ?_);refine goesL_ (some 10) rfl rfl Try.func105 (by kernel_rfl) rfl #[.int .u64 a1] rfl (by (try simp only [List.map_toArray,List.map_cons,List.map_nil]);first|done|rfl|(simp only [List.length_drop,List.length_take];rfl)) ?_;(with_reducible refine (cmp_isNaN_uint64.calls a1 false _ A4.out).mono ?_);rintro e w' ⟨rfl,⟨nd,rfl⟩⟩;refine ⟨_,rfl,?_⟩))
    go_ret
    exact ⟨by first|rfl|(simp;done)|(simp [*];done),by repeat(first|exact Drawn0.refl _|apply Drawn0.step)⟩
   ·rw [if_neg c8] at H
    have c8b0 : decide (a0 < a1) = false:=decide_eq_false c8
    clear c8
    by_cases c9 : a0 > a1
    ·rw [if_pos c9] at H
     have c9b0 : decide (a1 < a0) = true:=decide_eq_true c9
     clear c9
     obtain rfl:=Option.some.inj H
     go_enter Try.func100,Try.ntmps100
     go_wp2_with (first|((with_reducible refine gate_callee (f:=105) rfl ?_);refine goesL_ (some 8) rfl rfl Try.func105 (by kernel_rfl) rfl #[.int .u64 a0] rfl (by (try simp only [List.map_toArray,List.map_cons,List.map_nil]);first|done|rfl|(simp only [List.length_drop,List.length_take];rfl)) ?_;(with_reducible refine (cmp_isNaN_uint64.calls a0 false _ A3.out).mono ?_);rintro e w' ⟨rfl,⟨nd,rfl⟩⟩;refine ⟨_,rfl,?_⟩)|((with_reducible refine gate_callee (f:=105) rfl ?_);refine goesL_ (some 10) rfl rfl Try.func105 (by kernel_rfl) rfl #[.int .u64 a1] rfl (by (try simp only [List.map_toArray,List.map_cons,List.map_nil]);first|done|rfl|(simp only [List.length_drop,List.length_take];rfl)) ?_;(with_reducible refine (cmp_isNaN_uint64.calls a1 false _ A4.out).mono ?_);rintro e w' ⟨rfl,⟨nd,rfl⟩⟩;refine ⟨_,rfl,?_⟩))
     go_ret
     exact ⟨by first|rfl|(simp;done)|(simp [*];done),by repeat(first|exact Drawn0.refl _|apply Drawn0.step)⟩
    ·rw [if_neg c9] at H
     have c9b0 : decide (a1 < a0) = false:=decide_eq_false c9
     clear c9
     obtain rfl:=Option.some.inj H
     go_enter Try.func100,Try.ntmps100
     go_wp2_with (first|((with_reducible refine gate_callee (f:=105) rfl ?_);refine goesL_ (some 8) rfl rfl Try.func105 (by kernel_rfl) rfl #[.int .u64 a0] rfl (by (try simp only [List.map_toArray,List.map_cons,List.map_nil]);first|done|rfl|(simp only [List.length_drop,List.length_take];rfl)) ?_;(with_reducible refine (cmp_isNaN_uint64.calls a0 false _ A3.out).mono ?_);rintro e w' ⟨rfl,⟨nd,rfl⟩⟩;refine ⟨_,rfl,?_⟩)|((with_reducible refine gate_callee (f:=105) rfl ?_);refine goesL_ (some 10) rfl rfl Try.func105 (by kernel_rfl) rfl #[.int .u64 a1] rfl (by (try simp only [List.map_toArray,List.map_cons,List.map_nil]);first|done|rfl|(simp only [List.length_drop,List.length_take];rfl)) ?_;(with_reducible refine (cmp_isNaN_uint64.calls a1 false _ A4.out).mono ?_);rintro e w' ⟨rfl,⟨nd,rfl⟩⟩;refine ⟨_,rfl,?_⟩))
     go_ret
     exact ⟨by first|rfl|(simp;done)|(simp [*];done),by repeat(first|exact Drawn0.refl _|apply Drawn0.step)⟩


/-! ### rank_Key: function 101 -/
def rank_Key.f (a0 : Nat) : Option (Int):=(rank_Missing.f a0).bind fun t139=>(if t139 = true then (some 0) else ((rank_Clean.f a0).bind fun t140=>(if (Go.bits .and .u64 (Flt.ubits t140) 9223372036854775808) = 0 then (some (Go.bits .or .u64 (Flt.ubits t140) 9223372036854775808)) else (some (Go.bits .xor .u64 18446744073709551615 (Flt.ubits t140))))))
set_option maxHeartbeats 8000000 in
set_option maxRecDepth 100000 in
theorem rank_Key.calls (a0 : Nat) (r : Int) (w : World) (h : rank_Key.f a0 = some r) :
  Calls Try.prog 101 #[.float .f64 a0] w fun e w'=>e = .returned (.int .u64 r) ∧ Drawn0 w w':=by
 have H : ((rank_Missing.f a0).bind fun t139=>(if t139 = true then (some 0) else ((rank_Clean.f a0).bind fun t140=>(if (Go.bits .and .u64 (Flt.ubits t140) 9223372036854775808) = 0 then (some (Go.bits .or .u64 (Flt.ubits t140) 9223372036854775808)) else (some (Go.bits .xor .u64 18446744073709551615 (Flt.ubits t140))))))) = some r:=h
 clear h
 replace H:=Option.bind_eq_some_iff.mp H
 obtain ⟨t139,A20,H⟩:=H
 replace H : (if t139 = true then (some 0) else ((rank_Clean.f a0).bind fun t140=>(if (Go.bits .and .u64 (Flt.ubits t140) 9223372036854775808) = 0 then (some (Go.bits .or .u64 (Flt.ubits t140) 9223372036854775808)) else (some (Go.bits .xor .u64 18446744073709551615 (Flt.ubits t140)))))) = some r:=H
 have A2:=Aside0.mk A20
 clear A20
 by_cases c3 : t139 = true
 ·subst c3
  have H1 : (some 0) = some r:=by rw [if_pos rfl] at H;exact H
  clear H
  have H:=H1
  clear H1
  obtain rfl:=Option.some.inj H
  go_enter Try.func101,Try.ntmps101
  go_wp2_with (first|((with_reducible refine gate_callee (f:=93) rfl ?_);refine goesL_ (some 5) rfl rfl Try.func93 (by kernel_rfl) rfl #[.float .f64 a0] rfl (by (try simp only [List.map_toArray,List.map_cons,List.map_nil]);first|done|rfl|(simp only [List.length_drop,List.length_take];rfl)) ?_;(with_reducible refine (rank_Missing.calls a0 true _ A2.out).mono ?_);rintro e w' ⟨rfl,⟨nd,rfl⟩⟩;refine ⟨_,rfl,?_⟩))
  go_ret
  exact ⟨by first|rfl|(simp;done)|(simp [*];done),by repeat(first|exact Drawn0.refl _|apply Drawn0.step)⟩
 ·replace c3:=Bool.eq_false_iff.mpr c3
  subst c3
  have H1 : ((rank_Clean.f a0).bind fun t140=>(if (Go.bits .and .u64 (Flt.ubits t140) 9223372036854775808) = 0 then (some (Go.bits .or .u64 (Flt.ubits t140) 9223372036854775808)) else (some (Go.bits .xor .u64 18446744073709551615 (Flt.ubits t140))))) = some r:=by rw [if_neg (show ¬ (false = true) by decide)] at H;exact H
  clear H
  have H:=H1
  clear H1
  replace H:=Option.bind_eq_some_iff.mp H
  obtain ⟨t140,A40,H⟩:=H
  replace H : (if (Go.bits .and .u64 (Flt.ubits t140) 9223372036854775808) = 0 then (some (Go.bits .or .u64 (Flt.ubits t140) 9223372036854775808)) else (some (Go.bits .xor .u64 18446744073709551615 (Flt.ubits t140)))) = some r:=H
  have A4:=Aside0.mk A40
  clear A40
  by_cases c5 : (Go.bits .and .u64 (Flt.ubits t140) 9223372036854775808) = 0
  ·rw [if_pos c5] at H
   have c5b0 : ((Go.bits .and .u64 (Flt.ubits t140) 9223372036854775808) == 0) = true:=beq_iff_eq.mpr c5
   have c5b1 : ((Go.bits .and .u64 (Flt.ubits t140) 9223372036854775808) != 0) = false:=bne_eq_false_iff_eq.mpr c5
   clear c5
   obtain rfl:=Option.some.inj H
   go_enter Try.func101,Try.ntmps101
   go_wp2_with (first|((with_reducible refine gate_callee (f:=93) rfl ?_);refine goesL_ (some 5) rfl rfl Try.func93 (by kernel_rfl) rfl #[.float .f64 a0] rfl (by (try simp only [List.map_toArray,List.map_cons,List.map_nil]);first|done|rfl|(simp only [List.length_drop,List.length_take];rfl)) ?_;(with_reducible refine (rank_Missing.calls a0 false _ A2.out).mono ?_);rintro e w' ⟨rfl,⟨nd,rfl⟩⟩;refine ⟨_,rfl,?_⟩)|((with_reducible refine gate_callee (f:=79) rfl ?_);refine goesL_ (some 7) rfl rfl Try.func79 (by kernel_rfl) rfl #[.float .f64 a0] rfl (by (try simp only [List.map_toArray,List.map_cons,List.map_nil]);first|done|rfl|(simp only [List.length_drop,List.length_take];rfl)) ?_;(with_reducible refine (rank_Clean.calls a0 t140 _ A4.out).mono ?_);rintro e w' ⟨rfl,⟨nd,rfl⟩⟩;refine ⟨_,rfl,?_⟩))
   go_ret
   exact ⟨by first|rfl|(simp;done)|(simp [*];done),by repeat(first|exact Drawn0.refl _|apply Drawn0.step)⟩
  ·rw [if_neg c5] at H
   have c5b0 : ((Go.bits .and .u64 (Flt.ubits t140) 9223372036854775808) == 0) = false:=beq_eq_false_iff_ne.mpr c5
   have c5b1 : ((Go.bits .and .u64 (Flt.ubits t140) 9223372036854775808) != 0) = true:=bne_iff_ne.mpr c5
   obtain rfl:=Option.some.inj H
   go_enter Try.func101,Try.ntmps101
   go_wp2_with (first|((with_reducible refine gate_callee (f:=93) rfl ?_);refine goesL_ (some 5) rfl rfl Try.func93 (by kernel_rfl) rfl #[.float .f64 a0] rfl (by (try simp only [List.map_toArray,List.map_cons,List.map_nil]);first|done|rfl|(simp only [List.length_drop,List.length_take];rfl)) ?_;(with_reducible refine (rank_Missing.calls a0 false _ A2.out).mono ?_);rintro e w' ⟨rfl,⟨nd,rfl⟩⟩;refine ⟨_,rfl,?_⟩)|((with_reducible refine gate_callee (f:=79) rfl ?_);refine goesL_ (some 7) rfl rfl Try.func79 (by kernel_rfl) rfl #[.float .f64 a0] rfl (by (try simp only [List.map_toArray,List.map_cons,List.map_nil]);first|done|rfl|(simp only [List.length_drop,List.length_take];rfl)) ?_;(with_reducible refine (rank_Clean.calls a0 t140 _ A4.out).mono ?_);rintro e w' ⟨rfl,⟨nd,rfl⟩⟩;refine ⟨_,rfl,?_⟩))
   go_ret
   exact ⟨by first|rfl|(simp;done)|(simp [*];done),by repeat(first|exact Drawn0.refl _|apply Drawn0.step)⟩

end Go.Proofs.Ytnagfbadjbkhmaa.PB
