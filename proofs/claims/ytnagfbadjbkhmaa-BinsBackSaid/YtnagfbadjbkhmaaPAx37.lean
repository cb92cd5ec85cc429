import Derived.Test.YtnagfbadjbkhmaaPAx0
import Derived.Test.YtnagfbadjbkhmaaPAx29
namespace Go.Proofs.Ytnagfbadjbkhmaa.PA
open Go.RowKit Go.Proofs.YtnagfbadjbkhmaaW.PrintWords Go.Proofs.YtnagfbadjbkhmaaW.PrintLast Go.Proofs.YtnagfbadjbkhmaaW.PrintMore
attribute [local go_sem] max2_int min2_int max_two min_two max_three min_three max_four min_four   -- for this text's walks alone
attribute [local go_sem high] Flt.fold_eq Flt.fold_ne Flt.fold_lt Flt.fold_gt Flt.fold_le Flt.fold_ge Flt.run_bits Flt.run_frombits
set_option linter.unusedVariables false
set_option linter.unusedSimpArgs false


/-! ### hornbeamlaw11_great: function 32 -/
def hornbeamlaw11_great.f (a0_0 : Int) (a0_1 : Int) (l0_2 : List Int) : Option (Bool):=if (l0_2.length : Int) > 500 then (some true) else (if a0_1 > 1000 then (if a0_0 = 0 then (some ((l0_2.length : Int) == 0)) else (some false)) else (some false))
set_option maxHeartbeats 8000000 in
set_option maxRecDepth 100000 in
theorem hornbeamlaw11_great.calls (a0_0 : Int) (a0_1 : Int) (A0_2 : Option Addr) (c0_2 : Nat) (l0_2 : List Int) (r : Bool) (w : World) (hr0_2 : Kd.C (Kd.int .u16) w A0_2 l0_2.length l0_2) (hc0_2 : l0_2.length ≤ c0_2) (h : hornbeamlaw11_great.f a0_0 a0_1 l0_2 = some r) :
  Calls Try.prog 32 #[.agg #[.int .i64 a0_0,.int .i64 a0_1,.slice A0_2 l0_2.length c0_2]] w fun e w'=>e = .returned (.bool r) ∧ Below w.heap.size w w':=by
 have hu62:=Try.underlying62
 have HR0_2:=Aside0.mk hr0_2
 have HC0_2:=Aside0.mk hc0_2
 clear hr0_2 hc0_2
 have HB:=Aside0.mk (Below.refl w.heap.size w)
 have H : (if (l0_2.length : Int) > 500 then (some true) else (if a0_1 > 1000 then (if a0_0 = 0 then (some ((l0_2.length : Int) == 0)) else (some false)) else (some false))) = some r:=h
 clear h
 by_cases c2 : (l0_2.length : Int) > 500
 ·rw [if_pos c2] at H
  have c2b0 : decide (500 < (l0_2.length : Int)) = true:=decide_eq_true c2
  have c2b1 : decide (500 < l0_2.length) = true:=decide_eq_true (by omega)
  clear c2
  obtain rfl:=Option.some.inj H
  go_enter Try.func32,Try.ntmps32
  go_wp2_with (first|((with_reducible refine gate_dst (N:=1) rfl ?_);(try (refine gate_guard (by rfl) ?_;dsimp only));refine box_event ?hg (N:=1) ?hd (cs:=#[.int .i64 a0_0,.int .i64 a0_1,.slice A0_2 l0_2.length c0_2]) (t:=62) ?hr ?_;(case hd=>rfl);(case hg=>rfl);(case hr=>first|(go_simp;done)|(go_simp;rfl));intro gb660 hg w3 hbox hb;have n0_:=Aside0.mk (below_step (by repeat(first|(with_reducible first|exact HB.out|apply below_alloc|apply pw_below_drewN|apply below_drew1)|exact HB.out)) hb);have n1_:=Aside0.mk (hbox);have n2_:=Aside0.mk ((by rw [hg];exact (below_size (by repeat(first|(with_reducible first|exact HB.out|apply below_alloc|apply pw_below_drewN|apply below_drew1)|exact HB.out))) : w.heap.size ≤ gb660));have n3_:=Aside0.mk ((by rw [hg];exact (below_size (by repeat(first|(with_reducible first|exact HB.out|apply below_alloc|apply pw_below_drewN|apply below_drew1)|exact HB.out))) : w.heap.size ≤ gb660));clear HB;have HB:=n0_;have BK660:=n1_;have GW660:=n2_;have GE660:=n3_;clear n0_ n1_ n2_ n3_;clear hb hbox hg;have hcz4_0 : w3.cell? ⟨gb660,0,none⟩ = some (.int .i64 a0_0):=(blk_cell BK660.out 0).trans rfl;have hcz4_1 : w3.cell? ⟨gb660,1,none⟩ = some (.int .i64 a0_1):=(blk_cell BK660.out 1).trans rfl;have hcz4_2 : w3.cell? ⟨gb660,2,none⟩ = some (.slice A0_2 l0_2.length c0_2):=(blk_cell BK660.out 2).trans rfl;have hfz4_0:=blk_frozen BK660.out 0;have hfz4_1:=blk_frozen BK660.out 1;have hfz4_2:=blk_frozen BK660.out 2))
  go_ret
  exact ⟨by first|rfl|(simp [errW_none,errW_some] <;> rfl)|(simp [*,errW_none,errW_some] <;> rfl),by repeat(first|(with_reducible first|exact HB.out|apply below_alloc|apply pw_below_drewN|apply below_drew1|refine below_set ?_ GE660.out)|exact HB.out)⟩
 ·rw [if_neg c2] at H
  have c2b0 : decide (500 < (l0_2.length : Int)) = false:=decide_eq_false c2
  have c2b1 : decide (500 < l0_2.length) = false:=decide_eq_false (by omega)
  clear c2
  by_cases c5 : a0_1 > 1000
  ·rw [if_pos c5] at H
   have c5b0 : decide (1000 < a0_1) = true:=decide_eq_true c5
   clear c5
   by_cases c6 : a0_0 = 0
   ·rw [if_pos c6] at H
    have c6b0 : (a0_0 == 0) = true:=beq_iff_eq.mpr c6
    have c6b1 : (a0_0 != 0) = false:=bne_eq_false_iff_eq.mpr c6
    clear c6
    obtain rfl:=Option.some.inj H
    go_enter Try.func32,Try.ntmps32
    go_wp2_with (first|((with_reducible refine gate_dst (N:=1) rfl ?_);(try (refine gate_guard (by rfl) ?_;dsimp only));refine box_event ?hg (N:=1) ?hd (cs:=#[.int .i64 a0_0,.int .i64 a0_1,.slice A0_2 l0_2.length c0_2]) (t:=62) ?hr ?_;(case hd=>rfl);(case hg=>rfl);(case hr=>first|(go_simp;done)|(go_simp;rfl));intro gb660 hg w7 hbox hb;have n0_:=Aside0.mk (below_step (by repeat(first|(with_reducible first|exact HB.out|apply below_alloc|apply pw_below_drewN|apply below_drew1)|exact HB.out)) hb);have n1_:=Aside0.mk (hbox);have n2_:=Aside0.mk ((by rw [hg];exact (below_size (by repeat(first|(with_reducible first|exact HB.out|apply below_alloc|apply pw_below_drewN|apply below_drew1)|exact HB.out))) : w.heap.size ≤ gb660));have n3_:=Aside0.mk ((by rw [hg];exact (below_size (by repeat(first|(with_reducible first|exact HB.out|apply below_alloc|apply pw_below_drewN|apply below_drew1)|exact HB.out))) : w.heap.size ≤ gb660));clear HB;have HB:=n0_;have BK660:=n1_;have GW660:=n2_;have GE660:=n3_;clear n0_ n1_ n2_ n3_;clear hb hbox hg;have hcz8_0 : w7.cell? ⟨gb660,0,none⟩ = some (.int .i64 a0_0):=(blk_cell BK660.out 0).trans rfl;have hcz8_1 : w7.cell? ⟨gb660,1,none⟩ = some (.int .i64 a0_1):=(blk_cell BK660.out 1).trans rfl;have hcz8_2 : w7.cell? ⟨gb660,2,none⟩ = some (.slice A0_2 l0_2.length c0_2):=(blk_cell BK660.out 2).trans rfl;have hfz8_0:=blk_frozen BK660.out 0;have hfz8_1:=blk_frozen BK660.out 1;have hfz8_2:=blk_frozen BK660.out 2))
    go_ret
    exact ⟨by first|rfl|(simp [errW_none,errW_some] <;> rfl)|(simp [*,errW_none,errW_some] <;> rfl),by repeat(first|(with_reducible first|exact HB.out|apply below_alloc|apply pw_below_drewN|apply below_drew1|refine below_set ?_ GE660.out)|exact HB.out)⟩
   ·rw [if_neg c6] at H
    have c6b0 : (a0_0 == 0) = false:=beq_eq_false_iff_ne.mpr c6
    have c6b1 : (a0_0 != 0) = true:=bne_iff_ne.mpr c6
    obtain rfl:=Option.some.inj H
    go_enter Try.func32,Try.ntmps32
    go_wp2_with (first|((with_reducible refine gate_dst (N:=1) rfl ?_);(try (refine gate_guard (by rfl) ?_;dsimp only));refine box_event ?hg (N:=1) ?hd (cs:=#[.int .i64 a0_0,.int .i64 a0_1,.slice A0_2 l0_2.length c0_2]) (t:=62) ?hr ?_;(case hd=>rfl);(case hg=>rfl);(case hr=>first|(go_simp;done)|(go_simp;rfl));intro gb660 hg w9 hbox hb;have n0_:=Aside0.mk (below_step (by repeat(first|(with_reducible first|exact HB.out|apply below_alloc|apply pw_below_drewN|apply below_drew1)|exact HB.out)) hb);have n1_:=Aside0.mk (hbox);have n2_:=Aside0.mk ((by rw [hg];exact (below_size (by repeat(first|(with_reducible first|exact HB.out|apply below_alloc|apply pw_below_drewN|apply below_drew1)|exact HB.out))) : w.heap.size ≤ gb660));have n3_:=Aside0.mk ((by rw [hg];exact (below_size (by repeat(first|(with_reducible first|exact HB.out|apply below_alloc|apply pw_below_drewN|apply below_drew1)|exact HB.out))) : w.heap.size ≤ gb660));clear HB;have HB:=n0_;have BK660:=n1_;have GW660:=n2_;have GE660:=n3_;clear n0_ n1_ n2_ n3_;clear hb hbox hg;have hcz10_0 : w9.cell? ⟨gb660,0,none⟩ = some (.int .i64 a0_0):=(blk_cell BK660.out 0).trans rfl;have hcz10_1 : w9.cell? ⟨gb660,1,none⟩ = some (.int .i64 a0_1):=(blk_cell BK660.out 1).trans rfl;have hcz10_2 : w9.cell? ⟨gb660,2,none⟩ = some (.slice A0_2 l0_2.length c0_2):=(blk_cell BK660.out 2).trans rfl;have hfz10_0:=blk_frozen BK660.out 0;have hfz10_1:=blk_frozen BK660.out 1;have hfz10_2:=blk_frozen BK660.out 2))
    go_ret
    exact ⟨by first|rfl|(simp [errW_none,errW_some] <;> rfl)|(simp [*,errW_none,errW_some] <;> rfl),by repeat(first|(with_reducible first|exact HB.out|apply below_alloc|apply pw_below_drewN|apply below_drew1|refine below_set ?_ GE660.out)|exact HB.out)⟩
  ·rw [if_neg c5] at H
   have c5b0 : decide (1000 < a0_1) = false:=decide_eq_false c5
   clear c5
   obtain rfl:=Option.some.inj H
   go_enter Try.func32,Try.ntmps32
   go_wp2_with (first|((with_reducible refine gate_dst (N:=1) rfl ?_);(try (refine gate_guard (by rfl) ?_;dsimp only));refine box_event ?hg (N:=1) ?hd (cs:=#[.int .i64 a0_0,.int .i64 a0_1,.slice A0_2 l0_2.length c0_2]) (t:=62) ?hr ?_;(case hd=>rfl);(case hg=>rfl);(case hr=>first|(go_simp;done)|(go_simp;rfl));intro gb660 hg w11 hbox hb;have n0_:=Aside0.mk (below_step (by repeat(first|(with_reducible first|exact HB.out|apply below_alloc|apply pw_below_drewN|apply below_drew1)|exact HB.out)) hb);have n1_:=Aside0.mk (hbox);have n2_:=Aside0.mk ((by rw [hg];exact (below_size (by repeat(first|(with_reducible first|exact HB.out|apply below_alloc|apply pw_below_drewN|apply below_drew1)|exact HB.out))) : w.heap.size ≤ gb660));have n3_:=Aside0.mk ((by rw [hg];exact (below_size (by repeat(first|(with_reducible first|exact HB.out|apply below_alloc|apply pw_below_drewN|apply below_drew1)|exact HB.out))) : w.heap.size ≤ gb660));clear HB;have HB:=n0_;have BK660:=n1_;have GW660:=n2_;have GE660:=n3_;clear n0_ n1_ n2_ n3_;clear hb hbox hg;have hcz12_0 : w11.cell? ⟨gb660,0,none⟩ = some (.int .i64 a0_0):=(blk_cell BK660.out 0).trans rfl;have hcz12_1 : w11.cell? ⟨gb660,1,none⟩ = some (.int .i64 a0_1):=(blk_cell BK660.out 1).trans rfl;have hcz12_2 : w11.cell? ⟨gb660,2,none⟩ = some (.slice A0_2 l0_2.length c0_2):=(blk_cell BK660.out 2).trans rfl;have hfz12_0:=blk_frozen BK660.out 0;have hfz12_1:=blk_frozen BK660.out 1;have hfz12_2:=blk_frozen BK660.out 2))
   go_ret
   exact ⟨by first|rfl|(simp [errW_none,errW_some] <;> rfl)|(simp [*,errW_none,errW_some] <;> rfl),by repeat(first|(with_reducible first|exact HB.out|apply below_alloc|apply pw_below_drewN|apply below_drew1|refine below_set ?_ GE660.out)|exact HB.out)⟩

/-! ### hornbeamref11_Right: function 35 -/
def hornbeamref11_Right.f (a0_0 : Int) (a0_1 : Int) (l0_2 : List Int) : Option (Bool):=(hornbeamref11_Few.f a0_0).bind fun t662=>(if t662 = true then ((hornbeamref11_Few.f a0_1).bind fun t663=>(if t663 = true then (some ((l0_2.length : Int) == (wrap64 (a0_0 * a0_1)))) else (some false))) else (some false))
set_option maxHeartbeats 8000000 in
set_option maxRecDepth 100000 in
theorem hornbeamref11_Right.calls (a0_0 : Int) (a0_1 : Int) (A0_2 : Option Addr) (c0_2 : Nat) (l0_2 : List Int) (r : Bool) (w : World) (hr0_2 : Kd.C (Kd.int .u16) w A0_2 l0_2.length l0_2) (hc0_2 : l0_2.length ≤ c0_2) (h : hornbeamref11_Right.f a0_0 a0_1 l0_2 = some r) :
  Calls Try.prog 35 #[.agg #[.int .i64 a0_0,.int .i64 a0_1,.slice A0_2 l0_2.length c0_2]] w fun e w'=>e = .returned (.bool r) ∧ Below w.heap.size w w':=by
 have hu62:=Try.underlying62
 have HR0_2:=Aside0.mk hr0_2
 have HC0_2:=Aside0.mk hc0_2
 clear hr0_2 hc0_2
 have HB:=Aside0.mk (Below.refl w.heap.size w)
 have H : ((hornbeamref11_Few.f a0_0).bind fun t662=>(if t662 = true then ((hornbeamref11_Few.f a0_1).bind fun t663=>(if t663 = true then (some ((l0_2.length : Int) == (wrap64 (a0_0 * a0_1)))) else (some false))) else (some false))) = some r:=h
 clear h
 replace H:=Option.bind_eq_some_iff.mp H
 obtain ⟨t662,A20,H⟩:=H
 replace H : (if t662 = true then ((hornbeamref11_Few.f a0_1).bind fun t663=>(if t663 = true then (some ((l0_2.length : Int) == (wrap64 (a0_0 * a0_1)))) else (some false))) else (some false)) = some r:=H
 have A2:=Aside0.mk A20
 clear A20
 by_cases c3 : t662 = true
 ·subst c3
  have H1 : ((hornbeamref11_Few.f a0_1).bind fun t663=>(if t663 = true then (some ((l0_2.length : Int) == (wrap64 (a0_0 * a0_1)))) else (some false))) = some r:=by rw [if_pos rfl] at H;exact H
  clear H
  have H:=H1
  clear H1
  replace H:=Option.bind_eq_some_iff.mp H
  obtain ⟨t663,A40,H⟩:=H
  replace H : (if t663 = true then (some ((l0_2.length : Int) == (wrap64 (a0_0 * a0_1)))) else (some false)) = some r:=H
  have A4:=Aside0.mk A40
  clear A40
  by_cases c5 : t663 = true
  ·subst c5
   have H1 : (some ((l0_2.length : Int) == (wrap64 (a0_0 * a0_1)))) = some r:=by rw [if_pos rfl] at H;exact H
   clear H
   have H:=H1
   clear H1
   obtain rfl:=Option.some.inj H
   go_enter Try.func35,Try.ntmps35
   go_wp2_with (first|((with_reducible refine gate_dst (N:=1) rfl ?_);(try (refine gate_guard (by rfl) ?_;dsimp only));refine box_event ?hg (N:=1) ?hd (cs:=#[.int .i64 a0_0,.int .i64 a0_1,.slice A0_2 l0_2.length c0_2]) (t:=62) ?hr ?_;(case hd=>rfl);(case hg=>rfl);(case hr=>first|(go_simp;done)|(go_simp;rfl));intro gb661 hg w6 hbox hb;have n0_:=Aside0.mk (below_step (by repeat(first|(with_reducible first|exact HB.out|apply below_alloc|apply pw_below_drewN|apply below_drew1)|exact HB.out)) hb);have n1_:=Aside0.mk (hbox);have n2_:=Aside0.mk ((by rw [hg];exact (below_size (by repeat(first|(with_reducible first|exact HB.out|apply below_alloc|apply pw_below_drewN|apply below_drew1)|exact HB.out))) : w.heap.size ≤ gb661));have n3_:=Aside0.mk ((by rw [hg];exact (below_size (by repeat(first|(with_reducible first|exact HB.out|apply below_alloc|apply pw_below_drewN|apply below_drew1)|exact HB.out))) : w.heap.size ≤ gb661));clear HB;have HB:=n0_;have BK661:=n1_;have GW661:=n2_;have GE661:=n3_;clear n0_ n1_ n2_ n3_;clear hb hbox hg;have hcz7_0 : w6.cell? ⟨gb661,0,none⟩ = some (.int .i64 a0_0):=(blk_cell BK661.out 0).trans rfl;have hcz7_1 : w6.cell? ⟨gb661,1,none⟩ = some (.int .i64 a0_1):=(blk_cell BK661.out 1).trans rfl;have hcz7_2 : w6.cell? ⟨gb661,2,none⟩ = some (.slice A0_2 l0_2.length c0_2):=(blk_cell BK661.out 2).trans rfl;have hfz7_0:=blk_frozen BK661.out 0;have hfz7_1:=blk_frozen BK661.out 1;have hfz7_2:=blk_frozen BK661.out 2)|((with_reducible refine gate_callee (f:=69) rfl ?_);refine goesL_ (some 5) rfl rfl Try.func69 (by kernel_rfl) rfl #[.int .i64 a0_0] rfl (by (try simp only [List.map_toArray,List.map_cons,List.map_nil]);first|done|rfl|(simp only [List.length_drop,List.length_take];rfl)) ?_;(with_reducible refine (hornbeamref11_Few.calls a0_0 true _ A2.out).mono ?_);rintro e w' ⟨rfl,⟨nd,rfl⟩⟩;refine ⟨_,rfl,?_⟩)|(go_at_call 69;(with_reducible refine (hornbeamref11_Few.calls a0_1 true _ A4.out).mono ?_);rintro e w' ⟨rfl,⟨nd,rfl⟩⟩))
   go_ret
   exact ⟨by first|rfl|(simp [errW_none,errW_some] <;> rfl)|(simp [*,errW_none,errW_some] <;> rfl),by repeat(first|(with_reducible first|exact HB.out|apply below_alloc|apply pw_below_drewN|apply below_drew1|refine below_set ?_ GE661.out)|exact HB.out)⟩
  ·replace c5:=Bool.eq_false_iff.mpr c5
   subst c5
   have H1 : (some false) = some r:=by rw [if_neg (show ¬ (false = true) by decide)] at H;exact H
   clear H
   have H:=H1
   clear H1
   obtain rfl:=Option.some.inj H
   go_enter Try.func35,Try.ntmps35
   go_wp2_with (first|((with_reducible refine gate_dst (N:=1) rfl ?_);(try (refine gate_guard (by rfl) ?_;dsimp only));refine box_event ?hg (N:=1) ?hd (cs:=#[.int .i64 a0_0,.int .i64 a0_1,.slice A0_2 l0_2.length c0_2]) (t:=62) ?hr ?_;(case hd=>rfl);(case hg=>rfl);(case hr=>first|(go_simp;done)|(go_simp;rfl));intro gb661 hg w8 hbox hb;have n0_:=Aside0.mk (below_step (by repeat(first|(with_reducible first|exact HB.out|apply below_alloc|apply pw_below_drewN|apply below_drew1)|exact HB.out)) hb);have n1_:=Aside0.mk (hbox);have n2_:=Aside0.mk ((by rw [hg];exact (below_size (by repeat(first|(with_reducible first|exact HB.out|apply below_alloc|apply pw_below_drewN|apply below_drew1)|exact HB.out))) : w.heap.size ≤ gb661));have n3_:=Aside0.mk ((by rw [hg];exact (below_size (by repeat(first|(with_reducible first|exact HB.out|apply below_alloc|apply pw_below_drewN|apply below_drew1)|exact HB.out))) : w.heap.size ≤ gb661));clear HB;have HB:=n0_;have BK661:=n1_;have GW661:=n2_;have GE661:=n3_;clear n0_ n1_ n2_ n3_;clear hb hbox hg;have hcz9_0 : w8.cell? ⟨gb661,0,none⟩ = some (.int .i64 a0_0):=(blk_cell BK661.out 0).trans rfl;have hcz9_1 : w8.cell? ⟨gb661,1,none⟩ = some (.int .i64 a0_1):=(blk_cell BK661.out 1).trans rfl;have hcz9_2 : w8.cell? ⟨gb661,2,none⟩ = some (.slice A0_2 l0_2.length c0_2):=(blk_cell BK661.out 2).trans rfl;have hfz9_0:=blk_frozen BK661.out 0;have hfz9_1:=blk_frozen BK661.out 1;have hfz9_2:=blk_frozen BK661.out 2)|((with_reducible refine gate_callee (f:=69) rfl ?_);refine goesL_ (some 5) rfl rfl Try.func69 (by kernel_rfl) rfl #[.int .i64 a0_0] rfl (by (try simp only [List.map_toArray,List.map_cons,List.map_nil]);first|done|rfl|(simp only [List.length_drop,List.length_take];rfl)) ?_;(with_reducible refine (hornbeamref11_Few.calls a0_0 true _ A2.out).mono ?_);rintro e w' ⟨rfl,⟨nd,rfl⟩⟩;refine ⟨_,rfl,?_⟩)|(go_at_call 69;(with_reducible refine (hornbeamref11_Few.calls a0_1 false _ A4.out).mono ?_);rintro e w' ⟨rfl,⟨nd,rfl⟩⟩))
   go_ret
   exact ⟨by first|rfl|(simp [errW_none,errW_some] <;> rfl)|(simp [*,errW_none,errW_some] <;> rfl),by repeat(first|(with_reducible first|exact HB.out|apply below_alloc|apply pw_below_drewN|apply below_drew1|refine below_set ?_ GE661.out)|exact HB.out)⟩
 ·replace c3:=Bool.eq_false_iff.mpr c3
  subst c3
  have H1 : (some false) = some r:=by rw [if_neg (show ¬ (false = true) by decide)] at H;exact H
  clear H
  have H:=H1
  clear H1
  obtain rfl:=Option.some.inj H
  go_enter Try.func35,Try.ntmps35
  go_wp2_with (first|((with_reducible refine gate_dst (N:=1) rfl ?_);(try (refine gate_guard (by rfl) ?_;dsimp only));refine box_event ?hg (N:=1) ?hd (cs:=#[.int .i64 a0_0,.int .i64 a0_1,.slice A0_2 l0_2.length c0_2]) (t:=62) ?hr ?_;(case hd=>rfl);(case hg=>rfl);(case hr=>first|(go_simp;done)|(go_simp;rfl));intro gb661 hg w10 hbox hb;have n0_:=Aside0.mk (below_step (by repeat(first|(with_reducible first|exact HB.out|apply below_alloc|apply pw_below_drewN|apply below_drew1)|exact HB.out)) hb);have n1_:=Aside0.mk (hbox);have n2_:=Aside0.mk ((by rw [hg];exact (below_size (by repeat(first|(with_reducible first|exact HB.out|apply below_alloc|apply pw_below_drewN|apply below_drew1)|exact HB.out))) : w.heap.size ≤ gb661));have n3_:=Aside0.mk ((by rw [hg];exact (below_size (by repeat(first|(with_reducible first|exact HB.out|apply below_alloc|apply pw_below_drewN|apply below_drew1)|exact HB.out))) : w.heap.size ≤ gb661));clear HB;have HB:=n0_;have BK661:=n1_;have GW661:=n2_;have GE661:=n3_;clear n0_ n1_ n2_ n3_;clear hb hbox hg;have hcz11_0 : w10.cell? ⟨gb661,0,none⟩ = some (.int .i64 a0_0):=(blk_cell BK661.out 0).trans rfl;have hcz11_1 : w10.cell? ⟨gb661,1,none⟩ = some (.int .i64 a0_1):=(blk_cell BK661.out 1).trans rfl;have hcz11_2 : w10.cell? ⟨gb661,2,none⟩ = some (.slice A0_2 l0_2.length c0_2):=(blk_cell BK661.out 2).trans rfl;have hfz11_0:=blk_frozen BK661.out 0;have hfz11_1:=blk_frozen BK661.out 1;have hfz11_2:=blk_frozen BK661.out 2)|((with_reducible refine gate_callee (f:=69) rfl ?_);refine goesL_ (some 5) rfl rfl Try.func69 (by kernel_rfl) rfl #[.int .i64 a0_0] rfl (by (try simp only [List.map_toArray,List.map_cons,List.map_nil]);first|done|rfl|(simp only [List.length_drop,List.length_take];rfl)) ?_;(with_reducible refine (hornbeamref11_Few.calls a0_0 false _ A2.out).mono ?_);rintro e w' ⟨rfl,⟨nd,rfl⟩⟩;refine ⟨_,rfl,?_⟩))
  go_ret
  exact ⟨by first|rfl|(simp [errW_none,errW_some] <;> rfl)|(simp [*,errW_none,errW_some] <;> rfl),by repeat(first|(with_reducible first|exact HB.out|apply below_alloc|apply pw_below_drewN|apply below_drew1|refine below_set ?_ GE661.out)|exact HB.out)⟩

end Go.Proofs.Ytnagfbadjbkhmaa.PA
