import Derived.Test.YtnagfbadjbkhmaaPAx0
namespace Go.Proofs.Ytnagfbadjbkhmaa.PA
open Go.RowKit Go.Proofs.YtnagfbadjbkhmaaW.PrintWords Go.Proofs.YtnagfbadjbkhmaaW.PrintLast Go.Proofs.YtnagfbadjbkhmaaW.PrintMore
attribute [local go_sem] max2_int min2_int max_two min_two max_three min_three max_four min_four   -- for this text's walks alone
attribute [local go_sem high] Flt.fold_eq Flt.fold_ne Flt.fold_lt Flt.fold_gt Flt.fold_le Flt.fold_ge Flt.run_bits Flt.run_frombits
set_option linter.unusedVariables false
set_option linter.unusedSimpArgs false

/-! ### hornbeamref09_Target: function 66 -/
def hornbeamref09_Target.j0 : Nat → Int → Bool → Int → Int → Int → Int → Int → Int → Int → Option (Int)
 | 0,_,_,_,_,_,_,_,_,_=>none
 | k + 1,x1,x21,x187000,x187001,x187002,x187003,x187004,x187005,x187006=>if x21 = true then (some 5) else (if x187000 = 1 then (if x1 < (-1048576) then (some 4) else (if x1 > 1048576 then (some 4) else (some 0))) else (some 0))
def hornbeamref09_Target.f (k : Nat) (a0_0 : Int) (a0_1 : Int) (a0_2 : Int) (a0_3 : Int) (a0_4 : Int) (a0_5 : Int) (a0_6 : Int) (a1 : Int) : Option (Int):=if a0_0 = 0 then (if a1 < 0 then (hornbeamref09_Target.j0 k a1 true a0_0 a0_1 a0_2 a0_3 a0_4 a0_5 a0_6) else (if a1 > 255 then (hornbeamref09_Target.j0 k a1 true a0_0 a0_1 a0_2 a0_3 a0_4 a0_5 a0_6) else (hornbeamref09_Target.j0 k a1 (decide (a1 ≥ a0_1)) a0_0 a0_1 a0_2 a0_3 a0_4 a0_5 a0_6))) else (hornbeamref09_Target.j0 k a1 false a0_0 a0_1 a0_2 a0_3 a0_4 a0_5 a0_6)
theorem hornbeamref09_Target.mono_l : ∀ k,(∀ y0 y1 y2 y3 y4 y5 y6 y7 y8,LeO (hornbeamref09_Target.j0 k y0 y1 y2 y3 y4 y5 y6 y7 y8) (hornbeamref09_Target.j0 (k + 1) y0 y1 y2 y3 y4 y5 y6 y7 y8))
 | 0=>fun _ _ _ _ _ _ _ _ _ r h=>by simp [hornbeamref09_Target.j0] at h
 | k + 1=>by
  have ih0:=hornbeamref09_Target.mono_l k
  ·intro y0 y1 y2 y3 y4 y5 y6 y7 y8
   unfold hornbeamref09_Target.j0
   repeat' first
   | (with_reducible exact ih0 _ _ _ _ _ _ _ _ _)
   | (with_reducible exact LeO.refl _)
   | (with_reducible exact LeO.none _)
   | (with_reducible refine LeO.ite ?_ ?_)
   | (with_reducible refine LeO.bind ?_ (fun _=>?_))
   | exact ih0 _ _ _ _ _ _ _ _ _
   | exact LeO.none _
   | refine LeO.ite ?_ ?_
   | refine LeO.bind ?_ (fun _=>?_)
theorem hornbeamref09_Target.mono : ∀ a0 a1 a2 a3 a4 a5 a6 a7 k,LeO (hornbeamref09_Target.f k a0 a1 a2 a3 a4 a5 a6 a7) (hornbeamref09_Target.f (k + 1) a0 a1 a2 a3 a4 a5 a6 a7):=by
 intro a0 a1 a2 a3 a4 a5 a6 a7 k
 have ih0:=hornbeamref09_Target.mono_l k
 unfold hornbeamref09_Target.f
 repeat' first
   | (with_reducible exact ih0 _ _ _ _ _ _ _ _ _)
   | (with_reducible exact LeO.refl _)
   | (with_reducible exact LeO.none _)
   | (with_reducible refine LeO.ite ?_ ?_)
   | (with_reducible refine LeO.bind ?_ (fun _=>?_))
   | exact ih0 _ _ _ _ _ _ _ _ _
   | exact LeO.none _
   | refine LeO.ite ?_ ?_
   | refine LeO.bind ?_ (fun _=>?_)
set_option maxHeartbeats 8000000 in
set_option maxRecDepth 100000 in
theorem hornbeamref09_Target.calls (k : Nat) (a0_0 : Int) (a0_1 : Int) (a0_2 : Int) (a0_3 : Int) (a0_4 : Int) (a0_5 : Int) (a0_6 : Int) (a1 : Int) (r : Int) (w : World) (h : hornbeamref09_Target.f k a0_0 a0_1 a0_2 a0_3 a0_4 a0_5 a0_6 a1 = some r) :
  Calls Try.prog 66 #[.agg #[.int .i64 a0_0,.int .i64 a0_1,.int .i64 a0_2,.int .i64 a0_3,.int .i64 a0_4,.int .i64 a0_5,.int .i64 a0_6],.int .i64 a1] w fun e w'=>e = .returned (.int .i64 r) ∧ Below w.heap.size w w':=by
 have hu23:=Try.underlying23
 have HB:=Aside0.mk (Below.refl w.heap.size w)
 have H : (if a0_0 = 0 then (if a1 < 0 then (hornbeamref09_Target.j0 k a1 true a0_0 a0_1 a0_2 a0_3 a0_4 a0_5 a0_6) else (if a1 > 255 then (hornbeamref09_Target.j0 k a1 true a0_0 a0_1 a0_2 a0_3 a0_4 a0_5 a0_6) else (hornbeamref09_Target.j0 k a1 (decide (a1 ≥ a0_1)) a0_0 a0_1 a0_2 a0_3 a0_4 a0_5 a0_6))) else (hornbeamref09_Target.j0 k a1 false a0_0 a0_1 a0_2 a0_3 a0_4 a0_5 a0_6)) = some r:=h
 clear h
 have HC3:=Aside0.mk H
 clear H
 go_enter Try.func66,Try.ntmps66
 go_upto_region 1 with (first|((with_reducible refine gate_dst (N:=2) rfl ?_);refine box_event ?hg (N:=2) ?hd (cs:=#[.int .i64 a0_0,.int .i64 a0_1,.int .i64 a0_2,.int .i64 a0_3,.int .i64 a0_4,.int .i64 a0_5,.int .i64 a0_6]) (t:=23) ?hr ?_;(case hd=>rfl);(case hg=>rfl);(case hr=>first|(go_simp;done)|(go_simp;rfl));intro gb186 hg w4 hbox hb;have n0_:=Aside0.mk (below_step (by repeat(first|(with_reducible first|exact HB.out|apply below_alloc|apply pw_below_drewN|apply below_drew1)|exact HB.out)) hb);have n1_:=Aside0.mk (hbox);have n2_:=Aside0.mk ((by rw [hg];exact (below_size (by repeat(first|(with_reducible first|exact HB.out|apply below_alloc|apply pw_below_drewN|apply below_drew1)|exact HB.out))) : w.heap.size ≤ gb186));have n3_:=Aside0.mk ((by rw [hg];exact (below_size (by repeat(first|(with_reducible first|exact HB.out|apply below_alloc|apply pw_below_drewN|apply below_drew1)|exact HB.out))) : w.heap.size ≤ gb186));clear HB;have HB:=n0_;have BK186:=n1_;have GW186:=n2_;have GE186:=n3_;clear n0_ n1_ n2_ n3_;clear hb hbox hg))
 (try simp only [Act.put,List.setIfInBounds_toArray,List.set_cons_zero,List.set_cons_succ])
 go_cut [21] (fun v21 wc=>∃ (kq : Nat) (x21_2 : Bool),v21 = .bool x21_2 ∧ Aside0 (hornbeamref09_Target.j0 kq a1 x21_2 a0_0 a0_1 a0_2 a0_3 a0_4 a0_5 a0_6 = some r) ∧ Aside0 (kq ≤ k) ∧ Aside0 (wc.heap[gb186]? = some (.cells #[.int .i64 a0_0,.int .i64 a0_1,.int .i64 a0_2,.int .i64 a0_3,.int .i64 a0_4,.int .i64 a0_5,.int .i64 a0_6] 23 (0,0))) ∧ Aside0 (Below w.heap.size w wc))
 case first =>
  have H:=HC3.out
  clear HC3
  by_cases c5 : a0_0 = 0
  ·rw [if_pos c5] at H
   have c5b0 : (a0_0 == 0) = true:=beq_iff_eq.mpr c5
   have c5b1 : (a0_0 != 0) = false:=bne_eq_false_iff_eq.mpr c5
   clear c5
   (first|rw [c5b0]|(simp only [i64_w,i32_w];rw [c5b0])|skip)
   by_cases c6 : a1 < 0
   ·rw [if_pos c6] at H
    have c6b0 : decide (a1 < 0) = true:=decide_eq_true c6
    clear c6
    have H':=Aside0.mk H
    clear H
    have hcz7_0 : w4.cell? ⟨gb186,0,none⟩ = some (.int .i64 a0_0):=(blk_cell BK186.out 0).trans rfl
    have hcz7_1 : w4.cell? ⟨gb186,1,none⟩ = some (.int .i64 a0_1):=(blk_cell BK186.out 1).trans rfl
    have hcz7_2 : w4.cell? ⟨gb186,2,none⟩ = some (.int .i64 a0_2):=(blk_cell BK186.out 2).trans rfl
    have hcz7_3 : w4.cell? ⟨gb186,3,none⟩ = some (.int .i64 a0_3):=(blk_cell BK186.out 3).trans rfl
    have hcz7_4 : w4.cell? ⟨gb186,4,none⟩ = some (.int .i64 a0_4):=(blk_cell BK186.out 4).trans rfl
    have hcz7_5 : w4.cell? ⟨gb186,5,none⟩ = some (.int .i64 a0_5):=(blk_cell BK186.out 5).trans rfl
    have hcz7_6 : w4.cell? ⟨gb186,6,none⟩ = some (.int .i64 a0_6):=(blk_cell BK186.out 6).trans rfl
    have hfz7_0:=blk_frozen BK186.out 0
    have hfz7_1:=blk_frozen BK186.out 1
    have hfz7_2:=blk_frozen BK186.out 2
    have hfz7_3:=blk_frozen BK186.out 3
    have hfz7_4:=blk_frozen BK186.out 4
    have hfz7_5:=blk_frozen BK186.out 5
    have hfz7_6:=blk_frozen BK186.out 6
    go_wp2
    go_meet
    case rel=>exact ⟨_,(true),(by first|rfl|(simp;done)|(simp [*];done)),H',⟨by first|omega|exact Nat.le_refl _⟩,⟨by (with_reducible repeat(first|refine blk_drewN ?_ _|refine blk_drew ?_|refine blk_alloc ?_ _));exact BK186.out⟩,⟨by repeat(first|(with_reducible first|exact HB.out|apply below_alloc|apply pw_below_drewN|apply below_drew1|refine below_set ?_ GE186.out)|exact HB.out)⟩⟩
   ·rw [if_neg c6] at H
    have c6b0 : decide (a1 < 0) = false:=decide_eq_false c6
    clear c6
    by_cases c8 : a1 > 255
    ·rw [if_pos c8] at H
     have c8b0 : decide (255 < a1) = true:=decide_eq_true c8
     clear c8
     have H':=Aside0.mk H
     clear H
     have hcz9_0 : w4.cell? ⟨gb186,0,none⟩ = some (.int .i64 a0_0):=(blk_cell BK186.out 0).trans rfl
     have hcz9_1 : w4.cell? ⟨gb186,1,none⟩ = some (.int .i64 a0_1):=(blk_cell BK186.out 1).trans rfl
     have hcz9_2 : w4.cell? ⟨gb186,2,none⟩ = some (.int .i64 a0_2):=(blk_cell BK186.out 2).trans rfl
     have hcz9_3 : w4.cell? ⟨gb186,3,none⟩ = some (.int .i64 a0_3):=(blk_cell BK186.out 3).trans rfl
     have hcz9_4 : w4.cell? ⟨gb186,4,none⟩ = some (.int .i64 a0_4):=(blk_cell BK186.out 4).trans rfl
     have hcz9_5 : w4.cell? ⟨gb186,5,none⟩ = some (.int .i64 a0_5):=(blk_cell BK186.out 5).trans rfl
     have hcz9_6 : w4.cell? ⟨gb186,6,none⟩ = some (.int .i64 a0_6):=(blk_cell BK186.out 6).trans rfl
     have hfz9_0:=blk_frozen BK186.out 0
     have hfz9_1:=blk_frozen BK186.out 1
     have hfz9_2:=blk_frozen BK186.out 2
     have hfz9_3:=blk_frozen BK186.out 3
     have hfz9_4:=blk_frozen BK186.out 4
     have hfz9_5:=blk_frozen BK186.out 5
     have hfz9_6:=blk_frozen BK186.out 6
     go_wp2
     go_meet
     case rel=>exact ⟨_,(true),(by first|rfl|(simp;done)|(simp [*];done)),H',⟨by first|omega|exact Nat.le_refl _⟩,⟨by (with_reducible repeat(first|refine blk_drewN ?_ _|refine blk_drew ?_|refine blk_alloc ?_ _));exact BK186.out⟩,⟨by repeat(first|(with_reducible first|exact HB.out|apply below_alloc|apply pw_below_drewN|apply below_drew1|refine below_set ?_ GE186.out)|exact HB.out)⟩⟩
    ·rw [if_neg c8] at H
     have c8b0 : decide (255 < a1) = false:=decide_eq_false c8
     clear c8
     have H':=Aside0.mk H
     clear H
     have hcz10_0 : w4.cell? ⟨gb186,0,none⟩ = some (.int .i64 a0_0):=(blk_cell BK186.out 0).trans rfl
     have hcz10_1 : w4.cell? ⟨gb186,1,none⟩ = some (.int .i64 a0_1):=(blk_cell BK186.out 1).trans rfl
     have hcz10_2 : w4.cell? ⟨gb186,2,none⟩ = some (.int .i64 a0_2):=(blk_cell BK186.out 2).trans rfl
     have hcz10_3 : w4.cell? ⟨gb186,3,none⟩ = some (.int .i64 a0_3):=(blk_cell BK186.out 3).trans rfl
     have hcz10_4 : w4.cell? ⟨gb186,4,none⟩ = some (.int .i64 a0_4):=(blk_cell BK186.out 4).trans rfl
     have hcz10_5 : w4.cell? ⟨gb186,5,none⟩ = some (.int .i64 a0_5):=(blk_cell BK186.out 5).trans rfl
     have hcz10_6 : w4.cell? ⟨gb186,6,none⟩ = some (.int .i64 a0_6):=(blk_cell BK186.out 6).trans rfl
     have hfz10_0:=blk_frozen BK186.out 0
     have hfz10_1:=blk_frozen BK186.out 1
     have hfz10_2:=blk_frozen BK186.out 2
     have hfz10_3:=blk_frozen BK186.out 3
     have hfz10_4:=blk_frozen BK186.out 4
     have hfz10_5:=blk_frozen BK186.out 5
     have hfz10_6:=blk_frozen BK186.out 6
     go_wp2
     go_meet
     case rel=>exact ⟨_,(decide (a1 ≥ a0_1)),(by first|rfl|(simp;done)|(simp [*];done)),H',⟨by first|omega|exact Nat.le_refl _⟩,⟨by (with_reducible repeat(first|refine blk_drewN ?_ _|refine blk_drew ?_|refine blk_alloc ?_ _));exact BK186.out⟩,⟨by repeat(first|(with_reducible first|exact HB.out|apply below_alloc|apply pw_below_drewN|apply below_drew1|refine below_set ?_ GE186.out)|exact HB.out)⟩⟩
  ·rw [if_neg c5] at H
   have c5b0 : (a0_0 == 0) = false:=beq_eq_false_iff_ne.mpr c5
   have c5b1 : (a0_0 != 0) = true:=bne_iff_ne.mpr c5
   (first|rw [c5b0]|(simp only [i64_w,i32_w];rw [c5b0])|skip)
   have H':=Aside0.mk H
   clear H
   have hcz11_0 : w4.cell? ⟨gb186,0,none⟩ = some (.int .i64 a0_0):=(blk_cell BK186.out 0).trans rfl
   have hcz11_1 : w4.cell? ⟨gb186,1,none⟩ = some (.int .i64 a0_1):=(blk_cell BK186.out 1).trans rfl
   have hcz11_2 : w4.cell? ⟨gb186,2,none⟩ = some (.int .i64 a0_2):=(blk_cell BK186.out 2).trans rfl
   have hcz11_3 : w4.cell? ⟨gb186,3,none⟩ = some (.int .i64 a0_3):=(blk_cell BK186.out 3).trans rfl
   have hcz11_4 : w4.cell? ⟨gb186,4,none⟩ = some (.int .i64 a0_4):=(blk_cell BK186.out 4).trans rfl
   have hcz11_5 : w4.cell? ⟨gb186,5,none⟩ = some (.int .i64 a0_5):=(blk_cell BK186.out 5).trans rfl
   have hcz11_6 : w4.cell? ⟨gb186,6,none⟩ = some (.int .i64 a0_6):=(blk_cell BK186.out 6).trans rfl
   have hfz11_0:=blk_frozen BK186.out 0
   have hfz11_1:=blk_frozen BK186.out 1
   have hfz11_2:=blk_frozen BK186.out 2
   have hfz11_3:=blk_frozen BK186.out 3
   have hfz11_4:=blk_frozen BK186.out 4
   have hfz11_5:=blk_frozen BK186.out 5
   have hfz11_6:=blk_frozen BK186.out 6
   go_wp2
   go_meet
   case rel=>exact ⟨_,(false),(by first|rfl|(simp;done)|(simp [*];done)),H',⟨by first|omega|exact Nat.le_refl _⟩,⟨by (with_reducible repeat(first|refine blk_drewN ?_ _|refine blk_drew ?_|refine blk_alloc ?_ _));exact BK186.out⟩,⟨by repeat(first|(with_reducible first|exact HB.out|apply below_alloc|apply pw_below_drewN|apply below_drew1|refine below_set ?_ GE186.out)|exact HB.out)⟩⟩
 case rest =>
  clear HC3
  try clear p2
  try clear c5
  try clear c5b0
  try clear c5b1
  try clear c6
  try clear c6b0
  try clear c8
  try clear c8b0
  try clear hcz10_0
  try clear hcz10_1
  try clear hcz10_2
  try clear hcz10_3
  try clear hcz10_4
  try clear hcz10_5
  try clear hcz10_6
  try clear hcz11_0
  try clear hcz11_1
  try clear hcz11_2
  try clear hcz11_3
  try clear hcz11_4
  try clear hcz11_5
  try clear hcz11_6
  try clear hcz7_0
  try clear hcz7_1
  try clear hcz7_2
  try clear hcz7_3
  try clear hcz7_4
  try clear hcz7_5
  try clear hcz7_6
  try clear hcz9_0
  try clear hcz9_1
  try clear hcz9_2
  try clear hcz9_3
  try clear hcz9_4
  try clear hcz9_5
  try clear hcz9_6
  try clear hfz10_0
  try clear hfz10_1
  try clear hfz10_2
  try clear hfz10_3
  try clear hfz10_4
  try clear hfz10_5
  try clear hfz10_6
  try clear hfz11_0
  try clear hfz11_1
  try clear hfz11_2
  try clear hfz11_3
  try clear hfz11_4
  try clear hfz11_5
  try clear hfz11_6
  try clear hfz7_0
  try clear hfz7_1
  try clear hfz7_2
  try clear hfz7_3
  try clear hfz7_4
  try clear hfz7_5
  try clear hfz7_6
  try clear hfz9_0
  try clear hfz9_1
  try clear hfz9_2
  try clear hfz9_3
  try clear hfz9_4
  try clear hfz9_5
  try clear hfz9_6
  obtain ⟨kq,x21_2,rfl,HA,HJ2,BK186,HB⟩:=hcut
  cases kq with
  | zero=>exact absurd HA.out (by simp [hornbeamref09_Target.j0])
  | succ kj2 =>
   have H:=HA.out
   clear HA
   simp only [hornbeamref09_Target.j0] at H
   by_cases c12 : x21_2 = true
   ·subst c12
    have H1 : (some 5) = some r:=by rw [if_pos rfl] at H;exact H
    clear H
    have H:=H1
    clear H1
    obtain rfl:=Option.some.inj H
    go_wp2
    go_ret
    exact ⟨by first|rfl|(simp [errW_none,errW_some] <;> rfl)|(simp [*,errW_none,errW_some] <;> rfl),by repeat(first|(with_reducible first|exact HB.out|apply below_alloc|apply pw_below_drewN|apply below_drew1|refine below_set ?_ GE186.out)|exact HB.out)⟩
   ·replace c12:=Bool.eq_false_iff.mpr c12
    subst c12
    have H1 : (if a0_0 = 1 then (if a1 < (-1048576) then (some 4) else (if a1 > 1048576 then (some 4) else (some 0))) else (some 0)) = some r:=by rw [if_neg (show ¬ (false = true) by decide)] at H;exact H
    clear H
    have H:=H1
    clear H1
    by_cases c13 : a0_0 = 1
    ·rw [if_pos c13] at H
     have c13b0 : (a0_0 == 1) = true:=beq_iff_eq.mpr c13
     have c13b1 : (a0_0 != 1) = false:=bne_eq_false_iff_eq.mpr c13
     clear c13
     by_cases c14 : a1 < (-1048576)
     ·rw [if_pos c14] at H
      have c14b0 : decide (a1 < (-1048576)) = true:=decide_eq_true c14
      clear c14
      obtain rfl:=Option.some.inj H
      have hcz15_0 : wc.cell? ⟨gb186,0,none⟩ = some (.int .i64 a0_0):=(blk_cell BK186.out 0).trans rfl
      have hcz15_1 : wc.cell? ⟨gb186,1,none⟩ = some (.int .i64 a0_1):=(blk_cell BK186.out 1).trans rfl
      have hcz15_2 : wc.cell? ⟨gb186,2,none⟩ = some (.int .i64 a0_2):=(blk_cell BK186.out 2).trans rfl
      have hcz15_3 : wc.cell? ⟨gb186,3,none⟩ = some (.int .i64 a0_3):=(blk_cell BK186.out 3).trans rfl
      have hcz15_4 : wc.cell? ⟨gb186,4,none⟩ = some (.int .i64 a0_4):=(blk_cell BK186.out 4).trans rfl
      have hcz15_5 : wc.cell? ⟨gb186,5,none⟩ = some (.int .i64 a0_5):=(blk_cell BK186.out 5).trans rfl
      have hcz15_6 : wc.cell? ⟨gb186,6,none⟩ = some (.int .i64 a0_6):=(blk_cell BK186.out 6).trans rfl
      have hfz15_0:=blk_frozen BK186.out 0
      have hfz15_1:=blk_frozen BK186.out 1
      have hfz15_2:=blk_frozen BK186.out 2
      have hfz15_3:=blk_frozen BK186.out 3
      have hfz15_4:=blk_frozen BK186.out 4
      have hfz15_5:=blk_frozen BK186.out 5
      have hfz15_6:=blk_frozen BK186.out 6
      go_wp2
      go_ret
      exact ⟨by first|rfl|(simp [errW_none,errW_some] <;> rfl)|(simp [*,errW_none,errW_some] <;> rfl),by repeat(first|(with_reducible first|exact HB.out|apply below_alloc|apply pw_below_drewN|apply below_drew1|refine below_set ?_ GE186.out)|exact HB.out)⟩
     ·rw [if_neg c14] at H
      have c14b0 : decide (a1 < (-1048576)) = false:=decide_eq_false c14
      clear c14
      by_cases c16 : a1 > 1048576
      ·rw [if_pos c16] at H
       have c16b0 : decide (1048576 < a1) = true:=decide_eq_true c16
       clear c16
       obtain rfl:=Option.some.inj H
       have hcz17_0 : wc.cell? ⟨gb186,0,none⟩ = some (.int .i64 a0_0):=(blk_cell BK186.out 0).trans rfl
       have hcz17_1 : wc.cell? ⟨gb186,1,none⟩ = some (.int .i64 a0_1):=(blk_cell BK186.out 1).trans rfl
       have hcz17_2 : wc.cell? ⟨gb186,2,none⟩ = some (.int .i64 a0_2):=(blk_cell BK186.out 2).trans rfl
       have hcz17_3 : wc.cell? ⟨gb186,3,none⟩ = some (.int .i64 a0_3):=(blk_cell BK186.out 3).trans rfl
       have hcz17_4 : wc.cell? ⟨gb186,4,none⟩ = some (.int .i64 a0_4):=(blk_cell BK186.out 4).trans rfl
       have hcz17_5 : wc.cell? ⟨gb186,5,none⟩ = some (.int .i64 a0_5):=(blk_cell BK186.out 5).trans rfl
       have hcz17_6 : wc.cell? ⟨gb186,6,none⟩ = some (.int .i64 a0_6):=(blk_cell BK186.out 6).trans rfl
       have hfz17_0:=blk_frozen BK186.out 0
       have hfz17_1:=blk_frozen BK186.out 1
       have hfz17_2:=blk_frozen BK186.out 2
       have hfz17_3:=blk_frozen BK186.out 3
       have hfz17_4:=blk_frozen BK186.out 4
       have hfz17_5:=blk_frozen BK186.out 5
       have hfz17_6:=blk_frozen BK186.out 6
       go_wp2
       go_ret
       exact ⟨by first|rfl|(simp [errW_none,errW_some] <;> rfl)|(simp [*,errW_none,errW_some] <;> rfl),by repeat(first|(with_reducible first|exact HB.out|apply below_alloc|apply pw_below_drewN|apply below_drew1|refine below_set ?_ GE186.out)|exact HB.out)⟩
      ·rw [if_neg c16] at H
       have c16b0 : decide (1048576 < a1) = false:=decide_eq_false c16
       clear c16
       obtain rfl:=Option.some.inj H
       have hcz18_0 : wc.cell? ⟨gb186,0,none⟩ = some (.int .i64 a0_0):=(blk_cell BK186.out 0).trans rfl
       have hcz18_1 : wc.cell? ⟨gb186,1,none⟩ = some (.int .i64 a0_1):=(blk_cell BK186.out 1).trans rfl
       have hcz18_2 : wc.cell? ⟨gb186,2,none⟩ = some (.int .i64 a0_2):=(blk_cell BK186.out 2).trans rfl
       have hcz18_3 : wc.cell? ⟨gb186,3,none⟩ = some (.int .i64 a0_3):=(blk_cell BK186.out 3).trans rfl
       have hcz18_4 : wc.cell? ⟨gb186,4,none⟩ = some (.int .i64 a0_4):=(blk_cell BK186.out 4).trans rfl
       have hcz18_5 : wc.cell? ⟨gb186,5,none⟩ = some (.int .i64 a0_5):=(blk_cell BK186.out 5).trans rfl
       have hcz18_6 : wc.cell? ⟨gb186,6,none⟩ = some (.int .i64 a0_6):=(blk_cell BK186.out 6).trans rfl
       have hfz18_0:=blk_frozen BK186.out 0
       have hfz18_1:=blk_frozen BK186.out 1
       have hfz18_2:=blk_frozen BK186.out 2
       have hfz18_3:=blk_frozen BK186.out 3
       have hfz18_4:=blk_frozen BK186.out 4
       have hfz18_5:=blk_frozen BK186.out 5
       have hfz18_6:=blk_frozen BK186.out 6
       go_wp2
       go_ret
       exact ⟨by first|rfl|(simp [errW_none,errW_some] <;> rfl)|(simp [*,errW_none,errW_some] <;> rfl),by repeat(first|(with_reducible first|exact HB.out|apply below_alloc|apply pw_below_drewN|apply below_drew1|refine below_set ?_ GE186.out)|exact HB.out)⟩
    ·rw [if_neg c13] at H
     have c13b0 : (a0_0 == 1) = false:=beq_eq_false_iff_ne.mpr c13
     have c13b1 : (a0_0 != 1) = true:=bne_iff_ne.mpr c13
     obtain rfl:=Option.some.inj H
     have hcz19_0 : wc.cell? ⟨gb186,0,none⟩ = some (.int .i64 a0_0):=(blk_cell BK186.out 0).trans rfl
     have hcz19_1 : wc.cell? ⟨gb186,1,none⟩ = some (.int .i64 a0_1):=(blk_cell BK186.out 1).trans rfl
     have hcz19_2 : wc.cell? ⟨gb186,2,none⟩ = some (.int .i64 a0_2):=(blk_cell BK186.out 2).trans rfl
     have hcz19_3 : wc.cell? ⟨gb186,3,none⟩ = some (.int .i64 a0_3):=(blk_cell BK186.out 3).trans rfl
     have hcz19_4 : wc.cell? ⟨gb186,4,none⟩ = some (.int .i64 a0_4):=(blk_cell BK186.out 4).trans rfl
     have hcz19_5 : wc.cell? ⟨gb186,5,none⟩ = some (.int .i64 a0_5):=(blk_cell BK186.out 5).trans rfl
     have hcz19_6 : wc.cell? ⟨gb186,6,none⟩ = some (.int .i64 a0_6):=(blk_cell BK186.out 6).trans rfl
     have hfz19_0:=blk_frozen BK186.out 0
     have hfz19_1:=blk_frozen BK186.out 1
     have hfz19_2:=blk_frozen BK186.out 2
     have hfz19_3:=blk_frozen BK186.out 3
     have hfz19_4:=blk_frozen BK186.out 4
     have hfz19_5:=blk_frozen BK186.out 5
     have hfz19_6:=blk_frozen BK186.out 6
     go_wp2
     go_ret
     exact ⟨by first|rfl|(simp [errW_none,errW_some] <;> rfl)|(simp [*,errW_none,errW_some] <;> rfl),by repeat(first|(with_reducible first|exact HB.out|apply below_alloc|apply pw_below_drewN|apply below_drew1|refine below_set ?_ GE186.out)|exact HB.out)⟩

end Go.Proofs.Ytnagfbadjbkhmaa.PA
