import Derived.Test.YtnagfbadjbkhmaaPAx0
namespace Go.Proofs.Ytnagfbadjbkhmaa.PA
open Go.RowKit Go.Proofs.YtnagfbadjbkhmaaW.PrintWords Go.Proofs.YtnagfbadjbkhmaaW.PrintLast Go.Proofs.YtnagfbadjbkhmaaW.PrintMore
attribute [local go_sem] max2_int min2_int max_two min_two max_three min_three max_four min_four   -- for this text's walks alone
attribute [local go_sem high] Flt.fold_eq Flt.fold_ne Flt.fold_lt Flt.fold_gt Flt.fold_le Flt.fold_ge Flt.run_bits Flt.run_frombits
set_option linter.unusedVariables false
set_option linter.unusedSimpArgs false

/-! ### hornbeamref08_Check: function 56 -/
mutual
def hornbeamref08_Check.j0 : Nat → Bool → Int → Int → Int → Int → Int → Int → Int → Option (Int)
 | 0,_,_,_,_,_,_,_,_=>none
 | k + 1,x10,x154000,x154001,x154002,x154003,x154004,x154005,x154006=>if x10 = true then (some 3) else (if x154000 = 0 then (if x154001 < 2 then (hornbeamref08_Check.j1 k true x154000 x154001 x154002 x154003 x154004 x154005 x154006) else (if x154000 = 1 then (hornbeamref08_Check.j1 k (x154001 != 0) x154000 x154001 x154002 x154003 x154004 x154005 x154006) else (hornbeamref08_Check.j1 k false x154000 x154001 x154002 x154003 x154004 x154005 x154006))) else (if x154000 = 1 then (hornbeamref08_Check.j1 k (x154001 != 0) x154000 x154001 x154002 x154003 x154004 x154005 x154006) else (hornbeamref08_Check.j1 k false x154000 x154001 x154002 x154003 x154004 x154005 x154006)))
def hornbeamref08_Check.j1 : Nat → Bool → Int → Int → Int → Int → Int → Int → Int → Option (Int)
 | 0,_,_,_,_,_,_,_,_=>none
 | k + 1,x28,x154000,x154001,x154002,x154003,x154004,x154005,x154006=>if x28 = true then (some 3) else (if x154001 > 256 then (some 4) else (if x154002 < 2 then (some 3) else (if x154002 > 256 then (some 4) else (if x154003 < 1 then (some 3) else (if x154003 > 4096 then (some 4) else (if x154004 < 0 then (some 3) else (if x154004 > 32 then (some 4) else (if x154005 < 1 then (some 3) else (if x154005 > 1048576 then (some 4) else (if x154006 < 1 then (some 3) else (if x154006 > 1024 then (some 4) else (some 0))))))))))))
end
def hornbeamref08_Check.f (k : Nat) (a0_0 : Int) (a0_1 : Int) (a0_2 : Int) (a0_3 : Int) (a0_4 : Int) (a0_5 : Int) (a0_6 : Int) : Option (Int):=if a0_0 = 0 then (hornbeamref08_Check.j0 k false a0_0 a0_1 a0_2 a0_3 a0_4 a0_5 a0_6) else (hornbeamref08_Check.j0 k (a0_0 != 1) a0_0 a0_1 a0_2 a0_3 a0_4 a0_5 a0_6)
theorem hornbeamref08_Check.mono_l : ∀ k,(∀ y0 y1 y2 y3 y4 y5 y6 y7,LeO (hornbeamref08_Check.j0 k y0 y1 y2 y3 y4 y5 y6 y7) (hornbeamref08_Check.j0 (k + 1) y0 y1 y2 y3 y4 y5 y6 y7)) ∧ (∀ y0 y1 y2 y3 y4 y5 y6 y7,LeO (hornbeamref08_Check.j1 k y0 y1 y2 y3 y4 y5 y6 y7) (hornbeamref08_Check.j1 (k + 1) y0 y1 y2 y3 y4 y5 y6 y7))
 | 0=>⟨fun _ _ _ _ _ _ _ _ r h=>by simp [hornbeamref08_Check.j0] at h,fun _ _ _ _ _ _ _ _ r h=>by simp [hornbeamref08_Check.j1] at h⟩
 | k + 1=>by
  obtain ⟨ih0,ih1⟩:=hornbeamref08_Check.mono_l k
  refine ⟨?_,?_⟩
  ·intro y0 y1 y2 y3 y4 y5 y6 y7
   unfold hornbeamref08_Check.j0
   repeat' first
   | (with_reducible exact ih0 _ _ _ _ _ _ _ _)
   | (with_reducible exact ih1 _ _ _ _ _ _ _ _)
   | (with_reducible exact LeO.refl _)
   | (with_reducible exact LeO.none _)
   | (with_reducible refine LeO.ite ?_ ?_)
   | (with_reducible refine LeO.bind ?_ (fun _=>?_))
   | exact ih0 _ _ _ _ _ _ _ _
   | exact ih1 _ _ _ _ _ _ _ _
   | exact LeO.none _
   | refine LeO.ite ?_ ?_
   | refine LeO.bind ?_ (fun _=>?_)
  ·intro y0 y1 y2 y3 y4 y5 y6 y7
   unfold hornbeamref08_Check.j1
   repeat' first
   | (with_reducible exact ih0 _ _ _ _ _ _ _ _)
   | (with_reducible exact ih1 _ _ _ _ _ _ _ _)
   | (with_reducible exact LeO.refl _)
   | (with_reducible exact LeO.none _)
   | (with_reducible refine LeO.ite ?_ ?_)
   | (with_reducible refine LeO.bind ?_ (fun _=>?_))
   | exact ih0 _ _ _ _ _ _ _ _
   | exact ih1 _ _ _ _ _ _ _ _
   | exact LeO.none _
   | refine LeO.ite ?_ ?_
   | refine LeO.bind ?_ (fun _=>?_)
theorem hornbeamref08_Check.mono : ∀ a0 a1 a2 a3 a4 a5 a6 k,LeO (hornbeamref08_Check.f k a0 a1 a2 a3 a4 a5 a6) (hornbeamref08_Check.f (k + 1) a0 a1 a2 a3 a4 a5 a6):=by
 intro a0 a1 a2 a3 a4 a5 a6 k
 obtain ⟨ih0,ih1⟩:=hornbeamref08_Check.mono_l k
 unfold hornbeamref08_Check.f
 repeat' first
   | (with_reducible exact ih0 _ _ _ _ _ _ _ _)
   | (with_reducible exact ih1 _ _ _ _ _ _ _ _)
   | (with_reducible exact LeO.refl _)
   | (with_reducible exact LeO.none _)
   | (with_reducible refine LeO.ite ?_ ?_)
   | (with_reducible refine LeO.bind ?_ (fun _=>?_))
   | exact ih0 _ _ _ _ _ _ _ _
   | exact ih1 _ _ _ _ _ _ _ _
   | exact LeO.none _
   | refine LeO.ite ?_ ?_
   | refine LeO.bind ?_ (fun _=>?_)
set_option maxHeartbeats 8000000 in
set_option maxRecDepth 100000 in
theorem hornbeamref08_Check.calls (k : Nat) (a0_0 : Int) (a0_1 : Int) (a0_2 : Int) (a0_3 : Int) (a0_4 : Int) (a0_5 : Int) (a0_6 : Int) (r : Int) (w : World) (h : hornbeamref08_Check.f k a0_0 a0_1 a0_2 a0_3 a0_4 a0_5 a0_6 = some r) :
  Calls Try.prog 56 #[.agg #[.int .i64 a0_0,.int .i64 a0_1,.int .i64 a0_2,.int .i64 a0_3,.int .i64 a0_4,.int .i64 a0_5,.int .i64 a0_6]] w fun e w'=>e = .returned (.int .i64 r) ∧ Below w.heap.size w w':=by
 have hu23:=Try.underlying23
 have HB:=Aside0.mk (Below.refl w.heap.size w)
 have H : (if a0_0 = 0 then (hornbeamref08_Check.j0 k false a0_0 a0_1 a0_2 a0_3 a0_4 a0_5 a0_6) else (hornbeamref08_Check.j0 k (a0_0 != 1) a0_0 a0_1 a0_2 a0_3 a0_4 a0_5 a0_6)) = some r:=h
 clear h
 have HC2:=Aside0.mk H
 clear H
 go_enter Try.func56,Try.ntmps56
 go_upto_region 1 with (first|((with_reducible refine gate_dst (N:=1) rfl ?_);refine box_event ?hg (N:=1) ?hd (cs:=#[.int .i64 a0_0,.int .i64 a0_1,.int .i64 a0_2,.int .i64 a0_3,.int .i64 a0_4,.int .i64 a0_5,.int .i64 a0_6]) (t:=23) ?hr ?_;(case hd=>rfl);(case hg=>rfl);(case hr=>first|(go_simp;done)|(go_simp;rfl));intro gb153 hg w3 hbox hb;have n0_:=Aside0.mk (below_step (by repeat(first|(with_reducible first|exact HB.out|apply below_alloc|apply pw_below_drewN|apply below_drew1)|exact HB.out)) hb);have n1_:=Aside0.mk (hbox);have n2_:=Aside0.mk ((by rw [hg];exact (below_size (by repeat(first|(with_reducible first|exact HB.out|apply below_alloc|apply pw_below_drewN|apply below_drew1)|exact HB.out))) : w.heap.size ≤ gb153));have n3_:=Aside0.mk ((by rw [hg];exact (below_size (by repeat(first|(with_reducible first|exact HB.out|apply below_alloc|apply pw_below_drewN|apply below_drew1)|exact HB.out))) : w.heap.size ≤ gb153));clear HB;have HB:=n0_;have BK153:=n1_;have GW153:=n2_;have GE153:=n3_;clear n0_ n1_ n2_ n3_;clear hb hbox hg))
 (try simp only [Act.put,List.setIfInBounds_toArray,List.set_cons_zero,List.set_cons_succ])
 go_cut [10] (fun v10 wc=>∃ (kq : Nat) (x10_1 : Bool),v10 = .bool x10_1 ∧ Aside0 (hornbeamref08_Check.j0 kq x10_1 a0_0 a0_1 a0_2 a0_3 a0_4 a0_5 a0_6 = some r) ∧ Aside0 (kq ≤ k) ∧ Aside0 (wc.heap[gb153]? = some (.cells #[.int .i64 a0_0,.int .i64 a0_1,.int .i64 a0_2,.int .i64 a0_3,.int .i64 a0_4,.int .i64 a0_5,.int .i64 a0_6] 23 (0,0))) ∧ Aside0 (Below w.heap.size w wc))
 case first =>
  have H:=HC2.out
  clear HC2
  by_cases c4 : a0_0 = 0
  ·rw [if_pos c4] at H
   have c4b0 : (a0_0 == 0) = true:=beq_iff_eq.mpr c4
   have c4b1 : (a0_0 != 0) = false:=bne_eq_false_iff_eq.mpr c4
   clear c4
   (first|rw [c4b0]|(simp only [i64_w,i32_w];rw [c4b0])|skip)
   have H':=Aside0.mk H
   clear H
   have hcz5_0 : w3.cell? ⟨gb153,0,none⟩ = some (.int .i64 a0_0):=(blk_cell BK153.out 0).trans rfl
   have hcz5_1 : w3.cell? ⟨gb153,1,none⟩ = some (.int .i64 a0_1):=(blk_cell BK153.out 1).trans rfl
   have hcz5_2 : w3.cell? ⟨gb153,2,none⟩ = some (.int .i64 a0_2):=(blk_cell BK153.out 2).trans rfl
   have hcz5_3 : w3.cell? ⟨gb153,3,none⟩ = some (.int .i64 a0_3):=(blk_cell BK153.out 3).trans rfl
   have hcz5_4 : w3.cell? ⟨gb153,4,none⟩ = some (.int .i64 a0_4):=(blk_cell BK153.out 4).trans rfl
   have hcz5_5 : w3.cell? ⟨gb153,5,none⟩ = some (.int .i64 a0_5):=(blk_cell BK153.out 5).trans rfl
   have hcz5_6 : w3.cell? ⟨gb153,6,none⟩ = some (.int .i64 a0_6):=(blk_cell BK153.out 6).trans rfl
   have hfz5_0:=blk_frozen BK153.out 0
   have hfz5_1:=blk_frozen BK153.out 1
   have hfz5_2:=blk_frozen BK153.out 2
   have hfz5_3:=blk_frozen BK153.out 3
   have hfz5_4:=blk_frozen BK153.out 4
   have hfz5_5:=blk_frozen BK153.out 5
   have hfz5_6:=blk_frozen BK153.out 6
   go_wp2
   go_meet
   case rel=>exact ⟨_,(false),(by first|rfl|(simp;done)|(simp [*];done)),H',⟨by first|omega|exact Nat.le_refl _⟩,⟨by (with_reducible repeat(first|refine blk_drewN ?_ _|refine blk_drew ?_|refine blk_alloc ?_ _));exact BK153.out⟩,⟨by repeat(first|(with_reducible first|exact HB.out|apply below_alloc|apply pw_below_drewN|apply below_drew1|refine below_set ?_ GE153.out)|exact HB.out)⟩⟩
  ·rw [if_neg c4] at H
   have c4b0 : (a0_0 == 0) = false:=beq_eq_false_iff_ne.mpr c4
   have c4b1 : (a0_0 != 0) = true:=bne_iff_ne.mpr c4
   (first|rw [c4b0]|(simp only [i64_w,i32_w];rw [c4b0])|skip)
   have H':=Aside0.mk H
   clear H
   have hcz6_0 : w3.cell? ⟨gb153,0,none⟩ = some (.int .i64 a0_0):=(blk_cell BK153.out 0).trans rfl
   have hcz6_1 : w3.cell? ⟨gb153,1,none⟩ = some (.int .i64 a0_1):=(blk_cell BK153.out 1).trans rfl
   have hcz6_2 : w3.cell? ⟨gb153,2,none⟩ = some (.int .i64 a0_2):=(blk_cell BK153.out 2).trans rfl
   have hcz6_3 : w3.cell? ⟨gb153,3,none⟩ = some (.int .i64 a0_3):=(blk_cell BK153.out 3).trans rfl
   have hcz6_4 : w3.cell? ⟨gb153,4,none⟩ = some (.int .i64 a0_4):=(blk_cell BK153.out 4).trans rfl
   have hcz6_5 : w3.cell? ⟨gb153,5,none⟩ = some (.int .i64 a0_5):=(blk_cell BK153.out 5).trans rfl
   have hcz6_6 : w3.cell? ⟨gb153,6,none⟩ = some (.int .i64 a0_6):=(blk_cell BK153.out 6).trans rfl
   have hfz6_0:=blk_frozen BK153.out 0
   have hfz6_1:=blk_frozen BK153.out 1
   have hfz6_2:=blk_frozen BK153.out 2
   have hfz6_3:=blk_frozen BK153.out 3
   have hfz6_4:=blk_frozen BK153.out 4
   have hfz6_5:=blk_frozen BK153.out 5
   have hfz6_6:=blk_frozen BK153.out 6
   go_wp2
   go_meet
   case rel=>exact ⟨_,((a0_0 != 1)),(by first|rfl|(simp;done)|(simp [*];done)),H',⟨by first|omega|exact Nat.le_refl _⟩,⟨by (with_reducible repeat(first|refine blk_drewN ?_ _|refine blk_drew ?_|refine blk_alloc ?_ _));exact BK153.out⟩,⟨by repeat(first|(with_reducible first|exact HB.out|apply below_alloc|apply pw_below_drewN|apply below_drew1|refine below_set ?_ GE153.out)|exact HB.out)⟩⟩
 case rest =>
  clear HC2
  try clear p2
  try clear c4
  try clear c4b0
  try clear c4b1
  try clear c5
  try clear hcz5_0
  try clear hcz5_1
  try clear hcz5_2
  try clear hcz5_3
  try clear hcz5_4
  try clear hcz5_5
  try clear hcz5_6
  try clear hcz6_0
  try clear hcz6_1
  try clear hcz6_2
  try clear hcz6_3
  try clear hcz6_4
  try clear hcz6_5
  try clear hcz6_6
  try clear hfz5_0
  try clear hfz5_1
  try clear hfz5_2
  try clear hfz5_3
  try clear hfz5_4
  try clear hfz5_5
  try clear hfz5_6
  try clear hfz6_0
  try clear hfz6_1
  try clear hfz6_2
  try clear hfz6_3
  try clear hfz6_4
  try clear hfz6_5
  try clear hfz6_6
  obtain ⟨kq,x10_1,rfl,HA,HJ1,BK153,HB⟩:=hcut
  cases kq with
  | zero=>exact absurd HA.out (by simp [hornbeamref08_Check.j0])
  | succ kj1 =>
   have H:=HA.out
   clear HA
   simp only [hornbeamref08_Check.j0] at H
   by_cases c7 : x10_1 = true
   ·subst c7
    have H1 : (some 3) = some r:=by rw [if_pos rfl] at H;exact H
    clear H
    have H:=H1
    clear H1
    obtain rfl:=Option.some.inj H
    go_wp2
    go_ret
    exact ⟨by first|rfl|(simp [errW_none,errW_some] <;> rfl)|(simp [*,errW_none,errW_some] <;> rfl),by repeat(first|(with_reducible first|exact HB.out|apply below_alloc|apply pw_below_drewN|apply below_drew1|refine below_set ?_ GE153.out)|exact HB.out)⟩
   ·replace c7:=Bool.eq_false_iff.mpr c7
    subst c7
    have H1 : (if a0_0 = 0 then (if a0_1 < 2 then (hornbeamref08_Check.j1 kj1 true a0_0 a0_1 a0_2 a0_3 a0_4 a0_5 a0_6) else (if a0_0 = 1 then (hornbeamref08_Check.j1 kj1 (a0_1 != 0) a0_0 a0_1 a0_2 a0_3 a0_4 a0_5 a0_6) else (hornbeamref08_Check.j1 kj1 false a0_0 a0_1 a0_2 a0_3 a0_4 a0_5 a0_6))) else (if a0_0 = 1 then (hornbeamref08_Check.j1 kj1 (a0_1 != 0) a0_0 a0_1 a0_2 a0_3 a0_4 a0_5 a0_6) else (hornbeamref08_Check.j1 kj1 false a0_0 a0_1 a0_2 a0_3 a0_4 a0_5 a0_6))) = some r:=by rw [if_neg (show ¬ (false = true) by decide)] at H;exact H
    clear H
    have H:=H1
    clear H1
    have HC8:=Aside0.mk H
    clear H
    go_upto_region 3 with (fail)
    go_cut [28] (fun v28 wc=>∃ (kq : Nat) (x28_7 : Bool),v28 = .bool x28_7 ∧ Aside0 (hornbeamref08_Check.j1 kq x28_7 a0_0 a0_1 a0_2 a0_3 a0_4 a0_5 a0_6 = some r) ∧ Aside0 (kq ≤ kj1) ∧ Aside0 (wc.heap[gb153]? = some (.cells #[.int .i64 a0_0,.int .i64 a0_1,.int .i64 a0_2,.int .i64 a0_3,.int .i64 a0_4,.int .i64 a0_5,.int .i64 a0_6] 23 (0,0))) ∧ Aside0 (Below w.heap.size w wc))
    case first =>
     have H:=HC8.out
     clear HC8
     by_cases c9 : a0_0 = 0
     ·rw [if_pos c9] at H
      have c9b0 : (a0_0 == 0) = true:=beq_iff_eq.mpr c9
      have c9b1 : (a0_0 != 0) = false:=bne_eq_false_iff_eq.mpr c9
      clear c9
      (first|rw [c9b0]|(simp only [i64_w,i32_w];rw [c9b0])|skip)
      by_cases c10 : a0_1 < 2
      ·rw [if_pos c10] at H
       have c10b0 : decide (a0_1 < 2) = true:=decide_eq_true c10
       clear c10
       have H':=Aside0.mk H
       clear H
       have hcz11_0 : wc.cell? ⟨gb153,0,none⟩ = some (.int .i64 a0_0):=(blk_cell BK153.out 0).trans rfl
       have hcz11_1 : wc.cell? ⟨gb153,1,none⟩ = some (.int .i64 a0_1):=(blk_cell BK153.out 1).trans rfl
       have hcz11_2 : wc.cell? ⟨gb153,2,none⟩ = some (.int .i64 a0_2):=(blk_cell BK153.out 2).trans rfl
       have hcz11_3 : wc.cell? ⟨gb153,3,none⟩ = some (.int .i64 a0_3):=(blk_cell BK153.out 3).trans rfl
       have hcz11_4 : wc.cell? ⟨gb153,4,none⟩ = some (.int .i64 a0_4):=(blk_cell BK153.out 4).trans rfl
       have hcz11_5 : wc.cell? ⟨gb153,5,none⟩ = some (.int .i64 a0_5):=(blk_cell BK153.out 5).trans rfl
       have hcz11_6 : wc.cell? ⟨gb153,6,none⟩ = some (.int .i64 a0_6):=(blk_cell BK153.out 6).trans rfl
       have hfz11_0:=blk_frozen BK153.out 0
       have hfz11_1:=blk_frozen BK153.out 1
       have hfz11_2:=blk_frozen BK153.out 2
       have hfz11_3:=blk_frozen BK153.out 3
       have hfz11_4:=blk_frozen BK153.out 4
       have hfz11_5:=blk_frozen BK153.out 5
       have hfz11_6:=blk_frozen BK153.out 6
       go_wp2
       go_meet
       case rel=>exact ⟨_,(true),(by first|rfl|(simp;done)|(simp [*];done)),H',⟨by have:=HJ1.out;first|omega|exact Nat.le_refl _⟩,⟨by (with_reducible repeat(first|refine blk_drewN ?_ _|refine blk_drew ?_|refine blk_alloc ?_ _));exact BK153.out⟩,⟨by repeat(first|(with_reducible first|exact HB.out|apply below_alloc|apply pw_below_drewN|apply below_drew1|refine below_set ?_ GE153.out)|exact HB.out)⟩⟩
      ·rw [if_neg c10] at H
       have c10b0 : decide (a0_1 < 2) = false:=decide_eq_false c10
       clear c10
       by_cases c12 : a0_0 = 1
       ·rw [if_pos c12] at H
        have c12b0 : (a0_0 == 1) = true:=beq_iff_eq.mpr c12
        have c12b1 : (a0_0 != 1) = false:=bne_eq_false_iff_eq.mpr c12
        clear c12
        have H':=Aside0.mk H
        clear H
        have hcz13_0 : wc.cell? ⟨gb153,0,none⟩ = some (.int .i64 a0_0):=(blk_cell BK153.out 0).trans rfl
        have hcz13_1 : wc.cell? ⟨gb153,1,none⟩ = some (.int .i64 a0_1):=(blk_cell BK153.out 1).trans rfl
        have hcz13_2 : wc.cell? ⟨gb153,2,none⟩ = some (.int .i64 a0_2):=(blk_cell BK153.out 2).trans rfl
        have hcz13_3 : wc.cell? ⟨gb153,3,none⟩ = some (.int .i64 a0_3):=(blk_cell BK153.out 3).trans rfl
        have hcz13_4 : wc.cell? ⟨gb153,4,none⟩ = some (.int .i64 a0_4):=(blk_cell BK153.out 4).trans rfl
        have hcz13_5 : wc.cell? ⟨gb153,5,none⟩ = some (.int .i64 a0_5):=(blk_cell BK153.out 5).trans rfl
        have hcz13_6 : wc.cell? ⟨gb153,6,none⟩ = some (.int .i64 a0_6):=(blk_cell BK153.out 6).trans rfl
        have hfz13_0:=blk_frozen BK153.out 0
        have hfz13_1:=blk_frozen BK153.out 1
        have hfz13_2:=blk_frozen BK153.out 2
        have hfz13_3:=blk_frozen BK153.out 3
        have hfz13_4:=blk_frozen BK153.out 4
        have hfz13_5:=blk_frozen BK153.out 5
        have hfz13_6:=blk_frozen BK153.out 6
        go_wp2
        go_meet
        case rel=>exact ⟨_,((a0_1 != 0)),(by first|rfl|(simp;done)|(simp [*];done)),H',⟨by have:=HJ1.out;first|omega|exact Nat.le_refl _⟩,⟨by (with_reducible repeat(first|refine blk_drewN ?_ _|refine blk_drew ?_|refine blk_alloc ?_ _));exact BK153.out⟩,⟨by repeat(first|(with_reducible first|exact HB.out|apply below_alloc|apply pw_below_drewN|apply below_drew1|refine below_set ?_ GE153.out)|exact HB.out)⟩⟩
       ·rw [if_neg c12] at H
        have c12b0 : (a0_0 == 1) = false:=beq_eq_false_iff_ne.mpr c12
        have c12b1 : (a0_0 != 1) = true:=bne_iff_ne.mpr c12
        have H':=Aside0.mk H
        clear H
        have hcz14_0 : wc.cell? ⟨gb153,0,none⟩ = some (.int .i64 a0_0):=(blk_cell BK153.out 0).trans rfl
        have hcz14_1 : wc.cell? ⟨gb153,1,none⟩ = some (.int .i64 a0_1):=(blk_cell BK153.out 1).trans rfl
        have hcz14_2 : wc.cell? ⟨gb153,2,none⟩ = some (.int .i64 a0_2):=(blk_cell BK153.out 2).trans rfl
        have hcz14_3 : wc.cell? ⟨gb153,3,none⟩ = some (.int .i64 a0_3):=(blk_cell BK153.out 3).trans rfl
        have hcz14_4 : wc.cell? ⟨gb153,4,none⟩ = some (.int .i64 a0_4):=(blk_cell BK153.out 4).trans rfl
        have hcz14_5 : wc.cell? ⟨gb153,5,none⟩ = some (.int .i64 a0_5):=(blk_cell BK153.out 5).trans rfl
        have hcz14_6 : wc.cell? ⟨gb153,6,none⟩ = some (.int .i64 a0_6):=(blk_cell BK153.out 6).trans rfl
        have hfz14_0:=blk_frozen BK153.out 0
        have hfz14_1:=blk_frozen BK153.out 1
        have hfz14_2:=blk_frozen BK153.out 2
        have hfz14_3:=blk_frozen BK153.out 3
        have hfz14_4:=blk_frozen BK153.out 4
        have hfz14_5:=blk_frozen BK153.out 5
        have hfz14_6:=blk_frozen BK153.out 6
        go_wp2
        go_meet
        case rel=>exact ⟨_,(false),(by first|rfl|(simp;done)|(simp [*];done)),H',⟨by have:=HJ1.out;first|omega|exact Nat.le_refl _⟩,⟨by (with_reducible repeat(first|refine blk_drewN ?_ _|refine blk_drew ?_|refine blk_alloc ?_ _));exact BK153.out⟩,⟨by repeat(first|(with_reducible first|exact HB.out|apply below_alloc|apply pw_below_drewN|apply below_drew1|refine below_set ?_ GE153.out)|exact HB.out)⟩⟩
     ·rw [if_neg c9] at H
      have c9b0 : (a0_0 == 0) = false:=beq_eq_false_iff_ne.mpr c9
      have c9b1 : (a0_0 != 0) = true:=bne_iff_ne.mpr c9
      (first|rw [c9b0]|(simp only [i64_w,i32_w];rw [c9b0])|skip)
      by_cases c15 : a0_0 = 1
      ·rw [if_pos c15] at H
       have c15b0 : (a0_0 == 1) = true:=beq_iff_eq.mpr c15
       have c15b1 : (a0_0 != 1) = false:=bne_eq_false_iff_eq.mpr c15
       clear c15
       have H':=Aside0.mk H
       clear H
       have hcz16_0 : wc.cell? ⟨gb153,0,none⟩ = some (.int .i64 a0_0):=(blk_cell BK153.out 0).trans rfl
       have hcz16_1 : wc.cell? ⟨gb153,1,none⟩ = some (.int .i64 a0_1):=(blk_cell BK153.out 1).trans rfl
       have hcz16_2 : wc.cell? ⟨gb153,2,none⟩ = some (.int .i64 a0_2):=(blk_cell BK153.out 2).trans rfl
       have hcz16_3 : wc.cell? ⟨gb153,3,none⟩ = some (.int .i64 a0_3):=(blk_cell BK153.out 3).trans rfl
       have hcz16_4 : wc.cell? ⟨gb153,4,none⟩ = some (.int .i64 a0_4):=(blk_cell BK153.out 4).trans rfl
       have hcz16_5 : wc.cell? ⟨gb153,5,none⟩ = some (.int .i64 a0_5):=(blk_cell BK153.out 5).trans rfl
       have hcz16_6 : wc.cell? ⟨gb153,6,none⟩ = some (.int .i64 a0_6):=(blk_cell BK153.out 6).trans rfl
       have hfz16_0:=blk_frozen BK153.out 0
       have hfz16_1:=blk_frozen BK153.out 1
       have hfz16_2:=blk_frozen BK153.out 2
       have hfz16_3:=blk_frozen BK153.out 3
       have hfz16_4:=blk_frozen BK153.out 4
       have hfz16_5:=blk_frozen BK153.out 5
       have hfz16_6:=blk_frozen BK153.out 6
       go_wp2
       go_meet
       case rel=>exact ⟨_,((a0_1 != 0)),(by first|rfl|(simp;done)|(simp [*];done)),H',⟨by have:=HJ1.out;first|omega|exact Nat.le_refl _⟩,⟨by (with_reducible repeat(first|refine blk_drewN ?_ _|refine blk_drew ?_|refine blk_alloc ?_ _));exact BK153.out⟩,⟨by repeat(first|(with_reducible first|exact HB.out|apply below_alloc|apply pw_below_drewN|apply below_drew1|refine below_set ?_ GE153.out)|exact HB.out)⟩⟩
      ·rw [if_neg c15] at H
       have c15b0 : (a0_0 == 1) = false:=beq_eq_false_iff_ne.mpr c15
       have c15b1 : (a0_0 != 1) = true:=bne_iff_ne.mpr c15
       have H':=Aside0.mk H
       clear H
       have hcz17_0 : wc.cell? ⟨gb153,0,none⟩ = some (.int .i64 a0_0):=(blk_cell BK153.out 0).trans rfl
       have hcz17_1 : wc.cell? ⟨gb153,1,none⟩ = some (.int .i64 a0_1):=(blk_cell BK153.out 1).trans rfl
       have hcz17_2 : wc.cell? ⟨gb153,2,none⟩ = some (.int .i64 a0_2):=(blk_cell BK153.out 2).trans rfl
       have hcz17_3 : wc.cell? ⟨gb153,3,none⟩ = some (.int .i64 a0_3):=(blk_cell BK153.out 3).trans rfl
       have hcz17_4 : wc.cell? ⟨gb153,4,none⟩ = some (.int .i64 a0_4):=(blk_cell BK153.out 4).trans rfl
       have hcz17_5 : wc.cell? ⟨gb153,5,none⟩ = some (.int .i64 a0_5):=(blk_cell BK153.out 5).trans rfl
       have hcz17_6 : wc.cell? ⟨gb153,6,none⟩ = some (.int .i64 a0_6):=(blk_cell BK153.out 6).trans rfl
       have hfz17_0:=blk_frozen BK153.out 0
       have hfz17_1:=blk_frozen BK153.out 1
       have hfz17_2:=blk_frozen BK153.out 2
       have hfz17_3:=blk_frozen BK153.out 3
       have hfz17_4:=blk_frozen BK153.out 4
       have hfz17_5:=blk_frozen BK153.out 5
       have hfz17_6:=blk_frozen BK153.out 6
       go_wp2
       go_meet
       case rel=>exact ⟨_,(false),(by first|rfl|(simp;done)|(simp [*];done)),H',⟨by have:=HJ1.out;first|omega|exact Nat.le_refl _⟩,⟨by (with_reducible repeat(first|refine blk_drewN ?_ _|refine blk_drew ?_|refine blk_alloc ?_ _));exact BK153.out⟩,⟨by repeat(first|(with_reducible first|exact HB.out|apply below_alloc|apply pw_below_drewN|apply below_drew1|refine below_set ?_ GE153.out)|exact HB.out)⟩⟩
    case rest =>
     clear HC8
     try clear c1
     try clear p2
     try clear c4
     try clear c4b0
     try clear c4b1
     try clear c5
     try clear c7
     try clear c9
     try clear c9b0
     try clear c9b1
     try clear c10
     try clear c10b0
     try clear c12
     try clear c12b0
     try clear c12b1
     try clear c15
     try clear c15b0
     try clear c15b1
     try clear hcz11_0
     try clear hcz11_1
     try clear hcz11_2
     try clear hcz11_3
     try clear hcz11_4
     try clear hcz11_5
     try clear hcz11_6
     try clear hcz13_0
     try clear hcz13_1
     try clear hcz13_2
     try clear hcz13_3
     try clear hcz13_4
     try clear hcz13_5
     try clear hcz13_6
     try clear hcz14_0
     try clear hcz14_1
     try clear hcz14_2
     try clear hcz14_3
     try clear hcz14_4
     try clear hcz14_5
     try clear hcz14_6
     try clear hcz16_0
     try clear hcz16_1
     try clear hcz16_2
     try clear hcz16_3
     try clear hcz16_4
     try clear hcz16_5
     try clear hcz16_6
     try clear hcz17_0
     try clear hcz17_1
     try clear hcz17_2
     try clear hcz17_3
     try clear hcz17_4
     try clear hcz17_5
     try clear hcz17_6
     try clear hcz5_0
     try clear hcz5_1
     try clear hcz5_2
     try clear hcz5_3
     try clear hcz5_4
     try clear hcz5_5
     try clear hcz5_6
     try clear hcz6_0
     try clear hcz6_1
     try clear hcz6_2
     try clear hcz6_3
     try clear hcz6_4
     try clear hcz6_5
     try clear hcz6_6
     try clear hfz11_0
     try clear hfz11_1
     try clear hfz11_2
     try clear hfz11_3
     try clear hfz11_4
     try clear hfz11_5
     try clear hfz11_6
     try clear hfz13_0
     try clear hfz13_1
     try clear hfz13_2
     try clear hfz13_3
     try clear hfz13_4
     try clear hfz13_5
     try clear hfz13_6
     try clear hfz14_0
     try clear hfz14_1
     try clear hfz14_2
     try clear hfz14_3
     try clear hfz14_4
     try clear hfz14_5
     try clear hfz14_6
     try clear hfz16_0
     try clear hfz16_1
     try clear hfz16_2
     try clear hfz16_3
     try clear hfz16_4
     try clear hfz16_5
     try clear hfz16_6
     try clear hfz17_0
     try clear hfz17_1
     try clear hfz17_2
     try clear hfz17_3
     try clear hfz17_4
     try clear hfz17_5
     try clear hfz17_6
     try clear hfz5_0
     try clear hfz5_1
     try clear hfz5_2
     try clear hfz5_3
     try clear hfz5_4
     try clear hfz5_5
     try clear hfz5_6
     try clear hfz6_0
     try clear hfz6_1
     try clear hfz6_2
     try clear hfz6_3
     try clear hfz6_4
     try clear hfz6_5
     try clear hfz6_6
     try clear p2
     obtain ⟨kq,x28_7,rfl,HA,HJ7,BK153,HB⟩:=hcut
     cases kq with
     | zero=>exact absurd HA.out (by simp [hornbeamref08_Check.j1])
     | succ kj7 =>
      have H:=HA.out
      clear HA
      simp only [hornbeamref08_Check.j1] at H
      by_cases c18 : x28_7 = true
      ·subst c18
       have H1 : (some 3) = some r:=by rw [if_pos rfl] at H;exact H
       clear H
       have H:=H1
       clear H1
       obtain rfl:=Option.some.inj H
       go_wp2
       go_ret
       exact ⟨by first|rfl|(simp [errW_none,errW_some] <;> rfl)|(simp [*,errW_none,errW_some] <;> rfl),by repeat(first|(with_reducible first|exact HB.out|apply below_alloc|apply pw_below_drewN|apply below_drew1|refine below_set ?_ GE153.out)|exact HB.out)⟩
      ·replace c18:=Bool.eq_false_iff.mpr c18
       subst c18
       have H1 : (if a0_1 > 256 then (some 4) else (if a0_2 < 2 then (some 3) else (if a0_2 > 256 then (some 4) else (if a0_3 < 1 then (some 3) else (if a0_3 > 4096 then (some 4) else (if a0_4 < 0 then (some 3) else (if a0_4 > 32 then (some 4) else (if a0_5 < 1 then (some 3) else (if a0_5 > 1048576 then (some 4) else (if a0_6 < 1 then (some 3) else (if a0_6 > 1024 then (some 4) else (some 0)))))))))))) = some r:=by rw [if_neg (show ¬ (false = true) by decide)] at H;exact H
       clear H
       have H:=H1
       clear H1
       by_cases c19 : a0_1 > 256
       ·rw [if_pos c19] at H
        have c19b0 : decide (256 < a0_1) = true:=decide_eq_true c19
        clear c19
        obtain rfl:=Option.some.inj H
        have hcz20_0 : wc.cell? ⟨gb153,0,none⟩ = some (.int .i64 a0_0):=(blk_cell BK153.out 0).trans rfl
        have hcz20_1 : wc.cell? ⟨gb153,1,none⟩ = some (.int .i64 a0_1):=(blk_cell BK153.out 1).trans rfl
        have hcz20_2 : wc.cell? ⟨gb153,2,none⟩ = some (.int .i64 a0_2):=(blk_cell BK153.out 2).trans rfl
        have hcz20_3 : wc.cell? ⟨gb153,3,none⟩ = some (.int .i64 a0_3):=(blk_cell BK153.out 3).trans rfl
        have hcz20_4 : wc.cell? ⟨gb153,4,none⟩ = some (.int .i64 a0_4):=(blk_cell BK153.out 4).trans rfl
        have hcz20_5 : wc.cell? ⟨gb153,5,none⟩ = some (.int .i64 a0_5):=(blk_cell BK153.out 5).trans rfl
        have hcz20_6 : wc.cell? ⟨gb153,6,none⟩ = some (.int .i64 a0_6):=(blk_cell BK153.out 6).trans rfl
        have hfz20_0:=blk_frozen BK153.out 0
        have hfz20_1:=blk_frozen BK153.out 1
        have hfz20_2:=blk_frozen BK153.out 2
        have hfz20_3:=blk_frozen BK153.out 3
        have hfz20_4:=blk_frozen BK153.out 4
        have hfz20_5:=blk_frozen BK153.out 5
        have hfz20_6:=blk_frozen BK153.out 6
        go_wp2
        go_ret
        exact ⟨by first|rfl|(simp [errW_none,errW_some] <;> rfl)|(simp [*,errW_none,errW_some] <;> rfl),by repeat(first|(with_reducible first|exact HB.out|apply below_alloc|apply pw_below_drewN|apply below_drew1|refine below_set ?_ GE153.out)|exact HB.out)⟩
       ·rw [if_neg c19] at H
        have c19b0 : decide (256 < a0_1) = false:=decide_eq_false c19
        clear c19
        by_cases c21 : a0_2 < 2
        ·rw [if_pos c21] at H
         have c21b0 : decide (a0_2 < 2) = true:=decide_eq_true c21
         clear c21
         obtain rfl:=Option.some.inj H
         have hcz22_0 : wc.cell? ⟨gb153,0,none⟩ = some (.int .i64 a0_0):=(blk_cell BK153.out 0).trans rfl
         have hcz22_1 : wc.cell? ⟨gb153,1,none⟩ = some (.int .i64 a0_1):=(blk_cell BK153.out 1).trans rfl
         have hcz22_2 : wc.cell? ⟨gb153,2,none⟩ = some (.int .i64 a0_2):=(blk_cell BK153.out 2).trans rfl
         have hcz22_3 : wc.cell? ⟨gb153,3,none⟩ = some (.int .i64 a0_3):=(blk_cell BK153.out 3).trans rfl
         have hcz22_4 : wc.cell? ⟨gb153,4,none⟩ = some (.int .i64 a0_4):=(blk_cell BK153.out 4).trans rfl
         have hcz22_5 : wc.cell? ⟨gb153,5,none⟩ = some (.int .i64 a0_5):=(blk_cell BK153.out 5).trans rfl
         have hcz22_6 : wc.cell? ⟨gb153,6,none⟩ = some (.int .i64 a0_6):=(blk_cell BK153.out 6).trans rfl
         have hfz22_0:=blk_frozen BK153.out 0
         have hfz22_1:=blk_frozen BK153.out 1
         have hfz22_2:=blk_frozen BK153.out 2
         have hfz22_3:=blk_frozen BK153.out 3
         have hfz22_4:=blk_frozen BK153.out 4
         have hfz22_5:=blk_frozen BK153.out 5
         have hfz22_6:=blk_frozen BK153.out 6
         go_wp2
         go_ret
         exact ⟨by first|rfl|(simp [errW_none,errW_some] <;> rfl)|(simp [*,errW_none,errW_some] <;> rfl),by repeat(first|(with_reducible first|exact HB.out|apply below_alloc|apply pw_below_drewN|apply below_drew1|refine below_set ?_ GE153.out)|exact HB.out)⟩
        ·rw [if_neg c21] at H
         have c21b0 : decide (a0_2 < 2) = false:=decide_eq_false c21
         clear c21
         by_cases c23 : a0_2 > 256
         ·rw [if_pos c23] at H
          have c23b0 : decide (256 < a0_2) = true:=decide_eq_true c23
          clear c23
          obtain rfl:=Option.some.inj H
          have hcz24_0 : wc.cell? ⟨gb153,0,none⟩ = some (.int .i64 a0_0):=(blk_cell BK153.out 0).trans rfl
          have hcz24_1 : wc.cell? ⟨gb153,1,none⟩ = some (.int .i64 a0_1):=(blk_cell BK153.out 1).trans rfl
          have hcz24_2 : wc.cell? ⟨gb153,2,none⟩ = some (.int .i64 a0_2):=(blk_cell BK153.out 2).trans rfl
          have hcz24_3 : wc.cell? ⟨gb153,3,none⟩ = some (.int .i64 a0_3):=(blk_cell BK153.out 3).trans rfl
          have hcz24_4 : wc.cell? ⟨gb153,4,none⟩ = some (.int .i64 a0_4):=(blk_cell BK153.out 4).trans rfl
          have hcz24_5 : wc.cell? ⟨gb153,5,none⟩ = some (.int .i64 a0_5):=(blk_cell BK153.out 5).trans rfl
          have hcz24_6 : wc.cell? ⟨gb153,6,none⟩ = some (.int .i64 a0_6):=(blk_cell BK153.out 6).trans rfl
          have hfz24_0:=blk_frozen BK153.out 0
          have hfz24_1:=blk_frozen BK153.out 1
          have hfz24_2:=blk_frozen BK153.out 2
          have hfz24_3:=blk_frozen BK153.out 3
          have hfz24_4:=blk_frozen BK153.out 4
          have hfz24_5:=blk_frozen BK153.out 5
          have hfz24_6:=blk_frozen BK153.out 6
          go_wp2
          go_ret
          exact ⟨by first|rfl|(simp [errW_none,errW_some] <;> rfl)|(simp [*,errW_none,errW_some] <;> rfl),by repeat(first|(with_reducible first|exact HB.out|apply below_alloc|apply pw_below_drewN|apply below_drew1|refine below_set ?_ GE153.out)|exact HB.out)⟩
         ·rw [if_neg c23] at H
          have c23b0 : decide (256 < a0_2) = false:=decide_eq_false c23
          clear c23
          by_cases c25 : a0_3 < 1
          ·rw [if_pos c25] at H
           have c25b0 : decide (a0_3 < 1) = true:=decide_eq_true c25
           clear c25
           obtain rfl:=Option.some.inj H
           have hcz26_0 : wc.cell? ⟨gb153,0,none⟩ = some (.int .i64 a0_0):=(blk_cell BK153.out 0).trans rfl
           have hcz26_1 : wc.cell? ⟨gb153,1,none⟩ = some (.int .i64 a0_1):=(blk_cell BK153.out 1).trans rfl
           have hcz26_2 : wc.cell? ⟨gb153,2,none⟩ = some (.int .i64 a0_2):=(blk_cell BK153.out 2).trans rfl
           have hcz26_3 : wc.cell? ⟨gb153,3,none⟩ = some (.int .i64 a0_3):=(blk_cell BK153.out 3).trans rfl
           have hcz26_4 : wc.cell? ⟨gb153,4,none⟩ = some (.int .i64 a0_4):=(blk_cell BK153.out 4).trans rfl
           have hcz26_5 : wc.cell? ⟨gb153,5,none⟩ = some (.int .i64 a0_5):=(blk_cell BK153.out 5).trans rfl
           have hcz26_6 : wc.cell? ⟨gb153,6,none⟩ = some (.int .i64 a0_6):=(blk_cell BK153.out 6).trans rfl
           have hfz26_0:=blk_frozen BK153.out 0
           have hfz26_1:=blk_frozen BK153.out 1
           have hfz26_2:=blk_frozen BK153.out 2
           have hfz26_3:=blk_frozen BK153.out 3
           have hfz26_4:=blk_frozen BK153.out 4
           have hfz26_5:=blk_frozen BK153.out 5
           have hfz26_6:=blk_frozen BK153.out 6
           go_wp2
           go_ret
           exact ⟨by first|rfl|(simp [errW_none,errW_some] <;> rfl)|(simp [*,errW_none,errW_some] <;> rfl),by repeat(first|(with_reducible first|exact HB.out|apply below_alloc|apply pw_below_drewN|apply below_drew1|refine below_set ?_ GE153.out)|exact HB.out)⟩
          ·rw [if_neg c25] at H
           have c25b0 : decide (a0_3 < 1) = false:=decide_eq_false c25
           clear c25
           by_cases c27 : a0_3 > 4096
           ·rw [if_pos c27] at H
            have c27b0 : decide (4096 < a0_3) = true:=decide_eq_true c27
            clear c27
            obtain rfl:=Option.some.inj H
            have hcz28_0 : wc.cell? ⟨gb153,0,none⟩ = some (.int .i64 a0_0):=(blk_cell BK153.out 0).trans rfl
            have hcz28_1 : wc.cell? ⟨gb153,1,none⟩ = some (.int .i64 a0_1):=(blk_cell BK153.out 1).trans rfl
            have hcz28_2 : wc.cell? ⟨gb153,2,none⟩ = some (.int .i64 a0_2):=(blk_cell BK153.out 2).trans rfl
            have hcz28_3 : wc.cell? ⟨gb153,3,none⟩ = some (.int .i64 a0_3):=(blk_cell BK153.out 3).trans rfl
            have hcz28_4 : wc.cell? ⟨gb153,4,none⟩ = some (.int .i64 a0_4):=(blk_cell BK153.out 4).trans rfl
            have hcz28_5 : wc.cell? ⟨gb153,5,none⟩ = some (.int .i64 a0_5):=(blk_cell BK153.out 5).trans rfl
            have hcz28_6 : wc.cell? ⟨gb153,6,none⟩ = some (.int .i64 a0_6):=(blk_cell BK153.out 6).trans rfl
            have hfz28_0:=blk_frozen BK153.out 0
            have hfz28_1:=blk_frozen BK153.out 1
            have hfz28_2:=blk_frozen BK153.out 2
            have hfz28_3:=blk_frozen BK153.out 3
            have hfz28_4:=blk_frozen BK153.out 4
            have hfz28_5:=blk_frozen BK153.out 5
            have hfz28_6:=blk_frozen BK153.out 6
            go_wp2
            go_ret
            exact ⟨by first|rfl|(simp [errW_none,errW_some] <;> rfl)|(simp [*,errW_none,errW_some] <;> rfl),by repeat(first|(with_reducible first|exact HB.out|apply below_alloc|apply pw_below_drewN|apply below_drew1|refine below_set ?_ GE153.out)|exact HB.out)⟩
           ·rw [if_neg c27] at H
            have c27b0 : decide (4096 < a0_3) = false:=decide_eq_false c27
            clear c27
            by_cases c29 : a0_4 < 0
            ·rw [if_pos c29] at H
             have c29b0 : decide (a0_4 < 0) = true:=decide_eq_true c29
             clear c29
             obtain rfl:=Option.some.inj H
             have hcz30_0 : wc.cell? ⟨gb153,0,none⟩ = some (.int .i64 a0_0):=(blk_cell BK153.out 0).trans rfl
             have hcz30_1 : wc.cell? ⟨gb153,1,none⟩ = some (.int .i64 a0_1):=(blk_cell BK153.out 1).trans rfl
             have hcz30_2 : wc.cell? ⟨gb153,2,none⟩ = some (.int .i64 a0_2):=(blk_cell BK153.out 2).trans rfl
             have hcz30_3 : wc.cell? ⟨gb153,3,none⟩ = some (.int .i64 a0_3):=(blk_cell BK153.out 3).trans rfl
             have hcz30_4 : wc.cell? ⟨gb153,4,none⟩ = some (.int .i64 a0_4):=(blk_cell BK153.out 4).trans rfl
             have hcz30_5 : wc.cell? ⟨gb153,5,none⟩ = some (.int .i64 a0_5):=(blk_cell BK153.out 5).trans rfl
             have hcz30_6 : wc.cell? ⟨gb153,6,none⟩ = some (.int .i64 a0_6):=(blk_cell BK153.out 6).trans rfl
             have hfz30_0:=blk_frozen BK153.out 0
             have hfz30_1:=blk_frozen BK153.out 1
             have hfz30_2:=blk_frozen BK153.out 2
             have hfz30_3:=blk_frozen BK153.out 3
             have hfz30_4:=blk_frozen BK153.out 4
             have hfz30_5:=blk_frozen BK153.out 5
             have hfz30_6:=blk_frozen BK153.out 6
             go_wp2
             go_ret
             exact ⟨by first|rfl|(simp [errW_none,errW_some] <;> rfl)|(simp [*,errW_none,errW_some] <;> rfl),by repeat(first|(with_reducible first|exact HB.out|apply below_alloc|apply pw_below_drewN|apply below_drew1|refine below_set ?_ GE153.out)|exact HB.out)⟩
            ·rw [if_neg c29] at H
             have c29b0 : decide (a0_4 < 0) = false:=decide_eq_false c29
             clear c29
             by_cases c31 : a0_4 > 32
             ·rw [if_pos c31] at H
              have c31b0 : decide (32 < a0_4) = true:=decide_eq_true c31
              clear c31
              obtain rfl:=Option.some.inj H
              have hcz32_0 : wc.cell? ⟨gb153,0,none⟩ = some (.int .i64 a0_0):=(blk_cell BK153.out 0).trans rfl
              have hcz32_1 : wc.cell? ⟨gb153,1,none⟩ = some (.int .i64 a0_1):=(blk_cell BK153.out 1).trans rfl
              have hcz32_2 : wc.cell? ⟨gb153,2,none⟩ = some (.int .i64 a0_2):=(blk_cell BK153.out 2).trans rfl
              have hcz32_3 : wc.cell? ⟨gb153,3,none⟩ = some (.int .i64 a0_3):=(blk_cell BK153.out 3).trans rfl
              have hcz32_4 : wc.cell? ⟨gb153,4,none⟩ = some (.int .i64 a0_4):=(blk_cell BK153.out 4).trans rfl
              have hcz32_5 : wc.cell? ⟨gb153,5,none⟩ = some (.int .i64 a0_5):=(blk_cell BK153.out 5).trans rfl
              have hcz32_6 : wc.cell? ⟨gb153,6,none⟩ = some (.int .i64 a0_6):=(blk_cell BK153.out 6).trans rfl
              have hfz32_0:=blk_frozen BK153.out 0
              have hfz32_1:=blk_frozen BK153.out 1
              have hfz32_2:=blk_frozen BK153.out 2
              have hfz32_3:=blk_frozen BK153.out 3
              have hfz32_4:=blk_frozen BK153.out 4
              have hfz32_5:=blk_frozen BK153.out 5
              have hfz32_6:=blk_frozen BK153.out 6
              go_wp2
              go_ret
              exact ⟨by first|rfl|(simp [errW_none,errW_some] <;> rfl)|(simp [*,errW_none,errW_some] <;> rfl),by repeat(first|(with_reducible first|exact HB.out|apply below_alloc|apply pw_below_drewN|apply below_drew1|refine below_set ?_ GE153.out)|exact HB.out)⟩
             ·rw [if_neg c31] at H
              have c31b0 : decide (32 < a0_4) = false:=decide_eq_false c31
              clear c31
              by_cases c33 : a0_5 < 1
              ·rw [if_pos c33] at H
               have c33b0 : decide (a0_5 < 1) = true:=decide_eq_true c33
               clear c33
               obtain rfl:=Option.some.inj H
               have hcz34_0 : wc.cell? ⟨gb153,0,none⟩ = some (.int .i64 a0_0):=(blk_cell BK153.out 0).trans rfl
               have hcz34_1 : wc.cell? ⟨gb153,1,none⟩ = some (.int .i64 a0_1):=(blk_cell BK153.out 1).trans rfl
               have hcz34_2 : wc.cell? ⟨gb153,2,none⟩ = some (.int .i64 a0_2):=(blk_cell BK153.out 2).trans rfl
               have hcz34_3 : wc.cell? ⟨gb153,3,none⟩ = some (.int .i64 a0_3):=(blk_cell BK153.out 3).trans rfl
               have hcz34_4 : wc.cell? ⟨gb153,4,none⟩ = some (.int .i64 a0_4):=(blk_cell BK153.out 4).trans rfl
               have hcz34_5 : wc.cell? ⟨gb153,5,none⟩ = some (.int .i64 a0_5):=(blk_cell BK153.out 5).trans rfl
               have hcz34_6 : wc.cell? ⟨gb153,6,none⟩ = some (.int .i64 a0_6):=(blk_cell BK153.out 6).trans rfl
               have hfz34_0:=blk_frozen BK153.out 0
               have hfz34_1:=blk_frozen BK153.out 1
               have hfz34_2:=blk_frozen BK153.out 2
               have hfz34_3:=blk_frozen BK153.out 3
               have hfz34_4:=blk_frozen BK153.out 4
               have hfz34_5:=blk_frozen BK153.out 5
               have hfz34_6:=blk_frozen BK153.out 6
               go_wp2
               go_ret
               exact ⟨by first|rfl|(simp [errW_none,errW_some] <;> rfl)|(simp [*,errW_none,errW_some] <;> rfl),by repeat(first|(with_reducible first|exact HB.out|apply below_alloc|apply pw_below_drewN|apply below_drew1|refine below_set ?_ GE153.out)|exact HB.out)⟩
              ·rw [if_neg c33] at H
               have c33b0 : decide (a0_5 < 1) = false:=decide_eq_false c33
               clear c33
               by_cases c35 : a0_5 > 1048576
               ·rw [if_pos c35] at H
                have c35b0 : decide (1048576 < a0_5) = true:=decide_eq_true c35
                clear c35
                obtain rfl:=Option.some.inj H
                have hcz36_0 : wc.cell? ⟨gb153,0,none⟩ = some (.int .i64 a0_0):=(blk_cell BK153.out 0).trans rfl
                have hcz36_1 : wc.cell? ⟨gb153,1,none⟩ = some (.int .i64 a0_1):=(blk_cell BK153.out 1).trans rfl
                have hcz36_2 : wc.cell? ⟨gb153,2,none⟩ = some (.int .i64 a0_2):=(blk_cell BK153.out 2).trans rfl
                have hcz36_3 : wc.cell? ⟨gb153,3,none⟩ = some (.int .i64 a0_3):=(blk_cell BK153.out 3).trans rfl
                have hcz36_4 : wc.cell? ⟨gb153,4,none⟩ = some (.int .i64 a0_4):=(blk_cell BK153.out 4).trans rfl
                have hcz36_5 : wc.cell? ⟨gb153,5,none⟩ = some (.int .i64 a0_5):=(blk_cell BK153.out 5).trans rfl
                have hcz36_6 : wc.cell? ⟨gb153,6,none⟩ = some (.int .i64 a0_6):=(blk_cell BK153.out 6).trans rfl
                have hfz36_0:=blk_frozen BK153.out 0
                have hfz36_1:=blk_frozen BK153.out 1
                have hfz36_2:=blk_frozen BK153.out 2
                have hfz36_3:=blk_frozen BK153.out 3
                have hfz36_4:=blk_frozen BK153.out 4
                have hfz36_5:=blk_frozen BK153.out 5
                have hfz36_6:=blk_frozen BK153.out 6
                go_wp2
                go_ret
                exact ⟨by first|rfl|(simp [errW_none,errW_some] <;> rfl)|(simp [*,errW_none,errW_some] <;> rfl),by repeat(first|(with_reducible first|exact HB.out|apply below_alloc|apply pw_below_drewN|apply below_drew1|refine below_set ?_ GE153.out)|exact HB.out)⟩
               ·rw [if_neg c35] at H
                have c35b0 : decide (1048576 < a0_5) = false:=decide_eq_false c35
                clear c35
                by_cases c37 : a0_6 < 1
                ·rw [if_pos c37] at H
                 have c37b0 : decide (a0_6 < 1) = true:=decide_eq_true c37
                 clear c37
                 obtain rfl:=Option.some.inj H
                 have hcz38_0 : wc.cell? ⟨gb153,0,none⟩ = some (.int .i64 a0_0):=(blk_cell BK153.out 0).trans rfl
                 have hcz38_1 : wc.cell? ⟨gb153,1,none⟩ = some (.int .i64 a0_1):=(blk_cell BK153.out 1).trans rfl
                 have hcz38_2 : wc.cell? ⟨gb153,2,none⟩ = some (.int .i64 a0_2):=(blk_cell BK153.out 2).trans rfl
                 have hcz38_3 : wc.cell? ⟨gb153,3,none⟩ = some (.int .i64 a0_3):=(blk_cell BK153.out 3).trans rfl
                 have hcz38_4 : wc.cell? ⟨gb153,4,none⟩ = some (.int .i64 a0_4):=(blk_cell BK153.out 4).trans rfl
                 have hcz38_5 : wc.cell? ⟨gb153,5,none⟩ = some (.int .i64 a0_5):=(blk_cell BK153.out 5).trans rfl
                 have hcz38_6 : wc.cell? ⟨gb153,6,none⟩ = some (.int .i64 a0_6):=(blk_cell BK153.out 6).trans rfl
                 have hfz38_0:=blk_frozen BK153.out 0
                 have hfz38_1:=blk_frozen BK153.out 1
                 have hfz38_2:=blk_frozen BK153.out 2
                 have hfz38_3:=blk_frozen BK153.out 3
                 have hfz38_4:=blk_frozen BK153.out 4
                 have hfz38_5:=blk_frozen BK153.out 5
                 have hfz38_6:=blk_frozen BK153.out 6
                 go_wp2
                 go_ret
                 exact ⟨by first|rfl|(simp [errW_none,errW_some] <;> rfl)|(simp [*,errW_none,errW_some] <;> rfl),by repeat(first|(with_reducible first|exact HB.out|apply below_alloc|apply pw_below_drewN|apply below_drew1|refine below_set ?_ GE153.out)|exact HB.out)⟩
                ·rw [if_neg c37] at H
                 have c37b0 : decide (a0_6 < 1) = false:=decide_eq_false c37
                 clear c37
                 by_cases c39 : a0_6 > 1024
                 ·rw [if_pos c39] at H
                  have c39b0 : decide (1024 < a0_6) = true:=decide_eq_true c39
                  clear c39
                  obtain rfl:=Option.some.inj H
                  have hcz40_0 : wc.cell? ⟨gb153,0,none⟩ = some (.int .i64 a0_0):=(blk_cell BK153.out 0).trans rfl
                  have hcz40_1 : wc.cell? ⟨gb153,1,none⟩ = some (.int .i64 a0_1):=(blk_cell BK153.out 1).trans rfl
                  have hcz40_2 : wc.cell? ⟨gb153,2,none⟩ = some (.int .i64 a0_2):=(blk_cell BK153.out 2).trans rfl
                  have hcz40_3 : wc.cell? ⟨gb153,3,none⟩ = some (.int .i64 a0_3):=(blk_cell BK153.out 3).trans rfl
                  have hcz40_4 : wc.cell? ⟨gb153,4,none⟩ = some (.int .i64 a0_4):=(blk_cell BK153.out 4).trans rfl
                  have hcz40_5 : wc.cell? ⟨gb153,5,none⟩ = some (.int .i64 a0_5):=(blk_cell BK153.out 5).trans rfl
                  have hcz40_6 : wc.cell? ⟨gb153,6,none⟩ = some (.int .i64 a0_6):=(blk_cell BK153.out 6).trans rfl
                  have hfz40_0:=blk_frozen BK153.out 0
                  have hfz40_1:=blk_frozen BK153.out 1
                  have hfz40_2:=blk_frozen BK153.out 2
                  have hfz40_3:=blk_frozen BK153.out 3
                  have hfz40_4:=blk_frozen BK153.out 4
                  have hfz40_5:=blk_frozen BK153.out 5
                  have hfz40_6:=blk_frozen BK153.out 6
                  go_wp2
                  go_ret
                  exact ⟨by first|rfl|(simp [errW_none,errW_some] <;> rfl)|(simp [*,errW_none,errW_some] <;> rfl),by repeat(first|(with_reducible first|exact HB.out|apply below_alloc|apply pw_below_drewN|apply below_drew1|refine below_set ?_ GE153.out)|exact HB.out)⟩
                 ·rw [if_neg c39] at H
                  have c39b0 : decide (1024 < a0_6) = false:=decide_eq_false c39
                  clear c39
                  obtain rfl:=Option.some.inj H
                  have hcz41_0 : wc.cell? ⟨gb153,0,none⟩ = some (.int .i64 a0_0):=(blk_cell BK153.out 0).trans rfl
                  have hcz41_1 : wc.cell? ⟨gb153,1,none⟩ = some (.int .i64 a0_1):=(blk_cell BK153.out 1).trans rfl
                  have hcz41_2 : wc.cell? ⟨gb153,2,none⟩ = some (.int .i64 a0_2):=(blk_cell BK153.out 2).trans rfl
                  have hcz41_3 : wc.cell? ⟨gb153,3,none⟩ = some (.int .i64 a0_3):=(blk_cell BK153.out 3).trans rfl
                  have hcz41_4 : wc.cell? ⟨gb153,4,none⟩ = some (.int .i64 a0_4):=(blk_cell BK153.out 4).trans rfl
                  have hcz41_5 : wc.cell? ⟨gb153,5,none⟩ = some (.int .i64 a0_5):=(blk_cell BK153.out 5).trans rfl
                  have hcz41_6 : wc.cell? ⟨gb153,6,none⟩ = some (.int .i64 a0_6):=(blk_cell BK153.out 6).trans rfl
                  have hfz41_0:=blk_frozen BK153.out 0
                  have hfz41_1:=blk_frozen BK153.out 1
                  have hfz41_2:=blk_frozen BK153.out 2
                  have hfz41_3:=blk_frozen BK153.out 3
                  have hfz41_4:=blk_frozen BK153.out 4
                  have hfz41_5:=blk_frozen BK153.out 5
                  have hfz41_6:=blk_frozen BK153.out 6
                  go_wp2
                  go_ret
                  exact ⟨by first|rfl|(simp [errW_none,errW_some] <;> rfl)|(simp [*,errW_none,errW_some] <;> rfl),by repeat(first|(with_reducible first|exact HB.out|apply below_alloc|apply pw_below_drewN|apply below_drew1|refine below_set ?_ GE153.out)|exact HB.out)⟩

end Go.Proofs.Ytnagfbadjbkhmaa.PA
