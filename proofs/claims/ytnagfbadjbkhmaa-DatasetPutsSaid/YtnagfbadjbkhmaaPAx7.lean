import Derived.Test.YtnagfbadjbkhmaaPAx0
import Derived.Test.YtnagfbadjbkhmaaPAx5
import Derived.Test.YtnagfbadjbkhmaaPAx6
namespace Go.Proofs.Ytnagfbadjbkhmaa.PA
open Go.RowKit Go.Proofs.YtnagfbadjbkhmaaW.PrintWords Go.Proofs.YtnagfbadjbkhmaaW.PrintLast Go.Proofs.YtnagfbadjbkhmaaW.PrintMore
attribute [local go_sem] max2_int min2_int max_two min_two max_three min_three max_four min_four   -- for this text's walks alone
attribute [local go_sem high] Flt.fold_eq Flt.fold_ne Flt.fold_lt Flt.fold_gt Flt.fold_le Flt.fold_ge Flt.run_bits Flt.run_frombits
set_option linter.unusedVariables false
set_option linter.unusedSimpArgs false

/-! ### hornbeamref08_Get: function 62 -/
def hornbeamref08_Get.l0 : Nat → ByteArray → List Int → Int → List Int → Int → Option (Int × Int × Int × Int × Int × Int × Int × Int)
 | 0,_,_,_,_,_=>none
 | k + 1,x0,x4,x5,x6,x7=>if x7 < (x6.length : Int) then (if 0 ≤ x7 then ((hornbeamref07_Get.f k x0 x5 (rd x6 x7)).bind fun bt162=>(if x4.length < 17592186044416 then (hornbeamref08_Get.l0 k x0 (x4 ++ [wrap64 (bt162.1)]) bt162.2.1 x6 (wrap64 (x7 + 1))) else (none))) else (none)) else (if 0 < (x4.length : Int) then (if 1 < (x4.length : Int) then (if 2 < (x4.length : Int) then (if 3 < (x4.length : Int) then (if 4 < (x4.length : Int) then (if 5 < (x4.length : Int) then (if 6 < (x4.length : Int) then ((hornbeamref08_Check.f k (rd x4 0) (rd x4 1) (rd x4 2) (rd x4 3) (rd x4 4) (rd x4 5) (rd x4 6)).bind fun t176=>(if t176 = 0 then (some (rd x4 0,rd x4 1,rd x4 2,rd x4 3,rd x4 4,rd x4 5,rd x4 6,0)) else (some (0,0,0,0,0,0,0,t176)))) else (none)) else (none)) else (none)) else (none)) else (none)) else (none)) else (none))
def hornbeamref08_Get.f (k : Nat) (a0 : ByteArray) : Option (Int × Int × Int × Int × Int × Int × Int × Int):=if (a0.size : Int) < 14 then (some (0,0,0,0,0,0,0,2)) else (hornbeamref08_Get.l0 k a0 (([] : List Int)) 0 (([1,2,2,2,1,4,2] : List Int)) 0)
theorem hornbeamref08_Get.mono_l : ∀ k,(∀ y0 y1 y2 y3 y4,LeO (hornbeamref08_Get.l0 k y0 y1 y2 y3 y4) (hornbeamref08_Get.l0 (k + 1) y0 y1 y2 y3 y4))
 | 0=>fun _ _ _ _ _ r h=>by simp [hornbeamref08_Get.l0] at h
 | k + 1=>by
  have ih0:=hornbeamref08_Get.mono_l k
  ·intro y0 y1 y2 y3 y4
   unfold hornbeamref08_Get.l0
   repeat' first
   | (with_reducible exact ih0 _ _ _ _ _)
   | (with_reducible exact hornbeamref07_Get.mono _ _ _ _)
   | (with_reducible exact hornbeamref08_Check.mono _ _ _ _ _ _ _ _)
   | (with_reducible exact LeO.refl _)
   | (with_reducible exact LeO.none _)
   | (with_reducible refine LeO.ite ?_ ?_)
   | (with_reducible refine LeO.bind ?_ (fun _=>?_))
   | exact ih0 _ _ _ _ _
   | exact hornbeamref07_Get.mono _ _ _ _
   | exact hornbeamref08_Check.mono _ _ _ _ _ _ _ _
   | exact LeO.none _
   | refine LeO.ite ?_ ?_
   | refine LeO.bind ?_ (fun _=>?_)
theorem hornbeamref08_Get.mono : ∀ a0 k,LeO (hornbeamref08_Get.f k a0) (hornbeamref08_Get.f (k + 1) a0):=by
 intro a0 k
 have ih0:=hornbeamref08_Get.mono_l k
 unfold hornbeamref08_Get.f
 repeat' first
   | (with_reducible exact ih0 _ _ _ _ _)
   | (with_reducible exact hornbeamref07_Get.mono _ _ _ _)
   | (with_reducible exact hornbeamref08_Check.mono _ _ _ _ _ _ _ _)
   | (with_reducible exact LeO.refl _)
   | (with_reducible exact LeO.none _)
   | (with_reducible refine LeO.ite ?_ ?_)
   | (with_reducible refine LeO.bind ?_ (fun _=>?_))
   | exact ih0 _ _ _ _ _
   | exact hornbeamref07_Get.mono _ _ _ _
   | exact hornbeamref08_Check.mono _ _ _ _ _ _ _ _
   | exact LeO.none _
   | refine LeO.ite ?_ ?_
   | refine LeO.bind ?_ (fun _=>?_)
def hornbeamref08_Get.T12 : Bool × List (List Nat × List Nat):=(true,[([],[]),([0],[0]),([1],[1]),([],[]),([3],[3]),([4],[4]),([],[]),([6],[6]),([7],[7]),([],[]),([9],[9]),([10],[10]),([],[]),([12],[12]),([13],[13]),([],[]),([15],[15]),([16],[16]),([],[]),([18],[18]),([19],[19]),([2,5,8,11,14,17,20],[2,5,8,11,14,17,20]),([],[]),([22,21,0,1,2,3,4,5,6,7,8,9,10,11,12,13,14,15,16,17,18,19,20,21,22],[21,22])])
def hornbeamref08_Get.B12 : List Nat:=[0,1,3,0,8,24,0,64,192,0,512,1536,0,4096,12288,0,32768,98304,0,262144,786432,2097151,0,8388607]
theorem hornbeamref08_Get.tab12 : rtab .any (opsOf Try.f62 12) = hornbeamref08_Get.T12:=by kernel_rfl
theorem hornbeamref08_Get.bits12 : waitsOk hornbeamref08_Get.T12.2 hornbeamref08_Get.B12 = true:=by kernel_rfl
set_option maxHeartbeats 8000000 in
set_option maxRecDepth 100000 in
theorem hornbeamref08_Get.calls (k : Nat) (a0 : ByteArray) (r1 : Int) (r2 : Int) (r3 : Int) (r4 : Int) (r5 : Int) (r6 : Int) (r7 : Int) (r8 : Int) (w : World) (h : hornbeamref08_Get.f k a0 = some (r1,r2,r3,r4,r5,r6,r7,r8)) :
  Calls Try.prog 62 #[.string a0] w fun e w'=>e = .returned (.tuple #[.agg #[.int .i64 r1,.int .i64 r2,.int .i64 r3,.int .i64 r4,.int .i64 r5,.int .i64 r6,.int .i64 r7],.int .i64 r8]) ∧ Below w.heap.size w w':=by
 have hu23:=Try.underlying23
 have HB:=Aside0.mk (Below.refl w.heap.size w)
 have H : (if (a0.size : Int) < 14 then (some (0,0,0,0,0,0,0,2)) else (hornbeamref08_Get.l0 k a0 (([] : List Int)) 0 (([1,2,2,2,1,4,2] : List Int)) 0)) = some (r1,r2,r3,r4,r5,r6,r7,r8):=h
 clear h
 by_cases c2 : (a0.size : Int) < 14
 ·rw [if_pos c2] at H
  have c2b0 : decide ((a0.size : Int) < 14) = true:=decide_eq_true c2
  have c2b1 : decide (a0.size < 14) = true:=decide_eq_true (by omega)
  clear c2
  simp only [Option.some.injEq,Prod.mk.injEq] at H
  obtain ⟨rfl,rfl,rfl,rfl,rfl,rfl,rfl,rfl⟩:=H
  go_enter Try.func62,Try.ntmps62
  go_wp2_with (first|((with_reducible refine gate_dst (N:=2) rfl ?_);refine box_event ?hg (N:=2) ?hd (cs:=#[.int .i64 0,.int .i64 0,.int .i64 0,.int .i64 0,.int .i64 0,.int .i64 0,.int .i64 0]) (t:=23) ?hr ?_;(case hd=>rfl);(case hg=>rfl);(case hr=>first|(go_simp;done)|(go_simp;rfl));intro gb154 hg w3 hbox hb;have n0_:=Aside0.mk (below_step (by repeat(first|(with_reducible first|exact HB.out|apply below_alloc|apply pw_below_drewN|apply below_drew1)|exact HB.out)) hb);have n1_:=Aside0.mk (hbox);have n2_:=Aside0.mk ((by rw [hg];exact (below_size (by repeat(first|(with_reducible first|exact HB.out|apply below_alloc|apply pw_below_drewN|apply below_drew1)|exact HB.out))) : w.heap.size ≤ gb154));have n3_:=Aside0.mk ((by rw [hg];exact (below_size (by repeat(first|(with_reducible first|exact HB.out|apply below_alloc|apply pw_below_drewN|apply below_drew1)|exact HB.out))) : w.heap.size ≤ gb154));clear HB;have HB:=n0_;have BK154:=n1_;have GW154:=n2_;have GE154:=n3_;clear n0_ n1_ n2_ n3_;clear hb hbox hg;have hcz4_0 : w3.cell? ⟨gb154,0,none⟩ = some (.int .i64 0):=(blk_cell BK154.out 0).trans rfl;have hcz4_1 : w3.cell? ⟨gb154,1,none⟩ = some (.int .i64 0):=(blk_cell BK154.out 1).trans rfl;have hcz4_2 : w3.cell? ⟨gb154,2,none⟩ = some (.int .i64 0):=(blk_cell BK154.out 2).trans rfl;have hcz4_3 : w3.cell? ⟨gb154,3,none⟩ = some (.int .i64 0):=(blk_cell BK154.out 3).trans rfl;have hcz4_4 : w3.cell? ⟨gb154,4,none⟩ = some (.int .i64 0):=(blk_cell BK154.out 4).trans rfl;have hcz4_5 : w3.cell? ⟨gb154,5,none⟩ = some (.int .i64 0):=(blk_cell BK154.out 5).trans rfl;have hcz4_6 : w3.cell? ⟨gb154,6,none⟩ = some (.int .i64 0):=(blk_cell BK154.out 6).trans rfl;have hfz4_0:=blk_frozen BK154.out 0;have hfz4_1:=blk_frozen BK154.out 1;have hfz4_2:=blk_frozen BK154.out 2;have hfz4_3:=blk_frozen BK154.out 3;have hfz4_4:=blk_frozen BK154.out 4;have hfz4_5:=blk_frozen BK154.out 5;have hfz4_6:=blk_frozen BK154.out 6))
  refine bodyPost_ret (results_ct rfl _ _ gb154 23 #[.int .i64 0,.int .i64 0,.int .i64 0,.int .i64 0,.int .i64 0,.int .i64 0,.int .i64 0] (0,0) _ rfl (by (with_reducible repeat(first|refine blk_drewN ?_ _|refine blk_drew ?_|refine blk_alloc ?_ _));refine blk_put (cs:=#[.int .i64 0,.int .i64 0,.int .i64 0,.int .i64 0,.int .i64 0,.int .i64 0,.int .i64 0]) ?_ 6 _ rfl;(with_reducible repeat(first|refine blk_drewN ?_ _|refine blk_drew ?_|refine blk_alloc ?_ _));refine blk_put (cs:=#[.int .i64 0,.int .i64 0,.int .i64 0,.int .i64 0,.int .i64 0,.int .i64 0,.int .i64 0]) ?_ 5 _ rfl;(with_reducible repeat(first|refine blk_drewN ?_ _|refine blk_drew ?_|refine blk_alloc ?_ _));refine blk_put (cs:=#[.int .i64 0,.int .i64 0,.int .i64 0,.int .i64 0,.int .i64 0,.int .i64 0,.int .i64 0]) ?_ 4 _ rfl;(with_reducible repeat(first|refine blk_drewN ?_ _|refine blk_drew ?_|refine blk_alloc ?_ _));refine blk_put (cs:=#[.int .i64 0,.int .i64 0,.int .i64 0,.int .i64 0,.int .i64 0,.int .i64 0,.int .i64 0]) ?_ 3 _ rfl;(with_reducible repeat(first|refine blk_drewN ?_ _|refine blk_drew ?_|refine blk_alloc ?_ _));refine blk_put (cs:=#[.int .i64 0,.int .i64 0,.int .i64 0,.int .i64 0,.int .i64 0,.int .i64 0,.int .i64 0]) ?_ 2 _ rfl;(with_reducible repeat(first|refine blk_drewN ?_ _|refine blk_drew ?_|refine blk_alloc ?_ _));refine blk_put (cs:=#[.int .i64 0,.int .i64 0,.int .i64 0,.int .i64 0,.int .i64 0,.int .i64 0,.int .i64 0]) ?_ 1 _ rfl;(with_reducible repeat(first|refine blk_drewN ?_ _|refine blk_drew ?_|refine blk_alloc ?_ _));refine blk_put (cs:=#[.int .i64 0,.int .i64 0,.int .i64 0,.int .i64 0,.int .i64 0,.int .i64 0,.int .i64 0]) ?_ 0 _ rfl;(with_reducible repeat(first|refine blk_drewN ?_ _|refine blk_drew ?_|refine blk_alloc ?_ _));exact BK154.out) Try.underlying23 rfl (by kernel_rfl)) rfl ?_
  exact ⟨by first|rfl|(simp [errW_none,errW_some] <;> rfl)|(simp [*,errW_none,errW_some] <;> rfl),by repeat(first|(with_reducible first|exact HB.out|apply below_alloc|apply pw_below_drewN|apply below_drew1|refine below_set ?_ GE154.out)|exact HB.out)⟩
 ·rw [if_neg c2] at H
  have c2b0 : decide ((a0.size : Int) < 14) = false:=decide_eq_false c2
  have c2b1 : decide (a0.size < 14) = false:=decide_eq_false (by omega)
  clear c2
  obtain ⟨y155,hy155⟩ : ∃ y_ : List Int,y_ = (([] : List Int)):=⟨_,rfl⟩
  replace H : (hornbeamref08_Get.l0 k a0 y155 0 (([1,2,2,2,1,4,2] : List Int)) 0) = some (r1,r2,r3,r4,r5,r6,r7,r8):=by first|(rw [hy155];with_reducible exact H)|(have H2_:=(Option.bind_some _ _).symm.trans H;rw [hy155];with_reducible exact H2_)|(have H2_:=(Option.bind_some _ _).symm.trans H;with_reducible exact H2_)|with_reducible exact H|(rw [hy155];exact H)|exact H
  have Ny155:=Aside0.mk hy155
  clear hy155
  obtain ⟨y158,hy158⟩ : ∃ y_ : List Int,y_ = (([1,2,2,2,1,4,2] : List Int)):=⟨_,rfl⟩
  replace H : (hornbeamref08_Get.l0 k a0 y155 0 y158 0) = some (r1,r2,r3,r4,r5,r6,r7,r8):=by first|(rw [hy158];with_reducible exact H)|(have H2_:=(Option.bind_some _ _).symm.trans H;rw [hy158];with_reducible exact H2_)|(have H2_:=(Option.bind_some _ _).symm.trans H;with_reducible exact H2_)|with_reducible exact H|(rw [hy158];exact H)|exact H
  have Ny158:=Aside0.mk hy158
  clear hy158
  have H':=Aside0.mk H
  clear H
  go_enter Try.func62,Try.ntmps62
  go_wp2_with (first|((with_reducible refine gate_dst (N:=2) rfl ?_);refine box_event ?hg (N:=2) ?hd (cs:=#[.int .i64 0,.int .i64 0,.int .i64 0,.int .i64 0,.int .i64 0,.int .i64 0,.int .i64 0]) (t:=23) ?hr ?_;(case hd=>rfl);(case hg=>rfl);(case hr=>first|(go_simp;done)|(go_simp;rfl));intro gb154 hg w5 hbox hb;have n0_:=Aside0.mk (below_step (by repeat(first|(with_reducible first|exact HB.out|apply below_alloc|apply pw_below_drewN|apply below_drew1)|exact HB.out)) hb);have n1_:=Aside0.mk (hbox);have n2_:=Aside0.mk ((by rw [hg];exact (below_size (by repeat(first|(with_reducible first|exact HB.out|apply below_alloc|apply pw_below_drewN|apply below_drew1)|exact HB.out))) : w.heap.size ≤ gb154));have n3_:=Aside0.mk ((by rw [hg];exact (below_size (by repeat(first|(with_reducible first|exact HB.out|apply below_alloc|apply pw_below_drewN|apply below_drew1)|exact HB.out))) : w.heap.size ≤ gb154));clear HB;have HB:=n0_;have BK154:=n1_;have GW154:=n2_;have GE154:=n3_;clear n0_ n1_ n2_ n3_;clear hb hbox hg)|((with_reducible refine gate_dst (N:=17) rfl ?_);refine Kd.R_lit (Kd.int .i64) _ 3 ?hg (N:=17) ?hd (xs:=([] : List Int)) (inner:=[]) (ok:=fun _=>True) (okp:=fun _=>True) ?hr ?hp (fun _ hk=>hk) trivial (Below.refl _ _) (Nat.le_refl _) (by simp) ?_;(case hd=>rfl);(case hg=>rfl);(case hr=>first|(go_simp;done)|(go_simp;rfl));(case hp=>exact (Reps.none _ _));intro v156 w6 ho7 hb hg_ hnew_;clear hg_ hnew_;(first|rw [← Ny155.out] at ho7|(simp only [Int.reduceToNat] at ho7;rw [← Ny155.out] at ho7));have n0_:=Aside0.mk (Kd.R_lower ho7 (below_size (by repeat(first|(with_reducible first|exact HB.out|apply below_alloc|apply pw_below_drewN|apply below_drew1|refine below_set ?_ GE154.out)|exact HB.out))));have n1_:=Aside0.mk (blk_below (g:=gb154) (o:=.cells #[.int .i64 0,.int .i64 0,.int .i64 0,.int .i64 0,.int .i64 0,.int .i64 0,.int .i64 0] 23 (0,0)) (by (with_reducible repeat(first|refine blk_drewN ?_ _|refine blk_drew ?_|refine blk_alloc ?_ _));exact BK154.out) hb);have n2_:=Aside0.mk (below_step (by repeat(first|(with_reducible first|exact HB.out|apply below_alloc|apply pw_below_drewN|apply below_drew1|refine below_set ?_ GE154.out)|exact HB.out)) hb);clear BK154;clear HB;have HO157:=n0_;have BK154:=n1_;have HB:=n2_;clear n0_ n1_ n2_;clear hb ho7)|((with_reducible refine gate_dst (N:=18) rfl ?_);refine Kd.R_lit (Kd.int .i64) _ 3 ?hg (N:=18) ?hd (xs:=([1,2,2,2,1,4,2] : List Int)) (inner:=[.int .i64 1,.int .i64 2,.int .i64 2,.int .i64 2,.int .i64 1,.int .i64 4,.int .i64 2]) (ok:=fun _=>True) (okp:=fun _=>True) ?hr ?hp (fun _ hk=>hk) trivial (Below.refl _ _) (Nat.le_refl _) (by simp) ?_;(case hd=>rfl);(case hg=>rfl);(case hr=>first|(go_simp;done)|(go_simp;rfl));(case hp=>exact (Reps.one (show Kd.M (Kd.int .i64) _ _ _ 1 [.int .i64 1] from rfl) (Reps.one (show Kd.M (Kd.int .i64) _ _ _ 2 [.int .i64 2] from rfl) (Reps.one (show Kd.M (Kd.int .i64) _ _ _ 2 [.int .i64 2] from rfl) (Reps.one (show Kd.M (Kd.int .i64) _ _ _ 2 [.int .i64 2] from rfl) (Reps.one (show Kd.M (Kd.int .i64) _ _ _ 1 [.int .i64 1] from rfl) (Reps.one (show Kd.M (Kd.int .i64) _ _ _ 4 [.int .i64 4] from rfl) (Reps.one (show Kd.M (Kd.int .i64) _ _ _ 2 [.int .i64 2] from rfl) (Reps.none _ _)))))))));intro v159 w8 ho9 hb hg_ hnew_;clear hg_ hnew_;(first|rw [← Ny158.out] at ho9|(simp only [Int.reduceToNat] at ho9;rw [← Ny158.out] at ho9));have n0_:=Aside0.mk (Kd.R_elder' (by (with_reducible repeat(first|apply Kd.R_alloc|apply Kd.R_drewN|apply Kd.R_drew));exact HO157.out) (Kd.R_base ho9) hb);have n1_:=Aside0.mk (Kd.R_lower (Kd.R_new' ho9 (Kd.R_lt (by (with_reducible repeat(first|apply Kd.R_alloc|apply Kd.R_drewN|apply Kd.R_drew));exact HO157.out))) (below_size (by repeat(first|(with_reducible first|exact HB.out|apply below_alloc|apply pw_below_drewN|apply below_drew1|refine below_set ?_ GE154.out)|exact HB.out))));have n2_:=Aside0.mk (blk_below (g:=gb154) (o:=.cells #[.int .i64 0,.int .i64 0,.int .i64 0,.int .i64 0,.int .i64 0,.int .i64 0,.int .i64 0] 23 (0,0)) (by (with_reducible repeat(first|refine blk_drewN ?_ _|refine blk_drew ?_|refine blk_alloc ?_ _));exact BK154.out) hb);have n3_:=Aside0.mk (below_step (by repeat(first|(with_reducible first|exact HB.out|apply below_alloc|apply pw_below_drewN|apply below_drew1|refine below_set ?_ GE154.out)|exact HB.out)) hb);clear HO157;clear BK154;clear HB;have HO157:=n0_;have HO160:=n1_;have BK154:=n2_;have HB:=n3_;clear n0_ n1_ n2_ n3_;clear hb ho9))
  go_loopg [4,5,7] k (fun kq v4 v5 v7 w'=>∃ (x4_1 : List Int) (x5_1 : Int) (x7_1 : Int),v5 = .int .i64 x5_1 ∧ v7 = .int .i64 x7_1 ∧ Aside0 (hornbeamref08_Get.l0 kq a0 x4_1 x5_1 y158 x7_1 = some (r1,r2,r3,r4,r5,r6,r7,r8)) ∧ Aside0 (kq ≤ k) ∧ Aside0 (Kd.R (Kd.int .i64) 3 w' w.heap.size (fun k_=>some k_ ≠ (v159 : Value).ownBlock) v4 x4_1) ∧ Aside0 (Kd.R (Kd.int .i64) 3 w' w.heap.size (fun k_=>some k_ ≠ (v4 : Value).ownBlock) v159 y158) ∧ Aside0 (w'.heap[gb154]? = some (.cells #[.int .i64 0,.int .i64 0,.int .i64 0,.int .i64 0,.int .i64 0,.int .i64 0,.int .i64 0] 23 (0,0))) ∧ Aside0 (Below w.heap.size w w'))
  case atStart=>exact ⟨(y155),(0),(0),(by first|rfl|(simp;done)|(simp [*];done)),(by first|rfl|(simp;done)|(simp [*];done)),H',⟨Nat.le_refl _⟩,⟨by (with_reducible repeat(first|apply Kd.R_alloc|apply Kd.R_drewN|apply Kd.R_drew));exact Kd.R_mono HO157.out (fun _ hk=>hk.2)⟩,⟨by (with_reducible repeat(first|apply Kd.R_alloc|apply Kd.R_drewN|apply Kd.R_drew));exact Kd.R_mono HO160.out (fun _ hk=>hk.2)⟩,⟨by (with_reducible repeat(first|refine blk_drewN ?_ _|refine blk_drew ?_|refine blk_alloc ?_ _));exact BK154.out⟩,⟨by repeat(first|(with_reducible first|exact HB.out|apply below_alloc|apply pw_below_drewN|apply below_drew1|refine below_set ?_ GE154.out)|exact HB.out)⟩⟩
  case round =>
   clear H'
   try clear c2
   try clear c2b0
   try clear c2b1
   try clear p2
   try clear c6
   try clear hcz4_0
   try clear hcz4_1
   try clear hcz4_2
   try clear hcz4_3
   try clear hcz4_4
   try clear hcz4_5
   try clear hcz4_6
   try clear hfz4_0
   try clear hfz4_1
   try clear hfz4_2
   try clear hfz4_3
   try clear hfz4_4
   try clear hfz4_5
   try clear hfz4_6
   obtain ⟨x4_1,x5_1,x7_1,rfl,rfl,HA,HK1,HO_4,HO_6,BK154,HB⟩:=hrel
   cases gk with
   | zero=>exact absurd HA.out (by simp [hornbeamref08_Get.l0])
   | succ k1 =>
    have H:=HA.out
    clear HA
    simp only [hornbeamref08_Get.l0] at H
    by_cases c10 : x7_1 < (y158.length : Int)
    ·rw [if_pos c10] at H
     have c10b0 : decide (x7_1 < (y158.length : Int)) = true:=decide_eq_true c10
     clear c10
     by_cases c11 : 0 ≤ x7_1
     ·rw [if_pos c11] at H
      have c11b0 : decide (0 ≤ x7_1) = true:=decide_eq_true c11
      clear c11
      replace H:=Option.bind_eq_some_iff.mp H
      obtain ⟨⟨t162,t163,t164⟩,A120,H⟩:=H
      replace H : (if x4_1.length < 17592186044416 then (hornbeamref08_Get.l0 k1 a0 (x4_1 ++ [wrap64 (t162)]) t163 y158 (wrap64 (x7_1 + 1))) else (none)) = some (r1,r2,r3,r4,r5,r6,r7,r8):=H
      have A12:=Aside0.mk A120
      clear A120
      by_cases c13 : x4_1.length < 17592186044416
      ·rw [if_pos c13] at H
       have LMc13:=Aside0.mk c13
       clear c13
       obtain ⟨y165,hy165⟩ : ∃ y_ : List Int,y_ = (x4_1 ++ [wrap64 (t162)]):=⟨_,rfl⟩
       replace H : (hornbeamref08_Get.l0 k1 a0 y165 t163 y158 (wrap64 (x7_1 + 1))) = some (r1,r2,r3,r4,r5,r6,r7,r8):=by first|(rw [hy165];with_reducible exact H)|(have H2_:=(Option.bind_some _ _).symm.trans H;rw [hy165];with_reducible exact H2_)|(have H2_:=(Option.bind_some _ _).symm.trans H;with_reducible exact H2_)|with_reducible exact H|(rw [hy165];exact H)|exact H
       have Ny165:=Aside0.mk hy165
       clear hy165
       have H':=Aside0.mk H
       clear H
       obtain ⟨Ao14,co14,eo14⟩:=Kd.R_slice HO_6.out
       subst eo14
       have p161 : 0 ≤ (x7_1 : Int):=of_decide_eq_true (by first|(with_reducible assumption)|assumption)
       have q161 : x7_1 < (y158.length : Int):=of_decide_eq_true (by first|(with_reducible assumption)|assumption)
       obtain ⟨ad161,e161,hx161_0⟩:=Kd.at_int (Kd.R_reads' HO_6.out).2.2 x7_1 p161 q161
       cases e161
       replace p161:=eq_true p161
       replace q161:=eq_true q161
       go_wp2_with (first|((with_reducible refine gate_callee (f:=63) rfl ?_);refine goesL_ (some 32) rfl rfl Try.func63 (by kernel_rfl) rfl #[.string a0,.int .i64 x5_1,.int .i64 (rd y158 x7_1)] rfl (by (try simp only [List.map_toArray,List.map_cons,List.map_nil]);first|done|rfl|(simp only [List.length_drop,List.length_take];rfl)) ?_;(with_reducible refine (hornbeamref07_Get.calls k1 a0 x5_1 (rd y158 x7_1) t162 t163 t164 _ A12.out).mono ?_);rintro e w' ⟨rfl,⟨nd,rfl⟩⟩;refine ⟨_,rfl,?_⟩)|((with_reducible refine gate_builtin (b:=.append) (xs:=#[.tmp 36,.tmp 39]) rfl ?_);at_builtin;refine Kd.R_append (Kd.int .i64) (w0:=w) w.heap.size rfl (.tmp 36) (.tmp 39) 69 3 (.int .i64 0) 8 rfl Try.underlying69 info3 rfl (by decide) (by omega) u4 x4_1 (wrap64 (t162)) [.int .i64 (wrap64 (t162))] (fun k_=>some k_ ≠ (.slice (some ad161) y158.length co14 : Value).ownBlock) (fun _=>False) rfl rfl ?aP (fun _ hk=>hk.elim) ?aF ?aO ?aB ?aS ?aL ?_;(case aP=>exact rfl);(case aB=>exact (by repeat(first|(with_reducible first|exact HB.out|apply below_alloc|apply pw_below_drewN|apply below_drew1|refine below_set ?_ GE154.out)|exact HB.out)));(case aF=>exact (fun k_ hk=>Kd.fresh' (Kd.R_lt (by (with_reducible repeat(first|apply Kd.R_alloc|apply Kd.R_drewN|apply Kd.R_drew));exact HO_6.out)) k_ hk));(case aO=>exact (by (with_reducible repeat(first|apply Kd.R_alloc|apply Kd.R_drewN|apply Kd.R_drew));exact HO_4.out));(case aS=>exact (below_size (by repeat(first|(with_reducible first|exact HB.out|apply below_alloc|apply pw_below_drewN|apply below_drew1|refine below_set ?_ GE154.out)|exact HB.out))));(case aL=>have:=LMc13.out;omega);intro v166 w15 ho hb hg hat;rw [← Ny165.out] at ho;have n0_:=Aside0.mk (Kd.R_after (ok:=(fun _=>True)) (by (with_reducible repeat(first|apply Kd.R_alloc|apply Kd.R_drewN|apply Kd.R_drew));exact Kd.R_mono HO_6.out (fun _ hk=>⟨trivial,hk⟩)) hg hat);have n1_:=Aside0.mk (blk_grown (g:=gb154) (o:=.cells #[.int .i64 0,.int .i64 0,.int .i64 0,.int .i64 0,.int .i64 0,.int .i64 0,.int .i64 0] 23 (0,0)) (by (with_reducible repeat(first|refine blk_drewN ?_ _|refine blk_drew ?_|refine blk_alloc ?_ _));exact BK154.out) hg (Kd.R_ne HO_4.out BK154.out (by decide)));have n2_:=Aside0.mk (hb);have n3_:=Aside0.mk (ho);clear HO_6;clear BK154;clear HB;clear HO_4;have HO_6:=n0_;have BK154:=n1_;have HB:=n2_;have HO167:=n3_;clear n0_ n1_ n2_ n3_;clear ho hb hg hat))
       go_roundg k1
       case measure=>have:=HK1.out;omega
       case rel=>exact ⟨(y165),(t163),(wrap64 (x7_1 + 1)),(by first|rfl|(simp;done)|(simp [*];done)),(by first|rfl|(simp;done)|(simp [*];done)),H',⟨by have:=HK1.out;omega⟩,⟨by (with_reducible repeat(first|apply Kd.R_alloc|apply Kd.R_drewN|apply Kd.R_drew));exact HO167.out⟩,⟨by (with_reducible repeat(first|apply Kd.R_alloc|apply Kd.R_drewN|apply Kd.R_drew));exact Kd.R_mono HO_6.out (fun _ hk=>hk.2)⟩,⟨by (with_reducible repeat(first|refine blk_drewN ?_ _|refine blk_drew ?_|refine blk_alloc ?_ _));exact BK154.out⟩,⟨by repeat(first|(with_reducible first|exact HB.out|apply below_alloc|apply pw_below_drewN|apply below_drew1|refine below_set ?_ GE154.out)|exact HB.out)⟩⟩
      ·rw [if_neg c13] at H
       exact absurd H (by simp)
     ·rw [if_neg c11] at H
      exact absurd H (by simp)
    ·rw [if_neg c10] at H
     have c10b0 : decide (x7_1 < (y158.length : Int)) = false:=decide_eq_false c10
     clear c10
     by_cases c16 : 0 < (x4_1.length : Int)
     ·rw [if_pos c16] at H
      have c16b0 : decide (0 < (x4_1.length : Int)) = true:=decide_eq_true c16
      have c16b1 : decide (0 < x4_1.length) = true:=decide_eq_true (by omega)
      clear c16
      by_cases c17 : 1 < (x4_1.length : Int)
      ·rw [if_pos c17] at H
       have c17b0 : decide (1 < (x4_1.length : Int)) = true:=decide_eq_true c17
       have c17b1 : decide (1 < x4_1.length) = true:=decide_eq_true (by omega)
       clear c17
       by_cases c18 : 2 < (x4_1.length : Int)
       ·rw [if_pos c18] at H
        have c18b0 : decide (2 < (x4_1.length : Int)) = true:=decide_eq_true c18
        have c18b1 : decide (2 < x4_1.length) = true:=decide_eq_true (by omega)
        clear c18
        by_cases c19 : 3 < (x4_1.length : Int)
        ·rw [if_pos c19] at H
         have c19b0 : decide (3 < (x4_1.length : Int)) = true:=decide_eq_true c19
         have c19b1 : decide (3 < x4_1.length) = true:=decide_eq_true (by omega)
         clear c19
         by_cases c20 : 4 < (x4_1.length : Int)
         ·rw [if_pos c20] at H
          have c20b0 : decide (4 < (x4_1.length : Int)) = true:=decide_eq_true c20
          have c20b1 : decide (4 < x4_1.length) = true:=decide_eq_true (by omega)
          clear c20
          by_cases c21 : 5 < (x4_1.length : Int)
          ·rw [if_pos c21] at H
           have c21b0 : decide (5 < (x4_1.length : Int)) = true:=decide_eq_true c21
           have c21b1 : decide (5 < x4_1.length) = true:=decide_eq_true (by omega)
           clear c21
           by_cases c22 : 6 < (x4_1.length : Int)
           ·rw [if_pos c22] at H
            have c22b0 : decide (6 < (x4_1.length : Int)) = true:=decide_eq_true c22
            have c22b1 : decide (6 < x4_1.length) = true:=decide_eq_true (by omega)
            clear c22
            replace H:=Option.bind_eq_some_iff.mp H
            obtain ⟨t176,A230,H⟩:=H
            replace H : (if t176 = 0 then (some (rd x4_1 0,rd x4_1 1,rd x4_1 2,rd x4_1 3,rd x4_1 4,rd x4_1 5,rd x4_1 6,0)) else (some (0,0,0,0,0,0,0,t176))) = some (r1,r2,r3,r4,r5,r6,r7,r8):=H
            have A23:=Aside0.mk A230
            clear A230
            by_cases c24 : t176 = 0
            ·rw [if_pos c24] at H
             have c24b0 : (t176 == 0) = true:=beq_iff_eq.mpr c24
             have c24b1 : (t176 != 0) = false:=bne_eq_false_iff_eq.mpr c24
             clear c24
             simp only [Option.some.injEq,Prod.mk.injEq] at H
             obtain ⟨rfl,rfl,rfl,rfl,rfl,rfl,rfl,rfl⟩:=H
             obtain ⟨Ao25,co25,eo25⟩:=Kd.R_slice HO_6.out
             subst eo25
             try go_wp2
             have n0_:=Aside0.mk (Kd.R_drew HO_4.out)
             have n1_:=Aside0.mk (Kd.R_drew HO_6.out)
             have n2_:=Aside0.mk (blk_drew BK154.out)
             have n3_:=Aside0.mk (below_drew1 HB.out)
             clear HO_4
             clear HO_6
             clear BK154
             clear HB
             have HO_4:=n0_
             have HO_6:=n1_
             have BK154:=n2_
             have HB:=n3_
             clear n0_ n1_ n2_ n3_
             obtain ⟨Ao27,co27,eo27⟩:=Kd.R_slice HO_4.out
             (first|subst eo27|(injection eo27 with f1_ f2_ f3_;have f4_:=f1_.symm;have f5_:=f3_.symm;clear f1_ f2_ f3_;subst f4_;subst f5_))
             have p168 : 0 ≤ (0 : Int):=(by omega)
             have q168 : 0 < (x4_1.length : Int):=of_decide_eq_true (by first|(with_reducible assumption)|assumption)
             obtain ⟨ad168,e168,hx168_0⟩:=Kd.at_int (Kd.R_reads' HO_4.out).2.2 0 p168 q168
             cases e168
             have qi168 : (0 < x4_1.length) = True:=eq_true (by omega)
             (try rw [show ((0 : Int)).toNat = 0 from rfl] at hx168_0)
             (try rw [Addr.add_zero'] at hx168_0)
             replace p168:=eq_true p168
             replace q168:=eq_true q168
             have p169 : 0 ≤ (1 : Int):=(by omega)
             have q169 : 1 < (x4_1.length : Int):=of_decide_eq_true (by first|(with_reducible assumption)|assumption)
             obtain ⟨ad169,e169,hx169_0⟩:=Kd.at_int (Kd.R_reads' HO_4.out).2.2 1 p169 q169
             obtain rfl : ad168 = ad169:=(by injection e169)
             (try simp only [show (1 : Int).toNat = 1 from rfl,Nat.reduceMul,Nat.reduceEqDiff,Go.Addr.add,↓reduceIte] at hx169_0)
             have qi169 : (1 < x4_1.length) = True:=eq_true (by omega)
             (try rw [show ((1 : Int)).toNat = 1 from rfl] at hx169_0)
             replace p169:=eq_true p169
             replace q169:=eq_true q169
             have p170 : 0 ≤ (2 : Int):=(by omega)
             have q170 : 2 < (x4_1.length : Int):=of_decide_eq_true (by first|(with_reducible assumption)|assumption)
             obtain ⟨ad170,e170,hx170_0⟩:=Kd.at_int (Kd.R_reads' HO_4.out).2.2 2 p170 q170
             obtain rfl : ad168 = ad170:=(by injection e170)
             (try simp only [show (2 : Int).toNat = 2 from rfl,Nat.reduceMul,Nat.reduceEqDiff,Go.Addr.add,↓reduceIte] at hx170_0)
             have qi170 : (2 < x4_1.length) = True:=eq_true (by omega)
             (try rw [show ((2 : Int)).toNat = 2 from rfl] at hx170_0)
             replace p170:=eq_true p170
             replace q170:=eq_true q170
             have p171 : 0 ≤ (3 : Int):=(by omega)
             have q171 : 3 < (x4_1.length : Int):=of_decide_eq_true (by first|(with_reducible assumption)|assumption)
             obtain ⟨ad171,e171,hx171_0⟩:=Kd.at_int (Kd.R_reads' HO_4.out).2.2 3 p171 q171
             obtain rfl : ad168 = ad171:=(by injection e171)
             (try simp only [show (3 : Int).toNat = 3 from rfl,Nat.reduceMul,Nat.reduceEqDiff,Go.Addr.add,↓reduceIte] at hx171_0)
             have qi171 : (3 < x4_1.length) = True:=eq_true (by omega)
             (try rw [show ((3 : Int)).toNat = 3 from rfl] at hx171_0)
             replace p171:=eq_true p171
             replace q171:=eq_true q171
             have p172 : 0 ≤ (4 : Int):=(by omega)
             have q172 : 4 < (x4_1.length : Int):=of_decide_eq_true (by first|(with_reducible assumption)|assumption)
             obtain ⟨ad172,e172,hx172_0⟩:=Kd.at_int (Kd.R_reads' HO_4.out).2.2 4 p172 q172
             obtain rfl : ad168 = ad172:=(by injection e172)
             (try simp only [show (4 : Int).toNat = 4 from rfl,Nat.reduceMul,Nat.reduceEqDiff,Go.Addr.add,↓reduceIte] at hx172_0)
             have qi172 : (4 < x4_1.length) = True:=eq_true (by omega)
             (try rw [show ((4 : Int)).toNat = 4 from rfl] at hx172_0)
             replace p172:=eq_true p172
             replace q172:=eq_true q172
             have p173 : 0 ≤ (5 : Int):=(by omega)
             have q173 : 5 < (x4_1.length : Int):=of_decide_eq_true (by first|(with_reducible assumption)|assumption)
             obtain ⟨ad173,e173,hx173_0⟩:=Kd.at_int (Kd.R_reads' HO_4.out).2.2 5 p173 q173
             obtain rfl : ad168 = ad173:=(by injection e173)
             (try simp only [show (5 : Int).toNat = 5 from rfl,Nat.reduceMul,Nat.reduceEqDiff,Go.Addr.add,↓reduceIte] at hx173_0)
             have qi173 : (5 < x4_1.length) = True:=eq_true (by omega)
             (try rw [show ((5 : Int)).toNat = 5 from rfl] at hx173_0)
             replace p173:=eq_true p173
             replace q173:=eq_true q173
             have p174 : 0 ≤ (6 : Int):=(by omega)
             have q174 : 6 < (x4_1.length : Int):=of_decide_eq_true (by first|(with_reducible assumption)|assumption)
             obtain ⟨ad174,e174,hx174_0⟩:=Kd.at_int (Kd.R_reads' HO_4.out).2.2 6 p174 q174
             obtain rfl : ad168 = ad174:=(by injection e174)
             (try simp only [show (6 : Int).toNat = 6 from rfl,Nat.reduceMul,Nat.reduceEqDiff,Go.Addr.add,↓reduceIte] at hx174_0)
             have qi174 : (6 < x4_1.length) = True:=eq_true (by omega)
             (try rw [show ((6 : Int)).toNat = 6 from rfl] at hx174_0)
             replace p174:=eq_true p174
             replace q174:=eq_true q174
             refine start_ (n:=24) (S:=fun w'=>w'.cell? ad168 = some (.int .i64 (rd x4_1 0)) ∧ w'.cell? ⟨ad168.block,ad168.off + 1,none⟩ = some (.int .i64 (rd x4_1 1)) ∧ w'.cell? ⟨ad168.block,ad168.off + 2,none⟩ = some (.int .i64 (rd x4_1 2)) ∧ w'.cell? ⟨ad168.block,ad168.off + 3,none⟩ = some (.int .i64 (rd x4_1 3)) ∧ w'.cell? ⟨ad168.block,ad168.off + 4,none⟩ = some (.int .i64 (rd x4_1 4)) ∧ w'.cell? ⟨ad168.block,ad168.off + 5,none⟩ = some (.int .i64 (rd x4_1 5)) ∧ w'.cell? ⟨ad168.block,ad168.off + 6,none⟩ = some (.int .i64 (rd x4_1 6))) (ds:=[23]) #[false,false,false,false,false,false,false,false,false,false,false,false,false,false,false,false,false,false,false,false,false,false,false,false] (by kernel_rfl) rfl rfl ⟨hx168_0,hx169_0,hx170_0,hx171_0,hx172_0,hx173_0,hx174_0⟩ (fun hHeld=>?_);refine with_tabW hornbeamref08_Get.tab12 hornbeamref08_Get.bits12 (fun HT_ HW_=>?_)
             generalize wr.drew = w26 at HO_4 HO_6 BK154 HB hx168_0 hx169_0 hx170_0 hx171_0 hx172_0 hx173_0 hx174_0 hHeld ⊢
             refine pure_ (i:=0) (N:=some 42) (v:=?_) (a':=?_) #[true,false,false,false,false,false,false,false,false,false,false,false,false,false,false,false,false,false,false,false,false,false,false,false] rfl rfl (any_of HT_.out (by kernel_rfl)) (fun _ _ _ h=>h) (Or.inl ⟨by rfl,?_⟩) ?_ ?_
             rotate_left
             ·intro w'
              go_simp
              with_reducible rfl
             rotate_left
             ·simp only [Act.put,List.setIfInBounds_toArray,List.set_cons_zero,List.set_cons_succ,i64_w,i32_w]
              rfl
             refine pure_ (i:=1) (N:=some 43) (v:=?_) (a':=?_) #[true,true,false,false,false,false,false,false,false,false,false,false,false,false,false,false,false,false,false,false,false,false,false,false] rfl rfl (any_of HT_.out (by kernel_rfl)) (fun _ _ _ h=>h) (Or.inl ⟨by rfl,?_⟩) ?_ ?_
             rotate_left
             ·intro w'
              go_simp
              with_reducible rfl
             rotate_left
             ·simp only [Act.put,List.setIfInBounds_toArray,List.set_cons_zero,List.set_cons_succ,i64_w,i32_w]
              rfl
             refine pure_ (i:=3) (N:=some 45) (v:=?_) (a':=?_) #[true,true,false,true,false,false,false,false,false,false,false,false,false,false,false,false,false,false,false,false,false,false,false,false] rfl rfl (any_of HT_.out (by kernel_rfl)) (fun _ _ _ h=>h) (Or.inl ⟨by rfl,?_⟩) ?_ ?_
             rotate_left
             ·intro w'
              go_simp
              with_reducible rfl
             rotate_left
             ·simp only [Act.put,List.setIfInBounds_toArray,List.set_cons_zero,List.set_cons_succ,i64_w,i32_w]
              rfl
             refine pure_ (i:=4) (N:=some 46) (v:=?_) (a':=?_) #[true,true,false,true,true,false,false,false,false,false,false,false,false,false,false,false,false,false,false,false,false,false,false,false] rfl rfl (any_of HT_.out (by kernel_rfl)) (fun _ _ _ h=>h) (Or.inl ⟨by rfl,?_⟩) ?_ ?_
             rotate_left
             ·intro w'
              go_simp
              with_reducible rfl
             rotate_left
             ·simp only [Act.put,List.setIfInBounds_toArray,List.set_cons_zero,List.set_cons_succ,i64_w,i32_w]
              rfl
             refine pure_ (i:=6) (N:=some 48) (v:=?_) (a':=?_) #[true,true,false,true,true,false,true,false,false,false,false,false,false,false,false,false,false,false,false,false,false,false,false,false] rfl rfl (any_of HT_.out (by kernel_rfl)) (fun _ _ _ h=>h) (Or.inl ⟨by rfl,?_⟩) ?_ ?_
             rotate_left
             ·intro w'
              go_simp
              with_reducible rfl
             rotate_left
             ·simp only [Act.put,List.setIfInBounds_toArray,List.set_cons_zero,List.set_cons_succ,i64_w,i32_w]
              rfl
             refine pure_ (i:=7) (N:=some 49) (v:=?_) (a':=?_) #[true,true,false,true,true,false,true,true,false,false,false,false,false,false,false,false,false,false,false,false,false,false,false,false] rfl rfl (any_of HT_.out (by kernel_rfl)) (fun _ _ _ h=>h) (Or.inl ⟨by rfl,?_⟩) ?_ ?_
             rotate_left
             ·intro w'
              go_simp
              with_reducible rfl
             rotate_left
             ·simp only [Act.put,List.setIfInBounds_toArray,List.set_cons_zero,List.set_cons_succ,i64_w,i32_w]
              rfl
             refine pure_ (i:=9) (N:=some 51) (v:=?_) (a':=?_) #[true,true,false,true,true,false,true,true,false,true,false,false,false,false,false,false,false,false,false,false,false,false,false,false] rfl rfl (any_of HT_.out (by kernel_rfl)) (fun _ _ _ h=>h) (Or.inl ⟨by rfl,?_⟩) ?_ ?_
             rotate_left
             ·intro w'
              go_simp
              with_reducible rfl
             rotate_left
             ·simp only [Act.put,List.setIfInBounds_toArray,List.set_cons_zero,List.set_cons_succ,i64_w,i32_w]
              rfl
             refine pure_ (i:=10) (N:=some 52) (v:=?_) (a':=?_) #[true,true,false,true,true,false,true,true,false,true,true,false,false,false,false,false,false,false,false,false,false,false,false,false] rfl rfl (any_of HT_.out (by kernel_rfl)) (fun _ _ _ h=>h) (Or.inl ⟨by rfl,?_⟩) ?_ ?_
             rotate_left
             ·intro w'
              go_simp
              with_reducible rfl
             rotate_left
             ·simp only [Act.put,List.setIfInBounds_toArray,List.set_cons_zero,List.set_cons_succ,i64_w,i32_w]
              rfl
             refine pure_ (i:=12) (N:=some 54) (v:=?_) (a':=?_) #[true,true,false,true,true,false,true,true,false,true,true,false,true,false,false,false,false,false,false,false,false,false,false,false] rfl rfl (any_of HT_.out (by kernel_rfl)) (fun _ _ _ h=>h) (Or.inl ⟨by rfl,?_⟩) ?_ ?_
             rotate_left
             ·intro w'
              go_simp
              with_reducible rfl
             rotate_left
             ·simp only [Act.put,List.setIfInBounds_toArray,List.set_cons_zero,List.set_cons_succ,i64_w,i32_w]
              rfl
             refine pure_ (i:=13) (N:=some 55) (v:=?_) (a':=?_) #[true,true,false,true,true,false,true,true,false,true,true,false,true,true,false,false,false,false,false,false,false,false,false,false] rfl rfl (any_of HT_.out (by kernel_rfl)) (fun _ _ _ h=>h) (Or.inl ⟨by rfl,?_⟩) ?_ ?_
             rotate_left
             ·intro w'
              go_simp
              with_reducible rfl
             rotate_left
             ·simp only [Act.put,List.setIfInBounds_toArray,List.set_cons_zero,List.set_cons_succ,i64_w,i32_w]
              rfl
             refine pure_ (i:=15) (N:=some 57) (v:=?_) (a':=?_) #[true,true,false,true,true,false,true,true,false,true,true,false,true,true,false,true,false,false,false,false,false,false,false,false] rfl rfl (any_of HT_.out (by kernel_rfl)) (fun _ _ _ h=>h) (Or.inl ⟨by rfl,?_⟩) ?_ ?_
             rotate_left
             ·intro w'
              go_simp
              with_reducible rfl
             rotate_left
             ·simp only [Act.put,List.setIfInBounds_toArray,List.set_cons_zero,List.set_cons_succ,i64_w,i32_w]
              rfl
             refine pure_ (i:=16) (N:=some 58) (v:=?_) (a':=?_) #[true,true,false,true,true,false,true,true,false,true,true,false,true,true,false,true,true,false,false,false,false,false,false,false] rfl rfl (any_of HT_.out (by kernel_rfl)) (fun _ _ _ h=>h) (Or.inl ⟨by rfl,?_⟩) ?_ ?_
             rotate_left
             ·intro w'
              go_simp
              with_reducible rfl
             rotate_left
             ·simp only [Act.put,List.setIfInBounds_toArray,List.set_cons_zero,List.set_cons_succ,i64_w,i32_w]
              rfl
             refine pure_ (i:=18) (N:=some 60) (v:=?_) (a':=?_) #[true,true,false,true,true,false,true,true,false,true,true,false,true,true,false,true,true,false,true,false,false,false,false,false] rfl rfl (any_of HT_.out (by kernel_rfl)) (fun _ _ _ h=>h) (Or.inl ⟨by rfl,?_⟩) ?_ ?_
             rotate_left
             ·intro w'
              go_simp
              with_reducible rfl
             rotate_left
             ·simp only [Act.put,List.setIfInBounds_toArray,List.set_cons_zero,List.set_cons_succ,i64_w,i32_w]
              rfl
             refine pure_ (i:=19) (N:=some 61) (v:=?_) (a':=?_) #[true,true,false,true,true,false,true,true,false,true,true,false,true,true,false,true,true,false,true,true,false,false,false,false] rfl rfl (any_of HT_.out (by kernel_rfl)) (fun _ _ _ h=>h) (Or.inl ⟨by rfl,?_⟩) ?_ ?_
             rotate_left
             ·intro w'
              go_simp
              with_reducible rfl
             rotate_left
             ·simp only [Act.put,List.setIfInBounds_toArray,List.set_cons_zero,List.set_cons_succ,i64_w,i32_w]
              rfl
             refine take_ (i:=2) (N:=some 44) (v:=?_) (a':=?_) #[true,true,true,true,true,false,true,true,false,true,true,false,true,true,false,true,true,false,true,true,false,false,false,false] rfl rfl (take_ofW HT_.out HW_.out (by kernel_rfl)) (fun _ _ _ h=>h) (Or.inl ⟨by rfl,?_⟩) hHeld ?_ ?_
             rotate_left
             ·rintro w' ⟨s0,s1,s2,s3,s4,s5,s6⟩
              go_simp
              with_reducible rfl
             rotate_left
             ·simp only [Act.put,List.setIfInBounds_toArray,List.set_cons_zero,List.set_cons_succ,i64_w,i32_w]
              rfl
             refine take_ (i:=5) (N:=some 47) (v:=?_) (a':=?_) #[true,true,true,true,true,true,true,true,false,true,true,false,true,true,false,true,true,false,true,true,false,false,false,false] rfl rfl (take_ofW HT_.out HW_.out (by kernel_rfl)) (fun _ _ _ h=>h) (Or.inl ⟨by rfl,?_⟩) hHeld ?_ ?_
             rotate_left
             ·rintro w' ⟨s0,s1,s2,s3,s4,s5,s6⟩
              go_simp
              with_reducible rfl
             rotate_left
             ·simp only [Act.put,List.setIfInBounds_toArray,List.set_cons_zero,List.set_cons_succ,i64_w,i32_w]
              rfl
             refine take_ (i:=8) (N:=some 50) (v:=?_) (a':=?_) #[true,true,true,true,true,true,true,true,true,true,true,false,true,true,false,true,true,false,true,true,false,false,false,false] rfl rfl (take_ofW HT_.out HW_.out (by kernel_rfl)) (fun _ _ _ h=>h) (Or.inl ⟨by rfl,?_⟩) hHeld ?_ ?_
             rotate_left
             ·rintro w' ⟨s0,s1,s2,s3,s4,s5,s6⟩
              go_simp
              with_reducible rfl
             rotate_left
             ·simp only [Act.put,List.setIfInBounds_toArray,List.set_cons_zero,List.set_cons_succ,i64_w,i32_w]
              rfl
             refine take_ (i:=11) (N:=some 53) (v:=?_) (a':=?_) #[true,true,true,true,true,true,true,true,true,true,true,true,true,true,false,true,true,false,true,true,false,false,false,false] rfl rfl (take_ofW HT_.out HW_.out (by kernel_rfl)) (fun _ _ _ h=>h) (Or.inl ⟨by rfl,?_⟩) hHeld ?_ ?_
             rotate_left
             ·rintro w' ⟨s0,s1,s2,s3,s4,s5,s6⟩
              go_simp
              with_reducible rfl
             rotate_left
             ·simp only [Act.put,List.setIfInBounds_toArray,List.set_cons_zero,List.set_cons_succ,i64_w,i32_w]
              rfl
             refine take_ (i:=14) (N:=some 56) (v:=?_) (a':=?_) #[true,true,true,true,true,true,true,true,true,true,true,true,true,true,true,true,true,false,true,true,false,false,false,false] rfl rfl (take_ofW HT_.out HW_.out (by kernel_rfl)) (fun _ _ _ h=>h) (Or.inl ⟨by rfl,?_⟩) hHeld ?_ ?_
             rotate_left
             ·rintro w' ⟨s0,s1,s2,s3,s4,s5,s6⟩
              go_simp
              with_reducible rfl
             rotate_left
             ·simp only [Act.put,List.setIfInBounds_toArray,List.set_cons_zero,List.set_cons_succ,i64_w,i32_w]
              rfl
             refine take_ (i:=17) (N:=some 59) (v:=?_) (a':=?_) #[true,true,true,true,true,true,true,true,true,true,true,true,true,true,true,true,true,true,true,true,false,false,false,false] rfl rfl (take_ofW HT_.out HW_.out (by kernel_rfl)) (fun _ _ _ h=>h) (Or.inl ⟨by rfl,?_⟩) hHeld ?_ ?_
             rotate_left
             ·rintro w' ⟨s0,s1,s2,s3,s4,s5,s6⟩
              go_simp
              with_reducible rfl
             rotate_left
             ·simp only [Act.put,List.setIfInBounds_toArray,List.set_cons_zero,List.set_cons_succ,i64_w,i32_w]
              rfl
             refine take_ (i:=20) (N:=some 62) (v:=?_) (a':=?_) #[true,true,true,true,true,true,true,true,true,true,true,true,true,true,true,true,true,true,true,true,true,false,false,false] rfl rfl (take_ofW HT_.out HW_.out (by kernel_rfl)) (fun _ _ _ h=>h) (Or.inl ⟨by rfl,?_⟩) hHeld ?_ ?_
             rotate_left
             ·rintro w' ⟨s0,s1,s2,s3,s4,s5,s6⟩
              go_simp
              with_reducible rfl
             rotate_left
             ·simp only [Act.put,List.setIfInBounds_toArray,List.set_cons_zero,List.set_cons_succ,i64_w,i32_w]
              rfl
             refine pure_ (i:=21) (N:=some 63) (v:=?_) (a':=?_) #[true,true,true,true,true,true,true,true,true,true,true,true,true,true,true,true,true,true,true,true,true,true,false,false] rfl rfl (any_of HT_.out (by kernel_rfl)) (fun _ _ _ h=>h) (Or.inl ⟨by rfl,?_⟩) ?_ ?_
             rotate_left
             ·intro w'
              go_simp
              with_reducible rfl
             rotate_left
             ·simp only [Act.put,List.setIfInBounds_toArray,List.set_cons_zero,List.set_cons_succ,i64_w,i32_w]
              rfl
             refine one_ (i:=22) (N:=some 11) #[true,true,true,true,true,true,true,true,true,true,true,true,true,true,true,true,true,true,true,true,true,true,true,false] rfl rfl (one_of HT_.out (by kernel_rfl)) (by decide) (fun K hK=>?_)
             refine box_step ?hg (N:=11) ?hd (cs:=#[.int .i64 0,.int .i64 0,.int .i64 0,.int .i64 0,.int .i64 0,.int .i64 0,.int .i64 0]) (t:=23) ?hr ?_;(case hd=>rfl);(case hg=>rfl);(case hr=>first|(go_simp;done)|(go_simp;rfl))
             intro gb175 hg w28 hbox hb
             have HS0_:=(hb.cell (World.block_lt_of_cell? _ _ (hHeld.1))).trans (hHeld.1)
             have HS1_:=(hb.cell (World.block_lt_of_cell? _ _ (hHeld.2.1))).trans (hHeld.2.1)
             have HS2_:=(hb.cell (World.block_lt_of_cell? _ _ (hHeld.2.2.1))).trans (hHeld.2.2.1)
             have HS3_:=(hb.cell (World.block_lt_of_cell? _ _ (hHeld.2.2.2.1))).trans (hHeld.2.2.2.1)
             have HS4_:=(hb.cell (World.block_lt_of_cell? _ _ (hHeld.2.2.2.2.1))).trans (hHeld.2.2.2.2.1)
             have HS5_:=(hb.cell (World.block_lt_of_cell? _ _ (hHeld.2.2.2.2.2.1))).trans (hHeld.2.2.2.2.2.1)
             have HS6_:=(hb.cell (World.block_lt_of_cell? _ _ (hHeld.2.2.2.2.2.2))).trans (hHeld.2.2.2.2.2.2)
             have n0_:=Aside0.mk (Kd.R_below (by (with_reducible repeat(first|apply Kd.R_alloc|apply Kd.R_drewN|apply Kd.R_drew));exact HO_4.out) hb)
             have n1_:=Aside0.mk (Kd.R_below (by (with_reducible repeat(first|apply Kd.R_alloc|apply Kd.R_drewN|apply Kd.R_drew));exact HO_6.out) hb)
             have n2_:=Aside0.mk (blk_below (g:=gb154) (o:=.cells #[.int .i64 0,.int .i64 0,.int .i64 0,.int .i64 0,.int .i64 0,.int .i64 0,.int .i64 0] 23 (0,0)) (by (with_reducible repeat(first|refine blk_drewN ?_ _|refine blk_drew ?_|refine blk_alloc ?_ _));exact BK154.out) hb)
             have n3_:=Aside0.mk (below_step (by repeat(first|(with_reducible first|exact HB.out|apply below_alloc|apply pw_below_drewN|apply below_drew1|refine below_set ?_ GE154.out)|exact HB.out)) hb)
             have n4_:=Aside0.mk (hbox)
             have n5_:=Aside0.mk ((by rw [hg];exact (below_size (by repeat(first|(with_reducible first|exact HB.out|apply below_alloc|apply pw_below_drewN|apply below_drew1|refine below_set ?_ GE154.out)|exact HB.out))) : w.heap.size ≤ gb175))
             have n6_:=Aside0.mk ((by rw [hg];exact (below_size (by repeat(first|(with_reducible first|exact HB.out|apply below_alloc|apply pw_below_drewN|apply below_drew1|refine below_set ?_ GE154.out)|exact HB.out))) : w.heap.size ≤ gb175))
             have n7_:=Aside0.mk ((by rw [hg];exact Nat.ne_of_lt (blk_lt (g:=gb154) (o:=.cells #[.int .i64 0,.int .i64 0,.int .i64 0,.int .i64 0,.int .i64 0,.int .i64 0,.int .i64 0] 23 (0,0)) (by (with_reducible repeat(first|refine blk_drewN ?_ _|refine blk_drew ?_|refine blk_alloc ?_ _));exact BK154.out)) : gb154 ≠ gb175))
             have n8_:=Aside0.mk ((by rw [hg];exact Nat.ne_of_gt (blk_lt (g:=gb154) (o:=.cells #[.int .i64 0,.int .i64 0,.int .i64 0,.int .i64 0,.int .i64 0,.int .i64 0,.int .i64 0] 23 (0,0)) (by (with_reducible repeat(first|refine blk_drewN ?_ _|refine blk_drew ?_|refine blk_alloc ?_ _));exact BK154.out)) : gb175 ≠ gb154))
             clear HO_4
             clear HO_6
             clear BK154
             clear HB
             have HO_4:=n0_
             have HO_6:=n1_
             have BK154:=n2_
             have HB:=n3_
             have BK175:=n4_
             have GW175:=n5_
             have GE175:=n6_
             have NB154_175:=n7_
             have NB175_154:=n8_
             clear n0_ n1_ n2_ n3_ n4_ n5_ n6_ n7_ n8_
             clear hb hbox hg
             refine hK.out _ _ ⟨HS0_,HS1_,HS2_,HS3_,HS4_,HS5_,HS6_⟩ (fun hHeld=>?_)
             clear hK K
             refine norm_ (a':=?_) ?_ ?_
             rotate_left
             ·show Act.put _ (some 11) _ = _
              simp only [Act.put,List.setIfInBounds_toArray,List.set_cons_zero,List.set_cons_succ,i64_w,i32_w]
              rfl
             refine last_ (i:=23) (N:=none) #[true,true,true,true,true,true,true,true,true,true,true,true,true,true,true,true,true,true,true,true,true,true,true,true] rfl rfl (one_of HT_.out (by kernel_rfl)) (by decide) (fun K hK=>?_)
             have hs29 : w28.cell? ⟨gb175,0,none⟩ = some (.int .i64 0):=(blk_cell BK175.out 0).trans rfl
             have hfs29:=blk_frozen BK175.out 0
             have hns29_0:=NB154_175.out
             have hms29_0:=NB175_154.out
             have hs30 : w28.cell? ⟨gb175,1,none⟩ = some (.int .i64 0):=(blk_cell BK175.out 1).trans rfl
             have hfs30:=blk_frozen BK175.out 1
             have hns30_0:=NB154_175.out
             have hms30_0:=NB175_154.out
             have hs31 : w28.cell? ⟨gb175,2,none⟩ = some (.int .i64 0):=(blk_cell BK175.out 2).trans rfl
             have hfs31:=blk_frozen BK175.out 2
             have hns31_0:=NB154_175.out
             have hms31_0:=NB175_154.out
             have hs32 : w28.cell? ⟨gb175,3,none⟩ = some (.int .i64 0):=(blk_cell BK175.out 3).trans rfl
             have hfs32:=blk_frozen BK175.out 3
             have hns32_0:=NB154_175.out
             have hms32_0:=NB175_154.out
             have hs33 : w28.cell? ⟨gb175,4,none⟩ = some (.int .i64 0):=(blk_cell BK175.out 4).trans rfl
             have hfs33:=blk_frozen BK175.out 4
             have hns33_0:=NB154_175.out
             have hms33_0:=NB175_154.out
             have hs34 : w28.cell? ⟨gb175,5,none⟩ = some (.int .i64 0):=(blk_cell BK175.out 5).trans rfl
             have hfs34:=blk_frozen BK175.out 5
             have hns34_0:=NB154_175.out
             have hms34_0:=NB175_154.out
             have hs35 : w28.cell? ⟨gb175,6,none⟩ = some (.int .i64 0):=(blk_cell BK175.out 6).trans rfl
             have hfs35:=blk_frozen BK175.out 6
             have hns35_0:=NB154_175.out
             have hms35_0:=NB175_154.out
             refine skip_ (w1:=?_) (by rfl) rfl ?_ ?_
             rotate_left
             ·go_simp
              rfl
             refine hK.out _ _ ?_
             clear hK K
             refine done_ (done_of HT_.out (by kernel_rfl)) ?_
             have hnb36:=NB175_154.out
             have hnc36:=NB154_175.out
             have hcz37_0 : w28.cell? ⟨gb175,0,none⟩ = some (.int .i64 0):=(blk_cell BK175.out 0).trans rfl
             have hcz37_1 : w28.cell? ⟨gb175,1,none⟩ = some (.int .i64 0):=(blk_cell BK175.out 1).trans rfl
             have hcz37_2 : w28.cell? ⟨gb175,2,none⟩ = some (.int .i64 0):=(blk_cell BK175.out 2).trans rfl
             have hcz37_3 : w28.cell? ⟨gb175,3,none⟩ = some (.int .i64 0):=(blk_cell BK175.out 3).trans rfl
             have hcz37_4 : w28.cell? ⟨gb175,4,none⟩ = some (.int .i64 0):=(blk_cell BK175.out 4).trans rfl
             have hcz37_5 : w28.cell? ⟨gb175,5,none⟩ = some (.int .i64 0):=(blk_cell BK175.out 5).trans rfl
             have hcz37_6 : w28.cell? ⟨gb175,6,none⟩ = some (.int .i64 0):=(blk_cell BK175.out 6).trans rfl
             have hfz37_0:=blk_frozen BK175.out 0
             have hfz37_1:=blk_frozen BK175.out 1
             have hfz37_2:=blk_frozen BK175.out 2
             have hfz37_3:=blk_frozen BK175.out 3
             have hfz37_4:=blk_frozen BK175.out 4
             have hfz37_5:=blk_frozen BK175.out 5
             have hfz37_6:=blk_frozen BK175.out 6
             try go_wp2_with (first|((with_reducible refine gate_callee (f:=56) rfl ?_);refine goesL_ (some 65) rfl rfl Try.func56 (by kernel_rfl) rfl #[.agg #[.int .i64 (rd x4_1 0),.int .i64 (rd x4_1 1),.int .i64 (rd x4_1 2),.int .i64 (rd x4_1 3),.int .i64 (rd x4_1 4),.int .i64 (rd x4_1 5),.int .i64 (rd x4_1 6)]] rfl (by (try simp only [List.map_toArray,List.map_cons,List.map_nil]);first|done|rfl|(simp only [List.length_drop,List.length_take];rfl)) ?_;(with_reducible refine (hornbeamref08_Check.calls k1 (rd x4_1 0) (rd x4_1 1) (rd x4_1 2) (rd x4_1 3) (rd x4_1 4) (rd x4_1 5) (rd x4_1 6) t176 _ A23.out).mono ?_);rintro e w38 ⟨rfl,hb⟩;refine ⟨_,rfl,?_⟩;have n0_:=Aside0.mk (Kd.R_below (by (with_reducible repeat(first|apply Kd.R_alloc|apply Kd.R_drewN|apply Kd.R_drew));exact (Kd.R_mono (Kd.R_far (p:=⟨gb175,6,none⟩) (Kd.R_far (p:=⟨gb175,5,none⟩) (Kd.R_far (p:=⟨gb175,4,none⟩) (Kd.R_far (p:=⟨gb175,3,none⟩) (Kd.R_far (p:=⟨gb175,2,none⟩) (Kd.R_far (p:=⟨gb175,1,none⟩) (Kd.R_far (p:=⟨gb175,0,none⟩) (Kd.R_types HO_4.out BK175.out (by decide)) (fun _ hk=>hk.2) (.int .i64 (rd x4_1 0))) (fun _ hk=>hk.2) (.int .i64 (rd x4_1 1))) (fun _ hk=>hk.2) (.int .i64 (rd x4_1 2))) (fun _ hk=>hk.2) (.int .i64 (rd x4_1 3))) (fun _ hk=>hk.2) (.int .i64 (rd x4_1 4))) (fun _ hk=>hk.2) (.int .i64 (rd x4_1 5))) (fun _ hk=>hk.2) (.int .i64 (rd x4_1 6))) (fun _ h_=>h_.1))) hb);have n1_:=Aside0.mk (Kd.R_below (by (with_reducible repeat(first|apply Kd.R_alloc|apply Kd.R_drewN|apply Kd.R_drew));exact (Kd.R_mono (Kd.R_far (p:=⟨gb175,6,none⟩) (Kd.R_far (p:=⟨gb175,5,none⟩) (Kd.R_far (p:=⟨gb175,4,none⟩) (Kd.R_far (p:=⟨gb175,3,none⟩) (Kd.R_far (p:=⟨gb175,2,none⟩) (Kd.R_far (p:=⟨gb175,1,none⟩) (Kd.R_far (p:=⟨gb175,0,none⟩) (Kd.R_types HO_6.out BK175.out (by decide)) (fun _ hk=>hk.2) (.int .i64 (rd x4_1 0))) (fun _ hk=>hk.2) (.int .i64 (rd x4_1 1))) (fun _ hk=>hk.2) (.int .i64 (rd x4_1 2))) (fun _ hk=>hk.2) (.int .i64 (rd x4_1 3))) (fun _ hk=>hk.2) (.int .i64 (rd x4_1 4))) (fun _ hk=>hk.2) (.int .i64 (rd x4_1 5))) (fun _ hk=>hk.2) (.int .i64 (rd x4_1 6))) (fun _ h_=>h_.1))) hb);have n2_:=Aside0.mk (blk_below (g:=gb154) (o:=.cells #[.int .i64 0,.int .i64 0,.int .i64 0,.int .i64 0,.int .i64 0,.int .i64 0,.int .i64 0] 23 (0,0)) (by (with_reducible repeat(first|refine blk_drewN ?_ _|refine blk_drew ?_|refine blk_alloc ?_ _));refine blk_far ?_ NB154_175.out _;(with_reducible repeat(first|refine blk_drewN ?_ _|refine blk_drew ?_|refine blk_alloc ?_ _));refine blk_far ?_ NB154_175.out _;(with_reducible repeat(first|refine blk_drewN ?_ _|refine blk_drew ?_|refine blk_alloc ?_ _));refine blk_far ?_ NB154_175.out _;(with_reducible repeat(first|refine blk_drewN ?_ _|refine blk_drew ?_|refine blk_alloc ?_ _));refine blk_far ?_ NB154_175.out _;(with_reducible repeat(first|refine blk_drewN ?_ _|refine blk_drew ?_|refine blk_alloc ?_ _));refine blk_far ?_ NB154_175.out _;(with_reducible repeat(first|refine blk_drewN ?_ _|refine blk_drew ?_|refine blk_alloc ?_ _));refine blk_far ?_ NB154_175.out _;(with_reducible repeat(first|refine blk_drewN ?_ _|refine blk_drew ?_|refine blk_alloc ?_ _));refine blk_far ?_ NB154_175.out _;(with_reducible repeat(first|refine blk_drewN ?_ _|refine blk_drew ?_|refine blk_alloc ?_ _));exact BK154.out) hb);have n3_:=Aside0.mk (blk_below (g:=gb175) (o:=.cells #[.int .i64 (rd x4_1 0),.int .i64 (rd x4_1 1),.int .i64 (rd x4_1 2),.int .i64 (rd x4_1 3),.int .i64 (rd x4_1 4),.int .i64 (rd x4_1 5),.int .i64 (rd x4_1 6)] 23 (0,0)) (by (with_reducible repeat(first|refine blk_drewN ?_ _|refine blk_drew ?_|refine blk_alloc ?_ _));refine blk_put (cs:=#[.int .i64 (rd x4_1 0),.int .i64 (rd x4_1 1),.int .i64 (rd x4_1 2),.int .i64 (rd x4_1 3),.int .i64 (rd x4_1 4),.int .i64 (rd x4_1 5),.int .i64 0]) ?_ 6 _ rfl;(with_reducible repeat(first|refine blk_drewN ?_ _|refine blk_drew ?_|refine blk_alloc ?_ _));refine blk_put (cs:=#[.int .i64 (rd x4_1 0),.int .i64 (rd x4_1 1),.int .i64 (rd x4_1 2),.int .i64 (rd x4_1 3),.int .i64 (rd x4_1 4),.int .i64 0,.int .i64 0]) ?_ 5 _ rfl;(with_reducible repeat(first|refine blk_drewN ?_ _|refine blk_drew ?_|refine blk_alloc ?_ _));refine blk_put (cs:=#[.int .i64 (rd x4_1 0),.int .i64 (rd x4_1 1),.int .i64 (rd x4_1 2),.int .i64 (rd x4_1 3),.int .i64 0,.int .i64 0,.int .i64 0]) ?_ 4 _ rfl;(with_reducible repeat(first|refine blk_drewN ?_ _|refine blk_drew ?_|refine blk_alloc ?_ _));refine blk_put (cs:=#[.int .i64 (rd x4_1 0),.int .i64 (rd x4_1 1),.int .i64 (rd x4_1 2),.int .i64 0,.int .i64 0,.int .i64 0,.int .i64 0]) ?_ 3 _ rfl;(with_reducible repeat(first|refine blk_drewN ?_ _|refine blk_drew ?_|refine blk_alloc ?_ _));refine blk_put (cs:=#[.int .i64 (rd x4_1 0),.int .i64 (rd x4_1 1),.int .i64 0,.int .i64 0,.int .i64 0,.int .i64 0,.int .i64 0]) ?_ 2 _ rfl;(with_reducible repeat(first|refine blk_drewN ?_ _|refine blk_drew ?_|refine blk_alloc ?_ _));refine blk_put (cs:=#[.int .i64 (rd x4_1 0),.int .i64 0,.int .i64 0,.int .i64 0,.int .i64 0,.int .i64 0,.int .i64 0]) ?_ 1 _ rfl;(with_reducible repeat(first|refine blk_drewN ?_ _|refine blk_drew ?_|refine blk_alloc ?_ _));refine blk_put (cs:=#[.int .i64 0,.int .i64 0,.int .i64 0,.int .i64 0,.int .i64 0,.int .i64 0,.int .i64 0]) ?_ 0 _ rfl;(with_reducible repeat(first|refine blk_drewN ?_ _|refine blk_drew ?_|refine blk_alloc ?_ _));exact BK175.out) hb);have n4_:=Aside0.mk (below_step (by repeat(first|(with_reducible first|exact HB.out|apply below_alloc|apply pw_below_drewN|apply below_drew1|refine below_set ?_ GE154.out|refine below_set ?_ GE175.out)|exact HB.out)) hb);clear HO_4;clear HO_6;clear BK154;clear BK175;clear HB;have HO_4:=n0_;have HO_6:=n1_;have BK154:=n2_;have BK175:=n3_;have HB:=n4_;clear n0_ n1_ n2_ n3_ n4_;(try clear hb);(try clear hb2);(try clear hk);(try clear hi);have hcz39_0 : w38.cell? ⟨gb175,0,none⟩ = some (.int .i64 (rd x4_1 0)):=(blk_cell BK175.out 0).trans rfl;have hcz39_1 : w38.cell? ⟨gb175,1,none⟩ = some (.int .i64 (rd x4_1 1)):=(blk_cell BK175.out 1).trans rfl;have hcz39_2 : w38.cell? ⟨gb175,2,none⟩ = some (.int .i64 (rd x4_1 2)):=(blk_cell BK175.out 2).trans rfl;have hcz39_3 : w38.cell? ⟨gb175,3,none⟩ = some (.int .i64 (rd x4_1 3)):=(blk_cell BK175.out 3).trans rfl;have hcz39_4 : w38.cell? ⟨gb175,4,none⟩ = some (.int .i64 (rd x4_1 4)):=(blk_cell BK175.out 4).trans rfl;have hcz39_5 : w38.cell? ⟨gb175,5,none⟩ = some (.int .i64 (rd x4_1 5)):=(blk_cell BK175.out 5).trans rfl;have hcz39_6 : w38.cell? ⟨gb175,6,none⟩ = some (.int .i64 (rd x4_1 6)):=(blk_cell BK175.out 6).trans rfl;have hfz39_0:=blk_frozen BK175.out 0;have hfz39_1:=blk_frozen BK175.out 1;have hfz39_2:=blk_frozen BK175.out 2;have hfz39_3:=blk_frozen BK175.out 3;have hfz39_4:=blk_frozen BK175.out 4;have hfz39_5:=blk_frozen BK175.out 5;have hfz39_6:=blk_frozen BK175.out 6;have hcz40_0 : w38.cell? ⟨gb154,0,none⟩ = some (.int .i64 0):=(blk_cell BK154.out 0).trans rfl;have hcz40_1 : w38.cell? ⟨gb154,1,none⟩ = some (.int .i64 0):=(blk_cell BK154.out 1).trans rfl;have hcz40_2 : w38.cell? ⟨gb154,2,none⟩ = some (.int .i64 0):=(blk_cell BK154.out 2).trans rfl;have hcz40_3 : w38.cell? ⟨gb154,3,none⟩ = some (.int .i64 0):=(blk_cell BK154.out 3).trans rfl;have hcz40_4 : w38.cell? ⟨gb154,4,none⟩ = some (.int .i64 0):=(blk_cell BK154.out 4).trans rfl;have hcz40_5 : w38.cell? ⟨gb154,5,none⟩ = some (.int .i64 0):=(blk_cell BK154.out 5).trans rfl;have hcz40_6 : w38.cell? ⟨gb154,6,none⟩ = some (.int .i64 0):=(blk_cell BK154.out 6).trans rfl;have hfz40_0:=blk_frozen BK154.out 0;have hfz40_1:=blk_frozen BK154.out 1;have hfz40_2:=blk_frozen BK154.out 2;have hfz40_3:=blk_frozen BK154.out 3;have hfz40_4:=blk_frozen BK154.out 4;have hfz40_5:=blk_frozen BK154.out 5;have hfz40_6:=blk_frozen BK154.out 6))
             refine bodyPost_ret (results_ct rfl _ _ gb154 23 #[.int .i64 (rd x4_1 0),.int .i64 (rd x4_1 1),.int .i64 (rd x4_1 2),.int .i64 (rd x4_1 3),.int .i64 (rd x4_1 4),.int .i64 (rd x4_1 5),.int .i64 (rd x4_1 6)] (0,0) _ rfl (by (with_reducible repeat(first|refine blk_drewN ?_ _|refine blk_drew ?_|refine blk_alloc ?_ _));refine blk_put (cs:=#[.int .i64 (rd x4_1 0),.int .i64 (rd x4_1 1),.int .i64 (rd x4_1 2),.int .i64 (rd x4_1 3),.int .i64 (rd x4_1 4),.int .i64 (rd x4_1 5),.int .i64 0]) ?_ 6 _ rfl;(with_reducible repeat(first|refine blk_drewN ?_ _|refine blk_drew ?_|refine blk_alloc ?_ _));refine blk_put (cs:=#[.int .i64 (rd x4_1 0),.int .i64 (rd x4_1 1),.int .i64 (rd x4_1 2),.int .i64 (rd x4_1 3),.int .i64 (rd x4_1 4),.int .i64 0,.int .i64 0]) ?_ 5 _ rfl;(with_reducible repeat(first|refine blk_drewN ?_ _|refine blk_drew ?_|refine blk_alloc ?_ _));refine blk_put (cs:=#[.int .i64 (rd x4_1 0),.int .i64 (rd x4_1 1),.int .i64 (rd x4_1 2),.int .i64 (rd x4_1 3),.int .i64 0,.int .i64 0,.int .i64 0]) ?_ 4 _ rfl;(with_reducible repeat(first|refine blk_drewN ?_ _|refine blk_drew ?_|refine blk_alloc ?_ _));refine blk_put (cs:=#[.int .i64 (rd x4_1 0),.int .i64 (rd x4_1 1),.int .i64 (rd x4_1 2),.int .i64 0,.int .i64 0,.int .i64 0,.int .i64 0]) ?_ 3 _ rfl;(with_reducible repeat(first|refine blk_drewN ?_ _|refine blk_drew ?_|refine blk_alloc ?_ _));refine blk_put (cs:=#[.int .i64 (rd x4_1 0),.int .i64 (rd x4_1 1),.int .i64 0,.int .i64 0,.int .i64 0,.int .i64 0,.int .i64 0]) ?_ 2 _ rfl;(with_reducible repeat(first|refine blk_drewN ?_ _|refine blk_drew ?_|refine blk_alloc ?_ _));refine blk_put (cs:=#[.int .i64 (rd x4_1 0),.int .i64 0,.int .i64 0,.int .i64 0,.int .i64 0,.int .i64 0,.int .i64 0]) ?_ 1 _ rfl;(with_reducible repeat(first|refine blk_drewN ?_ _|refine blk_drew ?_|refine blk_alloc ?_ _));refine blk_put (cs:=#[.int .i64 0,.int .i64 0,.int .i64 0,.int .i64 0,.int .i64 0,.int .i64 0,.int .i64 0]) ?_ 0 _ rfl;(with_reducible repeat(first|refine blk_drewN ?_ _|refine blk_drew ?_|refine blk_alloc ?_ _));exact BK154.out) Try.underlying23 rfl (by kernel_rfl)) rfl ?_
             exact ⟨by first|rfl|(simp [errW_none,errW_some] <;> rfl)|(simp [*,errW_none,errW_some] <;> rfl),by repeat(first|(with_reducible first|exact HB.out|apply below_alloc|apply pw_below_drewN|apply below_drew1|refine below_set ?_ GE154.out|refine below_set ?_ GE175.out)|exact HB.out)⟩
            ·rw [if_neg c24] at H
             have c24b0 : (t176 == 0) = false:=beq_eq_false_iff_ne.mpr c24
             have c24b1 : (t176 != 0) = true:=bne_iff_ne.mpr c24
             simp only [Option.some.injEq,Prod.mk.injEq] at H
             obtain ⟨rfl,rfl,rfl,rfl,rfl,rfl,rfl,rfl⟩:=H
             obtain ⟨Ao41,co41,eo41⟩:=Kd.R_slice HO_6.out
             subst eo41
             try go_wp2
             have n0_:=Aside0.mk (Kd.R_drew HO_4.out)
             have n1_:=Aside0.mk (Kd.R_drew HO_6.out)
             have n2_:=Aside0.mk (blk_drew BK154.out)
             have n3_:=Aside0.mk (below_drew1 HB.out)
             clear HO_4
             clear HO_6
             clear BK154
             clear HB
             have HO_4:=n0_
             have HO_6:=n1_
             have BK154:=n2_
             have HB:=n3_
             clear n0_ n1_ n2_ n3_
             obtain ⟨Ao43,co43,eo43⟩:=Kd.R_slice HO_4.out
             (first|subst eo43|(injection eo43 with f1_ f2_ f3_;have f4_:=f1_.symm;have f5_:=f3_.symm;clear f1_ f2_ f3_;subst f4_;subst f5_))
             have p168 : 0 ≤ (0 : Int):=(by omega)
             have q168 : 0 < (x4_1.length : Int):=of_decide_eq_true (by first|(with_reducible assumption)|assumption)
             obtain ⟨ad168,e168,hx168_0⟩:=Kd.at_int (Kd.R_reads' HO_4.out).2.2 0 p168 q168
             cases e168
             have qi168 : (0 < x4_1.length) = True:=eq_true (by omega)
             (try rw [show ((0 : Int)).toNat = 0 from rfl] at hx168_0)
             (try rw [Addr.add_zero'] at hx168_0)
             replace p168:=eq_true p168
             replace q168:=eq_true q168
             have p169 : 0 ≤ (1 : Int):=(by omega)
             have q169 : 1 < (x4_1.length : Int):=of_decide_eq_true (by first|(with_reducible assumption)|assumption)
             obtain ⟨ad169,e169,hx169_0⟩:=Kd.at_int (Kd.R_reads' HO_4.out).2.2 1 p169 q169
             obtain rfl : ad168 = ad169:=(by injection e169)
             (try simp only [show (1 : Int).toNat = 1 from rfl,Nat.reduceMul,Nat.reduceEqDiff,Go.Addr.add,↓reduceIte] at hx169_0)
             have qi169 : (1 < x4_1.length) = True:=eq_true (by omega)
             (try rw [show ((1 : Int)).toNat = 1 from rfl] at hx169_0)
             replace p169:=eq_true p169
             replace q169:=eq_true q169
             have p170 : 0 ≤ (2 : Int):=(by omega)
             have q170 : 2 < (x4_1.length : Int):=of_decide_eq_true (by first|(with_reducible assumption)|assumption)
             obtain ⟨ad170,e170,hx170_0⟩:=Kd.at_int (Kd.R_reads' HO_4.out).2.2 2 p170 q170
             obtain rfl : ad168 = ad170:=(by injection e170)
             (try simp only [show (2 : Int).toNat = 2 from rfl,Nat.reduceMul,Nat.reduceEqDiff,Go.Addr.add,↓reduceIte] at hx170_0)
             have qi170 : (2 < x4_1.length) = True:=eq_true (by omega)
             (try rw [show ((2 : Int)).toNat = 2 from rfl] at hx170_0)
             replace p170:=eq_true p170
             replace q170:=eq_true q170
             have p171 : 0 ≤ (3 : Int):=(by omega)
             have q171 : 3 < (x4_1.length : Int):=of_decide_eq_true (by first|(with_reducible assumption)|assumption)
             obtain ⟨ad171,e171,hx171_0⟩:=Kd.at_int (Kd.R_reads' HO_4.out).2.2 3 p171 q171
             obtain rfl : ad168 = ad171:=(by injection e171)
             (try simp only [show (3 : Int).toNat = 3 from rfl,Nat.reduceMul,Nat.reduceEqDiff,Go.Addr.add,↓reduceIte] at hx171_0)
             have qi171 : (3 < x4_1.length) = True:=eq_true (by omega)
             (try rw [show ((3 : Int)).toNat = 3 from rfl] at hx171_0)
             replace p171:=eq_true p171
             replace q171:=eq_true q171
             have p172 : 0 ≤ (4 : Int):=(by omega)
             have q172 : 4 < (x4_1.length : Int):=of_decide_eq_true (by first|(with_reducible assumption)|assumption)
             obtain ⟨ad172,e172,hx172_0⟩:=Kd.at_int (Kd.R_reads' HO_4.out).2.2 4 p172 q172
             obtain rfl : ad168 = ad172:=(by injection e172)
             (try simp only [show (4 : Int).toNat = 4 from rfl,Nat.reduceMul,Nat.reduceEqDiff,Go.Addr.add,↓reduceIte] at hx172_0)
             have qi172 : (4 < x4_1.length) = True:=eq_true (by omega)
             (try rw [show ((4 : Int)).toNat = 4 from rfl] at hx172_0)
             replace p172:=eq_true p172
             replace q172:=eq_true q172
             have p173 : 0 ≤ (5 : Int):=(by omega)
             have q173 : 5 < (x4_1.length : Int):=of_decide_eq_true (by first|(with_reducible assumption)|assumption)
             obtain ⟨ad173,e173,hx173_0⟩:=Kd.at_int (Kd.R_reads' HO_4.out).2.2 5 p173 q173
             obtain rfl : ad168 = ad173:=(by injection e173)
             (try simp only [show (5 : Int).toNat = 5 from rfl,Nat.reduceMul,Nat.reduceEqDiff,Go.Addr.add,↓reduceIte] at hx173_0)
             have qi173 : (5 < x4_1.length) = True:=eq_true (by omega)
             (try rw [show ((5 : Int)).toNat = 5 from rfl] at hx173_0)
             replace p173:=eq_true p173
             replace q173:=eq_true q173
             have p174 : 0 ≤ (6 : Int):=(by omega)
             have q174 : 6 < (x4_1.length : Int):=of_decide_eq_true (by first|(with_reducible assumption)|assumption)
             obtain ⟨ad174,e174,hx174_0⟩:=Kd.at_int (Kd.R_reads' HO_4.out).2.2 6 p174 q174
             obtain rfl : ad168 = ad174:=(by injection e174)
             (try simp only [show (6 : Int).toNat = 6 from rfl,Nat.reduceMul,Nat.reduceEqDiff,Go.Addr.add,↓reduceIte] at hx174_0)
             have qi174 : (6 < x4_1.length) = True:=eq_true (by omega)
             (try rw [show ((6 : Int)).toNat = 6 from rfl] at hx174_0)
             replace p174:=eq_true p174
             replace q174:=eq_true q174
             refine start_ (n:=24) (S:=fun w'=>w'.cell? ad168 = some (.int .i64 (rd x4_1 0)) ∧ w'.cell? ⟨ad168.block,ad168.off + 1,none⟩ = some (.int .i64 (rd x4_1 1)) ∧ w'.cell? ⟨ad168.block,ad168.off + 2,none⟩ = some (.int .i64 (rd x4_1 2)) ∧ w'.cell? ⟨ad168.block,ad168.off + 3,none⟩ = some (.int .i64 (rd x4_1 3)) ∧ w'.cell? ⟨ad168.block,ad168.off + 4,none⟩ = some (.int .i64 (rd x4_1 4)) ∧ w'.cell? ⟨ad168.block,ad168.off + 5,none⟩ = some (.int .i64 (rd x4_1 5)) ∧ w'.cell? ⟨ad168.block,ad168.off + 6,none⟩ = some (.int .i64 (rd x4_1 6))) (ds:=[23]) #[false,false,false,false,false,false,false,false,false,false,false,false,false,false,false,false,false,false,false,false,false,false,false,false] (by kernel_rfl) rfl rfl ⟨hx168_0,hx169_0,hx170_0,hx171_0,hx172_0,hx173_0,hx174_0⟩ (fun hHeld=>?_);refine with_tabW hornbeamref08_Get.tab12 hornbeamref08_Get.bits12 (fun HT_ HW_=>?_)
             generalize wr.drew = w42 at HO_4 HO_6 BK154 HB hx168_0 hx169_0 hx170_0 hx171_0 hx172_0 hx173_0 hx174_0 hHeld ⊢
             refine pure_ (i:=0) (N:=some 42) (v:=?_) (a':=?_) #[true,false,false,false,false,false,false,false,false,false,false,false,false,false,false,false,false,false,false,false,false,false,false,false] rfl rfl (any_of HT_.out (by kernel_rfl)) (fun _ _ _ h=>h) (Or.inl ⟨by rfl,?_⟩) ?_ ?_
             rotate_left
             ·intro w'
              go_simp
              with_reducible rfl
             rotate_left
             ·simp only [Act.put,List.setIfInBounds_toArray,List.set_cons_zero,List.set_cons_succ,i64_w,i32_w]
              rfl
             refine pure_ (i:=1) (N:=some 43) (v:=?_) (a':=?_) #[true,true,false,false,false,false,false,false,false,false,false,false,false,false,false,false,false,false,false,false,false,false,false,false] rfl rfl (any_of HT_.out (by kernel_rfl)) (fun _ _ _ h=>h) (Or.inl ⟨by rfl,?_⟩) ?_ ?_
             rotate_left
             ·intro w'
              go_simp
              with_reducible rfl
             rotate_left
             ·simp only [Act.put,List.setIfInBounds_toArray,List.set_cons_zero,List.set_cons_succ,i64_w,i32_w]
              rfl
             refine pure_ (i:=3) (N:=some 45) (v:=?_) (a':=?_) #[true,true,false,true,false,false,false,false,false,false,false,false,false,false,false,false,false,false,false,false,false,false,false,false] rfl rfl (any_of HT_.out (by kernel_rfl)) (fun _ _ _ h=>h) (Or.inl ⟨by rfl,?_⟩) ?_ ?_
             rotate_left
             ·intro w'
              go_simp
              with_reducible rfl
             rotate_left
             ·simp only [Act.put,List.setIfInBounds_toArray,List.set_cons_zero,List.set_cons_succ,i64_w,i32_w]
              rfl
             refine pure_ (i:=4) (N:=some 46) (v:=?_) (a':=?_) #[true,true,false,true,true,false,false,false,false,false,false,false,false,false,false,false,false,false,false,false,false,false,false,false] rfl rfl (any_of HT_.out (by kernel_rfl)) (fun _ _ _ h=>h) (Or.inl ⟨by rfl,?_⟩) ?_ ?_
             rotate_left
             ·intro w'
              go_simp
              with_reducible rfl
             rotate_left
             ·simp only [Act.put,List.setIfInBounds_toArray,List.set_cons_zero,List.set_cons_succ,i64_w,i32_w]
              rfl
             refine pure_ (i:=6) (N:=some 48) (v:=?_) (a':=?_) #[true,true,false,true,true,false,true,false,false,false,false,false,false,false,false,false,false,false,false,false,false,false,false,false] rfl rfl (any_of HT_.out (by kernel_rfl)) (fun _ _ _ h=>h) (Or.inl ⟨by rfl,?_⟩) ?_ ?_
             rotate_left
             ·intro w'
              go_simp
              with_reducible rfl
             rotate_left
             ·simp only [Act.put,List.setIfInBounds_toArray,List.set_cons_zero,List.set_cons_succ,i64_w,i32_w]
              rfl
             refine pure_ (i:=7) (N:=some 49) (v:=?_) (a':=?_) #[true,true,false,true,true,false,true,true,false,false,false,false,false,false,false,false,false,false,false,false,false,false,false,false] rfl rfl (any_of HT_.out (by kernel_rfl)) (fun _ _ _ h=>h) (Or.inl ⟨by rfl,?_⟩) ?_ ?_
             rotate_left
             ·intro w'
              go_simp
              with_reducible rfl
             rotate_left
             ·simp only [Act.put,List.setIfInBounds_toArray,List.set_cons_zero,List.set_cons_succ,i64_w,i32_w]
              rfl
             refine pure_ (i:=9) (N:=some 51) (v:=?_) (a':=?_) #[true,true,false,true,true,false,true,true,false,true,false,false,false,false,false,false,false,false,false,false,false,false,false,false] rfl rfl (any_of HT_.out (by kernel_rfl)) (fun _ _ _ h=>h) (Or.inl ⟨by rfl,?_⟩) ?_ ?_
             rotate_left
             ·intro w'
              go_simp
              with_reducible rfl
             rotate_left
             ·simp only [Act.put,List.setIfInBounds_toArray,List.set_cons_zero,List.set_cons_succ,i64_w,i32_w]
              rfl
             refine pure_ (i:=10) (N:=some 52) (v:=?_) (a':=?_) #[true,true,false,true,true,false,true,true,false,true,true,false,false,false,false,false,false,false,false,false,false,false,false,false] rfl rfl (any_of HT_.out (by kernel_rfl)) (fun _ _ _ h=>h) (Or.inl ⟨by rfl,?_⟩) ?_ ?_
             rotate_left
             ·intro w'
              go_simp
              with_reducible rfl
             rotate_left
             ·simp only [Act.put,List.setIfInBounds_toArray,List.set_cons_zero,List.set_cons_succ,i64_w,i32_w]
              rfl
             refine pure_ (i:=12) (N:=some 54) (v:=?_) (a':=?_) #[true,true,false,true,true,false,true,true,false,true,true,false,true,false,false,false,false,false,false,false,false,false,false,false] rfl rfl (any_of HT_.out (by kernel_rfl)) (fun _ _ _ h=>h) (Or.inl ⟨by rfl,?_⟩) ?_ ?_
             rotate_left
             ·intro w'
              go_simp
              with_reducible rfl
             rotate_left
             ·simp only [Act.put,List.setIfInBounds_toArray,List.set_cons_zero,List.set_cons_succ,i64_w,i32_w]
              rfl
             refine pure_ (i:=13) (N:=some 55) (v:=?_) (a':=?_) #[true,true,false,true,true,false,true,true,false,true,true,false,true,true,false,false,false,false,false,false,false,false,false,false] rfl rfl (any_of HT_.out (by kernel_rfl)) (fun _ _ _ h=>h) (Or.inl ⟨by rfl,?_⟩) ?_ ?_
             rotate_left
             ·intro w'
              go_simp
              with_reducible rfl
             rotate_left
             ·simp only [Act.put,List.setIfInBounds_toArray,List.set_cons_zero,List.set_cons_succ,i64_w,i32_w]
              rfl
             refine pure_ (i:=15) (N:=some 57) (v:=?_) (a':=?_) #[true,true,false,true,true,false,true,true,false,true,true,false,true,true,false,true,false,false,false,false,false,false,false,false] rfl rfl (any_of HT_.out (by kernel_rfl)) (fun _ _ _ h=>h) (Or.inl ⟨by rfl,?_⟩) ?_ ?_
             rotate_left
             ·intro w'
              go_simp
              with_reducible rfl
             rotate_left
             ·simp only [Act.put,List.setIfInBounds_toArray,List.set_cons_zero,List.set_cons_succ,i64_w,i32_w]
              rfl
             refine pure_ (i:=16) (N:=some 58) (v:=?_) (a':=?_) #[true,true,false,true,true,false,true,true,false,true,true,false,true,true,false,true,true,false,false,false,false,false,false,false] rfl rfl (any_of HT_.out (by kernel_rfl)) (fun _ _ _ h=>h) (Or.inl ⟨by rfl,?_⟩) ?_ ?_
             rotate_left
             ·intro w'
              go_simp
              with_reducible rfl
             rotate_left
             ·simp only [Act.put,List.setIfInBounds_toArray,List.set_cons_zero,List.set_cons_succ,i64_w,i32_w]
              rfl
             refine pure_ (i:=18) (N:=some 60) (v:=?_) (a':=?_) #[true,true,false,true,true,false,true,true,false,true,true,false,true,true,false,true,true,false,true,false,false,false,false,false] rfl rfl (any_of HT_.out (by kernel_rfl)) (fun _ _ _ h=>h) (Or.inl ⟨by rfl,?_⟩) ?_ ?_
             rotate_left
             ·intro w'
              go_simp
              with_reducible rfl
             rotate_left
             ·simp only [Act.put,List.setIfInBounds_toArray,List.set_cons_zero,List.set_cons_succ,i64_w,i32_w]
              rfl
             refine pure_ (i:=19) (N:=some 61) (v:=?_) (a':=?_) #[true,true,false,true,true,false,true,true,false,true,true,false,true,true,false,true,true,false,true,true,false,false,false,false] rfl rfl (any_of HT_.out (by kernel_rfl)) (fun _ _ _ h=>h) (Or.inl ⟨by rfl,?_⟩) ?_ ?_
             rotate_left
             ·intro w'
              go_simp
              with_reducible rfl
             rotate_left
             ·simp only [Act.put,List.setIfInBounds_toArray,List.set_cons_zero,List.set_cons_succ,i64_w,i32_w]
              rfl
             refine take_ (i:=2) (N:=some 44) (v:=?_) (a':=?_) #[true,true,true,true,true,false,true,true,false,true,true,false,true,true,false,true,true,false,true,true,false,false,false,false] rfl rfl (take_ofW HT_.out HW_.out (by kernel_rfl)) (fun _ _ _ h=>h) (Or.inl ⟨by rfl,?_⟩) hHeld ?_ ?_
             rotate_left
             ·rintro w' ⟨s0,s1,s2,s3,s4,s5,s6⟩
              go_simp
              with_reducible rfl
             rotate_left
             ·simp only [Act.put,List.setIfInBounds_toArray,List.set_cons_zero,List.set_cons_succ,i64_w,i32_w]
              rfl
             refine take_ (i:=5) (N:=some 47) (v:=?_) (a':=?_) #[true,true,true,true,true,true,true,true,false,true,true,false,true,true,false,true,true,false,true,true,false,false,false,false] rfl rfl (take_ofW HT_.out HW_.out (by kernel_rfl)) (fun _ _ _ h=>h) (Or.inl ⟨by rfl,?_⟩) hHeld ?_ ?_
             rotate_left
             ·rintro w' ⟨s0,s1,s2,s3,s4,s5,s6⟩
              go_simp
              with_reducible rfl
             rotate_left
             ·simp only [Act.put,List.setIfInBounds_toArray,List.set_cons_zero,List.set_cons_succ,i64_w,i32_w]
              rfl
             refine take_ (i:=8) (N:=some 50) (v:=?_) (a':=?_) #[true,true,true,true,true,true,true,true,true,true,true,false,true,true,false,true,true,false,true,true,false,false,false,false] rfl rfl (take_ofW HT_.out HW_.out (by kernel_rfl)) (fun _ _ _ h=>h) (Or.inl ⟨by rfl,?_⟩) hHeld ?_ ?_
             rotate_left
             ·rintro w' ⟨s0,s1,s2,s3,s4,s5,s6⟩
              go_simp
              with_reducible rfl
             rotate_left
             ·simp only [Act.put,List.setIfInBounds_toArray,List.set_cons_zero,List.set_cons_succ,i64_w,i32_w]
              rfl
             refine take_ (i:=11) (N:=some 53) (v:=?_) (a':=?_) #[true,true,true,true,true,true,true,true,true,true,true,true,true,true,false,true,true,false,true,true,false,false,false,false] rfl rfl (take_ofW HT_.out HW_.out (by kernel_rfl)) (fun _ _ _ h=>h) (Or.inl ⟨by rfl,?_⟩) hHeld ?_ ?_
             rotate_left
             ·rintro w' ⟨s0,s1,s2,s3,s4,s5,s6⟩
              go_simp
              with_reducible rfl
             rotate_left
             ·simp only [Act.put,List.setIfInBounds_toArray,List.set_cons_zero,List.set_cons_succ,i64_w,i32_w]
              rfl
             refine take_ (i:=14) (N:=some 56) (v:=?_) (a':=?_) #[true,true,true,true,true,true,true,true,true,true,true,true,true,true,true,true,true,false,true,true,false,false,false,false] rfl rfl (take_ofW HT_.out HW_.out (by kernel_rfl)) (fun _ _ _ h=>h) (Or.inl ⟨by rfl,?_⟩) hHeld ?_ ?_
             rotate_left
             ·rintro w' ⟨s0,s1,s2,s3,s4,s5,s6⟩
              go_simp
              with_reducible rfl
             rotate_left
             ·simp only [Act.put,List.setIfInBounds_toArray,List.set_cons_zero,List.set_cons_succ,i64_w,i32_w]
              rfl
             refine take_ (i:=17) (N:=some 59) (v:=?_) (a':=?_) #[true,true,true,true,true,true,true,true,true,true,true,true,true,true,true,true,true,true,true,true,false,false,false,false] rfl rfl (take_ofW HT_.out HW_.out (by kernel_rfl)) (fun _ _ _ h=>h) (Or.inl ⟨by rfl,?_⟩) hHeld ?_ ?_
             rotate_left
             ·rintro w' ⟨s0,s1,s2,s3,s4,s5,s6⟩
              go_simp
              with_reducible rfl
             rotate_left
             ·simp only [Act.put,List.setIfInBounds_toArray,List.set_cons_zero,List.set_cons_succ,i64_w,i32_w]
              rfl
             refine take_ (i:=20) (N:=some 62) (v:=?_) (a':=?_) #[true,true,true,true,true,true,true,true,true,true,true,true,true,true,true,true,true,true,true,true,true,false,false,false] rfl rfl (take_ofW HT_.out HW_.out (by kernel_rfl)) (fun _ _ _ h=>h) (Or.inl ⟨by rfl,?_⟩) hHeld ?_ ?_
             rotate_left
             ·rintro w' ⟨s0,s1,s2,s3,s4,s5,s6⟩
              go_simp
              with_reducible rfl
             rotate_left
             ·simp only [Act.put,List.setIfInBounds_toArray,List.set_cons_zero,List.set_cons_succ,i64_w,i32_w]
              rfl
             refine pure_ (i:=21) (N:=some 63) (v:=?_) (a':=?_) #[true,true,true,true,true,true,true,true,true,true,true,true,true,true,true,true,true,true,true,true,true,true,false,false] rfl rfl (any_of HT_.out (by kernel_rfl)) (fun _ _ _ h=>h) (Or.inl ⟨by rfl,?_⟩) ?_ ?_
             rotate_left
             ·intro w'
              go_simp
              with_reducible rfl
             rotate_left
             ·simp only [Act.put,List.setIfInBounds_toArray,List.set_cons_zero,List.set_cons_succ,i64_w,i32_w]
              rfl
             refine one_ (i:=22) (N:=some 11) #[true,true,true,true,true,true,true,true,true,true,true,true,true,true,true,true,true,true,true,true,true,true,true,false] rfl rfl (one_of HT_.out (by kernel_rfl)) (by decide) (fun K hK=>?_)
             refine box_step ?hg (N:=11) ?hd (cs:=#[.int .i64 0,.int .i64 0,.int .i64 0,.int .i64 0,.int .i64 0,.int .i64 0,.int .i64 0]) (t:=23) ?hr ?_;(case hd=>rfl);(case hg=>rfl);(case hr=>first|(go_simp;done)|(go_simp;rfl))
             intro gb175 hg w44 hbox hb
             have HS0_:=(hb.cell (World.block_lt_of_cell? _ _ (hHeld.1))).trans (hHeld.1)
             have HS1_:=(hb.cell (World.block_lt_of_cell? _ _ (hHeld.2.1))).trans (hHeld.2.1)
             have HS2_:=(hb.cell (World.block_lt_of_cell? _ _ (hHeld.2.2.1))).trans (hHeld.2.2.1)
             have HS3_:=(hb.cell (World.block_lt_of_cell? _ _ (hHeld.2.2.2.1))).trans (hHeld.2.2.2.1)
             have HS4_:=(hb.cell (World.block_lt_of_cell? _ _ (hHeld.2.2.2.2.1))).trans (hHeld.2.2.2.2.1)
             have HS5_:=(hb.cell (World.block_lt_of_cell? _ _ (hHeld.2.2.2.2.2.1))).trans (hHeld.2.2.2.2.2.1)
             have HS6_:=(hb.cell (World.block_lt_of_cell? _ _ (hHeld.2.2.2.2.2.2))).trans (hHeld.2.2.2.2.2.2)
             have n0_:=Aside0.mk (Kd.R_below (by (with_reducible repeat(first|apply Kd.R_alloc|apply Kd.R_drewN|apply Kd.R_drew));exact HO_4.out) hb)
             have n1_:=Aside0.mk (Kd.R_below (by (with_reducible repeat(first|apply Kd.R_alloc|apply Kd.R_drewN|apply Kd.R_drew));exact HO_6.out) hb)
             have n2_:=Aside0.mk (blk_below (g:=gb154) (o:=.cells #[.int .i64 0,.int .i64 0,.int .i64 0,.int .i64 0,.int .i64 0,.int .i64 0,.int .i64 0] 23 (0,0)) (by (with_reducible repeat(first|refine blk_drewN ?_ _|refine blk_drew ?_|refine blk_alloc ?_ _));exact BK154.out) hb)
             have n3_:=Aside0.mk (below_step (by repeat(first|(with_reducible first|exact HB.out|apply below_alloc|apply pw_below_drewN|apply below_drew1|refine below_set ?_ GE154.out)|exact HB.out)) hb)
             have n4_:=Aside0.mk (hbox)
             have n5_:=Aside0.mk ((by rw [hg];exact (below_size (by repeat(first|(with_reducible first|exact HB.out|apply below_alloc|apply pw_below_drewN|apply below_drew1|refine below_set ?_ GE154.out)|exact HB.out))) : w.heap.size ≤ gb175))
             have n6_:=Aside0.mk ((by rw [hg];exact (below_size (by repeat(first|(with_reducible first|exact HB.out|apply below_alloc|apply pw_below_drewN|apply below_drew1|refine below_set ?_ GE154.out)|exact HB.out))) : w.heap.size ≤ gb175))
             have n7_:=Aside0.mk ((by rw [hg];exact Nat.ne_of_lt (blk_lt (g:=gb154) (o:=.cells #[.int .i64 0,.int .i64 0,.int .i64 0,.int .i64 0,.int .i64 0,.int .i64 0,.int .i64 0] 23 (0,0)) (by (with_reducible repeat(first|refine blk_drewN ?_ _|refine blk_drew ?_|refine blk_alloc ?_ _));exact BK154.out)) : gb154 ≠ gb175))
             have n8_:=Aside0.mk ((by rw [hg];exact Nat.ne_of_gt (blk_lt (g:=gb154) (o:=.cells #[.int .i64 0,.int .i64 0,.int .i64 0,.int .i64 0,.int .i64 0,.int .i64 0,.int .i64 0] 23 (0,0)) (by (with_reducible repeat(first|refine blk_drewN ?_ _|refine blk_drew ?_|refine blk_alloc ?_ _));exact BK154.out)) : gb175 ≠ gb154))
             clear HO_4
             clear HO_6
             clear BK154
             clear HB
             have HO_4:=n0_
             have HO_6:=n1_
             have BK154:=n2_
             have HB:=n3_
             have BK175:=n4_
             have GW175:=n5_
             have GE175:=n6_
             have NB154_175:=n7_
             have NB175_154:=n8_
             clear n0_ n1_ n2_ n3_ n4_ n5_ n6_ n7_ n8_
             clear hb hbox hg
             refine hK.out _ _ ⟨HS0_,HS1_,HS2_,HS3_,HS4_,HS5_,HS6_⟩ (fun hHeld=>?_)
             clear hK K
             refine norm_ (a':=?_) ?_ ?_
             rotate_left
             ·show Act.put _ (some 11) _ = _
              simp only [Act.put,List.setIfInBounds_toArray,List.set_cons_zero,List.set_cons_succ,i64_w,i32_w]
              rfl
             refine last_ (i:=23) (N:=none) #[true,true,true,true,true,true,true,true,true,true,true,true,true,true,true,true,true,true,true,true,true,true,true,true] rfl rfl (one_of HT_.out (by kernel_rfl)) (by decide) (fun K hK=>?_)
             have hs45 : w44.cell? ⟨gb175,0,none⟩ = some (.int .i64 0):=(blk_cell BK175.out 0).trans rfl
             have hfs45:=blk_frozen BK175.out 0
             have hns45_0:=NB154_175.out
             have hms45_0:=NB175_154.out
             have hs46 : w44.cell? ⟨gb175,1,none⟩ = some (.int .i64 0):=(blk_cell BK175.out 1).trans rfl
             have hfs46:=blk_frozen BK175.out 1
             have hns46_0:=NB154_175.out
             have hms46_0:=NB175_154.out
             have hs47 : w44.cell? ⟨gb175,2,none⟩ = some (.int .i64 0):=(blk_cell BK175.out 2).trans rfl
             have hfs47:=blk_frozen BK175.out 2
             have hns47_0:=NB154_175.out
             have hms47_0:=NB175_154.out
             have hs48 : w44.cell? ⟨gb175,3,none⟩ = some (.int .i64 0):=(blk_cell BK175.out 3).trans rfl
             have hfs48:=blk_frozen BK175.out 3
             have hns48_0:=NB154_175.out
             have hms48_0:=NB175_154.out
             have hs49 : w44.cell? ⟨gb175,4,none⟩ = some (.int .i64 0):=(blk_cell BK175.out 4).trans rfl
             have hfs49:=blk_frozen BK175.out 4
             have hns49_0:=NB154_175.out
             have hms49_0:=NB175_154.out
             have hs50 : w44.cell? ⟨gb175,5,none⟩ = some (.int .i64 0):=(blk_cell BK175.out 5).trans rfl
             have hfs50:=blk_frozen BK175.out 5
             have hns50_0:=NB154_175.out
             have hms50_0:=NB175_154.out
             have hs51 : w44.cell? ⟨gb175,6,none⟩ = some (.int .i64 0):=(blk_cell BK175.out 6).trans rfl
             have hfs51:=blk_frozen BK175.out 6
             have hns51_0:=NB154_175.out
             have hms51_0:=NB175_154.out
             refine skip_ (w1:=?_) (by rfl) rfl ?_ ?_
             rotate_left
             ·go_simp
              rfl
             refine hK.out _ _ ?_
             clear hK K
             refine done_ (done_of HT_.out (by kernel_rfl)) ?_
             have hnb52:=NB175_154.out
             have hnc52:=NB154_175.out
             have hcz53_0 : w44.cell? ⟨gb175,0,none⟩ = some (.int .i64 0):=(blk_cell BK175.out 0).trans rfl
             have hcz53_1 : w44.cell? ⟨gb175,1,none⟩ = some (.int .i64 0):=(blk_cell BK175.out 1).trans rfl
             have hcz53_2 : w44.cell? ⟨gb175,2,none⟩ = some (.int .i64 0):=(blk_cell BK175.out 2).trans rfl
             have hcz53_3 : w44.cell? ⟨gb175,3,none⟩ = some (.int .i64 0):=(blk_cell BK175.out 3).trans rfl
             have hcz53_4 : w44.cell? ⟨gb175,4,none⟩ = some (.int .i64 0):=(blk_cell BK175.out 4).trans rfl
             have hcz53_5 : w44.cell? ⟨gb175,5,none⟩ = some (.int .i64 0):=(blk_cell BK175.out 5).trans rfl
             have hcz53_6 : w44.cell? ⟨gb175,6,none⟩ = some (.int .i64 0):=(blk_cell BK175.out 6).trans rfl
             have hfz53_0:=blk_frozen BK175.out 0
             have hfz53_1:=blk_frozen BK175.out 1
             have hfz53_2:=blk_frozen BK175.out 2
             have hfz53_3:=blk_frozen BK175.out 3
             have hfz53_4:=blk_frozen BK175.out 4
             have hfz53_5:=blk_frozen BK175.out 5
             have hfz53_6:=blk_frozen BK175.out 6
             try go_wp2_with (first|((with_reducible refine gate_callee (f:=56) rfl ?_);refine goesL_ (some 65) rfl rfl Try.func56 (by kernel_rfl) rfl #[.agg #[.int .i64 (rd x4_1 0),.int .i64 (rd x4_1 1),.int .i64 (rd x4_1 2),.int .i64 (rd x4_1 3),.int .i64 (rd x4_1 4),.int .i64 (rd x4_1 5),.int .i64 (rd x4_1 6)]] rfl (by (try simp only [List.map_toArray,List.map_cons,List.map_nil]);first|done|rfl|(simp only [List.length_drop,List.length_take];rfl)) ?_;(with_reducible refine (hornbeamref08_Check.calls k1 (rd x4_1 0) (rd x4_1 1) (rd x4_1 2) (rd x4_1 3) (rd x4_1 4) (rd x4_1 5) (rd x4_1 6) t176 _ A23.out).mono ?_);rintro e w54 ⟨rfl,hb⟩;refine ⟨_,rfl,?_⟩;have n0_:=Aside0.mk (Kd.R_below (by (with_reducible repeat(first|apply Kd.R_alloc|apply Kd.R_drewN|apply Kd.R_drew));exact (Kd.R_mono (Kd.R_far (p:=⟨gb175,6,none⟩) (Kd.R_far (p:=⟨gb175,5,none⟩) (Kd.R_far (p:=⟨gb175,4,none⟩) (Kd.R_far (p:=⟨gb175,3,none⟩) (Kd.R_far (p:=⟨gb175,2,none⟩) (Kd.R_far (p:=⟨gb175,1,none⟩) (Kd.R_far (p:=⟨gb175,0,none⟩) (Kd.R_types HO_4.out BK175.out (by decide)) (fun _ hk=>hk.2) (.int .i64 (rd x4_1 0))) (fun _ hk=>hk.2) (.int .i64 (rd x4_1 1))) (fun _ hk=>hk.2) (.int .i64 (rd x4_1 2))) (fun _ hk=>hk.2) (.int .i64 (rd x4_1 3))) (fun _ hk=>hk.2) (.int .i64 (rd x4_1 4))) (fun _ hk=>hk.2) (.int .i64 (rd x4_1 5))) (fun _ hk=>hk.2) (.int .i64 (rd x4_1 6))) (fun _ h_=>h_.1))) hb);have n1_:=Aside0.mk (Kd.R_below (by (with_reducible repeat(first|apply Kd.R_alloc|apply Kd.R_drewN|apply Kd.R_drew));exact (Kd.R_mono (Kd.R_far (p:=⟨gb175,6,none⟩) (Kd.R_far (p:=⟨gb175,5,none⟩) (Kd.R_far (p:=⟨gb175,4,none⟩) (Kd.R_far (p:=⟨gb175,3,none⟩) (Kd.R_far (p:=⟨gb175,2,none⟩) (Kd.R_far (p:=⟨gb175,1,none⟩) (Kd.R_far (p:=⟨gb175,0,none⟩) (Kd.R_types HO_6.out BK175.out (by decide)) (fun _ hk=>hk.2) (.int .i64 (rd x4_1 0))) (fun _ hk=>hk.2) (.int .i64 (rd x4_1 1))) (fun _ hk=>hk.2) (.int .i64 (rd x4_1 2))) (fun _ hk=>hk.2) (.int .i64 (rd x4_1 3))) (fun _ hk=>hk.2) (.int .i64 (rd x4_1 4))) (fun _ hk=>hk.2) (.int .i64 (rd x4_1 5))) (fun _ hk=>hk.2) (.int .i64 (rd x4_1 6))) (fun _ h_=>h_.1))) hb);have n2_:=Aside0.mk (blk_below (g:=gb154) (o:=.cells #[.int .i64 0,.int .i64 0,.int .i64 0,.int .i64 0,.int .i64 0,.int .i64 0,.int .i64 0] 23 (0,0)) (by (with_reducible repeat(first|refine blk_drewN ?_ _|refine blk_drew ?_|refine blk_alloc ?_ _));refine blk_far ?_ NB154_175.out _;(with_reducible repeat(first|refine blk_drewN ?_ _|refine blk_drew ?_|refine blk_alloc ?_ _));refine blk_far ?_ NB154_175.out _;(with_reducible repeat(first|refine blk_drewN ?_ _|refine blk_drew ?_|refine blk_alloc ?_ _));refine blk_far ?_ NB154_175.out _;(with_reducible repeat(first|refine blk_drewN ?_ _|refine blk_drew ?_|refine blk_alloc ?_ _));refine blk_far ?_ NB154_175.out _;(with_reducible repeat(first|refine blk_drewN ?_ _|refine blk_drew ?_|refine blk_alloc ?_ _));refine blk_far ?_ NB154_175.out _;(with_reducible repeat(first|refine blk_drewN ?_ _|refine blk_drew ?_|refine blk_alloc ?_ _));refine blk_far ?_ NB154_175.out _;(with_reducible repeat(first|refine blk_drewN ?_ _|refine blk_drew ?_|refine blk_alloc ?_ _));refine blk_far ?_ NB154_175.out _;(with_reducible repeat(first|refine blk_drewN ?_ _|refine blk_drew ?_|refine blk_alloc ?_ _));exact BK154.out) hb);have n3_:=Aside0.mk (blk_below (g:=gb175) (o:=.cells #[.int .i64 (rd x4_1 0),.int .i64 (rd x4_1 1),.int .i64 (rd x4_1 2),.int .i64 (rd x4_1 3),.int .i64 (rd x4_1 4),.int .i64 (rd x4_1 5),.int .i64 (rd x4_1 6)] 23 (0,0)) (by (with_reducible repeat(first|refine blk_drewN ?_ _|refine blk_drew ?_|refine blk_alloc ?_ _));refine blk_put (cs:=#[.int .i64 (rd x4_1 0),.int .i64 (rd x4_1 1),.int .i64 (rd x4_1 2),.int .i64 (rd x4_1 3),.int .i64 (rd x4_1 4),.int .i64 (rd x4_1 5),.int .i64 0]) ?_ 6 _ rfl;(with_reducible repeat(first|refine blk_drewN ?_ _|refine blk_drew ?_|refine blk_alloc ?_ _));refine blk_put (cs:=#[.int .i64 (rd x4_1 0),.int .i64 (rd x4_1 1),.int .i64 (rd x4_1 2),.int .i64 (rd x4_1 3),.int .i64 (rd x4_1 4),.int .i64 0,.int .i64 0]) ?_ 5 _ rfl;(with_reducible repeat(first|refine blk_drewN ?_ _|refine blk_drew ?_|refine blk_alloc ?_ _));refine blk_put (cs:=#[.int .i64 (rd x4_1 0),.int .i64 (rd x4_1 1),.int .i64 (rd x4_1 2),.int .i64 (rd x4_1 3),.int .i64 0,.int .i64 0,.int .i64 0]) ?_ 4 _ rfl;(with_reducible repeat(first|refine blk_drewN ?_ _|refine blk_drew ?_|refine blk_alloc ?_ _));refine blk_put (cs:=#[.int .i64 (rd x4_1 0),.int .i64 (rd x4_1 1),.int .i64 (rd x4_1 2),.int .i64 0,.int .i64 0,.int .i64 0,.int .i64 0]) ?_ 3 _ rfl;(with_reducible repeat(first|refine blk_drewN ?_ _|refine blk_drew ?_|refine blk_alloc ?_ _));refine blk_put (cs:=#[.int .i64 (rd x4_1 0),.int .i64 (rd x4_1 1),.int .i64 0,.int .i64 0,.int .i64 0,.int .i64 0,.int .i64 0]) ?_ 2 _ rfl;(with_reducible repeat(first|refine blk_drewN ?_ _|refine blk_drew ?_|refine blk_alloc ?_ _));refine blk_put (cs:=#[.int .i64 (rd x4_1 0),.int .i64 0,.int .i64 0,.int .i64 0,.int .i64 0,.int .i64 0,.int .i64 0]) ?_ 1 _ rfl;(with_reducible repeat(first|refine blk_drewN ?_ _|refine blk_drew ?_|refine blk_alloc ?_ _));refine blk_put (cs:=#[.int .i64 0,.int .i64 0,.int .i64 0,.int .i64 0,.int .i64 0,.int .i64 0,.int .i64 0]) ?_ 0 _ rfl;(with_reducible repeat(first|refine blk_drewN ?_ _|refine blk_drew ?_|refine blk_alloc ?_ _));exact BK175.out) hb);have n4_:=Aside0.mk (below_step (by repeat(first|(with_reducible first|exact HB.out|apply below_alloc|apply pw_below_drewN|apply below_drew1|refine below_set ?_ GE154.out|refine below_set ?_ GE175.out)|exact HB.out)) hb);clear HO_4;clear HO_6;clear BK154;clear BK175;clear HB;have HO_4:=n0_;have HO_6:=n1_;have BK154:=n2_;have BK175:=n3_;have HB:=n4_;clear n0_ n1_ n2_ n3_ n4_;(try clear hb);(try clear hb2);(try clear hk);(try clear hi);have hcz55_0 : w54.cell? ⟨gb154,0,none⟩ = some (.int .i64 0):=(blk_cell BK154.out 0).trans rfl;have hcz55_1 : w54.cell? ⟨gb154,1,none⟩ = some (.int .i64 0):=(blk_cell BK154.out 1).trans rfl;have hcz55_2 : w54.cell? ⟨gb154,2,none⟩ = some (.int .i64 0):=(blk_cell BK154.out 2).trans rfl;have hcz55_3 : w54.cell? ⟨gb154,3,none⟩ = some (.int .i64 0):=(blk_cell BK154.out 3).trans rfl;have hcz55_4 : w54.cell? ⟨gb154,4,none⟩ = some (.int .i64 0):=(blk_cell BK154.out 4).trans rfl;have hcz55_5 : w54.cell? ⟨gb154,5,none⟩ = some (.int .i64 0):=(blk_cell BK154.out 5).trans rfl;have hcz55_6 : w54.cell? ⟨gb154,6,none⟩ = some (.int .i64 0):=(blk_cell BK154.out 6).trans rfl;have hfz55_0:=blk_frozen BK154.out 0;have hfz55_1:=blk_frozen BK154.out 1;have hfz55_2:=blk_frozen BK154.out 2;have hfz55_3:=blk_frozen BK154.out 3;have hfz55_4:=blk_frozen BK154.out 4;have hfz55_5:=blk_frozen BK154.out 5;have hfz55_6:=blk_frozen BK154.out 6))
             refine bodyPost_ret (results_ct rfl _ _ gb154 23 #[.int .i64 0,.int .i64 0,.int .i64 0,.int .i64 0,.int .i64 0,.int .i64 0,.int .i64 0] (0,0) _ rfl (by (with_reducible repeat(first|refine blk_drewN ?_ _|refine blk_drew ?_|refine blk_alloc ?_ _));refine blk_put (cs:=#[.int .i64 0,.int .i64 0,.int .i64 0,.int .i64 0,.int .i64 0,.int .i64 0,.int .i64 0]) ?_ 6 _ rfl;(with_reducible repeat(first|refine blk_drewN ?_ _|refine blk_drew ?_|refine blk_alloc ?_ _));refine blk_put (cs:=#[.int .i64 0,.int .i64 0,.int .i64 0,.int .i64 0,.int .i64 0,.int .i64 0,.int .i64 0]) ?_ 5 _ rfl;(with_reducible repeat(first|refine blk_drewN ?_ _|refine blk_drew ?_|refine blk_alloc ?_ _));refine blk_put (cs:=#[.int .i64 0,.int .i64 0,.int .i64 0,.int .i64 0,.int .i64 0,.int .i64 0,.int .i64 0]) ?_ 4 _ rfl;(with_reducible repeat(first|refine blk_drewN ?_ _|refine blk_drew ?_|refine blk_alloc ?_ _));refine blk_put (cs:=#[.int .i64 0,.int .i64 0,.int .i64 0,.int .i64 0,.int .i64 0,.int .i64 0,.int .i64 0]) ?_ 3 _ rfl;(with_reducible repeat(first|refine blk_drewN ?_ _|refine blk_drew ?_|refine blk_alloc ?_ _));refine blk_put (cs:=#[.int .i64 0,.int .i64 0,.int .i64 0,.int .i64 0,.int .i64 0,.int .i64 0,.int .i64 0]) ?_ 2 _ rfl;(with_reducible repeat(first|refine blk_drewN ?_ _|refine blk_drew ?_|refine blk_alloc ?_ _));refine blk_put (cs:=#[.int .i64 0,.int .i64 0,.int .i64 0,.int .i64 0,.int .i64 0,.int .i64 0,.int .i64 0]) ?_ 1 _ rfl;(with_reducible repeat(first|refine blk_drewN ?_ _|refine blk_drew ?_|refine blk_alloc ?_ _));refine blk_put (cs:=#[.int .i64 0,.int .i64 0,.int .i64 0,.int .i64 0,.int .i64 0,.int .i64 0,.int .i64 0]) ?_ 0 _ rfl;(with_reducible repeat(first|refine blk_drewN ?_ _|refine blk_drew ?_|refine blk_alloc ?_ _));exact BK154.out) Try.underlying23 rfl (by kernel_rfl)) rfl ?_
             exact ⟨by first|rfl|(simp [errW_none,errW_some] <;> rfl)|(simp [*,errW_none,errW_some] <;> rfl),by repeat(first|(with_reducible first|exact HB.out|apply below_alloc|apply pw_below_drewN|apply below_drew1|refine below_set ?_ GE154.out|refine below_set ?_ GE175.out)|exact HB.out)⟩
           ·rw [if_neg c22] at H
            exact absurd H (by simp)
          ·rw [if_neg c21] at H
           exact absurd H (by simp)
         ·rw [if_neg c20] at H
          exact absurd H (by simp)
        ·rw [if_neg c19] at H
         exact absurd H (by simp)
       ·rw [if_neg c18] at H
        exact absurd H (by simp)
      ·rw [if_neg c17] at H
       exact absurd H (by simp)
     ·rw [if_neg c16] at H
      exact absurd H (by simp)

end Go.Proofs.Ytnagfbadjbkhmaa.PA
