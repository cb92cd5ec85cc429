import Derived.Test.YtebbnjgaikppgaaPAx0
import Derived.Test.YtebbnjgaikppgaaPAx32
namespace Go.Proofs.Ytebbnjgaikppgaa.PA
open Go.RowKit Go.Proofs.YtebbnjgaikppgaaW.PrintWords Go.Proofs.YtebbnjgaikppgaaW.PrintLast Go.Proofs.YtebbnjgaikppgaaW.PrintMore
attribute [local go_sem] max2_int min2_int max_two min_two max_three min_three max_four min_four   -- for this text's walks alone
attribute [local go_sem high] Flt.fold_eq Flt.fold_ne Flt.fold_lt Flt.fold_gt Flt.fold_le Flt.fold_ge Flt.run_bits Flt.run_frombits
set_option linter.unusedVariables false
set_option linter.unusedSimpArgs false

/-! ### node_depths: function 62 -/
def node_depths.l0 : Nat → List (S75) → List Int → List (S75) → Int → Int → Option (List Int)
 | 0,_,_,_,_,_=>none
 | k + 1,x0,x3,x12,x13,x14=>if x14 < x13 then (if 0 ≤ x14 then (if x14 < (x12.length : Int) then (if x14 ≥ (x3.length : Int) then (if (x3.length : Int) = (x0.length : Int) then (some x3) else (some ([] : List Int))) else ((node_leaf.f ((rd_T75 x12 x14).f0) ((rd_T75 x12 x14).f1) ((rd_T75 x12 x14).f2) ((rd_T75 x12 x14).f3) ((rd_T75 x12 x14).f4) ((rd_T75 x12 x14).f5)).bind fun t349=>(if t349 = true then (node_depths.l0 k x0 x3 x12 x13 (wrap64 (x14 + 1))) else (if ((rd_T75 x12 x14).f2) = (x3.length : Int) then (if (wrap64 ((x3.length : Int) + 2)) > (x0.length : Int) then (some ([] : List Int)) else (if x14 < (x3.length : Int) then ((some (([wrap64 ((rd x3 x14) + 1),wrap64 ((rd x3 x14) + 1)] : List Int) : List Int)).bind fun y352=>(if x3.length + y352.length < 17592186044416 then (node_depths.l0 k x0 (x3 ++ y352) x12 x13 (wrap64 (x14 + 1))) else (none))) else (none))) else (some ([] : List Int)))))) else (none)) else (none)) else (if (x3.length : Int) = (x0.length : Int) then (some x3) else (some ([] : List Int)))
def node_depths.f (k : Nat) (l0 : List (S75)) : Option (List Int):=if (l0.length : Int) = 0 then (some ([] : List Int)) else (if 1 ≤ (l0.length : Int) then (if ((l0.length : Int) : Int).toNat ≤ 35184372088832 then (node_depths.l0 k l0 (List.replicate 1 0) l0 (l0.length : Int) 0) else (none)) else (none))
theorem node_depths.mono_l : ∀ k,(∀ y0 y1 y2 y3 y4,LeO (node_depths.l0 k y0 y1 y2 y3 y4) (node_depths.l0 (k + 1) y0 y1 y2 y3 y4))
 | 0=>fun _ _ _ _ _ r h=>by simp [node_depths.l0] at h
 | k + 1=>by
  have ih0:=node_depths.mono_l k
  ·intro y0 y1 y2 y3 y4
   unfold node_depths.l0
   repeat' first
   | (with_reducible exact ih0 _ _ _ _ _)
   | (with_reducible exact LeO.refl _)
   | (with_reducible exact LeO.none _)
   | (with_reducible refine LeO.ite ?_ ?_)
   | (with_reducible refine LeO.bind ?_ (fun _=>?_))
   | exact ih0 _ _ _ _ _
   | exact LeO.none _
   | refine LeO.ite ?_ ?_
   | refine LeO.bind ?_ (fun _=>?_)
theorem node_depths.mono : ∀ a0 k,LeO (node_depths.f k a0) (node_depths.f (k + 1) a0):=by
 intro a0 k
 have ih0:=node_depths.mono_l k
 unfold node_depths.f
 repeat' first
   | (with_reducible exact ih0 _ _ _ _ _)
   | (with_reducible exact LeO.refl _)
   | (with_reducible exact LeO.none _)
   | (with_reducible refine LeO.ite ?_ ?_)
   | (with_reducible refine LeO.bind ?_ (fun _=>?_))
   | exact ih0 _ _ _ _ _
   | exact LeO.none _
   | refine LeO.ite ?_ ?_
   | refine LeO.bind ?_ (fun _=>?_)
def node_depths.T7 : Bool × List (List Nat × List Nat):=(true,[([],[]),([],[]),([],[]),([1,2],[1,2]),([3],[3]),([4],[4]),([],[]),([],[]),([6,7],[6,7]),([8],[8]),([9],[9]),([5,10],[5,10]),([0,11],[0,11]),([12,12,0,1,2,3,4,5,6,7,8,9,10,11,12],[0,1,6,12])])
def node_depths.B7 : List Nat:=[0,0,0,6,14,30,0,0,192,448,960,2046,4095,8191]
theorem node_depths.tab7 : rtab .any (opsOf Try.f62 7) = node_depths.T7:=by kernel_rfl
theorem node_depths.bits7 : waitsOk node_depths.T7.2 node_depths.B7 = true:=by kernel_rfl
set_option maxHeartbeats 8000000 in
set_option maxRecDepth 100000 in
theorem node_depths.calls (k : Nat) (A0 : Option Addr) (c0 : Nat) (l0 : List (S75)) (r : List Int) (w : World) (hr0 : Kd.C k75 w A0 l0.length l0) (hc0 : l0.length ≤ c0) (h : node_depths.f k l0 = some r) :
  Calls Try.prog 62 #[.slice A0 l0.length c0] w fun e w'=>∃ v0_ : Value,e = .returned (v0_) ∧ Kd.R (Kd.int .i64) 3 w' w.heap.size (fun _=>True) v0_ r ∧ Below w.heap.size w w':=by
 have hu75:=Try.underlying75
 have HR0:=Aside0.mk hr0
 have HC0:=Aside0.mk hc0
 clear hr0 hc0
 have HB:=Aside0.mk (Below.refl w.heap.size w)
 have H : (if (l0.length : Int) = 0 then (some ([] : List Int)) else (if 1 ≤ (l0.length : Int) then (if ((l0.length : Int) : Int).toNat ≤ 35184372088832 then (node_depths.l0 k l0 (List.replicate 1 0) l0 (l0.length : Int) 0) else (none)) else (none))) = some r:=h
 clear h
 by_cases c2 : (l0.length : Int) = 0
 ·rw [if_pos c2] at H
  have c2b0 : ((l0.length : Int) == 0) = true:=beq_iff_eq.mpr c2
  have c2b1 : ((l0.length : Int) != 0) = false:=bne_eq_false_iff_eq.mpr c2
  clear c2
  obtain rfl:=Option.some.inj H
  go_enter Try.func62,Try.ntmps62
  go_wp2_with (first|go_step3|go_in)
  go_ret
  exact ⟨_,by first|rfl|(simp [errW_none,errW_some] <;> rfl)|(simp [*,errW_none,errW_some] <;> rfl),by first|exact Kd.R_nil _ _ _ _ _|exact Kd.N_nil _ _ _ _ _|exact Kd.V_nil _ _ _ _ _|exact Kd.Q_nil _ _ _ _ _|exact Kd.S_nil _ _ _ _ _,by repeat(first|(with_reducible first|exact HB.out|apply below_alloc|apply pw_below_drewN|apply below_drew1)|exact HB.out)⟩
 ·rw [if_neg c2] at H
  have c2b0 : ((l0.length : Int) == 0) = false:=beq_eq_false_iff_ne.mpr c2
  have c2b1 : ((l0.length : Int) != 0) = true:=bne_iff_ne.mpr c2
  have c2b2 : ¬ (l0 = []):=fun h_=>c2 (by rw [h_];rfl)
  by_cases c3 : 1 ≤ (l0.length : Int)
  ·rw [if_pos c3] at H
   have c3b0:=eq_true c3
   have c3b1 : decide (1 ≤ (l0.length : Int)) = true:=decide_eq_true c3
   clear c3
   by_cases c4 : ((l0.length : Int) : Int).toNat ≤ 35184372088832
   ·rw [if_pos c4] at H
    have c4b0:=eq_true c4
    have c4b1 : decide (((l0.length : Int) : Int).toNat ≤ 35184372088832) = true:=decide_eq_true c4
    clear c4
    obtain ⟨y344,hy344⟩ : ∃ y_ : List Int,y_ = (List.replicate 1 0):=⟨_,rfl⟩
    replace H : (node_depths.l0 k l0 y344 l0 (l0.length : Int) 0) = some r:=by first|(rw [hy344];with_reducible exact H)|(have H2_:=(Option.bind_some _ _).symm.trans H;rw [hy344];with_reducible exact H2_)|(have H2_:=(Option.bind_some _ _).symm.trans H;with_reducible exact H2_)|with_reducible exact H|(rw [hy344];exact H)|exact H
    have Ny344:=Aside0.mk hy344
    clear hy344
    have H':=Aside0.mk H
    clear H
    go_enter Try.func62,Try.ntmps62
    go_wp2_with (first|go_step3|((with_reducible refine gate_dst (N:=11) rfl ?_);(try (refine gate_guard (by rfl) ?_;dsimp only));refine FMake.R_make_cap (Kd.int .i64) _ 3 rfl (N:=11) rfl 26 _ _ rfl 1 (l0.length : Int) rfl rfl Try.underlying26 (.int .i64 0) 8 info3 rfl (by decide) (by omega) 0 (ok:=fun _=>True) (okp:=fun _=>True) rfl (fun _ hk=>hk) trivial (by omega) (of_decide_eq_true (by first|(with_reducible assumption)|assumption)) (Nat.le_trans (Nat.mul_le_mul_right _ (of_decide_eq_true (by first|(with_reducible assumption)|assumption) : (l0.length : Int).toNat ≤ 35184372088832)) (by omega)) (Below.refl _ _) (Nat.le_refl _) ?_;intro v345 w5 ho6 hb hg_ hnew_;clear hg_ hnew_;(first|rw [← Ny344.out] at ho6|(simp only [Int.reduceToNat] at ho6;rw [← Ny344.out] at ho6));have n0_:=Aside0.mk (Kd.R_lower ho6 (below_size (by repeat(first|(with_reducible first|exact HB.out|apply below_alloc|apply pw_below_drewN|apply below_drew1)|exact HB.out))));have n1_:=Aside0.mk (below_step (by repeat(first|(with_reducible first|exact HB.out|apply below_alloc|apply pw_below_drewN|apply below_drew1)|exact HB.out)) hb);clear HB;have HO346:=n0_;have HB:=n1_;clear n0_ n1_;clear hb ho6))
    go_loopg [3,14] k (fun kq v3 v14 w'=>∃ (x3_1 : List Int) (x14_1 : Int),v14 = .int .i64 x14_1 ∧ Aside0 (node_depths.l0 kq l0 x3_1 l0 (l0.length : Int) x14_1 = some r) ∧ Aside0 (kq ≤ k) ∧ Aside0 (Kd.R (Kd.int .i64) 3 w' w.heap.size (fun _=>True) v3 x3_1) ∧ Aside0 (Below w.heap.size w w'))
    case atStart=>exact ⟨(y344),(0),(by first|rfl|(simp;done)|(simp [*];done)),H',⟨Nat.le_refl _⟩,⟨by (with_reducible repeat(first|apply Kd.R_alloc|apply Kd.R_drewN|apply Kd.R_drew));exact HO346.out⟩,⟨by repeat(first|(with_reducible first|exact HB.out|apply below_alloc|apply pw_below_drewN|apply below_drew1)|exact HB.out)⟩⟩
    case round =>
     clear H'
     try clear c2
     try clear c2b0
     try clear c2b1
     try clear c2b2
     try clear p2
     try clear c3
     try clear c3b0
     try clear c3b1
     try clear c4
     try clear c4b0
     try clear c4b1
     try clear c6
     obtain ⟨x3_1,x14_1,rfl,HA,HK1,HO_3,HB⟩:=hrel
     cases gk with
     | zero=>exact absurd HA.out (by simp [node_depths.l0])
     | succ k1 =>
      have H:=HA.out
      clear HA
      simp only [node_depths.l0] at H
      by_cases c7 : x14_1 < (l0.length : Int)
      ·rw [if_pos c7] at H
       have c7b0 : decide (x14_1 < (l0.length : Int)) = true:=decide_eq_true c7
       clear c7
       by_cases c8 : 0 ≤ x14_1
       ·rw [if_pos c8] at H
        have c8b0 : decide (0 ≤ x14_1) = true:=decide_eq_true c8
        clear c8
        by_cases c9 : x14_1 < (l0.length : Int)
        ·rw [if_pos c9] at H
         have c9b0 : decide (x14_1 < (l0.length : Int)) = true:=decide_eq_true c9
         clear c9
         by_cases c10 : x14_1 ≥ (x3_1.length : Int)
         ·rw [if_pos c10] at H
          have c10b0 : decide ((x3_1.length : Int) ≤ x14_1) = true:=decide_eq_true c10
          clear c10
          by_cases c11 : (x3_1.length : Int) = (l0.length : Int)
          ·rw [if_pos c11] at H
           have c11b0 : ((x3_1.length : Int) == (l0.length : Int)) = true:=beq_iff_eq.mpr c11
           have c11b1 : ((x3_1.length : Int) != (l0.length : Int)) = false:=bne_eq_false_iff_eq.mpr c11
           have c11b2 : (x3_1.length == l0.length) = true:=by first|simpa using c11|(simp at c11 ⊢;omega)
           clear c11
           obtain rfl:=Option.some.inj H
           have p347 : 0 ≤ (x14_1 : Int):=of_decide_eq_true (by first|(with_reducible assumption)|assumption)
           have q347 : x14_1 < (l0.length : Int):=of_decide_eq_true (by first|(with_reducible assumption)|assumption)
           obtain ⟨ad347,e347,hx347_0,hx347_1,hx347_2,hx347_3,hx347_4,hx347_5⟩:=at_T75 HR0.out x14_1 p347 q347
           cases e347
           replace hx347_0:=(HB.out.cell (World.block_lt_of_cell? w _ hx347_0)).trans hx347_0
           replace hx347_1:=(HB.out.cell (World.block_lt_of_cell? w _ hx347_1)).trans hx347_1
           replace hx347_2:=(HB.out.cell (World.block_lt_of_cell? w _ hx347_2)).trans hx347_2
           replace hx347_3:=(HB.out.cell (World.block_lt_of_cell? w _ hx347_3)).trans hx347_3
           replace hx347_4:=(HB.out.cell (World.block_lt_of_cell? w _ hx347_4)).trans hx347_4
           replace hx347_5:=(HB.out.cell (World.block_lt_of_cell? w _ hx347_5)).trans hx347_5
           replace p347:=eq_true p347
           replace q347:=eq_true q347
           go_wp2_with (first|go_step3|((with_reducible refine gate_dst (N:=5) rfl ?_);(try (refine gate_guard (by rfl) ?_;dsimp only));refine box_event ?hg (N:=5) ?hd (cs:=#[.int .i64 0,.int .i64 0,.int .i64 0,.int .i64 0,.int .i64 0,.int .i64 0]) (t:=75) ?hr ?_;(case hd=>rfl);(case hg=>rfl);(case hr=>first|(go_simp;done)|(go_simp;rfl));intro gb348 hg w12 hbox hb;have n0_:=Aside0.mk (Kd.R_below (by (with_reducible repeat(first|apply Kd.R_alloc|apply Kd.R_drewN|apply Kd.R_drew));exact HO_3.out) hb);have n1_:=Aside0.mk (below_step (by repeat(first|(with_reducible first|exact HB.out|apply below_alloc|apply pw_below_drewN|apply below_drew1)|exact HB.out)) hb);have n2_:=Aside0.mk (hbox);have n3_:=Aside0.mk ((by rw [hg];exact (below_size (by repeat(first|(with_reducible first|exact HB.out|apply below_alloc|apply pw_below_drewN|apply below_drew1)|exact HB.out))) : w.heap.size ≤ gb348));have n4_:=Aside0.mk ((by rw [hg];exact (below_size (by repeat(first|(with_reducible first|exact HB.out|apply below_alloc|apply pw_below_drewN|apply below_drew1)|exact HB.out))) : w.heap.size ≤ gb348));clear HO_3;clear HB;have HO_3:=n0_;have HB:=n1_;have BK348:=n2_;have GW348:=n3_;have GE348:=n4_;clear n0_ n1_ n2_ n3_ n4_;clear hb hbox hg;have hcz13_0 : w12.cell? ⟨gb348,0,none⟩ = some (.int .i64 0):=(blk_cell BK348.out 0).trans rfl;have hcz13_1 : w12.cell? ⟨gb348,1,none⟩ = some (.int .i64 0):=(blk_cell BK348.out 1).trans rfl;have hcz13_2 : w12.cell? ⟨gb348,2,none⟩ = some (.int .i64 0):=(blk_cell BK348.out 2).trans rfl;have hcz13_3 : w12.cell? ⟨gb348,3,none⟩ = some (.int .i64 0):=(blk_cell BK348.out 3).trans rfl;have hcz13_4 : w12.cell? ⟨gb348,4,none⟩ = some (.int .i64 0):=(blk_cell BK348.out 4).trans rfl;have hcz13_5 : w12.cell? ⟨gb348,5,none⟩ = some (.int .i64 0):=(blk_cell BK348.out 5).trans rfl;have hfz13_0:=blk_frozen BK348.out 0;have hfz13_1:=blk_frozen BK348.out 1;have hfz13_2:=blk_frozen BK348.out 2;have hfz13_3:=blk_frozen BK348.out 3;have hfz13_4:=blk_frozen BK348.out 4;have hfz13_5:=blk_frozen BK348.out 5;obtain ⟨Ao14,co14,eo14⟩:=Kd.R_slice HO_3.out;subst eo14))
           go_ret
           exact ⟨_,by first|rfl|(simp [errW_none,errW_some] <;> rfl)|(simp [*,errW_none,errW_some] <;> rfl),by (with_reducible repeat(first|apply Kd.R_alloc|apply Kd.R_drewN|apply Kd.R_drew));exact Kd.R_mono (Kd.R_far (p:=⟨gb348,5,none⟩) (Kd.R_far (p:=⟨gb348,4,none⟩) (Kd.R_far (p:=⟨gb348,3,none⟩) (Kd.R_far (p:=⟨gb348,2,none⟩) (Kd.R_far (p:=⟨gb348,1,none⟩) (Kd.R_far (p:=⟨gb348,0,none⟩) (Kd.R_types HO_3.out BK348.out (by decide)) (fun _ hk=>hk.2) (.int .i64 ((rd_T75 l0 x14_1).f0))) (fun _ hk=>hk.2) (.int .i64 ((rd_T75 l0 x14_1).f1))) (fun _ hk=>hk.2) (.int .i64 ((rd_T75 l0 x14_1).f2))) (fun _ hk=>hk.2) (.int .i64 ((rd_T75 l0 x14_1).f3))) (fun _ hk=>hk.2) (.int .i64 ((rd_T75 l0 x14_1).f4))) (fun _ hk=>hk.2) (.int .i64 ((rd_T75 l0 x14_1).f5))) (fun _ hk=>trivial),by repeat(first|(with_reducible first|exact HB.out|apply below_alloc|apply pw_below_drewN|apply below_drew1|refine below_set ?_ GE348.out)|exact HB.out)⟩
          ·rw [if_neg c11] at H
           have c11b0 : ((x3_1.length : Int) == (l0.length : Int)) = false:=beq_eq_false_iff_ne.mpr c11
           have c11b1 : ((x3_1.length : Int) != (l0.length : Int)) = true:=bne_iff_ne.mpr c11
           have c11b2 : (x3_1.length == l0.length) = false:=by first|simpa using c11|(simp at c11 ⊢;omega)
           obtain rfl:=Option.some.inj H
           have p347 : 0 ≤ (x14_1 : Int):=of_decide_eq_true (by first|(with_reducible assumption)|assumption)
           have q347 : x14_1 < (l0.length : Int):=of_decide_eq_true (by first|(with_reducible assumption)|assumption)
           obtain ⟨ad347,e347,hx347_0,hx347_1,hx347_2,hx347_3,hx347_4,hx347_5⟩:=at_T75 HR0.out x14_1 p347 q347
           cases e347
           replace hx347_0:=(HB.out.cell (World.block_lt_of_cell? w _ hx347_0)).trans hx347_0
           replace hx347_1:=(HB.out.cell (World.block_lt_of_cell? w _ hx347_1)).trans hx347_1
           replace hx347_2:=(HB.out.cell (World.block_lt_of_cell? w _ hx347_2)).trans hx347_2
           replace hx347_3:=(HB.out.cell (World.block_lt_of_cell? w _ hx347_3)).trans hx347_3
           replace hx347_4:=(HB.out.cell (World.block_lt_of_cell? w _ hx347_4)).trans hx347_4
           replace hx347_5:=(HB.out.cell (World.block_lt_of_cell? w _ hx347_5)).trans hx347_5
           replace p347:=eq_true p347
           replace q347:=eq_true q347
           go_wp2_with (first|go_step3|((with_reducible refine gate_dst (N:=5) rfl ?_);(try (refine gate_guard (by rfl) ?_;dsimp only));refine box_event ?hg (N:=5) ?hd (cs:=#[.int .i64 0,.int .i64 0,.int .i64 0,.int .i64 0,.int .i64 0,.int .i64 0]) (t:=75) ?hr ?_;(case hd=>rfl);(case hg=>rfl);(case hr=>first|(go_simp;done)|(go_simp;rfl));intro gb348 hg w15 hbox hb;have n0_:=Aside0.mk (Kd.R_below (by (with_reducible repeat(first|apply Kd.R_alloc|apply Kd.R_drewN|apply Kd.R_drew));exact HO_3.out) hb);have n1_:=Aside0.mk (below_step (by repeat(first|(with_reducible first|exact HB.out|apply below_alloc|apply pw_below_drewN|apply below_drew1)|exact HB.out)) hb);have n2_:=Aside0.mk (hbox);have n3_:=Aside0.mk ((by rw [hg];exact (below_size (by repeat(first|(with_reducible first|exact HB.out|apply below_alloc|apply pw_below_drewN|apply below_drew1)|exact HB.out))) : w.heap.size ≤ gb348));have n4_:=Aside0.mk ((by rw [hg];exact (below_size (by repeat(first|(with_reducible first|exact HB.out|apply below_alloc|apply pw_below_drewN|apply below_drew1)|exact HB.out))) : w.heap.size ≤ gb348));clear HO_3;clear HB;have HO_3:=n0_;have HB:=n1_;have BK348:=n2_;have GW348:=n3_;have GE348:=n4_;clear n0_ n1_ n2_ n3_ n4_;clear hb hbox hg;have hcz16_0 : w15.cell? ⟨gb348,0,none⟩ = some (.int .i64 0):=(blk_cell BK348.out 0).trans rfl;have hcz16_1 : w15.cell? ⟨gb348,1,none⟩ = some (.int .i64 0):=(blk_cell BK348.out 1).trans rfl;have hcz16_2 : w15.cell? ⟨gb348,2,none⟩ = some (.int .i64 0):=(blk_cell BK348.out 2).trans rfl;have hcz16_3 : w15.cell? ⟨gb348,3,none⟩ = some (.int .i64 0):=(blk_cell BK348.out 3).trans rfl;have hcz16_4 : w15.cell? ⟨gb348,4,none⟩ = some (.int .i64 0):=(blk_cell BK348.out 4).trans rfl;have hcz16_5 : w15.cell? ⟨gb348,5,none⟩ = some (.int .i64 0):=(blk_cell BK348.out 5).trans rfl;have hfz16_0:=blk_frozen BK348.out 0;have hfz16_1:=blk_frozen BK348.out 1;have hfz16_2:=blk_frozen BK348.out 2;have hfz16_3:=blk_frozen BK348.out 3;have hfz16_4:=blk_frozen BK348.out 4;have hfz16_5:=blk_frozen BK348.out 5;obtain ⟨Ao17,co17,eo17⟩:=Kd.R_slice HO_3.out;subst eo17))
           go_ret
           exact ⟨_,by first|rfl|(simp [errW_none,errW_some] <;> rfl)|(simp [*,errW_none,errW_some] <;> rfl),by first|exact Kd.R_nil _ _ _ _ _|exact Kd.N_nil _ _ _ _ _|exact Kd.V_nil _ _ _ _ _|exact Kd.Q_nil _ _ _ _ _|exact Kd.S_nil _ _ _ _ _,by repeat(first|(with_reducible first|exact HB.out|apply below_alloc|apply pw_below_drewN|apply below_drew1|refine below_set ?_ GE348.out)|exact HB.out)⟩
         ·rw [if_neg c10] at H
          have c10b0 : decide ((x3_1.length : Int) ≤ x14_1) = false:=decide_eq_false c10
          clear c10
          replace H:=Option.bind_eq_some_iff.mp H
          obtain ⟨t349,A180,H⟩:=H
          replace H : (if t349 = true then (node_depths.l0 k1 l0 x3_1 l0 (l0.length : Int) (wrap64 (x14_1 + 1))) else (if ((rd_T75 l0 x14_1).f2) = (x3_1.length : Int) then (if (wrap64 ((x3_1.length : Int) + 2)) > (l0.length : Int) then (some ([] : List Int)) else (if x14_1 < (x3_1.length : Int) then ((some (([wrap64 ((rd x3_1 x14_1) + 1),wrap64 ((rd x3_1 x14_1) + 1)] : List Int) : List Int)).bind fun y352=>(if x3_1.length + y352.length < 17592186044416 then (node_depths.l0 k1 l0 (x3_1 ++ y352) l0 (l0.length : Int) (wrap64 (x14_1 + 1))) else (none))) else (none))) else (some ([] : List Int)))) = some r:=H
          have A18:=Aside0.mk A180
          clear A180
          by_cases c19 : t349 = true
          ·subst c19
           have H1 : (node_depths.l0 k1 l0 x3_1 l0 (l0.length : Int) (wrap64 (x14_1 + 1))) = some r:=by rw [if_pos rfl] at H;exact H
           clear H
           have H:=H1
           clear H1
           have H':=Aside0.mk H
           clear H
           have p347 : 0 ≤ (x14_1 : Int):=of_decide_eq_true (by first|(with_reducible assumption)|assumption)
           have q347 : x14_1 < (l0.length : Int):=of_decide_eq_true (by first|(with_reducible assumption)|assumption)
           obtain ⟨ad347,e347,hx347_0,hx347_1,hx347_2,hx347_3,hx347_4,hx347_5⟩:=at_T75 HR0.out x14_1 p347 q347
           cases e347
           replace hx347_0:=(HB.out.cell (World.block_lt_of_cell? w _ hx347_0)).trans hx347_0
           replace hx347_1:=(HB.out.cell (World.block_lt_of_cell? w _ hx347_1)).trans hx347_1
           replace hx347_2:=(HB.out.cell (World.block_lt_of_cell? w _ hx347_2)).trans hx347_2
           replace hx347_3:=(HB.out.cell (World.block_lt_of_cell? w _ hx347_3)).trans hx347_3
           replace hx347_4:=(HB.out.cell (World.block_lt_of_cell? w _ hx347_4)).trans hx347_4
           replace hx347_5:=(HB.out.cell (World.block_lt_of_cell? w _ hx347_5)).trans hx347_5
           replace p347:=eq_true p347
           replace q347:=eq_true q347
           go_wp2_with (first|go_step3|((with_reducible refine gate_dst (N:=5) rfl ?_);(try (refine gate_guard (by rfl) ?_;dsimp only));refine box_event ?hg (N:=5) ?hd (cs:=#[.int .i64 0,.int .i64 0,.int .i64 0,.int .i64 0,.int .i64 0,.int .i64 0]) (t:=75) ?hr ?_;(case hd=>rfl);(case hg=>rfl);(case hr=>first|(go_simp;done)|(go_simp;rfl));intro gb348 hg w20 hbox hb;have n0_:=Aside0.mk (Kd.R_below (by (with_reducible repeat(first|apply Kd.R_alloc|apply Kd.R_drewN|apply Kd.R_drew));exact HO_3.out) hb);have n1_:=Aside0.mk (below_step (by repeat(first|(with_reducible first|exact HB.out|apply below_alloc|apply pw_below_drewN|apply below_drew1)|exact HB.out)) hb);have n2_:=Aside0.mk (hbox);have n3_:=Aside0.mk ((by rw [hg];exact (below_size (by repeat(first|(with_reducible first|exact HB.out|apply below_alloc|apply pw_below_drewN|apply below_drew1)|exact HB.out))) : w.heap.size ≤ gb348));have n4_:=Aside0.mk ((by rw [hg];exact (below_size (by repeat(first|(with_reducible first|exact HB.out|apply below_alloc|apply pw_below_drewN|apply below_drew1)|exact HB.out))) : w.heap.size ≤ gb348));clear HO_3;clear HB;have HO_3:=n0_;have HB:=n1_;have BK348:=n2_;have GW348:=n3_;have GE348:=n4_;clear n0_ n1_ n2_ n3_ n4_;clear hb hbox hg;have hcz21_0 : w20.cell? ⟨gb348,0,none⟩ = some (.int .i64 0):=(blk_cell BK348.out 0).trans rfl;have hcz21_1 : w20.cell? ⟨gb348,1,none⟩ = some (.int .i64 0):=(blk_cell BK348.out 1).trans rfl;have hcz21_2 : w20.cell? ⟨gb348,2,none⟩ = some (.int .i64 0):=(blk_cell BK348.out 2).trans rfl;have hcz21_3 : w20.cell? ⟨gb348,3,none⟩ = some (.int .i64 0):=(blk_cell BK348.out 3).trans rfl;have hcz21_4 : w20.cell? ⟨gb348,4,none⟩ = some (.int .i64 0):=(blk_cell BK348.out 4).trans rfl;have hcz21_5 : w20.cell? ⟨gb348,5,none⟩ = some (.int .i64 0):=(blk_cell BK348.out 5).trans rfl;have hfz21_0:=blk_frozen BK348.out 0;have hfz21_1:=blk_frozen BK348.out 1;have hfz21_2:=blk_frozen BK348.out 2;have hfz21_3:=blk_frozen BK348.out 3;have hfz21_4:=blk_frozen BK348.out 4;have hfz21_5:=blk_frozen BK348.out 5;obtain ⟨Ao22,co22,eo22⟩:=Kd.R_slice HO_3.out;subst eo22)|((with_reducible refine gate_callee (f:=70) rfl ?_);refine goesL_ (some 39) rfl rfl Try.func70 (by kernel_rfl) rfl #[.agg #[.int .i64 ((rd_T75 l0 x14_1).f0),.int .i64 ((rd_T75 l0 x14_1).f1),.int .i64 ((rd_T75 l0 x14_1).f2),.int .i64 ((rd_T75 l0 x14_1).f3),.int .i64 ((rd_T75 l0 x14_1).f4),.int .i64 ((rd_T75 l0 x14_1).f5)]] rfl (by (try simp only [List.map_toArray,List.map_cons,List.map_nil]);first|done|rfl|(simp only [List.length_drop,List.length_take];rfl)) ?_;(with_reducible refine (node_leaf.calls ((rd_T75 l0 x14_1).f0) ((rd_T75 l0 x14_1).f1) ((rd_T75 l0 x14_1).f2) ((rd_T75 l0 x14_1).f3) ((rd_T75 l0 x14_1).f4) ((rd_T75 l0 x14_1).f5) true _ A18.out).mono ?_);rintro e w23 ⟨rfl,hb⟩;refine ⟨_,rfl,?_⟩;have n0_:=Aside0.mk (Kd.R_below (by (with_reducible repeat(first|apply Kd.R_alloc|apply Kd.R_drewN|apply Kd.R_drew));exact (Kd.R_mono (Kd.R_far (p:=⟨gb348,5,none⟩) (Kd.R_far (p:=⟨gb348,4,none⟩) (Kd.R_far (p:=⟨gb348,3,none⟩) (Kd.R_far (p:=⟨gb348,2,none⟩) (Kd.R_far (p:=⟨gb348,1,none⟩) (Kd.R_far (p:=⟨gb348,0,none⟩) (Kd.R_types HO_3.out BK348.out (by decide)) (fun _ hk=>hk.2) (.int .i64 ((rd_T75 l0 x14_1).f0))) (fun _ hk=>hk.2) (.int .i64 ((rd_T75 l0 x14_1).f1))) (fun _ hk=>hk.2) (.int .i64 ((rd_T75 l0 x14_1).f2))) (fun _ hk=>hk.2) (.int .i64 ((rd_T75 l0 x14_1).f3))) (fun _ hk=>hk.2) (.int .i64 ((rd_T75 l0 x14_1).f4))) (fun _ hk=>hk.2) (.int .i64 ((rd_T75 l0 x14_1).f5))) (fun _ h_=>h_.1))) hb);have n1_:=Aside0.mk (blk_below (g:=gb348) (o:=.cells #[.int .i64 ((rd_T75 l0 x14_1).f0),.int .i64 ((rd_T75 l0 x14_1).f1),.int .i64 ((rd_T75 l0 x14_1).f2),.int .i64 ((rd_T75 l0 x14_1).f3),.int .i64 ((rd_T75 l0 x14_1).f4),.int .i64 ((rd_T75 l0 x14_1).f5)] 75 (0,0)) (by (with_reducible repeat(first|refine blk_drewN ?_ _|refine blk_drew ?_|refine blk_alloc ?_ _));refine blk_put (cs:=#[.int .i64 ((rd_T75 l0 x14_1).f0),.int .i64 ((rd_T75 l0 x14_1).f1),.int .i64 ((rd_T75 l0 x14_1).f2),.int .i64 ((rd_T75 l0 x14_1).f3),.int .i64 ((rd_T75 l0 x14_1).f4),.int .i64 0]) ?_ 5 _ rfl;(with_reducible repeat(first|refine blk_drewN ?_ _|refine blk_drew ?_|refine blk_alloc ?_ _));refine blk_put (cs:=#[.int .i64 ((rd_T75 l0 x14_1).f0),.int .i64 ((rd_T75 l0 x14_1).f1),.int .i64 ((rd_T75 l0 x14_1).f2),.int .i64 ((rd_T75 l0 x14_1).f3),.int .i64 0,.int .i64 0]) ?_ 4 _ rfl;(with_reducible repeat(first|refine blk_drewN ?_ _|refine blk_drew ?_|refine blk_alloc ?_ _));refine blk_put (cs:=#[.int .i64 ((rd_T75 l0 x14_1).f0),.int .i64 ((rd_T75 l0 x14_1).f1),.int .i64 ((rd_T75 l0 x14_1).f2),.int .i64 0,.int .i64 0,.int .i64 0]) ?_ 3 _ rfl;(with_reducible repeat(first|refine blk_drewN ?_ _|refine blk_drew ?_|refine blk_alloc ?_ _));refine blk_put (cs:=#[.int .i64 ((rd_T75 l0 x14_1).f0),.int .i64 ((rd_T75 l0 x14_1).f1),.int .i64 0,.int .i64 0,.int .i64 0,.int .i64 0]) ?_ 2 _ rfl;(with_reducible repeat(first|refine blk_drewN ?_ _|refine blk_drew ?_|refine blk_alloc ?_ _));refine blk_put (cs:=#[.int .i64 ((rd_T75 l0 x14_1).f0),.int .i64 0,.int .i64 0,.int .i64 0,.int .i64 0,.int .i64 0]) ?_ 1 _ rfl;(with_reducible repeat(first|refine blk_drewN ?_ _|refine blk_drew ?_|refine blk_alloc ?_ _));refine blk_put (cs:=#[.int .i64 0,.int .i64 0,.int .i64 0,.int .i64 0,.int .i64 0,.int .i64 0]) ?_ 0 _ rfl;(with_reducible repeat(first|refine blk_drewN ?_ _|refine blk_drew ?_|refine blk_alloc ?_ _));exact BK348.out) hb);have n2_:=Aside0.mk (below_step (by repeat(first|(with_reducible first|exact HB.out|apply below_alloc|apply pw_below_drewN|apply below_drew1|refine below_set ?_ GE348.out)|exact HB.out)) hb);clear HO_3;clear BK348;clear HB;have HO_3:=n0_;have BK348:=n1_;have HB:=n2_;clear n0_ n1_ n2_;(try clear hb);(try clear hb2);(try clear hk);(try clear hi)))
           go_roundg k1
           case measure=>have:=HK1.out;omega
           case rel=>exact ⟨(x3_1),(wrap64 (x14_1 + 1)),(by first|rfl|(simp;done)|(simp [*];done)),H',⟨by have:=HK1.out;omega⟩,⟨by (with_reducible repeat(first|apply Kd.R_alloc|apply Kd.R_drewN|apply Kd.R_drew));exact HO_3.out⟩,⟨by repeat(first|(with_reducible first|exact HB.out|apply below_alloc|apply pw_below_drewN|apply below_drew1|refine below_set ?_ GE348.out)|exact HB.out)⟩⟩
          ·replace c19:=Bool.eq_false_iff.mpr c19
           subst c19
           have H1 : (if ((rd_T75 l0 x14_1).f2) = (x3_1.length : Int) then (if (wrap64 ((x3_1.length : Int) + 2)) > (l0.length : Int) then (some ([] : List Int)) else (if x14_1 < (x3_1.length : Int) then ((some (([wrap64 ((rd x3_1 x14_1) + 1),wrap64 ((rd x3_1 x14_1) + 1)] : List Int) : List Int)).bind fun y352=>(if x3_1.length + y352.length < 17592186044416 then (node_depths.l0 k1 l0 (x3_1 ++ y352) l0 (l0.length : Int) (wrap64 (x14_1 + 1))) else (none))) else (none))) else (some ([] : List Int))) = some r:=by rw [if_neg (show ¬ (false = true) by decide)] at H;exact H
           clear H
           have H:=H1
           clear H1
           by_cases c24 : ((rd_T75 l0 x14_1).f2) = (x3_1.length : Int)
           ·rw [if_pos c24] at H
            have c24b0 : (((rd_T75 l0 x14_1).f2) == (x3_1.length : Int)) = true:=beq_iff_eq.mpr c24
            have c24b1 : (((rd_T75 l0 x14_1).f2) != (x3_1.length : Int)) = false:=bne_eq_false_iff_eq.mpr c24
            clear c24
            by_cases c25 : (wrap64 ((x3_1.length : Int) + 2)) > (l0.length : Int)
            ·rw [if_pos c25] at H
             have c25b0 : decide ((l0.length : Int) < (wrap64 ((x3_1.length : Int) + 2))) = true:=decide_eq_true c25
             clear c25
             obtain rfl:=Option.some.inj H
             have p347 : 0 ≤ (x14_1 : Int):=of_decide_eq_true (by first|(with_reducible assumption)|assumption)
             have q347 : x14_1 < (l0.length : Int):=of_decide_eq_true (by first|(with_reducible assumption)|assumption)
             obtain ⟨ad347,e347,hx347_0,hx347_1,hx347_2,hx347_3,hx347_4,hx347_5⟩:=at_T75 HR0.out x14_1 p347 q347
             cases e347
             replace hx347_0:=(HB.out.cell (World.block_lt_of_cell? w _ hx347_0)).trans hx347_0
             replace hx347_1:=(HB.out.cell (World.block_lt_of_cell? w _ hx347_1)).trans hx347_1
             replace hx347_2:=(HB.out.cell (World.block_lt_of_cell? w _ hx347_2)).trans hx347_2
             replace hx347_3:=(HB.out.cell (World.block_lt_of_cell? w _ hx347_3)).trans hx347_3
             replace hx347_4:=(HB.out.cell (World.block_lt_of_cell? w _ hx347_4)).trans hx347_4
             replace hx347_5:=(HB.out.cell (World.block_lt_of_cell? w _ hx347_5)).trans hx347_5
             replace p347:=eq_true p347
             replace q347:=eq_true q347
             go_wp2_with (first|go_step3|((with_reducible refine gate_dst (N:=5) rfl ?_);(try (refine gate_guard (by rfl) ?_;dsimp only));refine box_event ?hg (N:=5) ?hd (cs:=#[.int .i64 0,.int .i64 0,.int .i64 0,.int .i64 0,.int .i64 0,.int .i64 0]) (t:=75) ?hr ?_;(case hd=>rfl);(case hg=>rfl);(case hr=>first|(go_simp;done)|(go_simp;rfl));intro gb348 hg w26 hbox hb;have n0_:=Aside0.mk (Kd.R_below (by (with_reducible repeat(first|apply Kd.R_alloc|apply Kd.R_drewN|apply Kd.R_drew));exact HO_3.out) hb);have n1_:=Aside0.mk (below_step (by repeat(first|(with_reducible first|exact HB.out|apply below_alloc|apply pw_below_drewN|apply below_drew1)|exact HB.out)) hb);have n2_:=Aside0.mk (hbox);have n3_:=Aside0.mk ((by rw [hg];exact (below_size (by repeat(first|(with_reducible first|exact HB.out|apply below_alloc|apply pw_below_drewN|apply below_drew1)|exact HB.out))) : w.heap.size ≤ gb348));have n4_:=Aside0.mk ((by rw [hg];exact (below_size (by repeat(first|(with_reducible first|exact HB.out|apply below_alloc|apply pw_below_drewN|apply below_drew1)|exact HB.out))) : w.heap.size ≤ gb348));clear HO_3;clear HB;have HO_3:=n0_;have HB:=n1_;have BK348:=n2_;have GW348:=n3_;have GE348:=n4_;clear n0_ n1_ n2_ n3_ n4_;clear hb hbox hg;have hcz27_0 : w26.cell? ⟨gb348,0,none⟩ = some (.int .i64 0):=(blk_cell BK348.out 0).trans rfl;have hcz27_1 : w26.cell? ⟨gb348,1,none⟩ = some (.int .i64 0):=(blk_cell BK348.out 1).trans rfl;have hcz27_2 : w26.cell? ⟨gb348,2,none⟩ = some (.int .i64 0):=(blk_cell BK348.out 2).trans rfl;have hcz27_3 : w26.cell? ⟨gb348,3,none⟩ = some (.int .i64 0):=(blk_cell BK348.out 3).trans rfl;have hcz27_4 : w26.cell? ⟨gb348,4,none⟩ = some (.int .i64 0):=(blk_cell BK348.out 4).trans rfl;have hcz27_5 : w26.cell? ⟨gb348,5,none⟩ = some (.int .i64 0):=(blk_cell BK348.out 5).trans rfl;have hfz27_0:=blk_frozen BK348.out 0;have hfz27_1:=blk_frozen BK348.out 1;have hfz27_2:=blk_frozen BK348.out 2;have hfz27_3:=blk_frozen BK348.out 3;have hfz27_4:=blk_frozen BK348.out 4;have hfz27_5:=blk_frozen BK348.out 5;obtain ⟨Ao28,co28,eo28⟩:=Kd.R_slice HO_3.out;subst eo28)|((with_reducible refine gate_callee (f:=70) rfl ?_);refine goesL_ (some 39) rfl rfl Try.func70 (by kernel_rfl) rfl #[.agg #[.int .i64 ((rd_T75 l0 x14_1).f0),.int .i64 ((rd_T75 l0 x14_1).f1),.int .i64 ((rd_T75 l0 x14_1).f2),.int .i64 ((rd_T75 l0 x14_1).f3),.int .i64 ((rd_T75 l0 x14_1).f4),.int .i64 ((rd_T75 l0 x14_1).f5)]] rfl (by (try simp only [List.map_toArray,List.map_cons,List.map_nil]);first|done|rfl|(simp only [List.length_drop,List.length_take];rfl)) ?_;(with_reducible refine (node_leaf.calls ((rd_T75 l0 x14_1).f0) ((rd_T75 l0 x14_1).f1) ((rd_T75 l0 x14_1).f2) ((rd_T75 l0 x14_1).f3) ((rd_T75 l0 x14_1).f4) ((rd_T75 l0 x14_1).f5) false _ A18.out).mono ?_);rintro e w29 ⟨rfl,hb⟩;refine ⟨_,rfl,?_⟩;have n0_:=Aside0.mk (Kd.R_below (by (with_reducible repeat(first|apply Kd.R_alloc|apply Kd.R_drewN|apply Kd.R_drew));exact (Kd.R_mono (Kd.R_far (p:=⟨gb348,5,none⟩) (Kd.R_far (p:=⟨gb348,4,none⟩) (Kd.R_far (p:=⟨gb348,3,none⟩) (Kd.R_far (p:=⟨gb348,2,none⟩) (Kd.R_far (p:=⟨gb348,1,none⟩) (Kd.R_far (p:=⟨gb348,0,none⟩) (Kd.R_types HO_3.out BK348.out (by decide)) (fun _ hk=>hk.2) (.int .i64 ((rd_T75 l0 x14_1).f0))) (fun _ hk=>hk.2) (.int .i64 ((rd_T75 l0 x14_1).f1))) (fun _ hk=>hk.2) (.int .i64 ((rd_T75 l0 x14_1).f2))) (fun _ hk=>hk.2) (.int .i64 ((rd_T75 l0 x14_1).f3))) (fun _ hk=>hk.2) (.int .i64 ((rd_T75 l0 x14_1).f4))) (fun _ hk=>hk.2) (.int .i64 ((rd_T75 l0 x14_1).f5))) (fun _ h_=>h_.1))) hb);have n1_:=Aside0.mk (blk_below (g:=gb348) (o:=.cells #[.int .i64 ((rd_T75 l0 x14_1).f0),.int .i64 ((rd_T75 l0 x14_1).f1),.int .i64 ((rd_T75 l0 x14_1).f2),.int .i64 ((rd_T75 l0 x14_1).f3),.int .i64 ((rd_T75 l0 x14_1).f4),.int .i64 ((rd_T75 l0 x14_1).f5)] 75 (0,0)) (by (with_reducible repeat(first|refine blk_drewN ?_ _|refine blk_drew ?_|refine blk_alloc ?_ _));refine blk_put (cs:=#[.int .i64 ((rd_T75 l0 x14_1).f0),.int .i64 ((rd_T75 l0 x14_1).f1),.int .i64 ((rd_T75 l0 x14_1).f2),.int .i64 ((rd_T75 l0 x14_1).f3),.int .i64 ((rd_T75 l0 x14_1).f4),.int .i64 0]) ?_ 5 _ rfl;(with_reducible repeat(first|refine blk_drewN ?_ _|refine blk_drew ?_|refine blk_alloc ?_ _));refine blk_put (cs:=#[.int .i64 ((rd_T75 l0 x14_1).f0),.int .i64 ((rd_T75 l0 x14_1).f1),.int .i64 ((rd_T75 l0 x14_1).f2),.int .i64 ((rd_T75 l0 x14_1).f3),.int .i64 0,.int .i64 0]) ?_ 4 _ rfl;(with_reducible repeat(first|refine blk_drewN ?_ _|refine blk_drew ?_|refine blk_alloc ?_ _));refine blk_put (cs:=#[.int .i64 ((rd_T75 l0 x14_1).f0),.int .i64 ((rd_T75 l0 x14_1).f1),.int .i64 ((rd_T75 l0 x14_1).f2),.int .i64 0,.int .i64 0,.int .i64 0]) ?_ 3 _ rfl;(with_reducible repeat(first|refine blk_drewN ?_ _|refine blk_drew ?_|refine blk_alloc ?_ _));refine blk_put (cs:=#[.int .i64 ((rd_T75 l0 x14_1).f0),.int .i64 ((rd_T75 l0 x14_1).f1),.int .i64 0,.int .i64 0,.int .i64 0,.int .i64 0]) ?_ 2 _ rfl;(with_reducible repeat(first|refine blk_drewN ?_ _|refine blk_drew ?_|refine blk_alloc ?_ _));refine blk_put (cs:=#[.int .i64 ((rd_T75 l0 x14_1).f0),.int .i64 0,.int .i64 0,.int .i64 0,.int .i64 0,.int .i64 0]) ?_ 1 _ rfl;(with_reducible repeat(first|refine blk_drewN ?_ _|refine blk_drew ?_|refine blk_alloc ?_ _));refine blk_put (cs:=#[.int .i64 0,.int .i64 0,.int .i64 0,.int .i64 0,.int .i64 0,.int .i64 0]) ?_ 0 _ rfl;(with_reducible repeat(first|refine blk_drewN ?_ _|refine blk_drew ?_|refine blk_alloc ?_ _));exact BK348.out) hb);have n2_:=Aside0.mk (below_step (by repeat(first|(with_reducible first|exact HB.out|apply below_alloc|apply pw_below_drewN|apply below_drew1|refine below_set ?_ GE348.out)|exact HB.out)) hb);clear HO_3;clear BK348;clear HB;have HO_3:=n0_;have BK348:=n1_;have HB:=n2_;clear n0_ n1_ n2_;(try clear hb);(try clear hb2);(try clear hk);(try clear hi);have hcz30_0 : w29.cell? ⟨gb348,0,none⟩ = some (.int .i64 ((rd_T75 l0 x14_1).f0)):=(blk_cell BK348.out 0).trans rfl;have hcz30_1 : w29.cell? ⟨gb348,1,none⟩ = some (.int .i64 ((rd_T75 l0 x14_1).f1)):=(blk_cell BK348.out 1).trans rfl;have hcz30_2 : w29.cell? ⟨gb348,2,none⟩ = some (.int .i64 ((rd_T75 l0 x14_1).f2)):=(blk_cell BK348.out 2).trans rfl;have hcz30_3 : w29.cell? ⟨gb348,3,none⟩ = some (.int .i64 ((rd_T75 l0 x14_1).f3)):=(blk_cell BK348.out 3).trans rfl;have hcz30_4 : w29.cell? ⟨gb348,4,none⟩ = some (.int .i64 ((rd_T75 l0 x14_1).f4)):=(blk_cell BK348.out 4).trans rfl;have hcz30_5 : w29.cell? ⟨gb348,5,none⟩ = some (.int .i64 ((rd_T75 l0 x14_1).f5)):=(blk_cell BK348.out 5).trans rfl;have hfz30_0:=blk_frozen BK348.out 0;have hfz30_1:=blk_frozen BK348.out 1;have hfz30_2:=blk_frozen BK348.out 2;have hfz30_3:=blk_frozen BK348.out 3;have hfz30_4:=blk_frozen BK348.out 4;have hfz30_5:=blk_frozen BK348.out 5))
             go_ret
             exact ⟨_,by first|rfl|(simp [errW_none,errW_some] <;> rfl)|(simp [*,errW_none,errW_some] <;> rfl),by first|exact Kd.R_nil _ _ _ _ _|exact Kd.N_nil _ _ _ _ _|exact Kd.V_nil _ _ _ _ _|exact Kd.Q_nil _ _ _ _ _|exact Kd.S_nil _ _ _ _ _,by repeat(first|(with_reducible first|exact HB.out|apply below_alloc|apply pw_below_drewN|apply below_drew1|refine below_set ?_ GE348.out)|exact HB.out)⟩
            ·rw [if_neg c25] at H
             have c25b0 : decide ((l0.length : Int) < (wrap64 ((x3_1.length : Int) + 2))) = false:=decide_eq_false c25
             clear c25
             by_cases c31 : x14_1 < (x3_1.length : Int)
             ·rw [if_pos c31] at H
              have c31b0 : decide (x14_1 < (x3_1.length : Int)) = true:=decide_eq_true c31
              clear c31
              obtain ⟨y352,hy352⟩ : ∃ y_ : List Int,y_ = (([wrap64 ((rd x3_1 x14_1) + 1),wrap64 ((rd x3_1 x14_1) + 1)] : List Int)):=⟨_,rfl⟩
              replace H : (if x3_1.length + y352.length < 17592186044416 then (node_depths.l0 k1 l0 (x3_1 ++ y352) l0 (l0.length : Int) (wrap64 (x14_1 + 1))) else (none)) = some r:=by first|(rw [hy352];with_reducible exact H)|(have H2_:=(Option.bind_some _ _).symm.trans H;rw [hy352];with_reducible exact H2_)|(have H2_:=(Option.bind_some _ _).symm.trans H;with_reducible exact H2_)|with_reducible exact H|(rw [hy352];exact H)|exact H
              have Ny352:=Aside0.mk hy352
              clear hy352
              by_cases c32 : x3_1.length + y352.length < 17592186044416
              ·rw [if_pos c32] at H
               have LMc32:=Aside0.mk c32
               clear c32
               obtain ⟨y355,hy355⟩ : ∃ y_ : List Int,y_ = (x3_1 ++ y352):=⟨_,rfl⟩
               replace H : (node_depths.l0 k1 l0 y355 l0 (l0.length : Int) (wrap64 (x14_1 + 1))) = some r:=by first|(rw [hy355];with_reducible exact H)|(have H2_:=(Option.bind_some _ _).symm.trans H;rw [hy355];with_reducible exact H2_)|(have H2_:=(Option.bind_some _ _).symm.trans H;with_reducible exact H2_)|with_reducible exact H|(rw [hy355];exact H)|exact H
               have Ny355:=Aside0.mk hy355
               clear hy355
               have H':=Aside0.mk H
               clear H
               have p347 : 0 ≤ (x14_1 : Int):=of_decide_eq_true (by first|(with_reducible assumption)|assumption)
               have q347 : x14_1 < (l0.length : Int):=of_decide_eq_true (by first|(with_reducible assumption)|assumption)
               obtain ⟨ad347,e347,hx347_0,hx347_1,hx347_2,hx347_3,hx347_4,hx347_5⟩:=at_T75 HR0.out x14_1 p347 q347
               cases e347
               replace hx347_0:=(HB.out.cell (World.block_lt_of_cell? w _ hx347_0)).trans hx347_0
               replace hx347_1:=(HB.out.cell (World.block_lt_of_cell? w _ hx347_1)).trans hx347_1
               replace hx347_2:=(HB.out.cell (World.block_lt_of_cell? w _ hx347_2)).trans hx347_2
               replace hx347_3:=(HB.out.cell (World.block_lt_of_cell? w _ hx347_3)).trans hx347_3
               replace hx347_4:=(HB.out.cell (World.block_lt_of_cell? w _ hx347_4)).trans hx347_4
               replace hx347_5:=(HB.out.cell (World.block_lt_of_cell? w _ hx347_5)).trans hx347_5
               replace p347:=eq_true p347
               replace q347:=eq_true q347
               try go_wp2_with (first|go_step3|((with_reducible refine gate_dst (N:=5) rfl ?_);(try (refine gate_guard (by rfl) ?_;dsimp only));refine box_event ?hg (N:=5) ?hd (cs:=#[.int .i64 0,.int .i64 0,.int .i64 0,.int .i64 0,.int .i64 0,.int .i64 0]) (t:=75) ?hr ?_;(case hd=>rfl);(case hg=>rfl);(case hr=>first|(go_simp;done)|(go_simp;rfl));intro gb348 hg w33 hbox hb;have n0_:=Aside0.mk (Kd.R_below (by (with_reducible repeat(first|apply Kd.R_alloc|apply Kd.R_drewN|apply Kd.R_drew));exact HO_3.out) hb);have n1_:=Aside0.mk (below_step (by repeat(first|(with_reducible first|exact HB.out|apply below_alloc|apply pw_below_drewN|apply below_drew1)|exact HB.out)) hb);have n2_:=Aside0.mk (hbox);have n3_:=Aside0.mk ((by rw [hg];exact (below_size (by repeat(first|(with_reducible first|exact HB.out|apply below_alloc|apply pw_below_drewN|apply below_drew1)|exact HB.out))) : w.heap.size ≤ gb348));have n4_:=Aside0.mk ((by rw [hg];exact (below_size (by repeat(first|(with_reducible first|exact HB.out|apply below_alloc|apply pw_below_drewN|apply below_drew1)|exact HB.out))) : w.heap.size ≤ gb348));clear HO_3;clear HB;have HO_3:=n0_;have HB:=n1_;have BK348:=n2_;have GW348:=n3_;have GE348:=n4_;clear n0_ n1_ n2_ n3_ n4_;clear hb hbox hg;have hcz34_0 : w33.cell? ⟨gb348,0,none⟩ = some (.int .i64 0):=(blk_cell BK348.out 0).trans rfl;have hcz34_1 : w33.cell? ⟨gb348,1,none⟩ = some (.int .i64 0):=(blk_cell BK348.out 1).trans rfl;have hcz34_2 : w33.cell? ⟨gb348,2,none⟩ = some (.int .i64 0):=(blk_cell BK348.out 2).trans rfl;have hcz34_3 : w33.cell? ⟨gb348,3,none⟩ = some (.int .i64 0):=(blk_cell BK348.out 3).trans rfl;have hcz34_4 : w33.cell? ⟨gb348,4,none⟩ = some (.int .i64 0):=(blk_cell BK348.out 4).trans rfl;have hcz34_5 : w33.cell? ⟨gb348,5,none⟩ = some (.int .i64 0):=(blk_cell BK348.out 5).trans rfl;have hfz34_0:=blk_frozen BK348.out 0;have hfz34_1:=blk_frozen BK348.out 1;have hfz34_2:=blk_frozen BK348.out 2;have hfz34_3:=blk_frozen BK348.out 3;have hfz34_4:=blk_frozen BK348.out 4;have hfz34_5:=blk_frozen BK348.out 5;obtain ⟨Ao35,co35,eo35⟩:=Kd.R_slice HO_3.out;subst eo35)|((with_reducible refine gate_callee (f:=70) rfl ?_);refine goesL_ (some 39) rfl rfl Try.func70 (by kernel_rfl) rfl #[.agg #[.int .i64 ((rd_T75 l0 x14_1).f0),.int .i64 ((rd_T75 l0 x14_1).f1),.int .i64 ((rd_T75 l0 x14_1).f2),.int .i64 ((rd_T75 l0 x14_1).f3),.int .i64 ((rd_T75 l0 x14_1).f4),.int .i64 ((rd_T75 l0 x14_1).f5)]] rfl (by (try simp only [List.map_toArray,List.map_cons,List.map_nil]);first|done|rfl|(simp only [List.length_drop,List.length_take];rfl)) ?_;(with_reducible refine (node_leaf.calls ((rd_T75 l0 x14_1).f0) ((rd_T75 l0 x14_1).f1) ((rd_T75 l0 x14_1).f2) ((rd_T75 l0 x14_1).f3) ((rd_T75 l0 x14_1).f4) ((rd_T75 l0 x14_1).f5) false _ A18.out).mono ?_);rintro e w36 ⟨rfl,hb⟩;refine ⟨_,rfl,?_⟩;have n0_:=Aside0.mk (Kd.R_below (by (with_reducible repeat(first|apply Kd.R_alloc|apply Kd.R_drewN|apply Kd.R_drew));exact (Kd.R_mono (Kd.R_far (p:=⟨gb348,5,none⟩) (Kd.R_far (p:=⟨gb348,4,none⟩) (Kd.R_far (p:=⟨gb348,3,none⟩) (Kd.R_far (p:=⟨gb348,2,none⟩) (Kd.R_far (p:=⟨gb348,1,none⟩) (Kd.R_far (p:=⟨gb348,0,none⟩) (Kd.R_types HO_3.out BK348.out (by decide)) (fun _ hk=>hk.2) (.int .i64 ((rd_T75 l0 x14_1).f0))) (fun _ hk=>hk.2) (.int .i64 ((rd_T75 l0 x14_1).f1))) (fun _ hk=>hk.2) (.int .i64 ((rd_T75 l0 x14_1).f2))) (fun _ hk=>hk.2) (.int .i64 ((rd_T75 l0 x14_1).f3))) (fun _ hk=>hk.2) (.int .i64 ((rd_T75 l0 x14_1).f4))) (fun _ hk=>hk.2) (.int .i64 ((rd_T75 l0 x14_1).f5))) (fun _ h_=>h_.1))) hb);have n1_:=Aside0.mk (blk_below (g:=gb348) (o:=.cells #[.int .i64 ((rd_T75 l0 x14_1).f0),.int .i64 ((rd_T75 l0 x14_1).f1),.int .i64 ((rd_T75 l0 x14_1).f2),.int .i64 ((rd_T75 l0 x14_1).f3),.int .i64 ((rd_T75 l0 x14_1).f4),.int .i64 ((rd_T75 l0 x14_1).f5)] 75 (0,0)) (by (with_reducible repeat(first|refine blk_drewN ?_ _|refine blk_drew ?_|refine blk_alloc ?_ _));refine blk_put (cs:=#[.int .i64 ((rd_T75 l0 x14_1).f0),.int .i64 ((rd_T75 l0 x14_1).f1),.int .i64 ((rd_T75 l0 x14_1).f2),.int .i64 ((rd_T75 l0 x14_1).f3),.int .i64 ((rd_T75 l0 x14_1).f4),.int .i64 0]) ?_ 5 _ rfl;(with_reducible repeat(first|refine blk_drewN ?_ _|refine blk_drew ?_|refine blk_alloc ?_ _));refine blk_put (cs:=#[.int .i64 ((rd_T75 l0 x14_1).f0),.int .i64 ((rd_T75 l0 x14_1).f1),.int .i64 ((rd_T75 l0 x14_1).f2),.int .i64 ((rd_T75 l0 x14_1).f3),.int .i64 0,.int .i64 0]) ?_ 4 _ rfl;(with_reducible repeat(first|refine blk_drewN ?_ _|refine blk_drew ?_|refine blk_alloc ?_ _));refine blk_put (cs:=#[.int .i64 ((rd_T75 l0 x14_1).f0),.int .i64 ((rd_T75 l0 x14_1).f1),.int .i64 ((rd_T75 l0 x14_1).f2),.int .i64 0,.int .i64 0,.int .i64 0]) ?_ 3 _ rfl;(with_reducible repeat(first|refine blk_drewN ?_ _|refine blk_drew ?_|refine blk_alloc ?_ _));refine blk_put (cs:=#[.int .i64 ((rd_T75 l0 x14_1).f0),.int .i64 ((rd_T75 l0 x14_1).f1),.int .i64 0,.int .i64 0,.int .i64 0,.int .i64 0]) ?_ 2 _ rfl;(with_reducible repeat(first|refine blk_drewN ?_ _|refine blk_drew ?_|refine blk_alloc ?_ _));refine blk_put (cs:=#[.int .i64 ((rd_T75 l0 x14_1).f0),.int .i64 0,.int .i64 0,.int .i64 0,.int .i64 0,.int .i64 0]) ?_ 1 _ rfl;(with_reducible repeat(first|refine blk_drewN ?_ _|refine blk_drew ?_|refine blk_alloc ?_ _));refine blk_put (cs:=#[.int .i64 0,.int .i64 0,.int .i64 0,.int .i64 0,.int .i64 0,.int .i64 0]) ?_ 0 _ rfl;(with_reducible repeat(first|refine blk_drewN ?_ _|refine blk_drew ?_|refine blk_alloc ?_ _));exact BK348.out) hb);have n2_:=Aside0.mk (below_step (by repeat(first|(with_reducible first|exact HB.out|apply below_alloc|apply pw_below_drewN|apply below_drew1|refine below_set ?_ GE348.out)|exact HB.out)) hb);clear HO_3;clear BK348;clear HB;have HO_3:=n0_;have BK348:=n1_;have HB:=n2_;clear n0_ n1_ n2_;(try clear hb);(try clear hb2);(try clear hk);(try clear hi);have hcz37_0 : w36.cell? ⟨gb348,0,none⟩ = some (.int .i64 ((rd_T75 l0 x14_1).f0)):=(blk_cell BK348.out 0).trans rfl;have hcz37_1 : w36.cell? ⟨gb348,1,none⟩ = some (.int .i64 ((rd_T75 l0 x14_1).f1)):=(blk_cell BK348.out 1).trans rfl;have hcz37_2 : w36.cell? ⟨gb348,2,none⟩ = some (.int .i64 ((rd_T75 l0 x14_1).f2)):=(blk_cell BK348.out 2).trans rfl;have hcz37_3 : w36.cell? ⟨gb348,3,none⟩ = some (.int .i64 ((rd_T75 l0 x14_1).f3)):=(blk_cell BK348.out 3).trans rfl;have hcz37_4 : w36.cell? ⟨gb348,4,none⟩ = some (.int .i64 ((rd_T75 l0 x14_1).f4)):=(blk_cell BK348.out 4).trans rfl;have hcz37_5 : w36.cell? ⟨gb348,5,none⟩ = some (.int .i64 ((rd_T75 l0 x14_1).f5)):=(blk_cell BK348.out 5).trans rfl;have hfz37_0:=blk_frozen BK348.out 0;have hfz37_1:=blk_frozen BK348.out 1;have hfz37_2:=blk_frozen BK348.out 2;have hfz37_3:=blk_frozen BK348.out 3;have hfz37_4:=blk_frozen BK348.out 4;have hfz37_5:=blk_frozen BK348.out 5))
               have n0_:=Aside0.mk (Kd.R_drew HO_3.out)
               have n1_:=Aside0.mk (blk_drew BK348.out)
               have n2_:=Aside0.mk (below_drew1 HB.out)
               clear HO_3
               clear BK348
               clear HB
               have HO_3:=n0_
               have BK348:=n1_
               have HB:=n2_
               clear n0_ n1_ n2_
               have p350 : 0 ≤ (x14_1 : Int):=of_decide_eq_true (by first|(with_reducible assumption)|assumption)
               have q350 : x14_1 < (x3_1.length : Int):=of_decide_eq_true (by first|(with_reducible assumption)|assumption)
               obtain ⟨ad350,e350,hx350_0⟩:=Kd.at_int (Kd.R_reads' HO_3.out).2.2 x14_1 p350 q350
               cases e350
               replace p350:=eq_true p350
               replace q350:=eq_true q350
               have p351 : 0 ≤ (x14_1 : Int):=of_decide_eq_true (by first|(with_reducible assumption)|assumption)
               have q351 : x14_1 < (x3_1.length : Int):=of_decide_eq_true (by first|(with_reducible assumption)|assumption)
               obtain ⟨ad351,e351,hx351_0⟩:=Kd.at_int (Kd.R_reads' HO_3.out).2.2 x14_1 p351 q351
               obtain rfl : ad350 = ad351:=(by injection e351)
               replace p351:=eq_true p351
               replace q351:=eq_true q351
               refine start_ (n:=14) (S:=fun w'=>w'.cell? (ad350.add (x14_1).toNat) = some (.int .i64 (rd x3_1 x14_1)) ∧ w'.cell? (ad350.add (x14_1).toNat) = some (.int .i64 (rd x3_1 x14_1))) (ds:=[12]) #[false,false,false,false,false,false,false,false,false,false,false,false,false,false] (by kernel_rfl) rfl rfl ⟨hx350_0,hx351_0⟩ (fun hHeld=>?_);refine with_tabW node_depths.tab7 node_depths.bits7 (fun HT_ HW_=>?_)
               generalize w36.drew = w38 at HO_3 BK348 HB hx350_0 hx351_0 hHeld ⊢
               refine pure_ (i:=0) (N:=some 19) (v:=?_) (a':=?_) #[true,false,false,false,false,false,false,false,false,false,false,false,false,false] rfl rfl (any_of HT_.out (by kernel_rfl)) (fun _ _ _ h=>h) (Or.inl ⟨by rfl,?_⟩) ?_ ?_
               rotate_left
               ·intro w'
                go_simp
                with_reducible rfl
               rotate_left
               ·simp only [Act.put,List.setIfInBounds_toArray,List.set_cons_zero,List.set_cons_succ,i64_w,i32_w]
                rfl
               refine pure_ (i:=1) (N:=some 20) (v:=?_) (a':=?_) #[true,true,false,false,false,false,false,false,false,false,false,false,false,false] rfl rfl (any_of HT_.out (by kernel_rfl)) (fun _ _ _ h=>h) (Or.inl ⟨by rfl,?_⟩) ?_ ?_
               rotate_left
               ·intro w'
                go_simp
                with_reducible rfl
               rotate_left
               ·simp only [Act.put,List.setIfInBounds_toArray,List.set_cons_zero,List.set_cons_succ,i64_w,i32_w]
                rfl
               refine pure_ (i:=2) (N:=some 21) (v:=?_) (a':=?_) #[true,true,true,false,false,false,false,false,false,false,false,false,false,false] rfl rfl (any_of HT_.out (by kernel_rfl)) (fun _ _ _ h=>h) (Or.inl ⟨by rfl,?_⟩) ?_ ?_
               rotate_left
               ·intro w'
                go_simp
                with_reducible rfl
               rotate_left
               ·simp only [Act.put,List.setIfInBounds_toArray,List.set_cons_zero,List.set_cons_succ,i64_w,i32_w]
                rfl
               refine pure_ (i:=3) (N:=some 22) (v:=?_) (a':=?_) #[true,true,true,true,false,false,false,false,false,false,false,false,false,false] rfl rfl (any_of HT_.out (by kernel_rfl)) (fun _ _ _ h=>h) (Or.inl ⟨by rfl,?_⟩) ?_ ?_
               rotate_left
               ·intro w'
                go_simp
                with_reducible rfl
               rotate_left
               ·simp only [Act.put,List.setIfInBounds_toArray,List.set_cons_zero,List.set_cons_succ,i64_w,i32_w]
                rfl
               refine pure_ (i:=6) (N:=some 25) (v:=?_) (a':=?_) #[true,true,true,true,false,false,true,false,false,false,false,false,false,false] rfl rfl (any_of HT_.out (by kernel_rfl)) (fun _ _ _ h=>h) (Or.inl ⟨by rfl,?_⟩) ?_ ?_
               rotate_left
               ·intro w'
                go_simp
                with_reducible rfl
               rotate_left
               ·simp only [Act.put,List.setIfInBounds_toArray,List.set_cons_zero,List.set_cons_succ,i64_w,i32_w]
                rfl
               refine pure_ (i:=7) (N:=some 26) (v:=?_) (a':=?_) #[true,true,true,true,false,false,true,true,false,false,false,false,false,false] rfl rfl (any_of HT_.out (by kernel_rfl)) (fun _ _ _ h=>h) (Or.inl ⟨by rfl,?_⟩) ?_ ?_
               rotate_left
               ·intro w'
                go_simp
                with_reducible rfl
               rotate_left
               ·simp only [Act.put,List.setIfInBounds_toArray,List.set_cons_zero,List.set_cons_succ,i64_w,i32_w]
                rfl
               refine pure_ (i:=8) (N:=some 27) (v:=?_) (a':=?_) #[true,true,true,true,false,false,true,true,true,false,false,false,false,false] rfl rfl (any_of HT_.out (by kernel_rfl)) (fun _ _ _ h=>h) (Or.inl ⟨by rfl,?_⟩) ?_ ?_
               rotate_left
               ·intro w'
                go_simp
                with_reducible rfl
               rotate_left
               ·simp only [Act.put,List.setIfInBounds_toArray,List.set_cons_zero,List.set_cons_succ,i64_w,i32_w]
                rfl
               refine take_ (i:=4) (N:=some 23) (v:=?_) (a':=?_) #[true,true,true,true,true,false,true,true,true,false,false,false,false,false] rfl rfl (take_ofW HT_.out HW_.out (by kernel_rfl)) (fun _ _ _ h=>h) (Or.inl ⟨by rfl,?_⟩) hHeld ?_ ?_
               rotate_left
               ·rintro w' ⟨s0,s1⟩
                go_simp
                with_reducible rfl
               rotate_left
               ·simp only [Act.put,List.setIfInBounds_toArray,List.set_cons_zero,List.set_cons_succ,i64_w,i32_w]
                rfl
               refine pure_ (i:=5) (N:=some 24) (v:=?_) (a':=?_) #[true,true,true,true,true,true,true,true,true,false,false,false,false,false] rfl rfl (any_of HT_.out (by kernel_rfl)) (fun _ _ _ h=>h) (Or.inl ⟨by rfl,?_⟩) ?_ ?_
               rotate_left
               ·intro w'
                go_simp
                with_reducible rfl
               rotate_left
               ·simp only [Act.put,List.setIfInBounds_toArray,List.set_cons_zero,List.set_cons_succ,i64_w,i32_w]
                rfl
               refine take_ (i:=9) (N:=some 28) (v:=?_) (a':=?_) #[true,true,true,true,true,true,true,true,true,true,false,false,false,false] rfl rfl (take_ofW HT_.out HW_.out (by kernel_rfl)) (fun _ _ _ h=>h) (Or.inl ⟨by rfl,?_⟩) hHeld ?_ ?_
               rotate_left
               ·rintro w' ⟨s0,s1⟩
                go_simp
                with_reducible rfl
               rotate_left
               ·simp only [Act.put,List.setIfInBounds_toArray,List.set_cons_zero,List.set_cons_succ,i64_w,i32_w]
                rfl
               refine pure_ (i:=10) (N:=some 29) (v:=?_) (a':=?_) #[true,true,true,true,true,true,true,true,true,true,true,false,false,false] rfl rfl (any_of HT_.out (by kernel_rfl)) (fun _ _ _ h=>h) (Or.inl ⟨by rfl,?_⟩) ?_ ?_
               rotate_left
               ·intro w'
                go_simp
                with_reducible rfl
               rotate_left
               ·simp only [Act.put,List.setIfInBounds_toArray,List.set_cons_zero,List.set_cons_succ,i64_w,i32_w]
                rfl
               refine one_ (i:=11) (N:=some 30) #[true,true,true,true,true,true,true,true,true,true,true,true,false,false] rfl rfl (one_of HT_.out (by kernel_rfl)) (by decide) (fun K hK=>?_)
               refine Kd.R_lit_step (Kd.int .i64) _ 3 ?hg (N:=30) ?hd (xs:=([wrap64 ((rd x3_1 x14_1) + 1),wrap64 ((rd x3_1 x14_1) + 1)] : List Int)) (inner:=[.int .i64 (wrap64 ((rd x3_1 x14_1) + 1)),.int .i64 (wrap64 ((rd x3_1 x14_1) + 1))]) (ok:=fun _=>True) (okp:=fun _=>True) ?hr ?hp (fun _ hk=>hk) trivial (Below.refl _ _) (Nat.le_refl _) (by simp) ?_;(case hd=>rfl);(case hg=>rfl);(case hr=>first|(go_simp;done)|(go_simp;rfl));(case hp=>exact (Reps.one (show Kd.M (Kd.int .i64) _ _ _ (wrap64 ((rd x3_1 x14_1) + 1)) [.int .i64 (wrap64 ((rd x3_1 x14_1) + 1))] from rfl) (Reps.one (show Kd.M (Kd.int .i64) _ _ _ (wrap64 ((rd x3_1 x14_1) + 1)) [.int .i64 (wrap64 ((rd x3_1 x14_1) + 1))] from rfl) (Reps.none _ _))))
               intro v353 w39 ho40 hb hg_ hnew_
               have HS0_:=(hb.cell (World.block_lt_of_cell? _ _ (hHeld.1))).trans (hHeld.1)
               have HS1_:=(hb.cell (World.block_lt_of_cell? _ _ (hHeld.2))).trans (hHeld.2)
               clear hg_ hnew_
               (first|rw [← Ny352.out] at ho40|(simp only [Int.reduceToNat] at ho40;rw [← Ny352.out] at ho40))
               have n0_:=Aside0.mk (Kd.R_elder' (by (with_reducible repeat(first|apply Kd.R_alloc|apply Kd.R_drewN|apply Kd.R_drew));exact HO_3.out) (Kd.R_base ho40) hb)
               have n1_:=Aside0.mk (Kd.R_lower (Kd.R_new' ho40 (Kd.R_lt (by (with_reducible repeat(first|apply Kd.R_alloc|apply Kd.R_drewN|apply Kd.R_drew));exact HO_3.out))) (below_size (by repeat(first|(with_reducible first|exact HB.out|apply below_alloc|apply pw_below_drewN|apply below_drew1|refine below_set ?_ GE348.out)|exact HB.out))))
               have n2_:=Aside0.mk (blk_below (g:=gb348) (o:=.cells #[.int .i64 ((rd_T75 l0 x14_1).f0),.int .i64 ((rd_T75 l0 x14_1).f1),.int .i64 ((rd_T75 l0 x14_1).f2),.int .i64 ((rd_T75 l0 x14_1).f3),.int .i64 ((rd_T75 l0 x14_1).f4),.int .i64 ((rd_T75 l0 x14_1).f5)] 75 (0,0)) (by (with_reducible repeat(first|refine blk_drewN ?_ _|refine blk_drew ?_|refine blk_alloc ?_ _));exact BK348.out) hb)
               have n3_:=Aside0.mk (below_step (by repeat(first|(with_reducible first|exact HB.out|apply below_alloc|apply pw_below_drewN|apply below_drew1|refine below_set ?_ GE348.out)|exact HB.out)) hb)
               clear HO_3
               clear BK348
               clear HB
               have HO_3:=n0_
               have HO354:=n1_
               have BK348:=n2_
               have HB:=n3_
               clear n0_ n1_ n2_ n3_
               clear hb ho40
               obtain ⟨Ao42,co42,eo42⟩:=Kd.R_slice HO354.out
               (first|subst eo42|(injection eo42 with f1_ f2_ f3_;have f4_:=f1_.symm;have f5_:=f3_.symm;clear f1_ f2_ f3_;subst f4_;subst f5_))
               refine hK.out _ _ ⟨HS0_,HS1_⟩ (fun hHeld=>?_)
               clear hK K
               refine norm_ (a':=?_) ?_ ?_
               rotate_left
               ·show Act.put _ (some 30) _ = _
                simp only [Act.put,List.setIfInBounds_toArray,List.set_cons_zero,List.set_cons_succ,i64_w,i32_w]
                rfl
               refine last_ (i:=12) (N:=some 31) #[true,true,true,true,true,true,true,true,true,true,true,true,true,false] rfl rfl (one_of HT_.out (by kernel_rfl)) (by decide) (fun K hK=>?_)
               refine Kd.R_append_rows_step (Kd.int .i64) (w0:=w) w.heap.size (by rfl) (.tmp 19) (.tmp 30) 26 3 (.int .i64 0) 8 rfl Try.underlying26 info3 rfl (by decide) (by omega) (.slice (some ad350) x3_1.length co35) x3_1 y352 _ _ _ (fun k_=>some k_ ≠ (.slice Ao42 y352.length co42 : Value).ownBlock) (fun _=>False) rfl rfl ?aO ?aR (fun _ _ h=>h) (fun _ h=>h.elim) ?aF ?aB ?aS ?aL ?_
               (case aR=>repeat(first|exact (Kd.R_reads' HO354.out).2.2|(with_reducible refine Kd.C_alloc ?_ _)|(with_reducible refine Kd.C_drewN ?_ _)|(with_reducible refine Kd.C_drew ?_)))
               (case aB=>exact (by repeat(first|(with_reducible first|exact HB.out|apply below_alloc|apply pw_below_drewN|apply below_drew1|refine below_set ?_ GE348.out)|exact HB.out)))
               (case aF=>exact (fun k_ hk=>Kd.fresh' (Kd.R_lt (by (with_reducible repeat(first|apply Kd.R_alloc|apply Kd.R_drewN|apply Kd.R_drew));exact HO354.out)) k_ hk))
               (case aO=>exact (by (with_reducible repeat(first|apply Kd.R_alloc|apply Kd.R_drewN|apply Kd.R_drew));exact Kd.R_mono HO_3.out (fun _ hk=>hk.2)))
               (case aS=>exact (below_size (by repeat(first|(with_reducible first|exact HB.out|apply below_alloc|apply pw_below_drewN|apply below_drew1|refine below_set ?_ GE348.out)|exact HB.out))))
               (case aL=>have:=LMc32.out;omega)
               intro v356 w41 ho hb hg hat
               rw [← Ny355.out] at ho
               have n0_:=Aside0.mk (blk_grown (g:=gb348) (o:=.cells #[.int .i64 ((rd_T75 l0 x14_1).f0),.int .i64 ((rd_T75 l0 x14_1).f1),.int .i64 ((rd_T75 l0 x14_1).f2),.int .i64 ((rd_T75 l0 x14_1).f3),.int .i64 ((rd_T75 l0 x14_1).f4),.int .i64 ((rd_T75 l0 x14_1).f5)] 75 (0,0)) (by (with_reducible repeat(first|refine blk_drewN ?_ _|refine blk_drew ?_|refine blk_alloc ?_ _));exact BK348.out) hg (Kd.R_ne HO_3.out BK348.out (by decide)))
               have n1_:=Aside0.mk (Kd.R_after (ok:=(fun _=>True)) (by (with_reducible repeat(first|apply Kd.R_alloc|apply Kd.R_drewN|apply Kd.R_drew));exact HO354.out) hg hat)
               have n2_:=Aside0.mk (hb)
               have n3_:=Aside0.mk (ho)
               clear BK348
               clear HO354
               clear HB
               clear HO_3
               have BK348:=n0_
               have HO354:=n1_
               have HB:=n2_
               have HO357:=n3_
               clear n0_ n1_ n2_ n3_
               clear ho hb hg hat
               refine hK.out _ _ ?_
               clear hK K
               refine norm_ (a':=?_) ?_ ?_
               rotate_left
               ·show Act.put _ (some 31) _ = _
                simp only [Act.put,List.setIfInBounds_toArray,List.set_cons_zero,List.set_cons_succ,i64_w,i32_w]
                rfl
               refine pure_ (i:=13) (N:=some 3) (v:=?_) (a':=?_) #[true,true,true,true,true,true,true,true,true,true,true,true,true,true] rfl rfl (any_of HT_.out (by kernel_rfl)) (fun _ _ _ h=>h) (Or.inl ⟨by rfl,?_⟩) ?_ ?_
               rotate_left
               ·intro w'
                go_simp
                with_reducible rfl
               rotate_left
               ·simp only [Act.put,List.setIfInBounds_toArray,List.set_cons_zero,List.set_cons_succ,i64_w,i32_w]
                rfl
               refine done_ (done_of HT_.out (by kernel_rfl)) ?_
               try go_wp2_with (first|go_step3|go_in)
               go_roundg k1
               case measure=>have:=HK1.out;omega
               case rel=>exact ⟨(y355),(wrap64 (x14_1 + 1)),(by first|rfl|(simp;done)|(simp [*];done)),H',⟨by have:=HK1.out;omega⟩,⟨by (with_reducible repeat(first|apply Kd.R_alloc|apply Kd.R_drewN|apply Kd.R_drew));exact Kd.R_mono HO357.out (fun _ hk=>trivial)⟩,⟨by repeat(first|(with_reducible first|exact HB.out|apply below_alloc|apply pw_below_drewN|apply below_drew1|refine below_set ?_ GE348.out)|exact HB.out)⟩⟩
              ·rw [if_neg c32] at H
               exact absurd H (by simp)
             ·rw [if_neg c31] at H
              exact absurd H (by simp)
           ·rw [if_neg c24] at H
            have c24b0 : (((rd_T75 l0 x14_1).f2) == (x3_1.length : Int)) = false:=beq_eq_false_iff_ne.mpr c24
            have c24b1 : (((rd_T75 l0 x14_1).f2) != (x3_1.length : Int)) = true:=bne_iff_ne.mpr c24
            obtain rfl:=Option.some.inj H
            have p347 : 0 ≤ (x14_1 : Int):=of_decide_eq_true (by first|(with_reducible assumption)|assumption)
            have q347 : x14_1 < (l0.length : Int):=of_decide_eq_true (by first|(with_reducible assumption)|assumption)
            obtain ⟨ad347,e347,hx347_0,hx347_1,hx347_2,hx347_3,hx347_4,hx347_5⟩:=at_T75 HR0.out x14_1 p347 q347
            cases e347
            replace hx347_0:=(HB.out.cell (World.block_lt_of_cell? w _ hx347_0)).trans hx347_0
            replace hx347_1:=(HB.out.cell (World.block_lt_of_cell? w _ hx347_1)).trans hx347_1
            replace hx347_2:=(HB.out.cell (World.block_lt_of_cell? w _ hx347_2)).trans hx347_2
            replace hx347_3:=(HB.out.cell (World.block_lt_of_cell? w _ hx347_3)).trans hx347_3
            replace hx347_4:=(HB.out.cell (World.block_lt_of_cell? w _ hx347_4)).trans hx347_4
            replace hx347_5:=(HB.out.cell (World.block_lt_of_cell? w _ hx347_5)).trans hx347_5
            replace p347:=eq_true p347
            replace q347:=eq_true q347
            go_wp2_with (first|go_step3|((with_reducible refine gate_dst (N:=5) rfl ?_);(try (refine gate_guard (by rfl) ?_;dsimp only));refine box_event ?hg (N:=5) ?hd (cs:=#[.int .i64 0,.int .i64 0,.int .i64 0,.int .i64 0,.int .i64 0,.int .i64 0]) (t:=75) ?hr ?_;(case hd=>rfl);(case hg=>rfl);(case hr=>first|(go_simp;done)|(go_simp;rfl));intro gb348 hg w43 hbox hb;have n0_:=Aside0.mk (Kd.R_below (by (with_reducible repeat(first|apply Kd.R_alloc|apply Kd.R_drewN|apply Kd.R_drew));exact HO_3.out) hb);have n1_:=Aside0.mk (below_step (by repeat(first|(with_reducible first|exact HB.out|apply below_alloc|apply pw_below_drewN|apply below_drew1)|exact HB.out)) hb);have n2_:=Aside0.mk (hbox);have n3_:=Aside0.mk ((by rw [hg];exact (below_size (by repeat(first|(with_reducible first|exact HB.out|apply below_alloc|apply pw_below_drewN|apply below_drew1)|exact HB.out))) : w.heap.size ≤ gb348));have n4_:=Aside0.mk ((by rw [hg];exact (below_size (by repeat(first|(with_reducible first|exact HB.out|apply below_alloc|apply pw_below_drewN|apply below_drew1)|exact HB.out))) : w.heap.size ≤ gb348));clear HO_3;clear HB;have HO_3:=n0_;have HB:=n1_;have BK348:=n2_;have GW348:=n3_;have GE348:=n4_;clear n0_ n1_ n2_ n3_ n4_;clear hb hbox hg;have hcz44_0 : w43.cell? ⟨gb348,0,none⟩ = some (.int .i64 0):=(blk_cell BK348.out 0).trans rfl;have hcz44_1 : w43.cell? ⟨gb348,1,none⟩ = some (.int .i64 0):=(blk_cell BK348.out 1).trans rfl;have hcz44_2 : w43.cell? ⟨gb348,2,none⟩ = some (.int .i64 0):=(blk_cell BK348.out 2).trans rfl;have hcz44_3 : w43.cell? ⟨gb348,3,none⟩ = some (.int .i64 0):=(blk_cell BK348.out 3).trans rfl;have hcz44_4 : w43.cell? ⟨gb348,4,none⟩ = some (.int .i64 0):=(blk_cell BK348.out 4).trans rfl;have hcz44_5 : w43.cell? ⟨gb348,5,none⟩ = some (.int .i64 0):=(blk_cell BK348.out 5).trans rfl;have hfz44_0:=blk_frozen BK348.out 0;have hfz44_1:=blk_frozen BK348.out 1;have hfz44_2:=blk_frozen BK348.out 2;have hfz44_3:=blk_frozen BK348.out 3;have hfz44_4:=blk_frozen BK348.out 4;have hfz44_5:=blk_frozen BK348.out 5;obtain ⟨Ao45,co45,eo45⟩:=Kd.R_slice HO_3.out;subst eo45)|((with_reducible refine gate_callee (f:=70) rfl ?_);refine goesL_ (some 39) rfl rfl Try.func70 (by kernel_rfl) rfl #[.agg #[.int .i64 ((rd_T75 l0 x14_1).f0),.int .i64 ((rd_T75 l0 x14_1).f1),.int .i64 ((rd_T75 l0 x14_1).f2),.int .i64 ((rd_T75 l0 x14_1).f3),.int .i64 ((rd_T75 l0 x14_1).f4),.int .i64 ((rd_T75 l0 x14_1).f5)]] rfl (by (try simp only [List.map_toArray,List.map_cons,List.map_nil]);first|done|rfl|(simp only [List.length_drop,List.length_take];rfl)) ?_;(with_reducible refine (node_leaf.calls ((rd_T75 l0 x14_1).f0) ((rd_T75 l0 x14_1).f1) ((rd_T75 l0 x14_1).f2) ((rd_T75 l0 x14_1).f3) ((rd_T75 l0 x14_1).f4) ((rd_T75 l0 x14_1).f5) false _ A18.out).mono ?_);rintro e w46 ⟨rfl,hb⟩;refine ⟨_,rfl,?_⟩;have n0_:=Aside0.mk (Kd.R_below (by (with_reducible repeat(first|apply Kd.R_alloc|apply Kd.R_drewN|apply Kd.R_drew));exact (Kd.R_mono (Kd.R_far (p:=⟨gb348,5,none⟩) (Kd.R_far (p:=⟨gb348,4,none⟩) (Kd.R_far (p:=⟨gb348,3,none⟩) (Kd.R_far (p:=⟨gb348,2,none⟩) (Kd.R_far (p:=⟨gb348,1,none⟩) (Kd.R_far (p:=⟨gb348,0,none⟩) (Kd.R_types HO_3.out BK348.out (by decide)) (fun _ hk=>hk.2) (.int .i64 ((rd_T75 l0 x14_1).f0))) (fun _ hk=>hk.2) (.int .i64 ((rd_T75 l0 x14_1).f1))) (fun _ hk=>hk.2) (.int .i64 ((rd_T75 l0 x14_1).f2))) (fun _ hk=>hk.2) (.int .i64 ((rd_T75 l0 x14_1).f3))) (fun _ hk=>hk.2) (.int .i64 ((rd_T75 l0 x14_1).f4))) (fun _ hk=>hk.2) (.int .i64 ((rd_T75 l0 x14_1).f5))) (fun _ h_=>h_.1))) hb);have n1_:=Aside0.mk (blk_below (g:=gb348) (o:=.cells #[.int .i64 ((rd_T75 l0 x14_1).f0),.int .i64 ((rd_T75 l0 x14_1).f1),.int .i64 ((rd_T75 l0 x14_1).f2),.int .i64 ((rd_T75 l0 x14_1).f3),.int .i64 ((rd_T75 l0 x14_1).f4),.int .i64 ((rd_T75 l0 x14_1).f5)] 75 (0,0)) (by (with_reducible repeat(first|refine blk_drewN ?_ _|refine blk_drew ?_|refine blk_alloc ?_ _));refine blk_put (cs:=#[.int .i64 ((rd_T75 l0 x14_1).f0),.int .i64 ((rd_T75 l0 x14_1).f1),.int .i64 ((rd_T75 l0 x14_1).f2),.int .i64 ((rd_T75 l0 x14_1).f3),.int .i64 ((rd_T75 l0 x14_1).f4),.int .i64 0]) ?_ 5 _ rfl;(with_reducible repeat(first|refine blk_drewN ?_ _|refine blk_drew ?_|refine blk_alloc ?_ _));refine blk_put (cs:=#[.int .i64 ((rd_T75 l0 x14_1).f0),.int .i64 ((rd_T75 l0 x14_1).f1),.int .i64 ((rd_T75 l0 x14_1).f2),.int .i64 ((rd_T75 l0 x14_1).f3),.int .i64 0,.int .i64 0]) ?_ 4 _ rfl;(with_reducible repeat(first|refine blk_drewN ?_ _|refine blk_drew ?_|refine blk_alloc ?_ _));refine blk_put (cs:=#[.int .i64 ((rd_T75 l0 x14_1).f0),.int .i64 ((rd_T75 l0 x14_1).f1),.int .i64 ((rd_T75 l0 x14_1).f2),.int .i64 0,.int .i64 0,.int .i64 0]) ?_ 3 _ rfl;(with_reducible repeat(first|refine blk_drewN ?_ _|refine blk_drew ?_|refine blk_alloc ?_ _));refine blk_put (cs:=#[.int .i64 ((rd_T75 l0 x14_1).f0),.int .i64 ((rd_T75 l0 x14_1).f1),.int .i64 0,.int .i64 0,.int .i64 0,.int .i64 0]) ?_ 2 _ rfl;(with_reducible repeat(first|refine blk_drewN ?_ _|refine blk_drew ?_|refine blk_alloc ?_ _));refine blk_put (cs:=#[.int .i64 ((rd_T75 l0 x14_1).f0),.int .i64 0,.int .i64 0,.int .i64 0,.int .i64 0,.int .i64 0]) ?_ 1 _ rfl;(with_reducible repeat(first|refine blk_drewN ?_ _|refine blk_drew ?_|refine blk_alloc ?_ _));refine blk_put (cs:=#[.int .i64 0,.int .i64 0,.int .i64 0,.int .i64 0,.int .i64 0,.int .i64 0]) ?_ 0 _ rfl;(with_reducible repeat(first|refine blk_drewN ?_ _|refine blk_drew ?_|refine blk_alloc ?_ _));exact BK348.out) hb);have n2_:=Aside0.mk (below_step (by repeat(first|(with_reducible first|exact HB.out|apply below_alloc|apply pw_below_drewN|apply below_drew1|refine below_set ?_ GE348.out)|exact HB.out)) hb);clear HO_3;clear BK348;clear HB;have HO_3:=n0_;have BK348:=n1_;have HB:=n2_;clear n0_ n1_ n2_;(try clear hb);(try clear hb2);(try clear hk);(try clear hi);have hcz47_0 : w46.cell? ⟨gb348,0,none⟩ = some (.int .i64 ((rd_T75 l0 x14_1).f0)):=(blk_cell BK348.out 0).trans rfl;have hcz47_1 : w46.cell? ⟨gb348,1,none⟩ = some (.int .i64 ((rd_T75 l0 x14_1).f1)):=(blk_cell BK348.out 1).trans rfl;have hcz47_2 : w46.cell? ⟨gb348,2,none⟩ = some (.int .i64 ((rd_T75 l0 x14_1).f2)):=(blk_cell BK348.out 2).trans rfl;have hcz47_3 : w46.cell? ⟨gb348,3,none⟩ = some (.int .i64 ((rd_T75 l0 x14_1).f3)):=(blk_cell BK348.out 3).trans rfl;have hcz47_4 : w46.cell? ⟨gb348,4,none⟩ = some (.int .i64 ((rd_T75 l0 x14_1).f4)):=(blk_cell BK348.out 4).trans rfl;have hcz47_5 : w46.cell? ⟨gb348,5,none⟩ = some (.int .i64 ((rd_T75 l0 x14_1).f5)):=(blk_cell BK348.out 5).trans rfl;have hfz47_0:=blk_frozen BK348.out 0;have hfz47_1:=blk_frozen BK348.out 1;have hfz47_2:=blk_frozen BK348.out 2;have hfz47_3:=blk_frozen BK348.out 3;have hfz47_4:=blk_frozen BK348.out 4;have hfz47_5:=blk_frozen BK348.out 5))
            go_ret
            exact ⟨_,by first|rfl|(simp [errW_none,errW_some] <;> rfl)|(simp [*,errW_none,errW_some] <;> rfl),by first|exact Kd.R_nil _ _ _ _ _|exact Kd.N_nil _ _ _ _ _|exact Kd.V_nil _ _ _ _ _|exact Kd.Q_nil _ _ _ _ _|exact Kd.S_nil _ _ _ _ _,by repeat(first|(with_reducible first|exact HB.out|apply below_alloc|apply pw_below_drewN|apply below_drew1|refine below_set ?_ GE348.out)|exact HB.out)⟩
        ·rw [if_neg c9] at H
         exact absurd H (by simp)
       ·rw [if_neg c8] at H
        exact absurd H (by simp)
      ·rw [if_neg c7] at H
       have c7b0 : decide (x14_1 < (l0.length : Int)) = false:=decide_eq_false c7
       clear c7
       by_cases c48 : (x3_1.length : Int) = (l0.length : Int)
       ·rw [if_pos c48] at H
        have c48b0 : ((x3_1.length : Int) == (l0.length : Int)) = true:=beq_iff_eq.mpr c48
        have c48b1 : ((x3_1.length : Int) != (l0.length : Int)) = false:=bne_eq_false_iff_eq.mpr c48
        have c48b2 : (x3_1.length == l0.length) = true:=by first|simpa using c48|(simp at c48 ⊢;omega)
        clear c48
        obtain rfl:=Option.some.inj H
        obtain ⟨Ao49,co49,eo49⟩:=Kd.R_slice HO_3.out
        subst eo49
        go_wp2_with (first|go_step3|go_in)
        go_ret
        exact ⟨_,by first|rfl|(simp [errW_none,errW_some] <;> rfl)|(simp [*,errW_none,errW_some] <;> rfl),by (with_reducible repeat(first|apply Kd.R_alloc|apply Kd.R_drewN|apply Kd.R_drew));exact HO_3.out,by repeat(first|(with_reducible first|exact HB.out|apply below_alloc|apply pw_below_drewN|apply below_drew1)|exact HB.out)⟩
       ·rw [if_neg c48] at H
        have c48b0 : ((x3_1.length : Int) == (l0.length : Int)) = false:=beq_eq_false_iff_ne.mpr c48
        have c48b1 : ((x3_1.length : Int) != (l0.length : Int)) = true:=bne_iff_ne.mpr c48
        have c48b2 : (x3_1.length == l0.length) = false:=by first|simpa using c48|(simp at c48 ⊢;omega)
        obtain rfl:=Option.some.inj H
        obtain ⟨Ao50,co50,eo50⟩:=Kd.R_slice HO_3.out
        subst eo50
        go_wp2_with (first|go_step3|go_in)
        go_ret
        exact ⟨_,by first|rfl|(simp [errW_none,errW_some] <;> rfl)|(simp [*,errW_none,errW_some] <;> rfl),by first|exact Kd.R_nil _ _ _ _ _|exact Kd.N_nil _ _ _ _ _|exact Kd.V_nil _ _ _ _ _|exact Kd.Q_nil _ _ _ _ _|exact Kd.S_nil _ _ _ _ _,by repeat(first|(with_reducible first|exact HB.out|apply below_alloc|apply pw_below_drewN|apply below_drew1)|exact HB.out)⟩
   ·rw [if_neg c4] at H
    exact absurd H (by simp)
  ·rw [if_neg c3] at H
   exact absurd H (by simp)

end Go.Proofs.Ytebbnjgaikppgaa.PA
