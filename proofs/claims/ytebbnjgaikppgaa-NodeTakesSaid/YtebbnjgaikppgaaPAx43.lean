import Derived.Test.YtebbnjgaikppgaaPAx0
import Derived.Test.YtebbnjgaikppgaaPAx42
namespace Go.Proofs.Ytebbnjgaikppgaa.PA
open Go.RowKit Go.Proofs.YtebbnjgaikppgaaW.PrintWords Go.Proofs.YtebbnjgaikppgaaW.PrintLast Go.Proofs.YtebbnjgaikppgaaW.PrintMore
attribute [local go_sem] max2_int min2_int max_two min_two max_three min_three max_four min_four   -- for this text's walks alone
attribute [local go_sem high] Flt.fold_eq Flt.fold_ne Flt.fold_lt Flt.fold_gt Flt.fold_le Flt.fold_ge Flt.run_bits Flt.run_frombits
set_option linter.unusedVariables false
set_option linter.unusedSimpArgs false

/-! ### hornbeamref18_Deep: function 44 -/
mutual
def hornbeamref18_Deep.l0 : Nat → List (S75) → Int → Int → Option (Int)
 | 0,_,_,_=>none
 | k + 1,x0,x3,x4=>if x4 < (x0.length : Int) then (if 0 ≤ x4 then (if ((rd_T75 x0 x4).f0) ≥ 0 then (if ((rd_T75 x0 x4).f2) = x3 then (if x3 ≤ x4 then (some (-1)) else (hornbeamref18_Deep.l0 k x0 (wrap64 (x3 + 2)) (wrap64 (x4 + 1)))) else (some (-1))) else (hornbeamref18_Deep.l0 k x0 x3 (wrap64 (x4 + 1)))) else (none)) else (if x3 = (x0.length : Int) then (hornbeamref18_Deep.l1 k x0 (([] : List Int)) 0 0) else (some (-1)))
def hornbeamref18_Deep.l1 : Nat → List (S75) → List Int → Int → Int → Option (Int)
 | 0,_,_,_,_=>none
 | k + 1,x0,x5,x6,x7=>if x7 < (x0.length : Int) then (if x7 > 0 then ((hornbeamref18_parent.f k x0 x7).bind fun t438=>(if t438 < 0 then (some (-1)) else (if 0 ≤ t438 then (if t438 < (x5.length : Int) then (if x5.length < 17592186044416 then ((some (x5 ++ [wrap64 ((rd x5 t438) + 1)] : List Int)).bind fun y440=>(if (wrap64 ((rd x5 t438) + 1)) > x6 then (hornbeamref18_Deep.l1 k x0 y440 (wrap64 ((rd x5 t438) + 1)) (wrap64 (x7 + 1))) else (hornbeamref18_Deep.l1 k x0 y440 x6 (wrap64 (x7 + 1))))) else (none)) else (none)) else (none)))) else (if x5.length < 17592186044416 then ((some (x5 ++ [0] : List Int)).bind fun y443=>(if 0 > x6 then (hornbeamref18_Deep.l1 k x0 y443 0 (wrap64 (x7 + 1))) else (hornbeamref18_Deep.l1 k x0 y443 x6 (wrap64 (x7 + 1))))) else (none))) else (some x6)
end
def hornbeamref18_Deep.f (k : Nat) (l0 : List (S75)) : Option (Int):=hornbeamref18_Deep.l0 k l0 1 0
theorem hornbeamref18_Deep.mono_l : ∀ k,(∀ y0 y1 y2,LeO (hornbeamref18_Deep.l0 k y0 y1 y2) (hornbeamref18_Deep.l0 (k + 1) y0 y1 y2)) ∧ (∀ y0 y1 y2 y3,LeO (hornbeamref18_Deep.l1 k y0 y1 y2 y3) (hornbeamref18_Deep.l1 (k + 1) y0 y1 y2 y3))
 | 0=>⟨fun _ _ _ r h=>by simp [hornbeamref18_Deep.l0] at h,fun _ _ _ _ r h=>by simp [hornbeamref18_Deep.l1] at h⟩
 | k + 1=>by
  obtain ⟨ih0,ih1⟩:=hornbeamref18_Deep.mono_l k
  refine ⟨?_,?_⟩
  ·intro y0 y1 y2
   unfold hornbeamref18_Deep.l0
   repeat' first
   | (with_reducible exact ih0 _ _ _)
   | (with_reducible exact ih1 _ _ _ _)
   | (with_reducible exact hornbeamref18_parent.mono _ _ _)
   | (with_reducible exact LeO.refl _)
   | (with_reducible exact LeO.none _)
   | (with_reducible refine LeO.ite ?_ ?_)
   | (with_reducible refine LeO.bind ?_ (fun _=>?_))
   | exact ih0 _ _ _
   | exact ih1 _ _ _ _
   | exact hornbeamref18_parent.mono _ _ _
   | exact LeO.none _
   | refine LeO.ite ?_ ?_
   | refine LeO.bind ?_ (fun _=>?_)
  ·intro y0 y1 y2 y3
   unfold hornbeamref18_Deep.l1
   repeat' first
   | (with_reducible exact ih0 _ _ _)
   | (with_reducible exact ih1 _ _ _ _)
   | (with_reducible exact hornbeamref18_parent.mono _ _ _)
   | (with_reducible exact LeO.refl _)
   | (with_reducible exact LeO.none _)
   | (with_reducible refine LeO.ite ?_ ?_)
   | (with_reducible refine LeO.bind ?_ (fun _=>?_))
   | exact ih0 _ _ _
   | exact ih1 _ _ _ _
   | exact hornbeamref18_parent.mono _ _ _
   | exact LeO.none _
   | refine LeO.ite ?_ ?_
   | refine LeO.bind ?_ (fun _=>?_)
theorem hornbeamref18_Deep.mono : ∀ a0 k,LeO (hornbeamref18_Deep.f k a0) (hornbeamref18_Deep.f (k + 1) a0):=by
 intro a0 k
 obtain ⟨ih0,ih1⟩:=hornbeamref18_Deep.mono_l k
 unfold hornbeamref18_Deep.f
 repeat' first
   | (with_reducible exact ih0 _ _ _)
   | (with_reducible exact ih1 _ _ _ _)
   | (with_reducible exact hornbeamref18_parent.mono _ _ _)
   | (with_reducible exact LeO.refl _)
   | (with_reducible exact LeO.none _)
   | (with_reducible refine LeO.ite ?_ ?_)
   | (with_reducible refine LeO.bind ?_ (fun _=>?_))
   | exact ih0 _ _ _
   | exact ih1 _ _ _ _
   | exact hornbeamref18_parent.mono _ _ _
   | exact LeO.none _
   | refine LeO.ite ?_ ?_
   | refine LeO.bind ?_ (fun _=>?_)
set_option maxHeartbeats 8000000 in
set_option maxRecDepth 100000 in
theorem hornbeamref18_Deep.calls (k : Nat) (A0 : Option Addr) (c0 : Nat) (l0 : List (S75)) (r : Int) (w : World) (hr0 : Kd.C k75 w A0 l0.length l0) (hc0 : l0.length ≤ c0) (h : hornbeamref18_Deep.f k l0 = some r) :
  Calls Try.prog 44 #[.slice A0 l0.length c0] w fun e w'=>e = .returned (.int .i64 r) ∧ Below w.heap.size w w':=by
 have HR0:=Aside0.mk hr0
 have HC0:=Aside0.mk hc0
 clear hr0 hc0
 have HB:=Aside0.mk (Below.refl w.heap.size w)
 have H : (hornbeamref18_Deep.l0 k l0 1 0) = some r:=h
 clear h
 have H':=Aside0.mk H
 clear H
 go_enter Try.func44,Try.ntmps44
 go_wp2
 go_loopg [3,4] k (fun kq v3 v4 w'=>∃ (x3_1 : Int) (x4_1 : Int),v3 = .int .i64 x3_1 ∧ v4 = .int .i64 x4_1 ∧ Aside0 (hornbeamref18_Deep.l0 kq l0 x3_1 x4_1 = some r) ∧ Aside0 (kq ≤ k) ∧ Aside0 (Below w.heap.size w w'))
 case atStart=>exact ⟨(1),(0),(by first|rfl|(simp;done)|(simp [*];done)),(by first|rfl|(simp;done)|(simp [*];done)),H',⟨Nat.le_refl _⟩,⟨by repeat(first|(with_reducible first|exact HB.out|apply below_alloc|apply pw_below_drewN|apply below_drew1)|exact HB.out)⟩⟩
 case round =>
  clear H'
  obtain ⟨x3_1,x4_1,rfl,rfl,HA,HK1,HB⟩:=hrel
  cases gk with
  | zero=>exact absurd HA.out (by simp [hornbeamref18_Deep.l0])
  | succ k1 =>
   have H:=HA.out
   clear HA
   simp only [hornbeamref18_Deep.l0] at H
   by_cases c2 : x4_1 < (l0.length : Int)
   ·rw [if_pos c2] at H
    have c2b0 : decide (x4_1 < (l0.length : Int)) = true:=decide_eq_true c2
    clear c2
    by_cases c3 : 0 ≤ x4_1
    ·rw [if_pos c3] at H
     have c3b0 : decide (0 ≤ x4_1) = true:=decide_eq_true c3
     clear c3
     by_cases c4 : ((rd_T75 l0 x4_1).f0) ≥ 0
     ·rw [if_pos c4] at H
      have c4b0 : decide (0 ≤ ((rd_T75 l0 x4_1).f0)) = true:=decide_eq_true c4
      clear c4
      by_cases c5 : ((rd_T75 l0 x4_1).f2) = x3_1
      ·rw [if_pos c5] at H
       have c5b0 : (((rd_T75 l0 x4_1).f2) == x3_1) = true:=beq_iff_eq.mpr c5
       have c5b1 : (((rd_T75 l0 x4_1).f2) != x3_1) = false:=bne_eq_false_iff_eq.mpr c5
       clear c5
       by_cases c6 : x3_1 ≤ x4_1
       ·rw [if_pos c6] at H
        have c6b0 : decide (x3_1 ≤ x4_1) = true:=decide_eq_true c6
        clear c6
        obtain rfl:=Option.some.inj H
        have p433 : 0 ≤ (x4_1 : Int):=of_decide_eq_true (by first|(with_reducible assumption)|assumption)
        have q433 : x4_1 < (l0.length : Int):=of_decide_eq_true (by first|(with_reducible assumption)|assumption)
        obtain ⟨ad433,e433,hx433_0,hx433_1,hx433_2,hx433_3,hx433_4,hx433_5⟩:=at_T75 HR0.out x4_1 p433 q433
        cases e433
        replace hx433_0:=(HB.out.cell (World.block_lt_of_cell? w _ hx433_0)).trans hx433_0
        replace hx433_1:=(HB.out.cell (World.block_lt_of_cell? w _ hx433_1)).trans hx433_1
        replace hx433_2:=(HB.out.cell (World.block_lt_of_cell? w _ hx433_2)).trans hx433_2
        replace hx433_3:=(HB.out.cell (World.block_lt_of_cell? w _ hx433_3)).trans hx433_3
        replace hx433_4:=(HB.out.cell (World.block_lt_of_cell? w _ hx433_4)).trans hx433_4
        replace hx433_5:=(HB.out.cell (World.block_lt_of_cell? w _ hx433_5)).trans hx433_5
        replace p433:=eq_true p433
        replace q433:=eq_true q433
        have p434 : 0 ≤ (x4_1 : Int):=of_decide_eq_true (by first|(with_reducible assumption)|assumption)
        have q434 : x4_1 < (l0.length : Int):=of_decide_eq_true (by first|(with_reducible assumption)|assumption)
        obtain ⟨ad434,e434,hx434_0,hx434_1,hx434_2,hx434_3,hx434_4,hx434_5⟩:=at_T75 HR0.out x4_1 p434 q434
        obtain rfl : ad433 = ad434:=(by injection e434)
        replace hx434_0:=(HB.out.cell (World.block_lt_of_cell? w _ hx434_0)).trans hx434_0
        replace hx434_1:=(HB.out.cell (World.block_lt_of_cell? w _ hx434_1)).trans hx434_1
        replace hx434_2:=(HB.out.cell (World.block_lt_of_cell? w _ hx434_2)).trans hx434_2
        replace hx434_3:=(HB.out.cell (World.block_lt_of_cell? w _ hx434_3)).trans hx434_3
        replace hx434_4:=(HB.out.cell (World.block_lt_of_cell? w _ hx434_4)).trans hx434_4
        replace hx434_5:=(HB.out.cell (World.block_lt_of_cell? w _ hx434_5)).trans hx434_5
        replace p434:=eq_true p434
        replace q434:=eq_true q434
        go_wp2
        go_ret
        exact ⟨by first|rfl|(simp [errW_none,errW_some] <;> rfl)|(simp [*,errW_none,errW_some] <;> rfl),by repeat(first|(with_reducible first|exact HB.out|apply below_alloc|apply pw_below_drewN|apply below_drew1)|exact HB.out)⟩
       ·rw [if_neg c6] at H
        have c6b0 : decide (x3_1 ≤ x4_1) = false:=decide_eq_false c6
        clear c6
        have H':=Aside0.mk H
        clear H
        have p433 : 0 ≤ (x4_1 : Int):=of_decide_eq_true (by first|(with_reducible assumption)|assumption)
        have q433 : x4_1 < (l0.length : Int):=of_decide_eq_true (by first|(with_reducible assumption)|assumption)
        obtain ⟨ad433,e433,hx433_0,hx433_1,hx433_2,hx433_3,hx433_4,hx433_5⟩:=at_T75 HR0.out x4_1 p433 q433
        cases e433
        replace hx433_0:=(HB.out.cell (World.block_lt_of_cell? w _ hx433_0)).trans hx433_0
        replace hx433_1:=(HB.out.cell (World.block_lt_of_cell? w _ hx433_1)).trans hx433_1
        replace hx433_2:=(HB.out.cell (World.block_lt_of_cell? w _ hx433_2)).trans hx433_2
        replace hx433_3:=(HB.out.cell (World.block_lt_of_cell? w _ hx433_3)).trans hx433_3
        replace hx433_4:=(HB.out.cell (World.block_lt_of_cell? w _ hx433_4)).trans hx433_4
        replace hx433_5:=(HB.out.cell (World.block_lt_of_cell? w _ hx433_5)).trans hx433_5
        replace p433:=eq_true p433
        replace q433:=eq_true q433
        have p434 : 0 ≤ (x4_1 : Int):=of_decide_eq_true (by first|(with_reducible assumption)|assumption)
        have q434 : x4_1 < (l0.length : Int):=of_decide_eq_true (by first|(with_reducible assumption)|assumption)
        obtain ⟨ad434,e434,hx434_0,hx434_1,hx434_2,hx434_3,hx434_4,hx434_5⟩:=at_T75 HR0.out x4_1 p434 q434
        obtain rfl : ad433 = ad434:=(by injection e434)
        replace hx434_0:=(HB.out.cell (World.block_lt_of_cell? w _ hx434_0)).trans hx434_0
        replace hx434_1:=(HB.out.cell (World.block_lt_of_cell? w _ hx434_1)).trans hx434_1
        replace hx434_2:=(HB.out.cell (World.block_lt_of_cell? w _ hx434_2)).trans hx434_2
        replace hx434_3:=(HB.out.cell (World.block_lt_of_cell? w _ hx434_3)).trans hx434_3
        replace hx434_4:=(HB.out.cell (World.block_lt_of_cell? w _ hx434_4)).trans hx434_4
        replace hx434_5:=(HB.out.cell (World.block_lt_of_cell? w _ hx434_5)).trans hx434_5
        replace p434:=eq_true p434
        replace q434:=eq_true q434
        go_wp2
        go_roundg k1
        case measure=>have:=HK1.out;omega
        case rel=>exact ⟨(wrap64 (x3_1 + 2)),(wrap64 (x4_1 + 1)),(by first|rfl|(simp;done)|(simp [*];done)),(by first|rfl|(simp;done)|(simp [*];done)),H',⟨by have:=HK1.out;omega⟩,⟨by repeat(first|(with_reducible first|exact HB.out|apply below_alloc|apply pw_below_drewN|apply below_drew1)|exact HB.out)⟩⟩
      ·rw [if_neg c5] at H
       have c5b0 : (((rd_T75 l0 x4_1).f2) == x3_1) = false:=beq_eq_false_iff_ne.mpr c5
       have c5b1 : (((rd_T75 l0 x4_1).f2) != x3_1) = true:=bne_iff_ne.mpr c5
       obtain rfl:=Option.some.inj H
       have p433 : 0 ≤ (x4_1 : Int):=of_decide_eq_true (by first|(with_reducible assumption)|assumption)
       have q433 : x4_1 < (l0.length : Int):=of_decide_eq_true (by first|(with_reducible assumption)|assumption)
       obtain ⟨ad433,e433,hx433_0,hx433_1,hx433_2,hx433_3,hx433_4,hx433_5⟩:=at_T75 HR0.out x4_1 p433 q433
       cases e433
       replace hx433_0:=(HB.out.cell (World.block_lt_of_cell? w _ hx433_0)).trans hx433_0
       replace hx433_1:=(HB.out.cell (World.block_lt_of_cell? w _ hx433_1)).trans hx433_1
       replace hx433_2:=(HB.out.cell (World.block_lt_of_cell? w _ hx433_2)).trans hx433_2
       replace hx433_3:=(HB.out.cell (World.block_lt_of_cell? w _ hx433_3)).trans hx433_3
       replace hx433_4:=(HB.out.cell (World.block_lt_of_cell? w _ hx433_4)).trans hx433_4
       replace hx433_5:=(HB.out.cell (World.block_lt_of_cell? w _ hx433_5)).trans hx433_5
       replace p433:=eq_true p433
       replace q433:=eq_true q433
       have p434 : 0 ≤ (x4_1 : Int):=of_decide_eq_true (by first|(with_reducible assumption)|assumption)
       have q434 : x4_1 < (l0.length : Int):=of_decide_eq_true (by first|(with_reducible assumption)|assumption)
       obtain ⟨ad434,e434,hx434_0,hx434_1,hx434_2,hx434_3,hx434_4,hx434_5⟩:=at_T75 HR0.out x4_1 p434 q434
       obtain rfl : ad433 = ad434:=(by injection e434)
       replace hx434_0:=(HB.out.cell (World.block_lt_of_cell? w _ hx434_0)).trans hx434_0
       replace hx434_1:=(HB.out.cell (World.block_lt_of_cell? w _ hx434_1)).trans hx434_1
       replace hx434_2:=(HB.out.cell (World.block_lt_of_cell? w _ hx434_2)).trans hx434_2
       replace hx434_3:=(HB.out.cell (World.block_lt_of_cell? w _ hx434_3)).trans hx434_3
       replace hx434_4:=(HB.out.cell (World.block_lt_of_cell? w _ hx434_4)).trans hx434_4
       replace hx434_5:=(HB.out.cell (World.block_lt_of_cell? w _ hx434_5)).trans hx434_5
       replace p434:=eq_true p434
       replace q434:=eq_true q434
       go_wp2
       go_ret
       exact ⟨by first|rfl|(simp [errW_none,errW_some] <;> rfl)|(simp [*,errW_none,errW_some] <;> rfl),by repeat(first|(with_reducible first|exact HB.out|apply below_alloc|apply pw_below_drewN|apply below_drew1)|exact HB.out)⟩
     ·rw [if_neg c4] at H
      have c4b0 : decide (0 ≤ ((rd_T75 l0 x4_1).f0)) = false:=decide_eq_false c4
      clear c4
      have H':=Aside0.mk H
      clear H
      have p433 : 0 ≤ (x4_1 : Int):=of_decide_eq_true (by first|(with_reducible assumption)|assumption)
      have q433 : x4_1 < (l0.length : Int):=of_decide_eq_true (by first|(with_reducible assumption)|assumption)
      obtain ⟨ad433,e433,hx433_0,hx433_1,hx433_2,hx433_3,hx433_4,hx433_5⟩:=at_T75 HR0.out x4_1 p433 q433
      cases e433
      replace hx433_0:=(HB.out.cell (World.block_lt_of_cell? w _ hx433_0)).trans hx433_0
      replace hx433_1:=(HB.out.cell (World.block_lt_of_cell? w _ hx433_1)).trans hx433_1
      replace hx433_2:=(HB.out.cell (World.block_lt_of_cell? w _ hx433_2)).trans hx433_2
      replace hx433_3:=(HB.out.cell (World.block_lt_of_cell? w _ hx433_3)).trans hx433_3
      replace hx433_4:=(HB.out.cell (World.block_lt_of_cell? w _ hx433_4)).trans hx433_4
      replace hx433_5:=(HB.out.cell (World.block_lt_of_cell? w _ hx433_5)).trans hx433_5
      replace p433:=eq_true p433
      replace q433:=eq_true q433
      go_wp2
      go_roundg k1
      case measure=>have:=HK1.out;omega
      case rel=>exact ⟨(x3_1),(wrap64 (x4_1 + 1)),(by first|rfl|(simp;done)|(simp [*];done)),(by first|rfl|(simp;done)|(simp [*];done)),H',⟨by have:=HK1.out;omega⟩,⟨by repeat(first|(with_reducible first|exact HB.out|apply below_alloc|apply pw_below_drewN|apply below_drew1)|exact HB.out)⟩⟩
    ·rw [if_neg c3] at H
     exact absurd H (by simp)
   ·rw [if_neg c2] at H
    have c2b0 : decide (x4_1 < (l0.length : Int)) = false:=decide_eq_false c2
    clear c2
    by_cases c7 : x3_1 = (l0.length : Int)
    ·rw [if_pos c7] at H
     have c7b0 : (x3_1 == (l0.length : Int)) = true:=beq_iff_eq.mpr c7
     have c7b1 : (x3_1 != (l0.length : Int)) = false:=bne_eq_false_iff_eq.mpr c7
     clear c7
     obtain ⟨y435,hy435⟩ : ∃ y_ : List Int,y_ = (([] : List Int)):=⟨_,rfl⟩
     replace H : (hornbeamref18_Deep.l1 k1 l0 y435 0 0) = some r:=by first|(rw [hy435];with_reducible exact H)|(have H2_:=(Option.bind_some _ _).symm.trans H;rw [hy435];with_reducible exact H2_)|(have H2_:=(Option.bind_some _ _).symm.trans H;with_reducible exact H2_)|with_reducible exact H|(rw [hy435];exact H)|exact H
     have Ny435:=Aside0.mk hy435
     clear hy435
     have H':=Aside0.mk H
     clear H
     go_wp2_with (first|((with_reducible refine gate_dst (N:=40) rfl ?_);refine Kd.R_lit (Kd.int .i64) _ 3 ?hg (N:=40) ?hd (xs:=([] : List Int)) (inner:=[]) (ok:=fun _=>True) (okp:=fun _=>True) ?hr ?hp (fun _ hk=>hk) trivial (Below.refl _ _) (Nat.le_refl _) (by simp) ?_;(case hd=>rfl);(case hg=>rfl);(case hr=>first|(go_simp;done)|(go_simp;rfl));(case hp=>exact (Reps.none _ _));intro v436 w8 ho9 hb hg_ hnew_;clear hg_ hnew_;(first|rw [← Ny435.out] at ho9|(simp only [Int.reduceToNat] at ho9;rw [← Ny435.out] at ho9));have n0_:=Aside0.mk (Kd.R_lower ho9 (below_size (by repeat(first|(with_reducible first|exact HB.out|apply below_alloc|apply pw_below_drewN|apply below_drew1)|exact HB.out))));have n1_:=Aside0.mk (below_step (by repeat(first|(with_reducible first|exact HB.out|apply below_alloc|apply pw_below_drewN|apply below_drew1)|exact HB.out)) hb);clear HB;have HO437:=n0_;have HB:=n1_;clear n0_ n1_;clear hb ho9))
     go_loopg [5,6,7] k1 (fun kq v5 v6 v7 w'=>∃ (x5_2 : List Int) (x6_2 : Int) (x7_2 : Int),v6 = .int .i64 x6_2 ∧ v7 = .int .i64 x7_2 ∧ Aside0 (hornbeamref18_Deep.l1 kq l0 x5_2 x6_2 x7_2 = some r) ∧ Aside0 (kq ≤ k1) ∧ Aside0 (Kd.R (Kd.int .i64) 3 w' w.heap.size (fun _=>True) v5 x5_2) ∧ Aside0 (Below w.heap.size w w'))
     case atStart=>exact ⟨(y435),(0),(0),(by first|rfl|(simp;done)|(simp [*];done)),(by first|rfl|(simp;done)|(simp [*];done)),H',⟨Nat.le_refl _⟩,⟨by (with_reducible repeat(first|apply Kd.R_alloc|apply Kd.R_drewN|apply Kd.R_drew));exact HO437.out⟩,⟨by repeat(first|(with_reducible first|exact HB.out|apply below_alloc|apply pw_below_drewN|apply below_drew1)|exact HB.out)⟩⟩
     case round =>
      clear H'
      try clear c2
      try clear c2b0
      try clear p2
      try clear c3
      try clear c3b0
      try clear c4
      try clear c4b0
      try clear p4
      try clear q4
      try clear hx4
      try clear c5
      try clear c5b0
      try clear c5b1
      try clear c6
      try clear c6b0
      try clear p6
      try clear c7
      try clear c7b0
      try clear c7b1
      try clear hx433_0
      try clear hx433_1
      try clear hx433_2
      try clear hx433_3
      try clear hx433_4
      try clear hx433_5
      try clear hx434_0
      try clear hx434_1
      try clear hx434_2
      try clear hx434_3
      try clear hx434_4
      try clear hx434_5
      try clear p433
      try clear p434
      try clear q433
      try clear q434
      obtain ⟨x5_2,x6_2,x7_2,rfl,rfl,HA,HK2,HO_5,HB⟩:=hrel
      cases gk with
      | zero=>exact absurd HA.out (by simp [hornbeamref18_Deep.l1])
      | succ k2 =>
       have H:=HA.out
       clear HA
       simp only [hornbeamref18_Deep.l1] at H
       by_cases c10 : x7_2 < (l0.length : Int)
       ·rw [if_pos c10] at H
        have c10b0 : decide (x7_2 < (l0.length : Int)) = true:=decide_eq_true c10
        clear c10
        by_cases c11 : x7_2 > 0
        ·rw [if_pos c11] at H
         have c11b0 : decide (0 < x7_2) = true:=decide_eq_true c11
         clear c11
         replace H:=Option.bind_eq_some_iff.mp H
         obtain ⟨t438,A120,H⟩:=H
         replace H : (if t438 < 0 then (some (-1)) else (if 0 ≤ t438 then (if t438 < (x5_2.length : Int) then (if x5_2.length < 17592186044416 then ((some (x5_2 ++ [wrap64 ((rd x5_2 t438) + 1)] : List Int)).bind fun y440=>(if (wrap64 ((rd x5_2 t438) + 1)) > x6_2 then (hornbeamref18_Deep.l1 k2 l0 y440 (wrap64 ((rd x5_2 t438) + 1)) (wrap64 (x7_2 + 1))) else (hornbeamref18_Deep.l1 k2 l0 y440 x6_2 (wrap64 (x7_2 + 1))))) else (none)) else (none)) else (none))) = some r:=H
         have A12:=Aside0.mk A120
         clear A120
         by_cases c13 : t438 < 0
         ·rw [if_pos c13] at H
          have c13b0 : decide (t438 < 0) = true:=decide_eq_true c13
          clear c13
          obtain rfl:=Option.some.inj H
          go_wp2_with (first|((with_reducible refine gate_callee (f:=69) rfl ?_);refine goesL_ (some 51) rfl rfl Try.func69 (by kernel_rfl) rfl #[.slice A0 l0.length c0,.int .i64 x7_2] rfl (by (try simp only [List.map_toArray,List.map_cons,List.map_nil]);first|done|rfl|(simp only [List.length_drop,List.length_take];rfl)) ?_;(with_reducible refine (hornbeamref18_parent.calls k2 _ _ l0 x7_2 t438 _ ?side1 ?side2 A12.out).mono ?_);(case side1=>repeat(first|exact (Kd.C_below HR0.out HB.out)|(with_reducible refine Kd.C_alloc ?_ _)|(with_reducible refine Kd.C_drewN ?_ _)|(with_reducible refine Kd.C_drew ?_)));(case side2=>exact HC0.out);rintro e w' ⟨rfl,⟨nd,rfl⟩⟩;refine ⟨_,rfl,?_⟩))
          go_ret
          exact ⟨by first|rfl|(simp [errW_none,errW_some] <;> rfl)|(simp [*,errW_none,errW_some] <;> rfl),by repeat(first|(with_reducible first|exact HB.out|apply below_alloc|apply pw_below_drewN|apply below_drew1)|exact HB.out)⟩
         ·rw [if_neg c13] at H
          have c13b0 : decide (t438 < 0) = false:=decide_eq_false c13
          clear c13
          by_cases c14 : 0 ≤ t438
          ·rw [if_pos c14] at H
           have c14b0 : decide (0 ≤ t438) = true:=decide_eq_true c14
           clear c14
           by_cases c15 : t438 < (x5_2.length : Int)
           ·rw [if_pos c15] at H
            have c15b0 : decide (t438 < (x5_2.length : Int)) = true:=decide_eq_true c15
            clear c15
            by_cases c16 : x5_2.length < 17592186044416
            ·rw [if_pos c16] at H
             have LMc16:=Aside0.mk c16
             clear c16
             obtain ⟨y440,hy440⟩ : ∃ y_ : List Int,y_ = (x5_2 ++ [wrap64 ((rd x5_2 t438) + 1)]):=⟨_,rfl⟩
             replace H : (if (wrap64 ((rd x5_2 t438) + 1)) > x6_2 then (hornbeamref18_Deep.l1 k2 l0 y440 (wrap64 ((rd x5_2 t438) + 1)) (wrap64 (x7_2 + 1))) else (hornbeamref18_Deep.l1 k2 l0 y440 x6_2 (wrap64 (x7_2 + 1)))) = some r:=by first|(rw [hy440];with_reducible exact H)|(have H2_:=(Option.bind_some _ _).symm.trans H;rw [hy440];with_reducible exact H2_)|(have H2_:=(Option.bind_some _ _).symm.trans H;with_reducible exact H2_)|with_reducible exact H|(rw [hy440];exact H)|exact H
             have Ny440:=Aside0.mk hy440
             clear hy440
             by_cases c17 : (wrap64 ((rd x5_2 t438) + 1)) > x6_2
             ·rw [if_pos c17] at H
              have c17b0 : decide (x6_2 < (wrap64 ((rd x5_2 t438) + 1))) = true:=decide_eq_true c17
              clear c17
              have H':=Aside0.mk H
              clear H
              go_wp2_with (first|((with_reducible refine gate_callee (f:=69) rfl ?_);refine goesL_ (some 51) rfl rfl Try.func69 (by kernel_rfl) rfl #[.slice A0 l0.length c0,.int .i64 x7_2] rfl (by (try simp only [List.map_toArray,List.map_cons,List.map_nil]);first|done|rfl|(simp only [List.length_drop,List.length_take];rfl)) ?_;(with_reducible refine (hornbeamref18_parent.calls k2 _ _ l0 x7_2 t438 _ ?side1 ?side2 A12.out).mono ?_);(case side1=>repeat(first|exact (Kd.C_below HR0.out HB.out)|(with_reducible refine Kd.C_alloc ?_ _)|(with_reducible refine Kd.C_drewN ?_ _)|(with_reducible refine Kd.C_drew ?_)));(case side2=>exact HC0.out);rintro e w' ⟨rfl,⟨nd,rfl⟩⟩;refine ⟨_,rfl,?_⟩;obtain ⟨Ao18,co18,eo18⟩:=Kd.R_slice HO_5.out;subst eo18;have p439 : 0 ≤ (t438 : Int):=of_decide_eq_true (by first|(with_reducible assumption)|assumption);have q439 : t438 < (x5_2.length : Int):=of_decide_eq_true (by first|(with_reducible assumption)|assumption);obtain ⟨ad439,e439,hx439_0⟩:=Kd.at_int (Kd.R_reads' HO_5.out).2.2 t438 p439 q439;cases e439;replace p439:=eq_true p439;replace q439:=eq_true q439)|((with_reducible refine gate_builtin (b:=.append) (xs:=#[.tmp 59,.tmp 61]) rfl ?_);at_builtin;refine Kd.R_append (Kd.int .i64) (w0:=w) w.heap.size rfl (.tmp 59) (.tmp 61) 26 3 (.int .i64 0) 8 rfl Try.underlying26 info3 rfl (by decide) (by omega) (.slice (some ad439) x5_2.length co18) x5_2 (wrap64 ((rd x5_2 t438) + 1)) [.int .i64 (wrap64 ((rd x5_2 t438) + 1))] (fun _=>True) (fun _=>False) rfl rfl ?aP (fun _ hk=>hk.elim) ?aF ?aO ?aB ?aS ?aL ?_;(case aP=>exact rfl);(case aB=>exact (by repeat(first|(with_reducible first|exact HB.out|apply below_alloc|apply pw_below_drewN|apply below_drew1)|exact HB.out)));(case aF=>exact (fun _ _=>trivial));(case aO=>exact (by (with_reducible repeat(first|apply Kd.R_alloc|apply Kd.R_drewN|apply Kd.R_drew));exact HO_5.out));(case aS=>exact (below_size (by repeat(first|(with_reducible first|exact HB.out|apply below_alloc|apply pw_below_drewN|apply below_drew1)|exact HB.out))));(case aL=>have:=LMc16.out;omega);intro v441 w19 ho hb hg hat;rw [← Ny440.out] at ho;have n0_:=Aside0.mk (hb);have n1_:=Aside0.mk (ho);clear HB;clear HO_5;have HB:=n0_;have HO442:=n1_;clear n0_ n1_;clear ho hb hg hat))
              go_roundg k2
              case measure=>have:=HK1.out;have:=HK2.out;omega
              case rel=>exact ⟨(y440),(wrap64 ((rd x5_2 t438) + 1)),(wrap64 (x7_2 + 1)),(by first|rfl|(simp;done)|(simp [*];done)),(by first|rfl|(simp;done)|(simp [*];done)),H',⟨by have:=HK1.out;have:=HK2.out;omega⟩,⟨by (with_reducible repeat(first|apply Kd.R_alloc|apply Kd.R_drewN|apply Kd.R_drew));exact HO442.out⟩,⟨by repeat(first|(with_reducible first|exact HB.out|apply below_alloc|apply pw_below_drewN|apply below_drew1)|exact HB.out)⟩⟩
             ·rw [if_neg c17] at H
              have c17b0 : decide (x6_2 < (wrap64 ((rd x5_2 t438) + 1))) = false:=decide_eq_false c17
              clear c17
              have H':=Aside0.mk H
              clear H
              go_wp2_with (first|((with_reducible refine gate_callee (f:=69) rfl ?_);refine goesL_ (some 51) rfl rfl Try.func69 (by kernel_rfl) rfl #[.slice A0 l0.length c0,.int .i64 x7_2] rfl (by (try simp only [List.map_toArray,List.map_cons,List.map_nil]);first|done|rfl|(simp only [List.length_drop,List.length_take];rfl)) ?_;(with_reducible refine (hornbeamref18_parent.calls k2 _ _ l0 x7_2 t438 _ ?side1 ?side2 A12.out).mono ?_);(case side1=>repeat(first|exact (Kd.C_below HR0.out HB.out)|(with_reducible refine Kd.C_alloc ?_ _)|(with_reducible refine Kd.C_drewN ?_ _)|(with_reducible refine Kd.C_drew ?_)));(case side2=>exact HC0.out);rintro e w' ⟨rfl,⟨nd,rfl⟩⟩;refine ⟨_,rfl,?_⟩;obtain ⟨Ao20,co20,eo20⟩:=Kd.R_slice HO_5.out;subst eo20;have p439 : 0 ≤ (t438 : Int):=of_decide_eq_true (by first|(with_reducible assumption)|assumption);have q439 : t438 < (x5_2.length : Int):=of_decide_eq_true (by first|(with_reducible assumption)|assumption);obtain ⟨ad439,e439,hx439_0⟩:=Kd.at_int (Kd.R_reads' HO_5.out).2.2 t438 p439 q439;cases e439;replace p439:=eq_true p439;replace q439:=eq_true q439)|((with_reducible refine gate_builtin (b:=.append) (xs:=#[.tmp 59,.tmp 61]) rfl ?_);at_builtin;refine Kd.R_append (Kd.int .i64) (w0:=w) w.heap.size rfl (.tmp 59) (.tmp 61) 26 3 (.int .i64 0) 8 rfl Try.underlying26 info3 rfl (by decide) (by omega) (.slice (some ad439) x5_2.length co20) x5_2 (wrap64 ((rd x5_2 t438) + 1)) [.int .i64 (wrap64 ((rd x5_2 t438) + 1))] (fun _=>True) (fun _=>False) rfl rfl ?aP (fun _ hk=>hk.elim) ?aF ?aO ?aB ?aS ?aL ?_;(case aP=>exact rfl);(case aB=>exact (by repeat(first|(with_reducible first|exact HB.out|apply below_alloc|apply pw_below_drewN|apply below_drew1)|exact HB.out)));(case aF=>exact (fun _ _=>trivial));(case aO=>exact (by (with_reducible repeat(first|apply Kd.R_alloc|apply Kd.R_drewN|apply Kd.R_drew));exact HO_5.out));(case aS=>exact (below_size (by repeat(first|(with_reducible first|exact HB.out|apply below_alloc|apply pw_below_drewN|apply below_drew1)|exact HB.out))));(case aL=>have:=LMc16.out;omega);intro v441 w21 ho hb hg hat;rw [← Ny440.out] at ho;have n0_:=Aside0.mk (hb);have n1_:=Aside0.mk (ho);clear HB;clear HO_5;have HB:=n0_;have HO442:=n1_;clear n0_ n1_;clear ho hb hg hat))
              go_roundg k2
              case measure=>have:=HK1.out;have:=HK2.out;omega
              case rel=>exact ⟨(y440),(x6_2),(wrap64 (x7_2 + 1)),(by first|rfl|(simp;done)|(simp [*];done)),(by first|rfl|(simp;done)|(simp [*];done)),H',⟨by have:=HK1.out;have:=HK2.out;omega⟩,⟨by (with_reducible repeat(first|apply Kd.R_alloc|apply Kd.R_drewN|apply Kd.R_drew));exact HO442.out⟩,⟨by repeat(first|(with_reducible first|exact HB.out|apply below_alloc|apply pw_below_drewN|apply below_drew1)|exact HB.out)⟩⟩
            ·rw [if_neg c16] at H
             exact absurd H (by simp)
           ·rw [if_neg c15] at H
            exact absurd H (by simp)
          ·rw [if_neg c14] at H
           exact absurd H (by simp)
        ·rw [if_neg c11] at H
         have c11b0 : decide (0 < x7_2) = false:=decide_eq_false c11
         clear c11
         by_cases c22 : x5_2.length < 17592186044416
         ·rw [if_pos c22] at H
          have LMc22:=Aside0.mk c22
          clear c22
          obtain ⟨y443,hy443⟩ : ∃ y_ : List Int,y_ = (x5_2 ++ [0]):=⟨_,rfl⟩
          replace H : (if 0 > x6_2 then (hornbeamref18_Deep.l1 k2 l0 y443 0 (wrap64 (x7_2 + 1))) else (hornbeamref18_Deep.l1 k2 l0 y443 x6_2 (wrap64 (x7_2 + 1)))) = some r:=by first|(rw [hy443];with_reducible exact H)|(have H2_:=(Option.bind_some _ _).symm.trans H;rw [hy443];with_reducible exact H2_)|(have H2_:=(Option.bind_some _ _).symm.trans H;with_reducible exact H2_)|with_reducible exact H|(rw [hy443];exact H)|exact H
          have Ny443:=Aside0.mk hy443
          clear hy443
          by_cases c23 : 0 > x6_2
          ·rw [if_pos c23] at H
           have c23b0 : decide (x6_2 < 0) = true:=decide_eq_true c23
           clear c23
           have H':=Aside0.mk H
           clear H
           go_wp2_with (first|((with_reducible refine gate_builtin (b:=.append) (xs:=#[.tmp 59,.tmp 61]) rfl ?_);at_builtin;refine Kd.R_append (Kd.int .i64) (w0:=w) w.heap.size rfl (.tmp 59) (.tmp 61) 26 3 (.int .i64 0) 8 rfl Try.underlying26 info3 rfl (by decide) (by omega) u5 x5_2 0 [.int .i64 0] (fun _=>True) (fun _=>False) rfl rfl ?aP (fun _ hk=>hk.elim) ?aF ?aO ?aB ?aS ?aL ?_;(case aP=>exact rfl);(case aB=>exact (by repeat(first|(with_reducible first|exact HB.out|apply below_alloc|apply pw_below_drewN|apply below_drew1)|exact HB.out)));(case aF=>exact (fun _ _=>trivial));(case aO=>exact (by (with_reducible repeat(first|apply Kd.R_alloc|apply Kd.R_drewN|apply Kd.R_drew));exact HO_5.out));(case aS=>exact (below_size (by repeat(first|(with_reducible first|exact HB.out|apply below_alloc|apply pw_below_drewN|apply below_drew1)|exact HB.out))));(case aL=>have:=LMc22.out;omega);intro v444 w24 ho hb hg hat;rw [← Ny443.out] at ho;have n0_:=Aside0.mk (hb);have n1_:=Aside0.mk (ho);clear HB;clear HO_5;have HB:=n0_;have HO445:=n1_;clear n0_ n1_;clear ho hb hg hat))
           go_roundg k2
           case measure=>have:=HK1.out;have:=HK2.out;omega
           case rel=>exact ⟨(y443),(0),(wrap64 (x7_2 + 1)),(by first|rfl|(simp;done)|(simp [*];done)),(by first|rfl|(simp;done)|(simp [*];done)),H',⟨by have:=HK1.out;have:=HK2.out;omega⟩,⟨by (with_reducible repeat(first|apply Kd.R_alloc|apply Kd.R_drewN|apply Kd.R_drew));exact HO445.out⟩,⟨by repeat(first|(with_reducible first|exact HB.out|apply below_alloc|apply pw_below_drewN|apply below_drew1)|exact HB.out)⟩⟩
          ·rw [if_neg c23] at H
           have c23b0 : decide (x6_2 < 0) = false:=decide_eq_false c23
           clear c23
           have H':=Aside0.mk H
           clear H
           go_wp2_with (first|((with_reducible refine gate_builtin (b:=.append) (xs:=#[.tmp 59,.tmp 61]) rfl ?_);at_builtin;refine Kd.R_append (Kd.int .i64) (w0:=w) w.heap.size rfl (.tmp 59) (.tmp 61) 26 3 (.int .i64 0) 8 rfl Try.underlying26 info3 rfl (by decide) (by omega) u5 x5_2 0 [.int .i64 0] (fun _=>True) (fun _=>False) rfl rfl ?aP (fun _ hk=>hk.elim) ?aF ?aO ?aB ?aS ?aL ?_;(case aP=>exact rfl);(case aB=>exact (by repeat(first|(with_reducible first|exact HB.out|apply below_alloc|apply pw_below_drewN|apply below_drew1)|exact HB.out)));(case aF=>exact (fun _ _=>trivial));(case aO=>exact (by (with_reducible repeat(first|apply Kd.R_alloc|apply Kd.R_drewN|apply Kd.R_drew));exact HO_5.out));(case aS=>exact (below_size (by repeat(first|(with_reducible first|exact HB.out|apply below_alloc|apply pw_below_drewN|apply below_drew1)|exact HB.out))));(case aL=>have:=LMc22.out;omega);intro v444 w25 ho hb hg hat;rw [← Ny443.out] at ho;have n0_:=Aside0.mk (hb);have n1_:=Aside0.mk (ho);clear HB;clear HO_5;have HB:=n0_;have HO445:=n1_;clear n0_ n1_;clear ho hb hg hat))
           go_roundg k2
           case measure=>have:=HK1.out;have:=HK2.out;omega
           case rel=>exact ⟨(y443),(x6_2),(wrap64 (x7_2 + 1)),(by first|rfl|(simp;done)|(simp [*];done)),(by first|rfl|(simp;done)|(simp [*];done)),H',⟨by have:=HK1.out;have:=HK2.out;omega⟩,⟨by (with_reducible repeat(first|apply Kd.R_alloc|apply Kd.R_drewN|apply Kd.R_drew));exact HO445.out⟩,⟨by repeat(first|(with_reducible first|exact HB.out|apply below_alloc|apply pw_below_drewN|apply below_drew1)|exact HB.out)⟩⟩
         ·rw [if_neg c22] at H
          exact absurd H (by simp)
       ·rw [if_neg c10] at H
        have c10b0 : decide (x7_2 < (l0.length : Int)) = false:=decide_eq_false c10
        clear c10
        obtain rfl:=Option.some.inj H
        go_wp2
        go_ret
        exact ⟨by first|rfl|(simp [errW_none,errW_some] <;> rfl)|(simp [*,errW_none,errW_some] <;> rfl),by repeat(first|(with_reducible first|exact HB.out|apply below_alloc|apply pw_below_drewN|apply below_drew1)|exact HB.out)⟩
    ·rw [if_neg c7] at H
     have c7b0 : (x3_1 == (l0.length : Int)) = false:=beq_eq_false_iff_ne.mpr c7
     have c7b1 : (x3_1 != (l0.length : Int)) = true:=bne_iff_ne.mpr c7
     obtain rfl:=Option.some.inj H
     go_wp2
     go_ret
     exact ⟨by first|rfl|(simp [errW_none,errW_some] <;> rfl)|(simp [*,errW_none,errW_some] <;> rfl),by repeat(first|(with_reducible first|exact HB.out|apply below_alloc|apply pw_below_drewN|apply below_drew1)|exact HB.out)⟩

end Go.Proofs.Ytebbnjgaikppgaa.PA
