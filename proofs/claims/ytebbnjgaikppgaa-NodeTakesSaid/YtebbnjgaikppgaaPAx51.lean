import Derived.Test.YtebbnjgaikppgaaPAx0
import Derived.Test.YtebbnjgaikppgaaPAx15
import Derived.Test.YtebbnjgaikppgaaPAx47
namespace Go.Proofs.Ytebbnjgaikppgaa.PA
open Go.RowKit Go.Proofs.YtebbnjgaikppgaaW.PrintWords Go.Proofs.YtebbnjgaikppgaaW.PrintLast Go.Proofs.YtebbnjgaikppgaaW.PrintMore
attribute [local go_sem] max2_int min2_int max_two min_two max_three min_three max_four min_four   -- for this text's walks alone
attribute [local go_sem high] Flt.fold_eq Flt.fold_ne Flt.fold_lt Flt.fold_gt Flt.fold_le Flt.fold_ge Flt.run_bits Flt.run_frombits
set_option linter.unusedVariables false
set_option linter.unusedSimpArgs false

/-! ### hornbeamref18_Put: function 47 -/
def hornbeamref18_Put.l0 : Nat → List (S75) → Int → ByteArray → Int → Option (ByteArray)
 | 0,_,_,_,_=>none
 | k + 1,x0,x3,x11,x12=>if x12 < (x0.length : Int) then (if 0 ≤ x12 then (if ((rd_T75 x0 x12).f0) ≥ 0 then ((hornbeamref07_Put.f k 1 1).bind fun t481=>(if x11.size + t481.size ≤ 9223372036854775807 then ((hornbeamref07_Put.f k (IntKind.u64.wrap ((rd_T75 x0 x12).f0)) 2).bind fun t482=>(if (x11 ++ t481).size + t482.size ≤ 9223372036854775807 then ((hornbeamref07_Put.f k (IntKind.u64.wrap ((rd_T75 x0 x12).f1)) 2).bind fun t483=>(if ((x11 ++ t481) ++ t482).size + t483.size ≤ 9223372036854775807 then (hornbeamref18_Put.l0 k x0 x3 (((x11 ++ t481) ++ t482) ++ t483) (wrap64 (x12 + 1))) else (none))) else (none))) else (none))) else ((hornbeamref07_Put.f k 0 1).bind fun t484=>(if x11.size + t484.size ≤ 9223372036854775807 then (if x3 = 0 then ((hornbeamref07_Put.f k (IntKind.u64.wrap ((rd_T75 x0 x12).f3)) 1).bind fun t485=>(if (x11 ++ t484).size + t485.size ≤ 9223372036854775807 then (hornbeamref18_Put.l0 k x0 x3 ((x11 ++ t484) ++ t485) (wrap64 (x12 + 1))) else (none))) else ((hornbeamref07_Put.f k (IntKind.u64.wrap ((rd_T75 x0 x12).f4)) 8).bind fun t486=>(if (x11 ++ t484).size + t486.size ≤ 9223372036854775807 then ((hornbeamref07_Put.f k (IntKind.u64.wrap ((rd_T75 x0 x12).f5)) 4).bind fun t487=>(if ((x11 ++ t484) ++ t486).size + t487.size ≤ 9223372036854775807 then (hornbeamref18_Put.l0 k x0 x3 (((x11 ++ t484) ++ t486) ++ t487) (wrap64 (x12 + 1))) else (none))) else (none)))) else (none)))) else (none)) else (some x11)
def hornbeamref18_Put.f (k : Nat) (l0 : List (S75)) (a1 : Int) (a2 : Int) (a3 : Int) (a4 : Int) : Option (ByteArray):=(hornbeamref18_Right.f k l0 a1 a2 a3 a4).bind fun t477=>(if t477 = true then ((hornbeamref07_Put.f k (IntKind.u64.wrap ((l0.length : Int))) 4).bind fun t478=>(hornbeamref18_Put.l0 k l0 a3 t478 0)) else (some (⟨#[]⟩ : ByteArray)))
theorem hornbeamref18_Put.mono_l : ∀ k,(∀ y0 y1 y2 y3,LeO (hornbeamref18_Put.l0 k y0 y1 y2 y3) (hornbeamref18_Put.l0 (k + 1) y0 y1 y2 y3))
 | 0=>fun _ _ _ _ r h=>by simp [hornbeamref18_Put.l0] at h
 | k + 1=>by
  have ih0:=hornbeamref18_Put.mono_l k
  ·intro y0 y1 y2 y3
   unfold hornbeamref18_Put.l0
   repeat' first
   | (with_reducible exact ih0 _ _ _ _)
   | (with_reducible exact hornbeamref07_Put.mono _ _ _)
   | (with_reducible exact hornbeamref18_Right.mono _ _ _ _ _ _)
   | (with_reducible exact LeO.refl _)
   | (with_reducible exact LeO.none _)
   | (with_reducible refine LeO.ite ?_ ?_)
   | (with_reducible refine LeO.bind ?_ (fun _=>?_))
   | exact ih0 _ _ _ _
   | exact hornbeamref07_Put.mono _ _ _
   | exact hornbeamref18_Right.mono _ _ _ _ _ _
   | exact LeO.none _
   | refine LeO.ite ?_ ?_
   | refine LeO.bind ?_ (fun _=>?_)
theorem hornbeamref18_Put.mono : ∀ a0 a1 a2 a3 a4 k,LeO (hornbeamref18_Put.f k a0 a1 a2 a3 a4) (hornbeamref18_Put.f (k + 1) a0 a1 a2 a3 a4):=by
 intro a0 a1 a2 a3 a4 k
 have ih0:=hornbeamref18_Put.mono_l k
 unfold hornbeamref18_Put.f
 repeat' first
   | (with_reducible exact ih0 _ _ _ _)
   | (with_reducible exact hornbeamref07_Put.mono _ _ _)
   | (with_reducible exact hornbeamref18_Right.mono _ _ _ _ _ _)
   | (with_reducible exact LeO.refl _)
   | (with_reducible exact LeO.none _)
   | (with_reducible refine LeO.ite ?_ ?_)
   | (with_reducible refine LeO.bind ?_ (fun _=>?_))
   | exact ih0 _ _ _ _
   | exact hornbeamref07_Put.mono _ _ _
   | exact hornbeamref18_Right.mono _ _ _ _ _ _
   | exact LeO.none _
   | refine LeO.ite ?_ ?_
   | refine LeO.bind ?_ (fun _=>?_)
def hornbeamref18_Put.T9 : Bool × List (List Nat × List Nat):=(true,[([],[]),([],[]),([0,1],[0,1]),([],[]),([3],[3]),([4],[4]),([5,1],[5]),([2,6],[2,6]),([],[]),([8],[8]),([9],[9]),([10,6],[10]),([7,11],[7,11]),([12,11,0,1,2,3,4,5,6,7,8,9,10,11,12],[0,12])])
def hornbeamref18_Put.B9 : List Nat:=[0,0,3,0,8,24,58,127,0,256,768,1914,4095,8191]
theorem hornbeamref18_Put.tab9 : rtab .any (opsOf Try.f47 9) = hornbeamref18_Put.T9:=by kernel_rfl
theorem hornbeamref18_Put.bits9 : waitsOk hornbeamref18_Put.T9.2 hornbeamref18_Put.B9 = true:=by kernel_rfl
def hornbeamref18_Put.T13 : Bool × List (List Nat × List Nat):=(true,[([],[]),([],[]),([1],[1]),([2],[2]),([3],[3]),([0,4],[0,4]),([],[]),([6],[6]),([7],[7]),([8,4],[8]),([5,9],[5,9]),([10,9,0,1,2,3,4,5,6,7,8,9,10],[0,10])])
def hornbeamref18_Put.B13 : List Nat:=[0,0,2,6,14,31,0,64,192,478,1023,2047]
theorem hornbeamref18_Put.tab13 : rtab .any (opsOf Try.f47 13) = hornbeamref18_Put.T13:=by kernel_rfl
theorem hornbeamref18_Put.bits13 : waitsOk hornbeamref18_Put.T13.2 hornbeamref18_Put.B13 = true:=by kernel_rfl
set_option maxHeartbeats 8000000 in
set_option maxRecDepth 100000 in
theorem hornbeamref18_Put.calls (k : Nat) (A0 : Option Addr) (c0 : Nat) (l0 : List (S75)) (a1 : Int) (a2 : Int) (a3 : Int) (a4 : Int) (r : ByteArray) (w : World) (hr0 : Kd.C k75 w A0 l0.length l0) (hc0 : l0.length ≤ c0) (h : hornbeamref18_Put.f k l0 a1 a2 a3 a4 = some r) :
  Calls Try.prog 47 #[.slice A0 l0.length c0,.int .i64 a1,.int .i64 a2,.int .i64 a3,.int .i64 a4] w fun e w'=>e = .returned (.string r) ∧ Below w.heap.size w w':=by
 have hu75:=Try.underlying75
 have HR0:=Aside0.mk hr0
 have HC0:=Aside0.mk hc0
 clear hr0 hc0
 have HB:=Aside0.mk (Below.refl w.heap.size w)
 have H : ((hornbeamref18_Right.f k l0 a1 a2 a3 a4).bind fun t477=>(if t477 = true then ((hornbeamref07_Put.f k (IntKind.u64.wrap ((l0.length : Int))) 4).bind fun t478=>(hornbeamref18_Put.l0 k l0 a3 t478 0)) else (some (⟨#[]⟩ : ByteArray)))) = some r:=h
 clear h
 replace H:=Option.bind_eq_some_iff.mp H
 obtain ⟨t477,A60,H⟩:=H
 replace H : (if t477 = true then ((hornbeamref07_Put.f k (IntKind.u64.wrap ((l0.length : Int))) 4).bind fun t478=>(hornbeamref18_Put.l0 k l0 a3 t478 0)) else (some (⟨#[]⟩ : ByteArray))) = some r:=H
 have A6:=Aside0.mk A60
 clear A60
 by_cases c7 : t477 = true
 ·subst c7
  have H1 : ((hornbeamref07_Put.f k (IntKind.u64.wrap ((l0.length : Int))) 4).bind fun t478=>(hornbeamref18_Put.l0 k l0 a3 t478 0)) = some r:=by rw [if_pos rfl] at H;exact H
  clear H
  have H:=H1
  clear H1
  replace H:=Option.bind_eq_some_iff.mp H
  obtain ⟨t478,A80,H⟩:=H
  replace H : (hornbeamref18_Put.l0 k l0 a3 t478 0) = some r:=H
  have A8:=Aside0.mk A80
  clear A80
  have H':=Aside0.mk H
  clear H
  go_enter Try.func47,Try.ntmps47
  go_wp2_with (first|((with_reducible refine gate_callee (f:=43) rfl ?_);refine goesL_ (some 19) rfl rfl Try.func43 (by kernel_rfl) rfl #[.slice A0 l0.length c0,.int .i64 a1,.int .i64 a2,.int .i64 a3,.int .i64 a4] rfl (by (try simp only [List.map_toArray,List.map_cons,List.map_nil]);first|done|rfl|(simp only [List.length_drop,List.length_take];rfl)) ?_;(with_reducible refine (hornbeamref18_Right.calls k _ _ l0 a1 a2 a3 a4 true _ ?side1 ?side2 A6.out).mono ?_);(case side1=>repeat(first|exact HR0.out|(with_reducible refine Kd.C_alloc ?_ _)|(with_reducible refine Kd.C_drewN ?_ _)|(with_reducible refine Kd.C_drew ?_)));(case side2=>exact HC0.out);rintro e w9 ⟨rfl,hb⟩;refine ⟨_,rfl,?_⟩;have n0_:=Aside0.mk (below_step (by repeat(first|(with_reducible first|exact HB.out|apply below_alloc|apply pw_below_drewN|apply below_drew1)|exact HB.out)) hb);clear HB;have HB:=n0_;clear n0_;(try clear hb);(try clear hb2);(try clear hk);(try clear hi))|((with_reducible refine gate_callee (f:=28) rfl ?_);refine goesL_ (some 24) rfl rfl Try.func28 (by kernel_rfl) rfl #[.int .u64 (IntKind.u64.wrap ((l0.length : Int))),.int .i64 4] rfl (by (try simp only [List.map_toArray,List.map_cons,List.map_nil]);first|done|rfl|(simp only [List.length_drop,List.length_take];rfl)) ?_;(with_reducible refine (hornbeamref07_Put.calls k (IntKind.u64.wrap ((l0.length : Int))) 4 t478 _ A8.out).mono ?_);rintro e w10 ⟨rfl,hb⟩;refine ⟨_,rfl,?_⟩;have n0_:=Aside0.mk (below_step (by repeat(first|(with_reducible first|exact HB.out|apply below_alloc|apply pw_below_drewN|apply below_drew1)|exact HB.out)) hb);clear HB;have HB:=n0_;clear n0_;(try clear hb);(try clear hb2);(try clear hk);(try clear hi)))
  go_loopg [11,12] k (fun kq v11 v12 w'=>∃ (x11_1 : ByteArray) (x12_1 : Int),v11 = .string x11_1 ∧ v12 = .int .i64 x12_1 ∧ Aside0 (hornbeamref18_Put.l0 kq l0 a3 x11_1 x12_1 = some r) ∧ Aside0 (kq ≤ k) ∧ Aside0 (Below w.heap.size w w'))
  case atStart=>exact ⟨(t478),(0),(by first|rfl|(simp;done)|(simp [*];done)),(by first|rfl|(simp;done)|(simp [*];done)),H',⟨Nat.le_refl _⟩,⟨by repeat(first|(with_reducible first|exact HB.out|apply below_alloc|apply pw_below_drewN|apply below_drew1)|exact HB.out)⟩⟩
  case round =>
   clear H'
   try clear c2
   try clear p2
   try clear c4
   try clear c7
   obtain ⟨x11_1,x12_1,rfl,rfl,HA,HK1,HB⟩:=hrel
   cases gk with
   | zero=>exact absurd HA.out (by simp [hornbeamref18_Put.l0])
   | succ k1 =>
    have H:=HA.out
    clear HA
    simp only [hornbeamref18_Put.l0] at H
    by_cases c11 : x12_1 < (l0.length : Int)
    ·rw [if_pos c11] at H
     have c11b0 : decide (x12_1 < (l0.length : Int)) = true:=decide_eq_true c11
     clear c11
     by_cases c12 : 0 ≤ x12_1
     ·rw [if_pos c12] at H
      have c12b0 : decide (0 ≤ x12_1) = true:=decide_eq_true c12
      clear c12
      by_cases c13 : ((rd_T75 l0 x12_1).f0) ≥ 0
      ·rw [if_pos c13] at H
       have c13b0 : decide (0 ≤ ((rd_T75 l0 x12_1).f0)) = true:=decide_eq_true c13
       clear c13
       replace H:=Option.bind_eq_some_iff.mp H
       obtain ⟨t481,A140,H⟩:=H
       replace H : (if x11_1.size + t481.size ≤ 9223372036854775807 then ((hornbeamref07_Put.f k1 (IntKind.u64.wrap ((rd_T75 l0 x12_1).f0)) 2).bind fun t482=>(if (x11_1 ++ t481).size + t482.size ≤ 9223372036854775807 then ((hornbeamref07_Put.f k1 (IntKind.u64.wrap ((rd_T75 l0 x12_1).f1)) 2).bind fun t483=>(if ((x11_1 ++ t481) ++ t482).size + t483.size ≤ 9223372036854775807 then (hornbeamref18_Put.l0 k1 l0 a3 (((x11_1 ++ t481) ++ t482) ++ t483) (wrap64 (x12_1 + 1))) else (none))) else (none))) else (none)) = some r:=H
       have A14:=Aside0.mk A140
       clear A140
       by_cases c15 : x11_1.size + t481.size ≤ 9223372036854775807
       ·rw [if_pos c15] at H
        have c15b0:=eq_true c15
        have c15b1 : decide (x11_1.size + t481.size ≤ 9223372036854775807) = true:=decide_eq_true c15
        try have c15b2 : (9223372036854775807 < x11_1.size + t481.size) = False:=eq_false (Nat.not_lt.2 c15)
        replace H:=Option.bind_eq_some_iff.mp H
        obtain ⟨t482,A160,H⟩:=H
        replace H : (if (x11_1 ++ t481).size + t482.size ≤ 9223372036854775807 then ((hornbeamref07_Put.f k1 (IntKind.u64.wrap ((rd_T75 l0 x12_1).f1)) 2).bind fun t483=>(if ((x11_1 ++ t481) ++ t482).size + t483.size ≤ 9223372036854775807 then (hornbeamref18_Put.l0 k1 l0 a3 (((x11_1 ++ t481) ++ t482) ++ t483) (wrap64 (x12_1 + 1))) else (none))) else (none)) = some r:=H
        have A16:=Aside0.mk A160
        clear A160
        by_cases c17 : (x11_1 ++ t481).size + t482.size ≤ 9223372036854775807
        ·rw [if_pos c17] at H
         have c17b0:=eq_true c17
         have c17b1 : decide ((x11_1 ++ t481).size + t482.size ≤ 9223372036854775807) = true:=decide_eq_true c17
         (try (have c17b1z:=c17b1;simp only [ByteArray.size_append] at c17b1z))
         try have c17b2 : (9223372036854775807 < (x11_1 ++ t481).size + t482.size) = False:=eq_false (Nat.not_lt.2 c17)
         (try (have c17b2z:=c17b2;simp only [ByteArray.size_append] at c17b2z))
         replace H:=Option.bind_eq_some_iff.mp H
         obtain ⟨t483,A180,H⟩:=H
         replace H : (if ((x11_1 ++ t481) ++ t482).size + t483.size ≤ 9223372036854775807 then (hornbeamref18_Put.l0 k1 l0 a3 (((x11_1 ++ t481) ++ t482) ++ t483) (wrap64 (x12_1 + 1))) else (none)) = some r:=H
         have A18:=Aside0.mk A180
         clear A180
         by_cases c19 : ((x11_1 ++ t481) ++ t482).size + t483.size ≤ 9223372036854775807
         ·rw [if_pos c19] at H
          have c19b0:=eq_true c19
          have c19b1 : decide (((x11_1 ++ t481) ++ t482).size + t483.size ≤ 9223372036854775807) = true:=decide_eq_true c19
          (try (have c19b1z:=c19b1;simp only [ByteArray.size_append] at c19b1z))
          try have c19b2 : (9223372036854775807 < ((x11_1 ++ t481) ++ t482).size + t483.size) = False:=eq_false (Nat.not_lt.2 c19)
          (try (have c19b2z:=c19b2;simp only [ByteArray.size_append] at c19b2z))
          have H':=Aside0.mk H
          clear H
          have p479 : 0 ≤ (x12_1 : Int):=of_decide_eq_true (by first|(with_reducible assumption)|assumption)
          have q479 : x12_1 < (l0.length : Int):=of_decide_eq_true (by first|(with_reducible assumption)|assumption)
          obtain ⟨ad479,e479,hx479_0,hx479_1,hx479_2,hx479_3,hx479_4,hx479_5⟩:=at_T75 HR0.out x12_1 p479 q479
          cases e479
          replace hx479_0:=(HB.out.cell (World.block_lt_of_cell? w _ hx479_0)).trans hx479_0
          replace hx479_1:=(HB.out.cell (World.block_lt_of_cell? w _ hx479_1)).trans hx479_1
          replace hx479_2:=(HB.out.cell (World.block_lt_of_cell? w _ hx479_2)).trans hx479_2
          replace hx479_3:=(HB.out.cell (World.block_lt_of_cell? w _ hx479_3)).trans hx479_3
          replace hx479_4:=(HB.out.cell (World.block_lt_of_cell? w _ hx479_4)).trans hx479_4
          replace hx479_5:=(HB.out.cell (World.block_lt_of_cell? w _ hx479_5)).trans hx479_5
          replace p479:=eq_true p479
          replace q479:=eq_true q479
          try go_wp2_with (first|((with_reducible refine gate_dst (N:=13) rfl ?_);refine box_event ?hg (N:=13) ?hd (cs:=#[.int .i64 0,.int .i64 0,.int .i64 0,.int .i64 0,.int .i64 0,.int .i64 0]) (t:=75) ?hr ?_;(case hd=>rfl);(case hg=>rfl);(case hr=>first|(go_simp;done)|(go_simp;rfl));intro gb480 hg w20 hbox hb;have n0_:=Aside0.mk (below_step (by repeat(first|(with_reducible first|exact HB.out|apply below_alloc|apply pw_below_drewN|apply below_drew1)|exact HB.out)) hb);have n1_:=Aside0.mk (hbox);have n2_:=Aside0.mk ((by rw [hg];exact (below_size (by repeat(first|(with_reducible first|exact HB.out|apply below_alloc|apply pw_below_drewN|apply below_drew1)|exact HB.out))) : w.heap.size ≤ gb480));have n3_:=Aside0.mk ((by rw [hg];exact (below_size (by repeat(first|(with_reducible first|exact HB.out|apply below_alloc|apply pw_below_drewN|apply below_drew1)|exact HB.out))) : w.heap.size ≤ gb480));clear HB;have HB:=n0_;have BK480:=n1_;have GW480:=n2_;have GE480:=n3_;clear n0_ n1_ n2_ n3_;clear hb hbox hg;have hcz21_0 : w20.cell? ⟨gb480,0,none⟩ = some (.int .i64 0):=(blk_cell BK480.out 0).trans rfl;have hcz21_1 : w20.cell? ⟨gb480,1,none⟩ = some (.int .i64 0):=(blk_cell BK480.out 1).trans rfl;have hcz21_2 : w20.cell? ⟨gb480,2,none⟩ = some (.int .i64 0):=(blk_cell BK480.out 2).trans rfl;have hcz21_3 : w20.cell? ⟨gb480,3,none⟩ = some (.int .i64 0):=(blk_cell BK480.out 3).trans rfl;have hcz21_4 : w20.cell? ⟨gb480,4,none⟩ = some (.int .i64 0):=(blk_cell BK480.out 4).trans rfl;have hcz21_5 : w20.cell? ⟨gb480,5,none⟩ = some (.int .i64 0):=(blk_cell BK480.out 5).trans rfl;have hfz21_0:=blk_frozen BK480.out 0;have hfz21_1:=blk_frozen BK480.out 1;have hfz21_2:=blk_frozen BK480.out 2;have hfz21_3:=blk_frozen BK480.out 3;have hfz21_4:=blk_frozen BK480.out 4;have hfz21_5:=blk_frozen BK480.out 5))
          have n0_ : Aside0 (((((((w20.setCell ⟨gb480,0,none⟩ (.int .i64 ((rd_T75 l0 x12_1).f0))).setCell ⟨gb480,1,none⟩ (.int .i64 ((rd_T75 l0 x12_1).f1))).setCell ⟨gb480,2,none⟩ (.int .i64 ((rd_T75 l0 x12_1).f2))).setCell ⟨gb480,3,none⟩ (.int .i64 ((rd_T75 l0 x12_1).f3))).setCell ⟨gb480,4,none⟩ (.int .i64 ((rd_T75 l0 x12_1).f4))).setCell ⟨gb480,5,none⟩ (.int .i64 ((rd_T75 l0 x12_1).f5))).heap[gb480]? = some (.cells #[.int .i64 ((rd_T75 l0 x12_1).f0),.int .i64 ((rd_T75 l0 x12_1).f1),.int .i64 ((rd_T75 l0 x12_1).f2),.int .i64 ((rd_T75 l0 x12_1).f3),.int .i64 ((rd_T75 l0 x12_1).f4),.int .i64 ((rd_T75 l0 x12_1).f5)] 75 (0,0))):=⟨by (with_reducible repeat(first|refine blk_drewN ?_ _|refine blk_drew ?_|refine blk_alloc ?_ _));refine blk_put (cs:=#[.int .i64 ((rd_T75 l0 x12_1).f0),.int .i64 ((rd_T75 l0 x12_1).f1),.int .i64 ((rd_T75 l0 x12_1).f2),.int .i64 ((rd_T75 l0 x12_1).f3),.int .i64 ((rd_T75 l0 x12_1).f4),.int .i64 0]) ?_ 5 _ rfl;(with_reducible repeat(first|refine blk_drewN ?_ _|refine blk_drew ?_|refine blk_alloc ?_ _));refine blk_put (cs:=#[.int .i64 ((rd_T75 l0 x12_1).f0),.int .i64 ((rd_T75 l0 x12_1).f1),.int .i64 ((rd_T75 l0 x12_1).f2),.int .i64 ((rd_T75 l0 x12_1).f3),.int .i64 0,.int .i64 0]) ?_ 4 _ rfl;(with_reducible repeat(first|refine blk_drewN ?_ _|refine blk_drew ?_|refine blk_alloc ?_ _));refine blk_put (cs:=#[.int .i64 ((rd_T75 l0 x12_1).f0),.int .i64 ((rd_T75 l0 x12_1).f1),.int .i64 ((rd_T75 l0 x12_1).f2),.int .i64 0,.int .i64 0,.int .i64 0]) ?_ 3 _ rfl;(with_reducible repeat(first|refine blk_drewN ?_ _|refine blk_drew ?_|refine blk_alloc ?_ _));refine blk_put (cs:=#[.int .i64 ((rd_T75 l0 x12_1).f0),.int .i64 ((rd_T75 l0 x12_1).f1),.int .i64 0,.int .i64 0,.int .i64 0,.int .i64 0]) ?_ 2 _ rfl;(with_reducible repeat(first|refine blk_drewN ?_ _|refine blk_drew ?_|refine blk_alloc ?_ _));refine blk_put (cs:=#[.int .i64 ((rd_T75 l0 x12_1).f0),.int .i64 0,.int .i64 0,.int .i64 0,.int .i64 0,.int .i64 0]) ?_ 1 _ rfl;(with_reducible repeat(first|refine blk_drewN ?_ _|refine blk_drew ?_|refine blk_alloc ?_ _));refine blk_put (cs:=#[.int .i64 0,.int .i64 0,.int .i64 0,.int .i64 0,.int .i64 0,.int .i64 0]) ?_ 0 _ rfl;(with_reducible repeat(first|refine blk_drewN ?_ _|refine blk_drew ?_|refine blk_alloc ?_ _));exact BK480.out⟩
          have n1_ : Aside0 (Below w.heap.size w ((((((w20.setCell ⟨gb480,0,none⟩ (.int .i64 ((rd_T75 l0 x12_1).f0))).setCell ⟨gb480,1,none⟩ (.int .i64 ((rd_T75 l0 x12_1).f1))).setCell ⟨gb480,2,none⟩ (.int .i64 ((rd_T75 l0 x12_1).f2))).setCell ⟨gb480,3,none⟩ (.int .i64 ((rd_T75 l0 x12_1).f3))).setCell ⟨gb480,4,none⟩ (.int .i64 ((rd_T75 l0 x12_1).f4))).setCell ⟨gb480,5,none⟩ (.int .i64 ((rd_T75 l0 x12_1).f5)))):=⟨by repeat(first|(with_reducible first|exact HB.out|apply below_alloc|apply pw_below_drewN|apply below_drew1|refine below_set ?_ GE480.out)|exact HB.out)⟩
          (try clear BK480)
          (try clear HB)
          generalize ((((((w20.setCell ⟨gb480,0,none⟩ (.int .i64 ((rd_T75 l0 x12_1).f0))).setCell ⟨gb480,1,none⟩ (.int .i64 ((rd_T75 l0 x12_1).f1))).setCell ⟨gb480,2,none⟩ (.int .i64 ((rd_T75 l0 x12_1).f2))).setCell ⟨gb480,3,none⟩ (.int .i64 ((rd_T75 l0 x12_1).f3))).setCell ⟨gb480,4,none⟩ (.int .i64 ((rd_T75 l0 x12_1).f4))).setCell ⟨gb480,5,none⟩ (.int .i64 ((rd_T75 l0 x12_1).f5))) = w22 at n0_ n1_ ⊢
          have BK480:=n0_
          have HB:=n1_
          clear n0_ n1_
          have n0_:=Aside0.mk (blk_drew BK480.out)
          have n1_:=Aside0.mk (below_drew1 HB.out)
          clear BK480
          clear HB
          have BK480:=n0_
          have HB:=n1_
          clear n0_ n1_
          refine start_ (n:=14) (S:=fun w'=>w'.cell? ⟨gb480,0,none⟩ = some (.int .i64 ((rd_T75 l0 x12_1).f0)) ∧ w'.cell? ⟨gb480,1,none⟩ = some (.int .i64 ((rd_T75 l0 x12_1).f1)) ∧ w'.cell? ⟨gb480,2,none⟩ = some (.int .i64 ((rd_T75 l0 x12_1).f2)) ∧ w'.cell? ⟨gb480,3,none⟩ = some (.int .i64 ((rd_T75 l0 x12_1).f3)) ∧ w'.cell? ⟨gb480,4,none⟩ = some (.int .i64 ((rd_T75 l0 x12_1).f4)) ∧ w'.cell? ⟨gb480,5,none⟩ = some (.int .i64 ((rd_T75 l0 x12_1).f5))) (ds:=[]) #[false,false,false,false,false,false,false,false,false,false,false,false,false,false] (by kernel_rfl) rfl rfl ⟨(blk_cell BK480.out 0).trans rfl,(blk_cell BK480.out 1).trans rfl,(blk_cell BK480.out 2).trans rfl,(blk_cell BK480.out 3).trans rfl,(blk_cell BK480.out 4).trans rfl,(blk_cell BK480.out 5).trans rfl⟩ (fun hHeld=>?_);refine with_tabW hornbeamref18_Put.tab9 hornbeamref18_Put.bits9 (fun HT_ HW_=>?_)
          generalize w22.drew = w23 at BK480 HB hHeld ⊢
          refine pure_ (i:=0) (N:=some 38) (v:=?_) (a':=?_) #[true,false,false,false,false,false,false,false,false,false,false,false,false,false] rfl rfl (any_of HT_.out (by kernel_rfl)) (fun _ _ _ h=>h) (Or.inl ⟨by rfl,?_⟩) ?_ ?_
          rotate_left
          ·intro w'
           go_simp
           with_reducible rfl
          rotate_left
          ·simp only [Act.put,List.setIfInBounds_toArray,List.set_cons_zero,List.set_cons_succ,i64_w,i32_w]
           rfl
          refine pure_ (i:=3) (N:=some 41) (v:=?_) (a':=?_) #[true,false,false,true,false,false,false,false,false,false,false,false,false,false] rfl rfl (any_of HT_.out (by kernel_rfl)) (fun _ _ _ h=>h) (Or.inl ⟨by rfl,?_⟩) ?_ ?_
          rotate_left
          ·intro w'
           go_simp
           with_reducible rfl
          rotate_left
          ·simp only [Act.put,List.setIfInBounds_toArray,List.set_cons_zero,List.set_cons_succ,i64_w,i32_w]
           rfl
          refine pure_ (i:=8) (N:=some 46) (v:=?_) (a':=?_) #[true,false,false,true,false,false,false,false,true,false,false,false,false,false] rfl rfl (any_of HT_.out (by kernel_rfl)) (fun _ _ _ h=>h) (Or.inl ⟨by rfl,?_⟩) ?_ ?_
          rotate_left
          ·intro w'
           go_simp
           with_reducible rfl
          rotate_left
          ·simp only [Act.put,List.setIfInBounds_toArray,List.set_cons_zero,List.set_cons_succ,i64_w,i32_w]
           rfl
          refine take_ (i:=4) (N:=some 42) (v:=?_) (a':=?_) #[true,false,false,true,true,false,false,false,true,false,false,false,false,false] rfl rfl (take_ofW HT_.out HW_.out (by kernel_rfl)) (fun _ _ _ h=>h) (Or.inl ⟨by rfl,?_⟩) hHeld ?_ ?_
          rotate_left
          ·rintro w' ⟨s0,s1,s2,s3,s4,s5⟩
           go_simp
           with_reducible rfl
          rotate_left
          ·simp only [Act.put,List.setIfInBounds_toArray,List.set_cons_zero,List.set_cons_succ,i64_w,i32_w]
           rfl
          refine pure_ (i:=5) (N:=some 43) (v:=?_) (a':=?_) #[true,false,false,true,true,true,false,false,true,false,false,false,false,false] rfl rfl (any_of HT_.out (by kernel_rfl)) (fun _ _ _ h=>h) (Or.inl ⟨by rfl,?_⟩) ?_ ?_
          rotate_left
          ·intro w'
           go_simp
           with_reducible rfl
          rotate_left
          ·simp only [Act.put,List.setIfInBounds_toArray,List.set_cons_zero,List.set_cons_succ,i64_w,i32_w]
           rfl
          refine take_ (i:=9) (N:=some 47) (v:=?_) (a':=?_) #[true,false,false,true,true,true,false,false,true,true,false,false,false,false] rfl rfl (take_ofW HT_.out HW_.out (by kernel_rfl)) (fun _ _ _ h=>h) (Or.inl ⟨by rfl,?_⟩) hHeld ?_ ?_
          rotate_left
          ·rintro w' ⟨s0,s1,s2,s3,s4,s5⟩
           go_simp
           with_reducible rfl
          rotate_left
          ·simp only [Act.put,List.setIfInBounds_toArray,List.set_cons_zero,List.set_cons_succ,i64_w,i32_w]
           rfl
          refine pure_ (i:=10) (N:=some 48) (v:=?_) (a':=?_) #[true,false,false,true,true,true,false,false,true,true,true,false,false,false] rfl rfl (any_of HT_.out (by kernel_rfl)) (fun _ _ _ h=>h) (Or.inl ⟨by rfl,?_⟩) ?_ ?_
          rotate_left
          ·intro w'
           go_simp
           with_reducible rfl
          rotate_left
          ·simp only [Act.put,List.setIfInBounds_toArray,List.set_cons_zero,List.set_cons_succ,i64_w,i32_w]
           rfl
          refine one_ (i:=1) (N:=some 39) #[true,true,false,true,true,true,false,false,true,true,true,false,false,false] rfl rfl (one_of HT_.out (by kernel_rfl)) (by decide) (fun K hK=>?_)
          refine goes_ Try.func28 (by kernel_rfl) rfl #[.int .u64 1,.int .i64 1] (by rfl) rfl rfl (by (try simp only [List.map_toArray,List.map_cons,List.map_nil]);first|done|rfl|(simp only [List.length_drop,List.length_take];rfl)) ?_
          with_reducible refine (hornbeamref07_Put.calls k1 1 1 t481 _ A14.out).mono ?_
          rintro e w24 ⟨rfl,hb⟩
          refine ⟨_,rfl,?_⟩
          have n0_:=Aside0.mk (blk_below (g:=gb480) (o:=.cells #[.int .i64 ((rd_T75 l0 x12_1).f0),.int .i64 ((rd_T75 l0 x12_1).f1),.int .i64 ((rd_T75 l0 x12_1).f2),.int .i64 ((rd_T75 l0 x12_1).f3),.int .i64 ((rd_T75 l0 x12_1).f4),.int .i64 ((rd_T75 l0 x12_1).f5)] 75 (0,0)) (by (with_reducible repeat(first|refine blk_drewN ?_ _|refine blk_drew ?_|refine blk_alloc ?_ _));exact BK480.out) hb)
          have n1_:=Aside0.mk (below_step (by repeat(first|(with_reducible first|exact HB.out|apply below_alloc|apply pw_below_drewN|apply below_drew1|refine below_set ?_ GE480.out)|exact HB.out)) hb)
          clear BK480
          clear HB
          have BK480:=n0_
          have HB:=n1_
          clear n0_ n1_
          (try clear hb)
          (try clear hb2)
          (try clear hk)
          (try clear hi)
          refine hK.out _ _ ⟨(blk_cell BK480.out 0).trans rfl,(blk_cell BK480.out 1).trans rfl,(blk_cell BK480.out 2).trans rfl,(blk_cell BK480.out 3).trans rfl,(blk_cell BK480.out 4).trans rfl,(blk_cell BK480.out 5).trans rfl⟩ (fun hHeld=>?_)
          clear hK K
          refine norm_ (a':=?_) ?_ ?_
          rotate_left
          ·show Act.put _ (some 39) _ = _
           simp only [Act.put,List.setIfInBounds_toArray,List.set_cons_zero,List.set_cons_succ,i64_w,i32_w]
           rfl
          refine pure_ (i:=2) (N:=some 40) (v:=?_) (a':=?_) #[true,true,true,true,true,true,false,false,true,true,true,false,false,false] rfl rfl (any_of HT_.out (by kernel_rfl)) (fun _ _ _ h=>h) (Or.inl ⟨by rfl,?_⟩) ?_ ?_
          rotate_left
          ·intro w'
           go_simp
           with_reducible rfl
          rotate_left
          ·simp only [Act.put,List.setIfInBounds_toArray,List.set_cons_zero,List.set_cons_succ,i64_w,i32_w]
           rfl
          refine one_ (i:=6) (N:=some 44) #[true,true,true,true,true,true,true,false,true,true,true,false,false,false] rfl rfl (one_of HT_.out (by kernel_rfl)) (by decide) (fun K hK=>?_)
          refine goes_ Try.func28 (by kernel_rfl) rfl #[.int .u64 (IntKind.u64.wrap ((rd_T75 l0 x12_1).f0)),.int .i64 2] (by rfl) rfl rfl (by (try simp only [List.map_toArray,List.map_cons,List.map_nil]);first|done|rfl|(simp only [List.length_drop,List.length_take];rfl)) ?_
          with_reducible refine (hornbeamref07_Put.calls k1 (IntKind.u64.wrap ((rd_T75 l0 x12_1).f0)) 2 t482 _ A16.out).mono ?_
          rintro e w25 ⟨rfl,hb⟩
          refine ⟨_,rfl,?_⟩
          have n0_:=Aside0.mk (blk_below (g:=gb480) (o:=.cells #[.int .i64 ((rd_T75 l0 x12_1).f0),.int .i64 ((rd_T75 l0 x12_1).f1),.int .i64 ((rd_T75 l0 x12_1).f2),.int .i64 ((rd_T75 l0 x12_1).f3),.int .i64 ((rd_T75 l0 x12_1).f4),.int .i64 ((rd_T75 l0 x12_1).f5)] 75 (0,0)) (by (with_reducible repeat(first|refine blk_drewN ?_ _|refine blk_drew ?_|refine blk_alloc ?_ _));exact BK480.out) hb)
          have n1_:=Aside0.mk (below_step (by repeat(first|(with_reducible first|exact HB.out|apply below_alloc|apply pw_below_drewN|apply below_drew1|refine below_set ?_ GE480.out)|exact HB.out)) hb)
          clear BK480
          clear HB
          have BK480:=n0_
          have HB:=n1_
          clear n0_ n1_
          (try clear hb)
          (try clear hb2)
          (try clear hk)
          (try clear hi)
          refine hK.out _ _ ⟨(blk_cell BK480.out 0).trans rfl,(blk_cell BK480.out 1).trans rfl,(blk_cell BK480.out 2).trans rfl,(blk_cell BK480.out 3).trans rfl,(blk_cell BK480.out 4).trans rfl,(blk_cell BK480.out 5).trans rfl⟩ (fun hHeld=>?_)
          clear hK K
          refine norm_ (a':=?_) ?_ ?_
          rotate_left
          ·show Act.put _ (some 44) _ = _
           simp only [Act.put,List.setIfInBounds_toArray,List.set_cons_zero,List.set_cons_succ,i64_w,i32_w]
           rfl
          refine pure_ (i:=7) (N:=some 45) (v:=?_) (a':=?_) #[true,true,true,true,true,true,true,true,true,true,true,false,false,false] rfl rfl (any_of HT_.out (by kernel_rfl)) (fun _ _ _ h=>h) (Or.inl ⟨by rfl,?_⟩) ?_ ?_
          rotate_left
          ·intro w'
           go_simp
           with_reducible rfl
          rotate_left
          ·simp only [Act.put,List.setIfInBounds_toArray,List.set_cons_zero,List.set_cons_succ,i64_w,i32_w]
           rfl
          refine one_ (i:=11) (N:=some 49) #[true,true,true,true,true,true,true,true,true,true,true,true,false,false] rfl rfl (one_of HT_.out (by kernel_rfl)) (by decide) (fun K hK=>?_)
          refine goes_ Try.func28 (by kernel_rfl) rfl #[.int .u64 (IntKind.u64.wrap ((rd_T75 l0 x12_1).f1)),.int .i64 2] (by rfl) rfl rfl (by (try simp only [List.map_toArray,List.map_cons,List.map_nil]);first|done|rfl|(simp only [List.length_drop,List.length_take];rfl)) ?_
          with_reducible refine (hornbeamref07_Put.calls k1 (IntKind.u64.wrap ((rd_T75 l0 x12_1).f1)) 2 t483 _ A18.out).mono ?_
          rintro e w26 ⟨rfl,hb⟩
          refine ⟨_,rfl,?_⟩
          have n0_:=Aside0.mk (blk_below (g:=gb480) (o:=.cells #[.int .i64 ((rd_T75 l0 x12_1).f0),.int .i64 ((rd_T75 l0 x12_1).f1),.int .i64 ((rd_T75 l0 x12_1).f2),.int .i64 ((rd_T75 l0 x12_1).f3),.int .i64 ((rd_T75 l0 x12_1).f4),.int .i64 ((rd_T75 l0 x12_1).f5)] 75 (0,0)) (by (with_reducible repeat(first|refine blk_drewN ?_ _|refine blk_drew ?_|refine blk_alloc ?_ _));exact BK480.out) hb)
          have n1_:=Aside0.mk (below_step (by repeat(first|(with_reducible first|exact HB.out|apply below_alloc|apply pw_below_drewN|apply below_drew1|refine below_set ?_ GE480.out)|exact HB.out)) hb)
          clear BK480
          clear HB
          have BK480:=n0_
          have HB:=n1_
          clear n0_ n1_
          (try clear hb)
          (try clear hb2)
          (try clear hk)
          (try clear hi)
          refine hK.out _ _ ⟨(blk_cell BK480.out 0).trans rfl,(blk_cell BK480.out 1).trans rfl,(blk_cell BK480.out 2).trans rfl,(blk_cell BK480.out 3).trans rfl,(blk_cell BK480.out 4).trans rfl,(blk_cell BK480.out 5).trans rfl⟩ (fun hHeld=>?_)
          clear hK K
          refine norm_ (a':=?_) ?_ ?_
          rotate_left
          ·show Act.put _ (some 49) _ = _
           simp only [Act.put,List.setIfInBounds_toArray,List.set_cons_zero,List.set_cons_succ,i64_w,i32_w]
           rfl
          refine pure_ (i:=12) (N:=some 50) (v:=?_) (a':=?_) #[true,true,true,true,true,true,true,true,true,true,true,true,true,false] rfl rfl (any_of HT_.out (by kernel_rfl)) (fun _ _ _ h=>h) (Or.inl ⟨by rfl,?_⟩) ?_ ?_
          rotate_left
          ·intro w'
           go_simp
           with_reducible rfl
          rotate_left
          ·simp only [Act.put,List.setIfInBounds_toArray,List.set_cons_zero,List.set_cons_succ,i64_w,i32_w]
           rfl
          refine pure_ (i:=13) (N:=some 11) (v:=?_) (a':=?_) #[true,true,true,true,true,true,true,true,true,true,true,true,true,true] rfl rfl (any_of HT_.out (by kernel_rfl)) (fun _ _ _ h=>h) (Or.inl ⟨by rfl,?_⟩) ?_ ?_
          rotate_left
          ·intro w'
           go_simp
           with_reducible rfl
          rotate_left
          ·simp only [Act.put,List.setIfInBounds_toArray,List.set_cons_zero,List.set_cons_succ,i64_w,i32_w]
           rfl
          refine done_ (done_of HT_.out (by kernel_rfl)) ?_
          try go_wp2
          go_roundg k1
          case measure=>have:=HK1.out;omega
          case rel=>exact ⟨(((x11_1 ++ t481) ++ t482) ++ t483),(wrap64 (x12_1 + 1)),(by first|rfl|(simp;done)|(simp [*];done)),(by first|rfl|(simp;done)|(simp [*];done)),H',⟨by have:=HK1.out;omega⟩,⟨by repeat(first|(with_reducible first|exact HB.out|apply below_alloc|apply pw_below_drewN|apply below_drew1|refine below_set ?_ GE480.out)|exact HB.out)⟩⟩
         ·rw [if_neg c19] at H
          exact absurd H (by simp)
        ·rw [if_neg c17] at H
         exact absurd H (by simp)
       ·rw [if_neg c15] at H
        exact absurd H (by simp)
      ·rw [if_neg c13] at H
       have c13b0 : decide (0 ≤ ((rd_T75 l0 x12_1).f0)) = false:=decide_eq_false c13
       clear c13
       replace H:=Option.bind_eq_some_iff.mp H
       obtain ⟨t484,A270,H⟩:=H
       replace H : (if x11_1.size + t484.size ≤ 9223372036854775807 then (if a3 = 0 then ((hornbeamref07_Put.f k1 (IntKind.u64.wrap ((rd_T75 l0 x12_1).f3)) 1).bind fun t485=>(if (x11_1 ++ t484).size + t485.size ≤ 9223372036854775807 then (hornbeamref18_Put.l0 k1 l0 a3 ((x11_1 ++ t484) ++ t485) (wrap64 (x12_1 + 1))) else (none))) else ((hornbeamref07_Put.f k1 (IntKind.u64.wrap ((rd_T75 l0 x12_1).f4)) 8).bind fun t486=>(if (x11_1 ++ t484).size + t486.size ≤ 9223372036854775807 then ((hornbeamref07_Put.f k1 (IntKind.u64.wrap ((rd_T75 l0 x12_1).f5)) 4).bind fun t487=>(if ((x11_1 ++ t484) ++ t486).size + t487.size ≤ 9223372036854775807 then (hornbeamref18_Put.l0 k1 l0 a3 (((x11_1 ++ t484) ++ t486) ++ t487) (wrap64 (x12_1 + 1))) else (none))) else (none)))) else (none)) = some r:=H
       have A27:=Aside0.mk A270
       clear A270
       by_cases c28 : x11_1.size + t484.size ≤ 9223372036854775807
       ·rw [if_pos c28] at H
        have c28b0:=eq_true c28
        have c28b1 : decide (x11_1.size + t484.size ≤ 9223372036854775807) = true:=decide_eq_true c28
        try have c28b2 : (9223372036854775807 < x11_1.size + t484.size) = False:=eq_false (Nat.not_lt.2 c28)
        by_cases c29 : a3 = 0
        ·rw [if_pos c29] at H
         have c29b0 : (a3 == 0) = true:=beq_iff_eq.mpr c29
         have c29b1 : (a3 != 0) = false:=bne_eq_false_iff_eq.mpr c29
         clear c29
         replace H:=Option.bind_eq_some_iff.mp H
         obtain ⟨t485,A300,H⟩:=H
         replace H : (if (x11_1 ++ t484).size + t485.size ≤ 9223372036854775807 then (hornbeamref18_Put.l0 k1 l0 a3 ((x11_1 ++ t484) ++ t485) (wrap64 (x12_1 + 1))) else (none)) = some r:=H
         have A30:=Aside0.mk A300
         clear A300
         by_cases c31 : (x11_1 ++ t484).size + t485.size ≤ 9223372036854775807
         ·rw [if_pos c31] at H
          have c31b0:=eq_true c31
          have c31b1 : decide ((x11_1 ++ t484).size + t485.size ≤ 9223372036854775807) = true:=decide_eq_true c31
          (try (have c31b1z:=c31b1;simp only [ByteArray.size_append] at c31b1z))
          try have c31b2 : (9223372036854775807 < (x11_1 ++ t484).size + t485.size) = False:=eq_false (Nat.not_lt.2 c31)
          (try (have c31b2z:=c31b2;simp only [ByteArray.size_append] at c31b2z))
          have H':=Aside0.mk H
          clear H
          have p479 : 0 ≤ (x12_1 : Int):=of_decide_eq_true (by first|(with_reducible assumption)|assumption)
          have q479 : x12_1 < (l0.length : Int):=of_decide_eq_true (by first|(with_reducible assumption)|assumption)
          obtain ⟨ad479,e479,hx479_0,hx479_1,hx479_2,hx479_3,hx479_4,hx479_5⟩:=at_T75 HR0.out x12_1 p479 q479
          cases e479
          replace hx479_0:=(HB.out.cell (World.block_lt_of_cell? w _ hx479_0)).trans hx479_0
          replace hx479_1:=(HB.out.cell (World.block_lt_of_cell? w _ hx479_1)).trans hx479_1
          replace hx479_2:=(HB.out.cell (World.block_lt_of_cell? w _ hx479_2)).trans hx479_2
          replace hx479_3:=(HB.out.cell (World.block_lt_of_cell? w _ hx479_3)).trans hx479_3
          replace hx479_4:=(HB.out.cell (World.block_lt_of_cell? w _ hx479_4)).trans hx479_4
          replace hx479_5:=(HB.out.cell (World.block_lt_of_cell? w _ hx479_5)).trans hx479_5
          replace p479:=eq_true p479
          replace q479:=eq_true q479
          go_wp2_with (first|((with_reducible refine gate_dst (N:=13) rfl ?_);refine box_event ?hg (N:=13) ?hd (cs:=#[.int .i64 0,.int .i64 0,.int .i64 0,.int .i64 0,.int .i64 0,.int .i64 0]) (t:=75) ?hr ?_;(case hd=>rfl);(case hg=>rfl);(case hr=>first|(go_simp;done)|(go_simp;rfl));intro gb480 hg w32 hbox hb;have n0_:=Aside0.mk (below_step (by repeat(first|(with_reducible first|exact HB.out|apply below_alloc|apply pw_below_drewN|apply below_drew1)|exact HB.out)) hb);have n1_:=Aside0.mk (hbox);have n2_:=Aside0.mk ((by rw [hg];exact (below_size (by repeat(first|(with_reducible first|exact HB.out|apply below_alloc|apply pw_below_drewN|apply below_drew1)|exact HB.out))) : w.heap.size ≤ gb480));have n3_:=Aside0.mk ((by rw [hg];exact (below_size (by repeat(first|(with_reducible first|exact HB.out|apply below_alloc|apply pw_below_drewN|apply below_drew1)|exact HB.out))) : w.heap.size ≤ gb480));clear HB;have HB:=n0_;have BK480:=n1_;have GW480:=n2_;have GE480:=n3_;clear n0_ n1_ n2_ n3_;clear hb hbox hg;have hcz33_0 : w32.cell? ⟨gb480,0,none⟩ = some (.int .i64 0):=(blk_cell BK480.out 0).trans rfl;have hcz33_1 : w32.cell? ⟨gb480,1,none⟩ = some (.int .i64 0):=(blk_cell BK480.out 1).trans rfl;have hcz33_2 : w32.cell? ⟨gb480,2,none⟩ = some (.int .i64 0):=(blk_cell BK480.out 2).trans rfl;have hcz33_3 : w32.cell? ⟨gb480,3,none⟩ = some (.int .i64 0):=(blk_cell BK480.out 3).trans rfl;have hcz33_4 : w32.cell? ⟨gb480,4,none⟩ = some (.int .i64 0):=(blk_cell BK480.out 4).trans rfl;have hcz33_5 : w32.cell? ⟨gb480,5,none⟩ = some (.int .i64 0):=(blk_cell BK480.out 5).trans rfl;have hfz33_0:=blk_frozen BK480.out 0;have hfz33_1:=blk_frozen BK480.out 1;have hfz33_2:=blk_frozen BK480.out 2;have hfz33_3:=blk_frozen BK480.out 3;have hfz33_4:=blk_frozen BK480.out 4;have hfz33_5:=blk_frozen BK480.out 5)|((with_reducible refine gate_callee (f:=28) rfl ?_);refine goesL_ (some 52) rfl rfl Try.func28 (by kernel_rfl) rfl #[.int .u64 0,.int .i64 1] rfl (by (try simp only [List.map_toArray,List.map_cons,List.map_nil]);first|done|rfl|(simp only [List.length_drop,List.length_take];rfl)) ?_;(with_reducible refine (hornbeamref07_Put.calls k1 0 1 t484 _ A27.out).mono ?_);rintro e w34 ⟨rfl,hb⟩;refine ⟨_,rfl,?_⟩;have n0_:=Aside0.mk (blk_below (g:=gb480) (o:=.cells #[.int .i64 ((rd_T75 l0 x12_1).f0),.int .i64 ((rd_T75 l0 x12_1).f1),.int .i64 ((rd_T75 l0 x12_1).f2),.int .i64 ((rd_T75 l0 x12_1).f3),.int .i64 ((rd_T75 l0 x12_1).f4),.int .i64 ((rd_T75 l0 x12_1).f5)] 75 (0,0)) (by (with_reducible repeat(first|refine blk_drewN ?_ _|refine blk_drew ?_|refine blk_alloc ?_ _));refine blk_put (cs:=#[.int .i64 ((rd_T75 l0 x12_1).f0),.int .i64 ((rd_T75 l0 x12_1).f1),.int .i64 ((rd_T75 l0 x12_1).f2),.int .i64 ((rd_T75 l0 x12_1).f3),.int .i64 ((rd_T75 l0 x12_1).f4),.int .i64 0]) ?_ 5 _ rfl;(with_reducible repeat(first|refine blk_drewN ?_ _|refine blk_drew ?_|refine blk_alloc ?_ _));refine blk_put (cs:=#[.int .i64 ((rd_T75 l0 x12_1).f0),.int .i64 ((rd_T75 l0 x12_1).f1),.int .i64 ((rd_T75 l0 x12_1).f2),.int .i64 ((rd_T75 l0 x12_1).f3),.int .i64 0,.int .i64 0]) ?_ 4 _ rfl;(with_reducible repeat(first|refine blk_drewN ?_ _|refine blk_drew ?_|refine blk_alloc ?_ _));refine blk_put (cs:=#[.int .i64 ((rd_T75 l0 x12_1).f0),.int .i64 ((rd_T75 l0 x12_1).f1),.int .i64 ((rd_T75 l0 x12_1).f2),.int .i64 0,.int .i64 0,.int .i64 0]) ?_ 3 _ rfl;(with_reducible repeat(first|refine blk_drewN ?_ _|refine blk_drew ?_|refine blk_alloc ?_ _));refine blk_put (cs:=#[.int .i64 ((rd_T75 l0 x12_1).f0),.int .i64 ((rd_T75 l0 x12_1).f1),.int .i64 0,.int .i64 0,.int .i64 0,.int .i64 0]) ?_ 2 _ rfl;(with_reducible repeat(first|refine blk_drewN ?_ _|refine blk_drew ?_|refine blk_alloc ?_ _));refine blk_put (cs:=#[.int .i64 ((rd_T75 l0 x12_1).f0),.int .i64 0,.int .i64 0,.int .i64 0,.int .i64 0,.int .i64 0]) ?_ 1 _ rfl;(with_reducible repeat(first|refine blk_drewN ?_ _|refine blk_drew ?_|refine blk_alloc ?_ _));refine blk_put (cs:=#[.int .i64 0,.int .i64 0,.int .i64 0,.int .i64 0,.int .i64 0,.int .i64 0]) ?_ 0 _ rfl;(with_reducible repeat(first|refine blk_drewN ?_ _|refine blk_drew ?_|refine blk_alloc ?_ _));exact BK480.out) hb);have n1_:=Aside0.mk (below_step (by repeat(first|(with_reducible first|exact HB.out|apply below_alloc|apply pw_below_drewN|apply below_drew1|refine below_set ?_ GE480.out)|exact HB.out)) hb);clear BK480;clear HB;have BK480:=n0_;have HB:=n1_;clear n0_ n1_;(try clear hb);(try clear hb2);(try clear hk);(try clear hi);have hcz35_0 : w34.cell? ⟨gb480,0,none⟩ = some (.int .i64 ((rd_T75 l0 x12_1).f0)):=(blk_cell BK480.out 0).trans rfl;have hcz35_1 : w34.cell? ⟨gb480,1,none⟩ = some (.int .i64 ((rd_T75 l0 x12_1).f1)):=(blk_cell BK480.out 1).trans rfl;have hcz35_2 : w34.cell? ⟨gb480,2,none⟩ = some (.int .i64 ((rd_T75 l0 x12_1).f2)):=(blk_cell BK480.out 2).trans rfl;have hcz35_3 : w34.cell? ⟨gb480,3,none⟩ = some (.int .i64 ((rd_T75 l0 x12_1).f3)):=(blk_cell BK480.out 3).trans rfl;have hcz35_4 : w34.cell? ⟨gb480,4,none⟩ = some (.int .i64 ((rd_T75 l0 x12_1).f4)):=(blk_cell BK480.out 4).trans rfl;have hcz35_5 : w34.cell? ⟨gb480,5,none⟩ = some (.int .i64 ((rd_T75 l0 x12_1).f5)):=(blk_cell BK480.out 5).trans rfl;have hfz35_0:=blk_frozen BK480.out 0;have hfz35_1:=blk_frozen BK480.out 1;have hfz35_2:=blk_frozen BK480.out 2;have hfz35_3:=blk_frozen BK480.out 3;have hfz35_4:=blk_frozen BK480.out 4;have hfz35_5:=blk_frozen BK480.out 5)|((with_reducible refine gate_callee (f:=28) rfl ?_);refine goesL_ (some 60) rfl rfl Try.func28 (by kernel_rfl) rfl #[.int .u64 (IntKind.u64.wrap ((rd_T75 l0 x12_1).f3)),.int .i64 1] rfl (by (try simp only [List.map_toArray,List.map_cons,List.map_nil]);first|done|rfl|(simp only [List.length_drop,List.length_take];rfl)) ?_;(with_reducible refine (hornbeamref07_Put.calls k1 (IntKind.u64.wrap ((rd_T75 l0 x12_1).f3)) 1 t485 _ A30.out).mono ?_);rintro e w36 ⟨rfl,hb⟩;refine ⟨_,rfl,?_⟩;have n0_:=Aside0.mk (blk_below (g:=gb480) (o:=.cells #[.int .i64 ((rd_T75 l0 x12_1).f0),.int .i64 ((rd_T75 l0 x12_1).f1),.int .i64 ((rd_T75 l0 x12_1).f2),.int .i64 ((rd_T75 l0 x12_1).f3),.int .i64 ((rd_T75 l0 x12_1).f4),.int .i64 ((rd_T75 l0 x12_1).f5)] 75 (0,0)) (by (with_reducible repeat(first|refine blk_drewN ?_ _|refine blk_drew ?_|refine blk_alloc ?_ _));exact BK480.out) hb);have n1_:=Aside0.mk (below_step (by repeat(first|(with_reducible first|exact HB.out|apply below_alloc|apply pw_below_drewN|apply below_drew1|refine below_set ?_ GE480.out)|exact HB.out)) hb);clear BK480;clear HB;have BK480:=n0_;have HB:=n1_;clear n0_ n1_;(try clear hb);(try clear hb2);(try clear hk);(try clear hi)))
          go_roundg k1
          case measure=>have:=HK1.out;omega
          case rel=>exact ⟨((x11_1 ++ t484) ++ t485),(wrap64 (x12_1 + 1)),(by first|rfl|(simp;done)|(simp [*];done)),(by first|rfl|(simp;done)|(simp [*];done)),H',⟨by have:=HK1.out;omega⟩,⟨by repeat(first|(with_reducible first|exact HB.out|apply below_alloc|apply pw_below_drewN|apply below_drew1|refine below_set ?_ GE480.out)|exact HB.out)⟩⟩
         ·rw [if_neg c31] at H
          exact absurd H (by simp)
        ·rw [if_neg c29] at H
         have c29b0 : (a3 == 0) = false:=beq_eq_false_iff_ne.mpr c29
         have c29b1 : (a3 != 0) = true:=bne_iff_ne.mpr c29
         replace H:=Option.bind_eq_some_iff.mp H
         obtain ⟨t486,A370,H⟩:=H
         replace H : (if (x11_1 ++ t484).size + t486.size ≤ 9223372036854775807 then ((hornbeamref07_Put.f k1 (IntKind.u64.wrap ((rd_T75 l0 x12_1).f5)) 4).bind fun t487=>(if ((x11_1 ++ t484) ++ t486).size + t487.size ≤ 9223372036854775807 then (hornbeamref18_Put.l0 k1 l0 a3 (((x11_1 ++ t484) ++ t486) ++ t487) (wrap64 (x12_1 + 1))) else (none))) else (none)) = some r:=H
         have A37:=Aside0.mk A370
         clear A370
         by_cases c38 : (x11_1 ++ t484).size + t486.size ≤ 9223372036854775807
         ·rw [if_pos c38] at H
          have c38b0:=eq_true c38
          have c38b1 : decide ((x11_1 ++ t484).size + t486.size ≤ 9223372036854775807) = true:=decide_eq_true c38
          (try (have c38b1z:=c38b1;simp only [ByteArray.size_append] at c38b1z))
          try have c38b2 : (9223372036854775807 < (x11_1 ++ t484).size + t486.size) = False:=eq_false (Nat.not_lt.2 c38)
          (try (have c38b2z:=c38b2;simp only [ByteArray.size_append] at c38b2z))
          replace H:=Option.bind_eq_some_iff.mp H
          obtain ⟨t487,A390,H⟩:=H
          replace H : (if ((x11_1 ++ t484) ++ t486).size + t487.size ≤ 9223372036854775807 then (hornbeamref18_Put.l0 k1 l0 a3 (((x11_1 ++ t484) ++ t486) ++ t487) (wrap64 (x12_1 + 1))) else (none)) = some r:=H
          have A39:=Aside0.mk A390
          clear A390
          by_cases c40 : ((x11_1 ++ t484) ++ t486).size + t487.size ≤ 9223372036854775807
          ·rw [if_pos c40] at H
           have c40b0:=eq_true c40
           have c40b1 : decide (((x11_1 ++ t484) ++ t486).size + t487.size ≤ 9223372036854775807) = true:=decide_eq_true c40
           (try (have c40b1z:=c40b1;simp only [ByteArray.size_append] at c40b1z))
           try have c40b2 : (9223372036854775807 < ((x11_1 ++ t484) ++ t486).size + t487.size) = False:=eq_false (Nat.not_lt.2 c40)
           (try (have c40b2z:=c40b2;simp only [ByteArray.size_append] at c40b2z))
           have H':=Aside0.mk H
           clear H
           have p479 : 0 ≤ (x12_1 : Int):=of_decide_eq_true (by first|(with_reducible assumption)|assumption)
           have q479 : x12_1 < (l0.length : Int):=of_decide_eq_true (by first|(with_reducible assumption)|assumption)
           obtain ⟨ad479,e479,hx479_0,hx479_1,hx479_2,hx479_3,hx479_4,hx479_5⟩:=at_T75 HR0.out x12_1 p479 q479
           cases e479
           replace hx479_0:=(HB.out.cell (World.block_lt_of_cell? w _ hx479_0)).trans hx479_0
           replace hx479_1:=(HB.out.cell (World.block_lt_of_cell? w _ hx479_1)).trans hx479_1
           replace hx479_2:=(HB.out.cell (World.block_lt_of_cell? w _ hx479_2)).trans hx479_2
           replace hx479_3:=(HB.out.cell (World.block_lt_of_cell? w _ hx479_3)).trans hx479_3
           replace hx479_4:=(HB.out.cell (World.block_lt_of_cell? w _ hx479_4)).trans hx479_4
           replace hx479_5:=(HB.out.cell (World.block_lt_of_cell? w _ hx479_5)).trans hx479_5
           replace p479:=eq_true p479
           replace q479:=eq_true q479
           try go_wp2_with (first|((with_reducible refine gate_dst (N:=13) rfl ?_);refine box_event ?hg (N:=13) ?hd (cs:=#[.int .i64 0,.int .i64 0,.int .i64 0,.int .i64 0,.int .i64 0,.int .i64 0]) (t:=75) ?hr ?_;(case hd=>rfl);(case hg=>rfl);(case hr=>first|(go_simp;done)|(go_simp;rfl));intro gb480 hg w41 hbox hb;have n0_:=Aside0.mk (below_step (by repeat(first|(with_reducible first|exact HB.out|apply below_alloc|apply pw_below_drewN|apply below_drew1)|exact HB.out)) hb);have n1_:=Aside0.mk (hbox);have n2_:=Aside0.mk ((by rw [hg];exact (below_size (by repeat(first|(with_reducible first|exact HB.out|apply below_alloc|apply pw_below_drewN|apply below_drew1)|exact HB.out))) : w.heap.size ≤ gb480));have n3_:=Aside0.mk ((by rw [hg];exact (below_size (by repeat(first|(with_reducible first|exact HB.out|apply below_alloc|apply pw_below_drewN|apply below_drew1)|exact HB.out))) : w.heap.size ≤ gb480));clear HB;have HB:=n0_;have BK480:=n1_;have GW480:=n2_;have GE480:=n3_;clear n0_ n1_ n2_ n3_;clear hb hbox hg;have hcz42_0 : w41.cell? ⟨gb480,0,none⟩ = some (.int .i64 0):=(blk_cell BK480.out 0).trans rfl;have hcz42_1 : w41.cell? ⟨gb480,1,none⟩ = some (.int .i64 0):=(blk_cell BK480.out 1).trans rfl;have hcz42_2 : w41.cell? ⟨gb480,2,none⟩ = some (.int .i64 0):=(blk_cell BK480.out 2).trans rfl;have hcz42_3 : w41.cell? ⟨gb480,3,none⟩ = some (.int .i64 0):=(blk_cell BK480.out 3).trans rfl;have hcz42_4 : w41.cell? ⟨gb480,4,none⟩ = some (.int .i64 0):=(blk_cell BK480.out 4).trans rfl;have hcz42_5 : w41.cell? ⟨gb480,5,none⟩ = some (.int .i64 0):=(blk_cell BK480.out 5).trans rfl;have hfz42_0:=blk_frozen BK480.out 0;have hfz42_1:=blk_frozen BK480.out 1;have hfz42_2:=blk_frozen BK480.out 2;have hfz42_3:=blk_frozen BK480.out 3;have hfz42_4:=blk_frozen BK480.out 4;have hfz42_5:=blk_frozen BK480.out 5)|((with_reducible refine gate_callee (f:=28) rfl ?_);refine goesL_ (some 52) rfl rfl Try.func28 (by kernel_rfl) rfl #[.int .u64 0,.int .i64 1] rfl (by (try simp only [List.map_toArray,List.map_cons,List.map_nil]);first|done|rfl|(simp only [List.length_drop,List.length_take];rfl)) ?_;(with_reducible refine (hornbeamref07_Put.calls k1 0 1 t484 _ A27.out).mono ?_);rintro e w43 ⟨rfl,hb⟩;refine ⟨_,rfl,?_⟩;have n0_:=Aside0.mk (blk_below (g:=gb480) (o:=.cells #[.int .i64 ((rd_T75 l0 x12_1).f0),.int .i64 ((rd_T75 l0 x12_1).f1),.int .i64 ((rd_T75 l0 x12_1).f2),.int .i64 ((rd_T75 l0 x12_1).f3),.int .i64 ((rd_T75 l0 x12_1).f4),.int .i64 ((rd_T75 l0 x12_1).f5)] 75 (0,0)) (by (with_reducible repeat(first|refine blk_drewN ?_ _|refine blk_drew ?_|refine blk_alloc ?_ _));refine blk_put (cs:=#[.int .i64 ((rd_T75 l0 x12_1).f0),.int .i64 ((rd_T75 l0 x12_1).f1),.int .i64 ((rd_T75 l0 x12_1).f2),.int .i64 ((rd_T75 l0 x12_1).f3),.int .i64 ((rd_T75 l0 x12_1).f4),.int .i64 0]) ?_ 5 _ rfl;(with_reducible repeat(first|refine blk_drewN ?_ _|refine blk_drew ?_|refine blk_alloc ?_ _));refine blk_put (cs:=#[.int .i64 ((rd_T75 l0 x12_1).f0),.int .i64 ((rd_T75 l0 x12_1).f1),.int .i64 ((rd_T75 l0 x12_1).f2),.int .i64 ((rd_T75 l0 x12_1).f3),.int .i64 0,.int .i64 0]) ?_ 4 _ rfl;(with_reducible repeat(first|refine blk_drewN ?_ _|refine blk_drew ?_|refine blk_alloc ?_ _));refine blk_put (cs:=#[.int .i64 ((rd_T75 l0 x12_1).f0),.int .i64 ((rd_T75 l0 x12_1).f1),.int .i64 ((rd_T75 l0 x12_1).f2),.int .i64 0,.int .i64 0,.int .i64 0]) ?_ 3 _ rfl;(with_reducible repeat(first|refine blk_drewN ?_ _|refine blk_drew ?_|refine blk_alloc ?_ _));refine blk_put (cs:=#[.int .i64 ((rd_T75 l0 x12_1).f0),.int .i64 ((rd_T75 l0 x12_1).f1),.int .i64 0,.int .i64 0,.int .i64 0,.int .i64 0]) ?_ 2 _ rfl;(with_reducible repeat(first|refine blk_drewN ?_ _|refine blk_drew ?_|refine blk_alloc ?_ _));refine blk_put (cs:=#[.int .i64 ((rd_T75 l0 x12_1).f0),.int .i64 0,.int .i64 0,.int .i64 0,.int .i64 0,.int .i64 0]) ?_ 1 _ rfl;(with_reducible repeat(first|refine blk_drewN ?_ _|refine blk_drew ?_|refine blk_alloc ?_ _));refine blk_put (cs:=#[.int .i64 0,.int .i64 0,.int .i64 0,.int .i64 0,.int .i64 0,.int .i64 0]) ?_ 0 _ rfl;(with_reducible repeat(first|refine blk_drewN ?_ _|refine blk_drew ?_|refine blk_alloc ?_ _));exact BK480.out) hb);have n1_:=Aside0.mk (below_step (by repeat(first|(with_reducible first|exact HB.out|apply below_alloc|apply pw_below_drewN|apply below_drew1|refine below_set ?_ GE480.out)|exact HB.out)) hb);clear BK480;clear HB;have BK480:=n0_;have HB:=n1_;clear n0_ n1_;(try clear hb);(try clear hb2);(try clear hk);(try clear hi)))
           have n0_:=Aside0.mk (blk_drew BK480.out)
           have n1_:=Aside0.mk (below_drew1 HB.out)
           clear BK480
           clear HB
           have BK480:=n0_
           have HB:=n1_
           clear n0_ n1_
           refine start_ (n:=12) (S:=fun w'=>w'.cell? ⟨gb480,0,none⟩ = some (.int .i64 ((rd_T75 l0 x12_1).f0)) ∧ w'.cell? ⟨gb480,1,none⟩ = some (.int .i64 ((rd_T75 l0 x12_1).f1)) ∧ w'.cell? ⟨gb480,2,none⟩ = some (.int .i64 ((rd_T75 l0 x12_1).f2)) ∧ w'.cell? ⟨gb480,3,none⟩ = some (.int .i64 ((rd_T75 l0 x12_1).f3)) ∧ w'.cell? ⟨gb480,4,none⟩ = some (.int .i64 ((rd_T75 l0 x12_1).f4)) ∧ w'.cell? ⟨gb480,5,none⟩ = some (.int .i64 ((rd_T75 l0 x12_1).f5))) (ds:=[]) #[false,false,false,false,false,false,false,false,false,false,false,false] (by kernel_rfl) rfl rfl ⟨(blk_cell BK480.out 0).trans rfl,(blk_cell BK480.out 1).trans rfl,(blk_cell BK480.out 2).trans rfl,(blk_cell BK480.out 3).trans rfl,(blk_cell BK480.out 4).trans rfl,(blk_cell BK480.out 5).trans rfl⟩ (fun hHeld=>?_);refine with_tabW hornbeamref18_Put.tab13 hornbeamref18_Put.bits13 (fun HT_ HW_=>?_)
           generalize w43.drew = w44 at BK480 HB hHeld ⊢
           refine pure_ (i:=0) (N:=some 62) (v:=?_) (a':=?_) #[true,false,false,false,false,false,false,false,false,false,false,false] rfl rfl (any_of HT_.out (by kernel_rfl)) (fun _ _ _ h=>h) (Or.inl ⟨by rfl,?_⟩) ?_ ?_
           rotate_left
           ·intro w'
            go_simp
            with_reducible rfl
           rotate_left
           ·simp only [Act.put,List.setIfInBounds_toArray,List.set_cons_zero,List.set_cons_succ,i64_w,i32_w]
            rfl
           refine pure_ (i:=1) (N:=some 63) (v:=?_) (a':=?_) #[true,true,false,false,false,false,false,false,false,false,false,false] rfl rfl (any_of HT_.out (by kernel_rfl)) (fun _ _ _ h=>h) (Or.inl ⟨by rfl,?_⟩) ?_ ?_
           rotate_left
           ·intro w'
            go_simp
            with_reducible rfl
           rotate_left
           ·simp only [Act.put,List.setIfInBounds_toArray,List.set_cons_zero,List.set_cons_succ,i64_w,i32_w]
            rfl
           refine pure_ (i:=6) (N:=some 68) (v:=?_) (a':=?_) #[true,true,false,false,false,false,true,false,false,false,false,false] rfl rfl (any_of HT_.out (by kernel_rfl)) (fun _ _ _ h=>h) (Or.inl ⟨by rfl,?_⟩) ?_ ?_
           rotate_left
           ·intro w'
            go_simp
            with_reducible rfl
           rotate_left
           ·simp only [Act.put,List.setIfInBounds_toArray,List.set_cons_zero,List.set_cons_succ,i64_w,i32_w]
            rfl
           refine take_ (i:=2) (N:=some 64) (v:=?_) (a':=?_) #[true,true,true,false,false,false,true,false,false,false,false,false] rfl rfl (take_ofW HT_.out HW_.out (by kernel_rfl)) (fun _ _ _ h=>h) (Or.inl ⟨by rfl,?_⟩) hHeld ?_ ?_
           rotate_left
           ·rintro w' ⟨s0,s1,s2,s3,s4,s5⟩
            go_simp
            with_reducible rfl
           rotate_left
           ·simp only [Act.put,List.setIfInBounds_toArray,List.set_cons_zero,List.set_cons_succ,i64_w,i32_w]
            rfl
           refine pure_ (i:=3) (N:=some 65) (v:=?_) (a':=?_) #[true,true,true,true,false,false,true,false,false,false,false,false] rfl rfl (any_of HT_.out (by kernel_rfl)) (fun _ _ _ h=>h) (Or.inl ⟨by rfl,?_⟩) ?_ ?_
           rotate_left
           ·intro w'
            go_simp
            with_reducible rfl
           rotate_left
           ·simp only [Act.put,List.setIfInBounds_toArray,List.set_cons_zero,List.set_cons_succ,i64_w,i32_w]
            rfl
           refine take_ (i:=7) (N:=some 69) (v:=?_) (a':=?_) #[true,true,true,true,false,false,true,true,false,false,false,false] rfl rfl (take_ofW HT_.out HW_.out (by kernel_rfl)) (fun _ _ _ h=>h) (Or.inl ⟨by rfl,?_⟩) hHeld ?_ ?_
           rotate_left
           ·rintro w' ⟨s0,s1,s2,s3,s4,s5⟩
            go_simp
            with_reducible rfl
           rotate_left
           ·simp only [Act.put,List.setIfInBounds_toArray,List.set_cons_zero,List.set_cons_succ,i64_w,i32_w]
            rfl
           refine pure_ (i:=8) (N:=some 70) (v:=?_) (a':=?_) #[true,true,true,true,false,false,true,true,true,false,false,false] rfl rfl (any_of HT_.out (by kernel_rfl)) (fun _ _ _ h=>h) (Or.inl ⟨by rfl,?_⟩) ?_ ?_
           rotate_left
           ·intro w'
            go_simp
            with_reducible rfl
           rotate_left
           ·simp only [Act.put,List.setIfInBounds_toArray,List.set_cons_zero,List.set_cons_succ,i64_w,i32_w]
            rfl
           refine one_ (i:=4) (N:=some 66) #[true,true,true,true,true,false,true,true,true,false,false,false] rfl rfl (one_of HT_.out (by kernel_rfl)) (by decide) (fun K hK=>?_)
           refine goes_ Try.func28 (by kernel_rfl) rfl #[.int .u64 (IntKind.u64.wrap ((rd_T75 l0 x12_1).f4)),.int .i64 8] (by rfl) rfl rfl (by (try simp only [List.map_toArray,List.map_cons,List.map_nil]);first|done|rfl|(simp only [List.length_drop,List.length_take];rfl)) ?_
           with_reducible refine (hornbeamref07_Put.calls k1 (IntKind.u64.wrap ((rd_T75 l0 x12_1).f4)) 8 t486 _ A37.out).mono ?_
           rintro e w45 ⟨rfl,hb⟩
           refine ⟨_,rfl,?_⟩
           have n0_:=Aside0.mk (blk_below (g:=gb480) (o:=.cells #[.int .i64 ((rd_T75 l0 x12_1).f0),.int .i64 ((rd_T75 l0 x12_1).f1),.int .i64 ((rd_T75 l0 x12_1).f2),.int .i64 ((rd_T75 l0 x12_1).f3),.int .i64 ((rd_T75 l0 x12_1).f4),.int .i64 ((rd_T75 l0 x12_1).f5)] 75 (0,0)) (by (with_reducible repeat(first|refine blk_drewN ?_ _|refine blk_drew ?_|refine blk_alloc ?_ _));exact BK480.out) hb)
           have n1_:=Aside0.mk (below_step (by repeat(first|(with_reducible first|exact HB.out|apply below_alloc|apply pw_below_drewN|apply below_drew1|refine below_set ?_ GE480.out)|exact HB.out)) hb)
           clear BK480
           clear HB
           have BK480:=n0_
           have HB:=n1_
           clear n0_ n1_
           (try clear hb)
           (try clear hb2)
           (try clear hk)
           (try clear hi)
           refine hK.out _ _ ⟨(blk_cell BK480.out 0).trans rfl,(blk_cell BK480.out 1).trans rfl,(blk_cell BK480.out 2).trans rfl,(blk_cell BK480.out 3).trans rfl,(blk_cell BK480.out 4).trans rfl,(blk_cell BK480.out 5).trans rfl⟩ (fun hHeld=>?_)
           clear hK K
           refine norm_ (a':=?_) ?_ ?_
           rotate_left
           ·show Act.put _ (some 66) _ = _
            simp only [Act.put,List.setIfInBounds_toArray,List.set_cons_zero,List.set_cons_succ,i64_w,i32_w]
            rfl
           refine pure_ (i:=5) (N:=some 67) (v:=?_) (a':=?_) #[true,true,true,true,true,true,true,true,true,false,false,false] rfl rfl (any_of HT_.out (by kernel_rfl)) (fun _ _ _ h=>h) (Or.inl ⟨by rfl,?_⟩) ?_ ?_
           rotate_left
           ·intro w'
            go_simp
            with_reducible rfl
           rotate_left
           ·simp only [Act.put,List.setIfInBounds_toArray,List.set_cons_zero,List.set_cons_succ,i64_w,i32_w]
            rfl
           refine one_ (i:=9) (N:=some 71) #[true,true,true,true,true,true,true,true,true,true,false,false] rfl rfl (one_of HT_.out (by kernel_rfl)) (by decide) (fun K hK=>?_)
           refine goes_ Try.func28 (by kernel_rfl) rfl #[.int .u64 (IntKind.u64.wrap ((rd_T75 l0 x12_1).f5)),.int .i64 4] (by rfl) rfl rfl (by (try simp only [List.map_toArray,List.map_cons,List.map_nil]);first|done|rfl|(simp only [List.length_drop,List.length_take];rfl)) ?_
           with_reducible refine (hornbeamref07_Put.calls k1 (IntKind.u64.wrap ((rd_T75 l0 x12_1).f5)) 4 t487 _ A39.out).mono ?_
           rintro e w46 ⟨rfl,hb⟩
           refine ⟨_,rfl,?_⟩
           have n0_:=Aside0.mk (blk_below (g:=gb480) (o:=.cells #[.int .i64 ((rd_T75 l0 x12_1).f0),.int .i64 ((rd_T75 l0 x12_1).f1),.int .i64 ((rd_T75 l0 x12_1).f2),.int .i64 ((rd_T75 l0 x12_1).f3),.int .i64 ((rd_T75 l0 x12_1).f4),.int .i64 ((rd_T75 l0 x12_1).f5)] 75 (0,0)) (by (with_reducible repeat(first|refine blk_drewN ?_ _|refine blk_drew ?_|refine blk_alloc ?_ _));exact BK480.out) hb)
           have n1_:=Aside0.mk (below_step (by repeat(first|(with_reducible first|exact HB.out|apply below_alloc|apply pw_below_drewN|apply below_drew1|refine below_set ?_ GE480.out)|exact HB.out)) hb)
           clear BK480
           clear HB
           have BK480:=n0_
           have HB:=n1_
           clear n0_ n1_
           (try clear hb)
           (try clear hb2)
           (try clear hk)
           (try clear hi)
           refine hK.out _ _ ⟨(blk_cell BK480.out 0).trans rfl,(blk_cell BK480.out 1).trans rfl,(blk_cell BK480.out 2).trans rfl,(blk_cell BK480.out 3).trans rfl,(blk_cell BK480.out 4).trans rfl,(blk_cell BK480.out 5).trans rfl⟩ (fun hHeld=>?_)
           clear hK K
           refine norm_ (a':=?_) ?_ ?_
           rotate_left
           ·show Act.put _ (some 71) _ = _
            simp only [Act.put,List.setIfInBounds_toArray,List.set_cons_zero,List.set_cons_succ,i64_w,i32_w]
            rfl
           refine pure_ (i:=10) (N:=some 72) (v:=?_) (a':=?_) #[true,true,true,true,true,true,true,true,true,true,true,false] rfl rfl (any_of HT_.out (by kernel_rfl)) (fun _ _ _ h=>h) (Or.inl ⟨by rfl,?_⟩) ?_ ?_
           rotate_left
           ·intro w'
            go_simp
            with_reducible rfl
           rotate_left
           ·simp only [Act.put,List.setIfInBounds_toArray,List.set_cons_zero,List.set_cons_succ,i64_w,i32_w]
            rfl
           refine pure_ (i:=11) (N:=some 11) (v:=?_) (a':=?_) #[true,true,true,true,true,true,true,true,true,true,true,true] rfl rfl (any_of HT_.out (by kernel_rfl)) (fun _ _ _ h=>h) (Or.inl ⟨by rfl,?_⟩) ?_ ?_
           rotate_left
           ·intro w'
            go_simp
            with_reducible rfl
           rotate_left
           ·simp only [Act.put,List.setIfInBounds_toArray,List.set_cons_zero,List.set_cons_succ,i64_w,i32_w]
            rfl
           refine done_ (done_of HT_.out (by kernel_rfl)) ?_
           try go_wp2
           go_roundg k1
           case measure=>have:=HK1.out;omega
           case rel=>exact ⟨(((x11_1 ++ t484) ++ t486) ++ t487),(wrap64 (x12_1 + 1)),(by first|rfl|(simp;done)|(simp [*];done)),(by first|rfl|(simp;done)|(simp [*];done)),H',⟨by have:=HK1.out;omega⟩,⟨by repeat(first|(with_reducible first|exact HB.out|apply below_alloc|apply pw_below_drewN|apply below_drew1|refine below_set ?_ GE480.out)|exact HB.out)⟩⟩
          ·rw [if_neg c40] at H
           exact absurd H (by simp)
         ·rw [if_neg c38] at H
          exact absurd H (by simp)
       ·rw [if_neg c28] at H
        exact absurd H (by simp)
     ·rw [if_neg c12] at H
      exact absurd H (by simp)
    ·rw [if_neg c11] at H
     have c11b0 : decide (x12_1 < (l0.length : Int)) = false:=decide_eq_false c11
     clear c11
     obtain rfl:=Option.some.inj H
     go_wp2
     go_ret
     exact ⟨by first|rfl|(simp [errW_none,errW_some] <;> rfl)|(simp [*,errW_none,errW_some] <;> rfl),by repeat(first|(with_reducible first|exact HB.out|apply below_alloc|apply pw_below_drewN|apply below_drew1)|exact HB.out)⟩
 ·replace c7:=Bool.eq_false_iff.mpr c7
  subst c7
  have H1 : (some (⟨#[]⟩ : ByteArray)) = some r:=by rw [if_neg (show ¬ (false = true) by decide)] at H;exact H
  clear H
  have H:=H1
  clear H1
  obtain rfl:=Option.some.inj H
  go_enter Try.func47,Try.ntmps47
  go_wp2_with (first|((with_reducible refine gate_callee (f:=43) rfl ?_);refine goesL_ (some 19) rfl rfl Try.func43 (by kernel_rfl) rfl #[.slice A0 l0.length c0,.int .i64 a1,.int .i64 a2,.int .i64 a3,.int .i64 a4] rfl (by (try simp only [List.map_toArray,List.map_cons,List.map_nil]);first|done|rfl|(simp only [List.length_drop,List.length_take];rfl)) ?_;(with_reducible refine (hornbeamref18_Right.calls k _ _ l0 a1 a2 a3 a4 false _ ?side1 ?side2 A6.out).mono ?_);(case side1=>repeat(first|exact HR0.out|(with_reducible refine Kd.C_alloc ?_ _)|(with_reducible refine Kd.C_drewN ?_ _)|(with_reducible refine Kd.C_drew ?_)));(case side2=>exact HC0.out);rintro e w47 ⟨rfl,hb⟩;refine ⟨_,rfl,?_⟩;have n0_:=Aside0.mk (below_step (by repeat(first|(with_reducible first|exact HB.out|apply below_alloc|apply pw_below_drewN|apply below_drew1)|exact HB.out)) hb);clear HB;have HB:=n0_;clear n0_;(try clear hb);(try clear hb2);(try clear hk);(try clear hi)))
  go_ret
  exact ⟨by first|rfl|(simp [errW_none,errW_some] <;> rfl)|(simp [*,errW_none,errW_some] <;> rfl),by repeat(first|(with_reducible first|exact HB.out|apply below_alloc|apply pw_below_drewN|apply below_drew1)|exact HB.out)⟩

end Go.Proofs.Ytebbnjgaikppgaa.PA
