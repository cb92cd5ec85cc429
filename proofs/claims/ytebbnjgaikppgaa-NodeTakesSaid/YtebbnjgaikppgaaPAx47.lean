import Derived.Test.YtebbnjgaikppgaaPAx0
import Derived.Test.YtebbnjgaikppgaaPAx43
import Derived.Test.YtebbnjgaikppgaaPAx44
import Derived.Test.YtebbnjgaikppgaaPAx46
namespace Go.Proofs.Ytebbnjgaikppgaa.PA
open Go.RowKit Go.Proofs.YtebbnjgaikppgaaW.PrintWords Go.Proofs.YtebbnjgaikppgaaW.PrintLast Go.Proofs.YtebbnjgaikppgaaW.PrintMore
attribute [local go_sem] max2_int min2_int max_two min_two max_three min_three max_four min_four   -- for this text's walks alone
attribute [local go_sem high] Flt.fold_eq Flt.fold_ne Flt.fold_lt Flt.fold_gt Flt.fold_le Flt.fold_ge Flt.run_bits Flt.run_frombits
set_option linter.unusedVariables false
set_option linter.unusedSimpArgs false

/-! ### hornbeamref18_Right: function 43 -/
mutual
def hornbeamref18_Right.j0 : Nat → List (S75) → Int → Int → Int → Int → Bool → Option (Bool)
 | 0,_,_,_,_,_,_=>none
 | k + 1,x0,x1,x2,x3,x4,x23=>if x23 = true then (some false) else (hornbeamref18_Right.l0 k x0 x1 x2 x3 x4 0)
def hornbeamref18_Right.l0 : Nat → List (S75) → Int → Int → Int → Int → Int → Option (Bool)
 | 0,_,_,_,_,_,_=>none
 | k + 1,x0,x1,x2,x3,x4,x11=>if x11 < (x0.length : Int) then (if 0 ≤ x11 then ((hornbeamref18_one.f k ((rd_T75 x0 x11).f0) ((rd_T75 x0 x11).f1) ((rd_T75 x0 x11).f2) ((rd_T75 x0 x11).f3) ((rd_T75 x0 x11).f4) ((rd_T75 x0 x11).f5) x1 x2 x3 x4).bind fun t450=>(if t450 = true then (hornbeamref18_Right.l0 k x0 x1 x2 x3 x4 (wrap64 (x11 + 1))) else (some false))) else (none)) else ((hornbeamref18_Deep.f k x0).bind fun t451=>(if t451 ≥ 0 then (some (decide (t451 ≤ 32))) else (some false)))
end
def hornbeamref18_Right.f (k : Nat) (l0 : List (S75)) (a1 : Int) (a2 : Int) (a3 : Int) (a4 : Int) : Option (Bool):=(hornbeamref18_May.f k a1 a2 a3 a4).bind fun t448=>(if t448 = true then (hornbeamref18_Right.j0 k l0 a1 a2 a3 a4 ((l0.length : Int) == 0)) else (hornbeamref18_Right.j0 k l0 a1 a2 a3 a4 true))
theorem hornbeamref18_Right.mono_l : ∀ k,(∀ y0 y1 y2 y3 y4 y5,LeO (hornbeamref18_Right.j0 k y0 y1 y2 y3 y4 y5) (hornbeamref18_Right.j0 (k + 1) y0 y1 y2 y3 y4 y5)) ∧ (∀ y0 y1 y2 y3 y4 y5,LeO (hornbeamref18_Right.l0 k y0 y1 y2 y3 y4 y5) (hornbeamref18_Right.l0 (k + 1) y0 y1 y2 y3 y4 y5))
 | 0=>⟨fun _ _ _ _ _ _ r h=>by simp [hornbeamref18_Right.j0] at h,fun _ _ _ _ _ _ r h=>by simp [hornbeamref18_Right.l0] at h⟩
 | k + 1=>by
  obtain ⟨ih0,ih1⟩:=hornbeamref18_Right.mono_l k
  refine ⟨?_,?_⟩
  ·intro y0 y1 y2 y3 y4 y5
   unfold hornbeamref18_Right.j0
   repeat' first
   | (with_reducible exact ih0 _ _ _ _ _ _)
   | (with_reducible exact ih1 _ _ _ _ _ _)
   | (with_reducible exact hornbeamref18_Deep.mono _ _)
   | (with_reducible exact hornbeamref18_May.mono _ _ _ _ _)
   | (with_reducible exact hornbeamref18_one.mono _ _ _ _ _ _ _ _ _ _ _)
   | (with_reducible exact LeO.refl _)
   | (with_reducible exact LeO.none _)
   | (with_reducible refine LeO.ite ?_ ?_)
   | (with_reducible refine LeO.bind ?_ (fun _=>?_))
   | exact ih0 _ _ _ _ _ _
   | exact ih1 _ _ _ _ _ _
   | exact hornbeamref18_Deep.mono _ _
   | exact hornbeamref18_May.mono _ _ _ _ _
   | exact hornbeamref18_one.mono _ _ _ _ _ _ _ _ _ _ _
   | exact LeO.none _
   | refine LeO.ite ?_ ?_
   | refine LeO.bind ?_ (fun _=>?_)
  ·intro y0 y1 y2 y3 y4 y5
   unfold hornbeamref18_Right.l0
   repeat' first
   | (with_reducible exact ih0 _ _ _ _ _ _)
   | (with_reducible exact ih1 _ _ _ _ _ _)
   | (with_reducible exact hornbeamref18_Deep.mono _ _)
   | (with_reducible exact hornbeamref18_May.mono _ _ _ _ _)
   | (with_reducible exact hornbeamref18_one.mono _ _ _ _ _ _ _ _ _ _ _)
   | (with_reducible exact LeO.refl _)
   | (with_reducible exact LeO.none _)
   | (with_reducible refine LeO.ite ?_ ?_)
   | (with_reducible refine LeO.bind ?_ (fun _=>?_))
   | exact ih0 _ _ _ _ _ _
   | exact ih1 _ _ _ _ _ _
   | exact hornbeamref18_Deep.mono _ _
   | exact hornbeamref18_May.mono _ _ _ _ _
   | exact hornbeamref18_one.mono _ _ _ _ _ _ _ _ _ _ _
   | exact LeO.none _
   | refine LeO.ite ?_ ?_
   | refine LeO.bind ?_ (fun _=>?_)
theorem hornbeamref18_Right.mono : ∀ a0 a1 a2 a3 a4 k,LeO (hornbeamref18_Right.f k a0 a1 a2 a3 a4) (hornbeamref18_Right.f (k + 1) a0 a1 a2 a3 a4):=by
 intro a0 a1 a2 a3 a4 k
 obtain ⟨ih0,ih1⟩:=hornbeamref18_Right.mono_l k
 unfold hornbeamref18_Right.f
 repeat' first
   | (with_reducible exact ih0 _ _ _ _ _ _)
   | (with_reducible exact ih1 _ _ _ _ _ _)
   | (with_reducible exact hornbeamref18_Deep.mono _ _)
   | (with_reducible exact hornbeamref18_May.mono _ _ _ _ _)
   | (with_reducible exact hornbeamref18_one.mono _ _ _ _ _ _ _ _ _ _ _)
   | (with_reducible exact LeO.refl _)
   | (with_reducible exact LeO.none _)
   | (with_reducible refine LeO.ite ?_ ?_)
   | (with_reducible refine LeO.bind ?_ (fun _=>?_))
   | exact ih0 _ _ _ _ _ _
   | exact ih1 _ _ _ _ _ _
   | exact hornbeamref18_Deep.mono _ _
   | exact hornbeamref18_May.mono _ _ _ _ _
   | exact hornbeamref18_one.mono _ _ _ _ _ _ _ _ _ _ _
   | exact LeO.none _
   | refine LeO.ite ?_ ?_
   | refine LeO.bind ?_ (fun _=>?_)
set_option maxHeartbeats 8000000 in
set_option maxRecDepth 100000 in
theorem hornbeamref18_Right.calls (k : Nat) (A0 : Option Addr) (c0 : Nat) (l0 : List (S75)) (a1 : Int) (a2 : Int) (a3 : Int) (a4 : Int) (r : Bool) (w : World) (hr0 : Kd.C k75 w A0 l0.length l0) (hc0 : l0.length ≤ c0) (h : hornbeamref18_Right.f k l0 a1 a2 a3 a4 = some r) :
  Calls Try.prog 43 #[.slice A0 l0.length c0,.int .i64 a1,.int .i64 a2,.int .i64 a3,.int .i64 a4] w fun e w'=>e = .returned (.bool r) ∧ Below w.heap.size w w':=by
 have hu75:=Try.underlying75
 have HR0:=Aside0.mk hr0
 have HC0:=Aside0.mk hc0
 clear hr0 hc0
 have HB:=Aside0.mk (Below.refl w.heap.size w)
 have H : ((hornbeamref18_May.f k a1 a2 a3 a4).bind fun t448=>(if t448 = true then (hornbeamref18_Right.j0 k l0 a1 a2 a3 a4 ((l0.length : Int) == 0)) else (hornbeamref18_Right.j0 k l0 a1 a2 a3 a4 true))) = some r:=h
 clear h
 have HC6:=Aside0.mk H
 clear H
 go_enter Try.func43,Try.ntmps43
 go_upto_region 1 with (fail)
 go_cut [23] (fun v23 wc=>∃ (kq : Nat) (x23_5 : Bool),v23 = .bool x23_5 ∧ Aside0 (hornbeamref18_Right.j0 kq l0 a1 a2 a3 a4 x23_5 = some r) ∧ Aside0 (kq ≤ k) ∧ Aside0 (Below w.heap.size w wc))
 case first =>
  have H:=HC6.out
  clear HC6
  replace H:=Option.bind_eq_some_iff.mp H
  obtain ⟨t448,A70,H⟩:=H
  replace H : (if t448 = true then (hornbeamref18_Right.j0 k l0 a1 a2 a3 a4 ((l0.length : Int) == 0)) else (hornbeamref18_Right.j0 k l0 a1 a2 a3 a4 true)) = some r:=H
  have A7:=Aside0.mk A70
  clear A70
  by_cases c8 : t448 = true
  ·subst c8
   have H1 : (hornbeamref18_Right.j0 k l0 a1 a2 a3 a4 ((l0.length : Int) == 0)) = some r:=by rw [if_pos rfl] at H;exact H
   clear H
   have H:=H1
   clear H1
   have H':=Aside0.mk H
   clear H
   go_wp2_with (first|((with_reducible refine gate_callee (f:=51) rfl ?_);refine goesL_ (some 17) rfl rfl Try.func51 (by kernel_rfl) rfl #[.int .i64 a1,.int .i64 a2,.int .i64 a3,.int .i64 a4] rfl (by (try simp only [List.map_toArray,List.map_cons,List.map_nil]);first|done|rfl|(simp only [List.length_drop,List.length_take];rfl)) ?_;(with_reducible refine (hornbeamref18_May.calls k a1 a2 a3 a4 true _ A7.out).mono ?_);rintro e w' ⟨rfl,⟨nd,rfl⟩⟩;refine ⟨_,rfl,?_⟩))
   go_meet
   case rel=>exact ⟨_,(((l0.length : Int) == 0)),(by first|rfl|(simp;done)|(simp [*];done)),H',⟨by first|omega|exact Nat.le_refl _⟩,⟨by repeat(first|(with_reducible first|exact HB.out|apply below_alloc|apply pw_below_drewN|apply below_drew1)|exact HB.out)⟩⟩
  ·replace c8:=Bool.eq_false_iff.mpr c8
   subst c8
   have H1 : (hornbeamref18_Right.j0 k l0 a1 a2 a3 a4 true) = some r:=by rw [if_neg (show ¬ (false = true) by decide)] at H;exact H
   clear H
   have H:=H1
   clear H1
   have H':=Aside0.mk H
   clear H
   go_wp2_with (first|((with_reducible refine gate_callee (f:=51) rfl ?_);refine goesL_ (some 17) rfl rfl Try.func51 (by kernel_rfl) rfl #[.int .i64 a1,.int .i64 a2,.int .i64 a3,.int .i64 a4] rfl (by (try simp only [List.map_toArray,List.map_cons,List.map_nil]);first|done|rfl|(simp only [List.length_drop,List.length_take];rfl)) ?_;(with_reducible refine (hornbeamref18_May.calls k a1 a2 a3 a4 false _ A7.out).mono ?_);rintro e w' ⟨rfl,⟨nd,rfl⟩⟩;refine ⟨_,rfl,?_⟩))
   go_meet
   case rel=>exact ⟨_,(true),(by first|rfl|(simp;done)|(simp [*];done)),H',⟨by first|omega|exact Nat.le_refl _⟩,⟨by repeat(first|(with_reducible first|exact HB.out|apply below_alloc|apply pw_below_drewN|apply below_drew1)|exact HB.out)⟩⟩
 case rest =>
  clear HC6
  try clear p2
  try clear c4
  try clear c5
  try clear c8
  obtain ⟨kq,x23_5,rfl,HA,HJ5,HB⟩:=hcut
  cases kq with
  | zero=>exact absurd HA.out (by simp [hornbeamref18_Right.j0])
  | succ kj5 =>
   have H:=HA.out
   clear HA
   simp only [hornbeamref18_Right.j0] at H
   by_cases c9 : x23_5 = true
   ·subst c9
    have H1 : (some false) = some r:=by rw [if_pos rfl] at H;exact H
    clear H
    have H:=H1
    clear H1
    obtain rfl:=Option.some.inj H
    go_wp2
    go_ret
    exact ⟨by first|rfl|(simp [errW_none,errW_some] <;> rfl)|(simp [*,errW_none,errW_some] <;> rfl),by repeat(first|(with_reducible first|exact HB.out|apply below_alloc|apply pw_below_drewN|apply below_drew1)|exact HB.out)⟩
   ·replace c9:=Bool.eq_false_iff.mpr c9
    subst c9
    have H1 : (hornbeamref18_Right.l0 kj5 l0 a1 a2 a3 a4 0) = some r:=by rw [if_neg (show ¬ (false = true) by decide)] at H;exact H
    clear H
    have H:=H1
    clear H1
    have H':=Aside0.mk H
    clear H
    go_wp2
    go_loopg [11] kj5 (fun kq v11 w'=>∃ (x11_2 : Int),v11 = .int .i64 x11_2 ∧ Aside0 (hornbeamref18_Right.l0 kq l0 a1 a2 a3 a4 x11_2 = some r) ∧ Aside0 (kq ≤ kj5) ∧ Aside0 (Below w.heap.size w w'))
    case atStart=>exact ⟨(0),(by first|rfl|(simp;done)|(simp [*];done)),H',⟨Nat.le_refl _⟩,⟨by repeat(first|(with_reducible first|exact HB.out|apply below_alloc|apply pw_below_drewN|apply below_drew1)|exact HB.out)⟩⟩
    case round =>
     clear H'
     try clear p2
     try clear c4
     try clear c5
     try clear c8
     try clear c9
     try clear p2
     obtain ⟨x11_2,rfl,HA,HK2,HB⟩:=hrel
     cases gk with
     | zero=>exact absurd HA.out (by simp [hornbeamref18_Right.l0])
     | succ k2 =>
      have H:=HA.out
      clear HA
      simp only [hornbeamref18_Right.l0] at H
      by_cases c10 : x11_2 < (l0.length : Int)
      ·rw [if_pos c10] at H
       have c10b0 : decide (x11_2 < (l0.length : Int)) = true:=decide_eq_true c10
       clear c10
       by_cases c11 : 0 ≤ x11_2
       ·rw [if_pos c11] at H
        have c11b0 : decide (0 ≤ x11_2) = true:=decide_eq_true c11
        clear c11
        replace H:=Option.bind_eq_some_iff.mp H
        obtain ⟨t450,A120,H⟩:=H
        replace H : (if t450 = true then (hornbeamref18_Right.l0 k2 l0 a1 a2 a3 a4 (wrap64 (x11_2 + 1))) else (some false)) = some r:=H
        have A12:=Aside0.mk A120
        clear A120
        by_cases c13 : t450 = true
        ·subst c13
         have H1 : (hornbeamref18_Right.l0 k2 l0 a1 a2 a3 a4 (wrap64 (x11_2 + 1))) = some r:=by rw [if_pos rfl] at H;exact H
         clear H
         have H:=H1
         clear H1
         have H':=Aside0.mk H
         clear H
         have p449 : 0 ≤ (x11_2 : Int):=of_decide_eq_true (by first|(with_reducible assumption)|assumption)
         have q449 : x11_2 < (l0.length : Int):=of_decide_eq_true (by first|(with_reducible assumption)|assumption)
         obtain ⟨ad449,e449,hx449_0,hx449_1,hx449_2,hx449_3,hx449_4,hx449_5⟩:=at_T75 HR0.out x11_2 p449 q449
         cases e449
         replace hx449_0:=(HB.out.cell (World.block_lt_of_cell? w _ hx449_0)).trans hx449_0
         replace hx449_1:=(HB.out.cell (World.block_lt_of_cell? w _ hx449_1)).trans hx449_1
         replace hx449_2:=(HB.out.cell (World.block_lt_of_cell? w _ hx449_2)).trans hx449_2
         replace hx449_3:=(HB.out.cell (World.block_lt_of_cell? w _ hx449_3)).trans hx449_3
         replace hx449_4:=(HB.out.cell (World.block_lt_of_cell? w _ hx449_4)).trans hx449_4
         replace hx449_5:=(HB.out.cell (World.block_lt_of_cell? w _ hx449_5)).trans hx449_5
         replace p449:=eq_true p449
         replace q449:=eq_true q449
         go_wp2_with (first|((with_reducible refine gate_callee (f:=68) rfl ?_);refine goesL_ (some 38) rfl rfl Try.func68 (by kernel_rfl) rfl #[.agg #[.int .i64 ((rd_T75 l0 x11_2).f0),.int .i64 ((rd_T75 l0 x11_2).f1),.int .i64 ((rd_T75 l0 x11_2).f2),.int .i64 ((rd_T75 l0 x11_2).f3),.int .i64 ((rd_T75 l0 x11_2).f4),.int .i64 ((rd_T75 l0 x11_2).f5)],.int .i64 a1,.int .i64 a2,.int .i64 a3,.int .i64 a4] rfl (by (try simp only [List.map_toArray,List.map_cons,List.map_nil]);first|done|rfl|(simp only [List.length_drop,List.length_take];rfl)) ?_;(with_reducible refine (hornbeamref18_one.calls k2 ((rd_T75 l0 x11_2).f0) ((rd_T75 l0 x11_2).f1) ((rd_T75 l0 x11_2).f2) ((rd_T75 l0 x11_2).f3) ((rd_T75 l0 x11_2).f4) ((rd_T75 l0 x11_2).f5) a1 a2 a3 a4 true _ A12.out).mono ?_);rintro e w14 ⟨rfl,hb⟩;refine ⟨_,rfl,?_⟩;have n0_:=Aside0.mk (below_step (by repeat(first|(with_reducible first|exact HB.out|apply below_alloc|apply pw_below_drewN|apply below_drew1)|exact HB.out)) hb);clear HB;have HB:=n0_;clear n0_;(try clear hb);(try clear hb2);(try clear hk);(try clear hi)))
         go_roundg k2
         case measure=>have:=HJ5.out;have:=HK2.out;omega
         case rel=>exact ⟨(wrap64 (x11_2 + 1)),(by first|rfl|(simp;done)|(simp [*];done)),H',⟨by have:=HJ5.out;have:=HK2.out;omega⟩,⟨by repeat(first|(with_reducible first|exact HB.out|apply below_alloc|apply pw_below_drewN|apply below_drew1)|exact HB.out)⟩⟩
        ·replace c13:=Bool.eq_false_iff.mpr c13
         subst c13
         have H1 : (some false) = some r:=by rw [if_neg (show ¬ (false = true) by decide)] at H;exact H
         clear H
         have H:=H1
         clear H1
         obtain rfl:=Option.some.inj H
         have p449 : 0 ≤ (x11_2 : Int):=of_decide_eq_true (by first|(with_reducible assumption)|assumption)
         have q449 : x11_2 < (l0.length : Int):=of_decide_eq_true (by first|(with_reducible assumption)|assumption)
         obtain ⟨ad449,e449,hx449_0,hx449_1,hx449_2,hx449_3,hx449_4,hx449_5⟩:=at_T75 HR0.out x11_2 p449 q449
         cases e449
         replace hx449_0:=(HB.out.cell (World.block_lt_of_cell? w _ hx449_0)).trans hx449_0
         replace hx449_1:=(HB.out.cell (World.block_lt_of_cell? w _ hx449_1)).trans hx449_1
         replace hx449_2:=(HB.out.cell (World.block_lt_of_cell? w _ hx449_2)).trans hx449_2
         replace hx449_3:=(HB.out.cell (World.block_lt_of_cell? w _ hx449_3)).trans hx449_3
         replace hx449_4:=(HB.out.cell (World.block_lt_of_cell? w _ hx449_4)).trans hx449_4
         replace hx449_5:=(HB.out.cell (World.block_lt_of_cell? w _ hx449_5)).trans hx449_5
         replace p449:=eq_true p449
         replace q449:=eq_true q449
         go_wp2_with (first|((with_reducible refine gate_callee (f:=68) rfl ?_);refine goesL_ (some 38) rfl rfl Try.func68 (by kernel_rfl) rfl #[.agg #[.int .i64 ((rd_T75 l0 x11_2).f0),.int .i64 ((rd_T75 l0 x11_2).f1),.int .i64 ((rd_T75 l0 x11_2).f2),.int .i64 ((rd_T75 l0 x11_2).f3),.int .i64 ((rd_T75 l0 x11_2).f4),.int .i64 ((rd_T75 l0 x11_2).f5)],.int .i64 a1,.int .i64 a2,.int .i64 a3,.int .i64 a4] rfl (by (try simp only [List.map_toArray,List.map_cons,List.map_nil]);first|done|rfl|(simp only [List.length_drop,List.length_take];rfl)) ?_;(with_reducible refine (hornbeamref18_one.calls k2 ((rd_T75 l0 x11_2).f0) ((rd_T75 l0 x11_2).f1) ((rd_T75 l0 x11_2).f2) ((rd_T75 l0 x11_2).f3) ((rd_T75 l0 x11_2).f4) ((rd_T75 l0 x11_2).f5) a1 a2 a3 a4 false _ A12.out).mono ?_);rintro e w15 ⟨rfl,hb⟩;refine ⟨_,rfl,?_⟩;have n0_:=Aside0.mk (below_step (by repeat(first|(with_reducible first|exact HB.out|apply below_alloc|apply pw_below_drewN|apply below_drew1)|exact HB.out)) hb);clear HB;have HB:=n0_;clear n0_;(try clear hb);(try clear hb2);(try clear hk);(try clear hi)))
         go_ret
         exact ⟨by first|rfl|(simp [errW_none,errW_some] <;> rfl)|(simp [*,errW_none,errW_some] <;> rfl),by repeat(first|(with_reducible first|exact HB.out|apply below_alloc|apply pw_below_drewN|apply below_drew1)|exact HB.out)⟩
       ·rw [if_neg c11] at H
        exact absurd H (by simp)
      ·rw [if_neg c10] at H
       have c10b0 : decide (x11_2 < (l0.length : Int)) = false:=decide_eq_false c10
       clear c10
       replace H:=Option.bind_eq_some_iff.mp H
       obtain ⟨t451,A160,H⟩:=H
       replace H : (if t451 ≥ 0 then (some (decide (t451 ≤ 32))) else (some false)) = some r:=H
       have A16:=Aside0.mk A160
       clear A160
       by_cases c17 : t451 ≥ 0
       ·rw [if_pos c17] at H
        have c17b0 : decide (0 ≤ t451) = true:=decide_eq_true c17
        clear c17
        obtain rfl:=Option.some.inj H
        go_wp2_with (first|((with_reducible refine gate_callee (f:=44) rfl ?_);refine goesL_ (some 41) rfl rfl Try.func44 (by kernel_rfl) rfl #[.slice A0 l0.length c0] rfl (by (try simp only [List.map_toArray,List.map_cons,List.map_nil]);first|done|rfl|(simp only [List.length_drop,List.length_take];rfl)) ?_;(with_reducible refine (hornbeamref18_Deep.calls k2 _ _ l0 t451 _ ?side1 ?side2 A16.out).mono ?_);(case side1=>repeat(first|exact (Kd.C_below HR0.out HB.out)|(with_reducible refine Kd.C_alloc ?_ _)|(with_reducible refine Kd.C_drewN ?_ _)|(with_reducible refine Kd.C_drew ?_)));(case side2=>exact HC0.out);rintro e w18 ⟨rfl,hb⟩;refine ⟨_,rfl,?_⟩;have n0_:=Aside0.mk (below_step (by repeat(first|(with_reducible first|exact HB.out|apply below_alloc|apply pw_below_drewN|apply below_drew1)|exact HB.out)) hb);clear HB;have HB:=n0_;clear n0_;(try clear hb);(try clear hb2);(try clear hk);(try clear hi)))
        go_ret
        exact ⟨by first|rfl|(simp [errW_none,errW_some] <;> rfl)|(simp [*,errW_none,errW_some] <;> rfl),by repeat(first|(with_reducible first|exact HB.out|apply below_alloc|apply pw_below_drewN|apply below_drew1)|exact HB.out)⟩
       ·rw [if_neg c17] at H
        have c17b0 : decide (0 ≤ t451) = false:=decide_eq_false c17
        clear c17
        obtain rfl:=Option.some.inj H
        go_wp2_with (first|((with_reducible refine gate_callee (f:=44) rfl ?_);refine goesL_ (some 41) rfl rfl Try.func44 (by kernel_rfl) rfl #[.slice A0 l0.length c0] rfl (by (try simp only [List.map_toArray,List.map_cons,List.map_nil]);first|done|rfl|(simp only [List.length_drop,List.length_take];rfl)) ?_;(with_reducible refine (hornbeamref18_Deep.calls k2 _ _ l0 t451 _ ?side1 ?side2 A16.out).mono ?_);(case side1=>repeat(first|exact (Kd.C_below HR0.out HB.out)|(with_reducible refine Kd.C_alloc ?_ _)|(with_reducible refine Kd.C_drewN ?_ _)|(with_reducible refine Kd.C_drew ?_)));(case side2=>exact HC0.out);rintro e w19 ⟨rfl,hb⟩;refine ⟨_,rfl,?_⟩;have n0_:=Aside0.mk (below_step (by repeat(first|(with_reducible first|exact HB.out|apply below_alloc|apply pw_below_drewN|apply below_drew1)|exact HB.out)) hb);clear HB;have HB:=n0_;clear n0_;(try clear hb);(try clear hb2);(try clear hk);(try clear hi)))
        go_ret
        exact ⟨by first|rfl|(simp [errW_none,errW_some] <;> rfl)|(simp [*,errW_none,errW_some] <;> rfl),by repeat(first|(with_reducible first|exact HB.out|apply below_alloc|apply pw_below_drewN|apply below_drew1)|exact HB.out)⟩

end Go.Proofs.Ytebbnjgaikppgaa.PA
