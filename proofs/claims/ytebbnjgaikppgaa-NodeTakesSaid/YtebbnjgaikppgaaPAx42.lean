import Derived.Test.YtebbnjgaikppgaaPAx0
namespace Go.Proofs.Ytebbnjgaikppgaa.PA
open Go.RowKit Go.Proofs.YtebbnjgaikppgaaW.PrintWords Go.Proofs.YtebbnjgaikppgaaW.PrintLast Go.Proofs.YtebbnjgaikppgaaW.PrintMore
attribute [local go_sem] max2_int min2_int max_two min_two max_three min_three max_four min_four   -- for this text's walks alone
attribute [local go_sem high] Flt.fold_eq Flt.fold_ne Flt.fold_lt Flt.fold_gt Flt.fold_le Flt.fold_ge Flt.run_bits Flt.run_frombits
set_option linter.unusedVariables false
set_option linter.unusedSimpArgs false

/-! ### hornbeamref18_parent: function 69 -/
def hornbeamref18_parent.l0 : Nat → List (S75) → Int → Int → Option (Int)
 | 0,_,_,_=>none
 | k + 1,x0,x1,x5=>if x5 < x1 then (if 0 ≤ x5 then (if x5 < (x0.length : Int) then (if ((rd_T75 x0 x5).f0) ≥ 0 then (if ((rd_T75 x0 x5).f2) = x1 then (some x5) else (if (wrap64 (((rd_T75 x0 x5).f2) + 1)) = x1 then (some x5) else (hornbeamref18_parent.l0 k x0 x1 (wrap64 (x5 + 1))))) else (hornbeamref18_parent.l0 k x0 x1 (wrap64 (x5 + 1)))) else (none)) else (none)) else (some (-1))
def hornbeamref18_parent.f (k : Nat) (l0 : List (S75)) (a1 : Int) : Option (Int):=hornbeamref18_parent.l0 k l0 a1 0
theorem hornbeamref18_parent.mono_l : ∀ k,(∀ y0 y1 y2,LeO (hornbeamref18_parent.l0 k y0 y1 y2) (hornbeamref18_parent.l0 (k + 1) y0 y1 y2))
 | 0=>fun _ _ _ r h=>by simp [hornbeamref18_parent.l0] at h
 | k + 1=>by
  have ih0:=hornbeamref18_parent.mono_l k
  ·intro y0 y1 y2
   unfold hornbeamref18_parent.l0
   repeat' first
   | (with_reducible exact ih0 _ _ _)
   | (with_reducible exact LeO.refl _)
   | (with_reducible exact LeO.none _)
   | (with_reducible refine LeO.ite ?_ ?_)
   | (with_reducible refine LeO.bind ?_ (fun _=>?_))
   | exact ih0 _ _ _
   | exact LeO.none _
   | refine LeO.ite ?_ ?_
   | refine LeO.bind ?_ (fun _=>?_)
theorem hornbeamref18_parent.mono : ∀ a0 a1 k,LeO (hornbeamref18_parent.f k a0 a1) (hornbeamref18_parent.f (k + 1) a0 a1):=by
 intro a0 a1 k
 have ih0:=hornbeamref18_parent.mono_l k
 unfold hornbeamref18_parent.f
 repeat' first
   | (with_reducible exact ih0 _ _ _)
   | (with_reducible exact LeO.refl _)
   | (with_reducible exact LeO.none _)
   | (with_reducible refine LeO.ite ?_ ?_)
   | (with_reducible refine LeO.bind ?_ (fun _=>?_))
   | exact ih0 _ _ _
   | exact LeO.none _
   | refine LeO.ite ?_ ?_
   | refine LeO.bind ?_ (fun _=>?_)
set_option maxHeartbeats 8000000 in
set_option maxRecDepth 100000 in
theorem hornbeamref18_parent.calls (k : Nat) (A0 : Option Addr) (c0 : Nat) (l0 : List (S75)) (a1 : Int) (r : Int) (w : World) (hr0 : Kd.C k75 w A0 l0.length l0) (hc0 : l0.length ≤ c0) (h : hornbeamref18_parent.f k l0 a1 = some r) :
  Calls Try.prog 69 #[.slice A0 l0.length c0,.int .i64 a1] w fun e w'=>e = .returned (.int .i64 r) ∧ Drawn0 w w':=by
 have HR0:=Aside0.mk hr0
 have HC0:=Aside0.mk hc0
 clear hr0 hc0
 have H : (hornbeamref18_parent.l0 k l0 a1 0) = some r:=h
 clear h
 have H':=Aside0.mk H
 clear H
 go_enter Try.func69,Try.ntmps69
 go_wp2
 go_loopg [5] k (fun kq v5 w'=>∃ (x5_1 : Int),v5 = .int .i64 x5_1 ∧ Aside0 (hornbeamref18_parent.l0 kq l0 a1 x5_1 = some r) ∧ Aside0 (kq ≤ k) ∧ Drawn0 w w')
 case atStart=>exact ⟨(0),(by first|rfl|(simp;done)|(simp [*];done)),H',⟨Nat.le_refl _⟩,by repeat(first|exact Drawn0.refl _|apply Drawn0.step)⟩
 case round =>
  clear H'
  try clear p2
  obtain ⟨x5_1,rfl,HA,HK1,⟨m1,rfl⟩⟩:=hrel
  cases gk with
  | zero=>exact absurd HA.out (by simp [hornbeamref18_parent.l0])
  | succ k1 =>
   have H:=HA.out
   clear HA
   simp only [hornbeamref18_parent.l0] at H
   by_cases c3 : x5_1 < a1
   ·rw [if_pos c3] at H
    have c3b0 : decide (x5_1 < a1) = true:=decide_eq_true c3
    clear c3
    by_cases c4 : 0 ≤ x5_1
    ·rw [if_pos c4] at H
     have c4b0 : decide (0 ≤ x5_1) = true:=decide_eq_true c4
     clear c4
     by_cases c5 : x5_1 < (l0.length : Int)
     ·rw [if_pos c5] at H
      have c5b0 : decide (x5_1 < (l0.length : Int)) = true:=decide_eq_true c5
      clear c5
      by_cases c6 : ((rd_T75 l0 x5_1).f0) ≥ 0
      ·rw [if_pos c6] at H
       have c6b0 : decide (0 ≤ ((rd_T75 l0 x5_1).f0)) = true:=decide_eq_true c6
       clear c6
       by_cases c7 : ((rd_T75 l0 x5_1).f2) = a1
       ·rw [if_pos c7] at H
        have c7b0 : (((rd_T75 l0 x5_1).f2) == a1) = true:=beq_iff_eq.mpr c7
        have c7b1 : (((rd_T75 l0 x5_1).f2) != a1) = false:=bne_eq_false_iff_eq.mpr c7
        clear c7
        obtain rfl:=Option.some.inj H
        have p430 : 0 ≤ (x5_1 : Int):=of_decide_eq_true (by first|(with_reducible assumption)|assumption)
        have q430 : x5_1 < (l0.length : Int):=of_decide_eq_true (by first|(with_reducible assumption)|assumption)
        obtain ⟨ad430,e430,hx430_0,hx430_1,hx430_2,hx430_3,hx430_4,hx430_5⟩:=at_T75 HR0.out x5_1 p430 q430
        cases e430
        replace p430:=eq_true p430
        replace q430:=eq_true q430
        have p431 : 0 ≤ (x5_1 : Int):=of_decide_eq_true (by first|(with_reducible assumption)|assumption)
        have q431 : x5_1 < (l0.length : Int):=of_decide_eq_true (by first|(with_reducible assumption)|assumption)
        obtain ⟨ad431,e431,hx431_0,hx431_1,hx431_2,hx431_3,hx431_4,hx431_5⟩:=at_T75 HR0.out x5_1 p431 q431
        obtain rfl : ad430 = ad431:=(by injection e431)
        replace p431:=eq_true p431
        replace q431:=eq_true q431
        go_wp2
        go_ret
        exact ⟨by first|rfl|(simp;done)|(simp [*];done),by repeat(first|exact Drawn0.refl _|apply Drawn0.step)⟩
       ·rw [if_neg c7] at H
        have c7b0 : (((rd_T75 l0 x5_1).f2) == a1) = false:=beq_eq_false_iff_ne.mpr c7
        have c7b1 : (((rd_T75 l0 x5_1).f2) != a1) = true:=bne_iff_ne.mpr c7
        by_cases c8 : (wrap64 (((rd_T75 l0 x5_1).f2) + 1)) = a1
        ·rw [if_pos c8] at H
         have c8b0 : ((wrap64 (((rd_T75 l0 x5_1).f2) + 1)) == a1) = true:=beq_iff_eq.mpr c8
         have c8b1 : ((wrap64 (((rd_T75 l0 x5_1).f2) + 1)) != a1) = false:=bne_eq_false_iff_eq.mpr c8
         clear c8
         obtain rfl:=Option.some.inj H
         have p430 : 0 ≤ (x5_1 : Int):=of_decide_eq_true (by first|(with_reducible assumption)|assumption)
         have q430 : x5_1 < (l0.length : Int):=of_decide_eq_true (by first|(with_reducible assumption)|assumption)
         obtain ⟨ad430,e430,hx430_0,hx430_1,hx430_2,hx430_3,hx430_4,hx430_5⟩:=at_T75 HR0.out x5_1 p430 q430
         cases e430
         replace p430:=eq_true p430
         replace q430:=eq_true q430
         have p431 : 0 ≤ (x5_1 : Int):=of_decide_eq_true (by first|(with_reducible assumption)|assumption)
         have q431 : x5_1 < (l0.length : Int):=of_decide_eq_true (by first|(with_reducible assumption)|assumption)
         obtain ⟨ad431,e431,hx431_0,hx431_1,hx431_2,hx431_3,hx431_4,hx431_5⟩:=at_T75 HR0.out x5_1 p431 q431
         obtain rfl : ad430 = ad431:=(by injection e431)
         replace p431:=eq_true p431
         replace q431:=eq_true q431
         have p432 : 0 ≤ (x5_1 : Int):=of_decide_eq_true (by first|(with_reducible assumption)|assumption)
         have q432 : x5_1 < (l0.length : Int):=of_decide_eq_true (by first|(with_reducible assumption)|assumption)
         obtain ⟨ad432,e432,hx432_0,hx432_1,hx432_2,hx432_3,hx432_4,hx432_5⟩:=at_T75 HR0.out x5_1 p432 q432
         obtain rfl : ad430 = ad432:=(by injection e432)
         replace p432:=eq_true p432
         replace q432:=eq_true q432
         go_wp2
         go_ret
         exact ⟨by first|rfl|(simp;done)|(simp [*];done),by repeat(first|exact Drawn0.refl _|apply Drawn0.step)⟩
        ·rw [if_neg c8] at H
         have c8b0 : ((wrap64 (((rd_T75 l0 x5_1).f2) + 1)) == a1) = false:=beq_eq_false_iff_ne.mpr c8
         have c8b1 : ((wrap64 (((rd_T75 l0 x5_1).f2) + 1)) != a1) = true:=bne_iff_ne.mpr c8
         have H':=Aside0.mk H
         clear H
         have p430 : 0 ≤ (x5_1 : Int):=of_decide_eq_true (by first|(with_reducible assumption)|assumption)
         have q430 : x5_1 < (l0.length : Int):=of_decide_eq_true (by first|(with_reducible assumption)|assumption)
         obtain ⟨ad430,e430,hx430_0,hx430_1,hx430_2,hx430_3,hx430_4,hx430_5⟩:=at_T75 HR0.out x5_1 p430 q430
         cases e430
         replace p430:=eq_true p430
         replace q430:=eq_true q430
         have p431 : 0 ≤ (x5_1 : Int):=of_decide_eq_true (by first|(with_reducible assumption)|assumption)
         have q431 : x5_1 < (l0.length : Int):=of_decide_eq_true (by first|(with_reducible assumption)|assumption)
         obtain ⟨ad431,e431,hx431_0,hx431_1,hx431_2,hx431_3,hx431_4,hx431_5⟩:=at_T75 HR0.out x5_1 p431 q431
         obtain rfl : ad430 = ad431:=(by injection e431)
         replace p431:=eq_true p431
         replace q431:=eq_true q431
         have p432 : 0 ≤ (x5_1 : Int):=of_decide_eq_true (by first|(with_reducible assumption)|assumption)
         have q432 : x5_1 < (l0.length : Int):=of_decide_eq_true (by first|(with_reducible assumption)|assumption)
         obtain ⟨ad432,e432,hx432_0,hx432_1,hx432_2,hx432_3,hx432_4,hx432_5⟩:=at_T75 HR0.out x5_1 p432 q432
         obtain rfl : ad430 = ad432:=(by injection e432)
         replace p432:=eq_true p432
         replace q432:=eq_true q432
         go_wp2
         go_roundg k1
         case measure=>have:=HK1.out;omega
         case rel=>exact ⟨(wrap64 (x5_1 + 1)),(by first|rfl|(simp;done)|(simp [*];done)),H',⟨by have:=HK1.out;omega⟩,by repeat(first|exact Drawn0.refl _|apply Drawn0.step)⟩
      ·rw [if_neg c6] at H
       have c6b0 : decide (0 ≤ ((rd_T75 l0 x5_1).f0)) = false:=decide_eq_false c6
       clear c6
       have H':=Aside0.mk H
       clear H
       have p430 : 0 ≤ (x5_1 : Int):=of_decide_eq_true (by first|(with_reducible assumption)|assumption)
       have q430 : x5_1 < (l0.length : Int):=of_decide_eq_true (by first|(with_reducible assumption)|assumption)
       obtain ⟨ad430,e430,hx430_0,hx430_1,hx430_2,hx430_3,hx430_4,hx430_5⟩:=at_T75 HR0.out x5_1 p430 q430
       cases e430
       replace p430:=eq_true p430
       replace q430:=eq_true q430
       go_wp2
       go_roundg k1
       case measure=>have:=HK1.out;omega
       case rel=>exact ⟨(wrap64 (x5_1 + 1)),(by first|rfl|(simp;done)|(simp [*];done)),H',⟨by have:=HK1.out;omega⟩,by repeat(first|exact Drawn0.refl _|apply Drawn0.step)⟩
     ·rw [if_neg c5] at H
      exact absurd H (by simp)
    ·rw [if_neg c4] at H
     exact absurd H (by simp)
   ·rw [if_neg c3] at H
    have c3b0 : decide (x5_1 < a1) = false:=decide_eq_false c3
    clear c3
    obtain rfl:=Option.some.inj H
    go_wp2
    go_ret
    exact ⟨by first|rfl|(simp;done)|(simp [*];done),by repeat(first|exact Drawn0.refl _|apply Drawn0.step)⟩

end Go.Proofs.Ytebbnjgaikppgaa.PA
