import Derived.Test.YtnagfbadjbkhmaaPAx0
namespace Go.Proofs.Ytnagfbadjbkhmaa.PA
open Go.RowKit Go.Proofs.YtnagfbadjbkhmaaW.PrintWords Go.Proofs.YtnagfbadjbkhmaaW.PrintLast Go.Proofs.YtnagfbadjbkhmaaW.PrintMore
attribute [local go_sem] max2_int min2_int max_two min_two max_three min_three max_four min_four   -- for this text's walks alone
attribute [local go_sem high] Flt.fold_eq Flt.fold_ne Flt.fold_lt Flt.fold_gt Flt.fold_le Flt.fold_ge Flt.run_bits Flt.run_frombits
set_option linter.unusedVariables false
set_option linter.unusedSimpArgs false

/-! ### hornbeamref11_Permutes: function 36 -/
mutual
def hornbeamref11_Permutes.l0 : Nat → List Int → Int → Int → Option (Bool)
 | 0,_,_,_=>none
 | k + 1,x0,x1,x5=>if x5 < x1 then (hornbeamref11_Permutes.l1 k x0 x1 x5 0 0) else (some true)
def hornbeamref11_Permutes.l1 : Nat → List Int → Int → Int → Int → Int → Option (Bool)
 | 0,_,_,_,_,_=>none
 | k + 1,x0,x1,x5,x6,x7=>if x7 < x1 then (if 0 ≤ x7 then (if x7 < (x0.length : Int) then (if (rd x0 x7) = x5 then (hornbeamref11_Permutes.l1 k x0 x1 x5 (wrap64 (x6 + 1)) (wrap64 (x7 + 1))) else (hornbeamref11_Permutes.l1 k x0 x1 x5 x6 (wrap64 (x7 + 1)))) else (none)) else (none)) else (if x6 = 1 then (hornbeamref11_Permutes.l0 k x0 x1 (wrap64 (x5 + 1))) else (some false))
end
def hornbeamref11_Permutes.f (k : Nat) (l0 : List Int) (a1 : Int) : Option (Bool):=if (l0.length : Int) = a1 then (hornbeamref11_Permutes.l0 k l0 a1 0) else (some false)
theorem hornbeamref11_Permutes.mono_l : ∀ k,(∀ y0 y1 y2,LeO (hornbeamref11_Permutes.l0 k y0 y1 y2) (hornbeamref11_Permutes.l0 (k + 1) y0 y1 y2)) ∧ (∀ y0 y1 y2 y3 y4,LeO (hornbeamref11_Permutes.l1 k y0 y1 y2 y3 y4) (hornbeamref11_Permutes.l1 (k + 1) y0 y1 y2 y3 y4))
 | 0=>⟨fun _ _ _ r h=>by simp [hornbeamref11_Permutes.l0] at h,fun _ _ _ _ _ r h=>by simp [hornbeamref11_Permutes.l1] at h⟩
 | k + 1=>by
  obtain ⟨ih0,ih1⟩:=hornbeamref11_Permutes.mono_l k
  refine ⟨?_,?_⟩
  ·intro y0 y1 y2
   unfold hornbeamref11_Permutes.l0
   repeat' first
   | (with_reducible exact ih0 _ _ _)
   | (with_reducible exact ih1 _ _ _ _ _)
   | (with_reducible exact LeO.refl _)
   | (with_reducible exact LeO.none _)
   | (with_reducible refine LeO.ite ?_ ?_)
   | (with_reducible refine LeO.bind ?_ (fun _=>?_))
   | exact ih0 _ _ _
   | exact ih1 _ _ _ _ _
   | exact LeO.none _
   | refine LeO.ite ?_ ?_
   | refine LeO.bind ?_ (fun _=>?_)
  ·intro y0 y1 y2 y3 y4
   unfold hornbeamref11_Permutes.l1
   repeat' first
   | (with_reducible exact ih0 _ _ _)
   | (with_reducible exact ih1 _ _ _ _ _)
   | (with_reducible exact LeO.refl _)
   | (with_reducible exact LeO.none _)
   | (with_reducible refine LeO.ite ?_ ?_)
   | (with_reducible refine LeO.bind ?_ (fun _=>?_))
   | exact ih0 _ _ _
   | exact ih1 _ _ _ _ _
   | exact LeO.none _
   | refine LeO.ite ?_ ?_
   | refine LeO.bind ?_ (fun _=>?_)
theorem hornbeamref11_Permutes.mono : ∀ a0 a1 k,LeO (hornbeamref11_Permutes.f k a0 a1) (hornbeamref11_Permutes.f (k + 1) a0 a1):=by
 intro a0 a1 k
 obtain ⟨ih0,ih1⟩:=hornbeamref11_Permutes.mono_l k
 unfold hornbeamref11_Permutes.f
 repeat' first
   | (with_reducible exact ih0 _ _ _)
   | (with_reducible exact ih1 _ _ _ _ _)
   | (with_reducible exact LeO.refl _)
   | (with_reducible exact LeO.none _)
   | (with_reducible refine LeO.ite ?_ ?_)
   | (with_reducible refine LeO.bind ?_ (fun _=>?_))
   | exact ih0 _ _ _
   | exact ih1 _ _ _ _ _
   | exact LeO.none _
   | refine LeO.ite ?_ ?_
   | refine LeO.bind ?_ (fun _=>?_)
set_option maxHeartbeats 8000000 in
set_option maxRecDepth 100000 in
theorem hornbeamref11_Permutes.calls (k : Nat) (A0 : Option Addr) (c0 : Nat) (l0 : List Int) (a1 : Int) (r : Bool) (w : World) (hr0 : Kd.C (Kd.int .i64) w A0 l0.length l0) (hc0 : l0.length ≤ c0) (h : hornbeamref11_Permutes.f k l0 a1 = some r) :
  Calls Try.prog 36 #[.slice A0 l0.length c0,.int .i64 a1] w fun e w'=>e = .returned (.bool r) ∧ Drawn0 w w':=by
 have HR0:=Aside0.mk hr0
 have HC0:=Aside0.mk hc0
 clear hr0 hc0
 have H : (if (l0.length : Int) = a1 then (hornbeamref11_Permutes.l0 k l0 a1 0) else (some false)) = some r:=h
 clear h
 by_cases c3 : (l0.length : Int) = a1
 ·rw [if_pos c3] at H
  have c3b0 : ((l0.length : Int) == a1) = true:=beq_iff_eq.mpr c3
  have c3b1 : ((l0.length : Int) != a1) = false:=bne_eq_false_iff_eq.mpr c3
  clear c3
  have H':=Aside0.mk H
  clear H
  go_enter Try.func36,Try.ntmps36
  go_wp2
  go_loopg [5] k (fun kq v5 w'=>∃ (x5_1 : Int),v5 = .int .i64 x5_1 ∧ Aside0 (hornbeamref11_Permutes.l0 kq l0 a1 x5_1 = some r) ∧ Aside0 (kq ≤ k) ∧ Drawn0 w w')
  case atStart=>exact ⟨(0),(by first|rfl|(simp;done)|(simp [*];done)),H',⟨Nat.le_refl _⟩,by repeat(first|exact Drawn0.refl _|apply Drawn0.step)⟩
  case round =>
   clear H'
   try clear p2
   try clear c3
   try clear c3b0
   try clear c3b1
   obtain ⟨x5_1,rfl,HA,HK1,⟨m1,rfl⟩⟩:=hrel
   cases gk with
   | zero=>exact absurd HA.out (by simp [hornbeamref11_Permutes.l0])
   | succ k1 =>
    have H:=HA.out
    clear HA
    simp only [hornbeamref11_Permutes.l0] at H
    by_cases c4 : x5_1 < a1
    ·rw [if_pos c4] at H
     have c4b0 : decide (x5_1 < a1) = true:=decide_eq_true c4
     clear c4
     have H':=Aside0.mk H
     clear H
     go_wp2
     go_loopg [6,7] k1 (fun kq v6 v7 w'=>∃ (x6_2 : Int) (x7_2 : Int),v6 = .int .i64 x6_2 ∧ v7 = .int .i64 x7_2 ∧ Aside0 (hornbeamref11_Permutes.l1 kq l0 a1 x5_1 x6_2 x7_2 = some r) ∧ Aside0 (kq ≤ k1) ∧ Drawn0 w w')
     case atStart=>exact ⟨(0),(0),(by first|rfl|(simp;done)|(simp [*];done)),(by first|rfl|(simp;done)|(simp [*];done)),H',⟨Nat.le_refl _⟩,by repeat(first|exact Drawn0.refl _|apply Drawn0.step)⟩
     case round =>
      clear H'
      try clear p2
      try clear c3
      try clear c3b0
      try clear c3b1
      try clear c4
      try clear c4b0
      try clear p2
      obtain ⟨x6_2,x7_2,rfl,rfl,HA,HK2,⟨m2,rfl⟩⟩:=hrel
      cases gk with
      | zero=>exact absurd HA.out (by simp [hornbeamref11_Permutes.l1])
      | succ k2 =>
       have H:=HA.out
       clear HA
       simp only [hornbeamref11_Permutes.l1] at H
       by_cases c5 : x7_2 < a1
       ·rw [if_pos c5] at H
        have c5b0 : decide (x7_2 < a1) = true:=decide_eq_true c5
        clear c5
        by_cases c6 : 0 ≤ x7_2
        ·rw [if_pos c6] at H
         have c6b0 : decide (0 ≤ x7_2) = true:=decide_eq_true c6
         clear c6
         by_cases c7 : x7_2 < (l0.length : Int)
         ·rw [if_pos c7] at H
          have c7b0 : decide (x7_2 < (l0.length : Int)) = true:=decide_eq_true c7
          clear c7
          by_cases c8 : (rd l0 x7_2) = x5_1
          ·rw [if_pos c8] at H
           have c8b0 : ((rd l0 x7_2) == x5_1) = true:=beq_iff_eq.mpr c8
           have c8b1 : ((rd l0 x7_2) != x5_1) = false:=bne_eq_false_iff_eq.mpr c8
           clear c8
           have H':=Aside0.mk H
           clear H
           have p664 : 0 ≤ (x7_2 : Int):=of_decide_eq_true (by first|(with_reducible assumption)|assumption)
           have q664 : x7_2 < (l0.length : Int):=of_decide_eq_true (by first|(with_reducible assumption)|assumption)
           obtain ⟨ad664,e664,hx664_0⟩:=Kd.at_int HR0.out x7_2 p664 q664
           cases e664
           replace p664:=eq_true p664
           replace q664:=eq_true q664
           go_wp2
           go_roundg k2
           case measure=>have:=HK1.out;have:=HK2.out;omega
           case rel=>exact ⟨(wrap64 (x6_2 + 1)),(wrap64 (x7_2 + 1)),(by first|rfl|(simp;done)|(simp [*];done)),(by first|rfl|(simp;done)|(simp [*];done)),H',⟨by have:=HK1.out;have:=HK2.out;omega⟩,by repeat(first|exact Drawn0.refl _|apply Drawn0.step)⟩
          ·rw [if_neg c8] at H
           have c8b0 : ((rd l0 x7_2) == x5_1) = false:=beq_eq_false_iff_ne.mpr c8
           have c8b1 : ((rd l0 x7_2) != x5_1) = true:=bne_iff_ne.mpr c8
           have H':=Aside0.mk H
           clear H
           have p664 : 0 ≤ (x7_2 : Int):=of_decide_eq_true (by first|(with_reducible assumption)|assumption)
           have q664 : x7_2 < (l0.length : Int):=of_decide_eq_true (by first|(with_reducible assumption)|assumption)
           obtain ⟨ad664,e664,hx664_0⟩:=Kd.at_int HR0.out x7_2 p664 q664
           cases e664
           replace p664:=eq_true p664
           replace q664:=eq_true q664
           go_wp2
           go_roundg k2
           case measure=>have:=HK1.out;have:=HK2.out;omega
           case rel=>exact ⟨(x6_2),(wrap64 (x7_2 + 1)),(by first|rfl|(simp;done)|(simp [*];done)),(by first|rfl|(simp;done)|(simp [*];done)),H',⟨by have:=HK1.out;have:=HK2.out;omega⟩,by repeat(first|exact Drawn0.refl _|apply Drawn0.step)⟩
         ·rw [if_neg c7] at H
          exact absurd H (by simp)
        ·rw [if_neg c6] at H
         exact absurd H (by simp)
       ·rw [if_neg c5] at H
        have c5b0 : decide (x7_2 < a1) = false:=decide_eq_false c5
        clear c5
        by_cases c9 : x6_2 = 1
        ·rw [if_pos c9] at H
         have c9b0 : (x6_2 == 1) = true:=beq_iff_eq.mpr c9
         have c9b1 : (x6_2 != 1) = false:=bne_eq_false_iff_eq.mpr c9
         clear c9
         have H':=Aside0.mk H
         clear H
         go_wp2
         go_roundg k2
         case measure=>have:=HK1.out;have:=HK2.out;omega
         case rel=>exact ⟨(wrap64 (x5_1 + 1)),(by first|rfl|(simp;done)|(simp [*];done)),H',⟨by have:=HK1.out;have:=HK2.out;omega⟩,by repeat(first|exact Drawn0.refl _|apply Drawn0.step)⟩
        ·rw [if_neg c9] at H
         have c9b0 : (x6_2 == 1) = false:=beq_eq_false_iff_ne.mpr c9
         have c9b1 : (x6_2 != 1) = true:=bne_iff_ne.mpr c9
         obtain rfl:=Option.some.inj H
         go_wp2
         go_ret
         exact ⟨by first|rfl|(simp;done)|(simp [*];done),by repeat(first|exact Drawn0.refl _|apply Drawn0.step)⟩
    ·rw [if_neg c4] at H
     have c4b0 : decide (x5_1 < a1) = false:=decide_eq_false c4
     clear c4
     obtain rfl:=Option.some.inj H
     go_wp2
     go_ret
     exact ⟨by first|rfl|(simp;done)|(simp [*];done),by repeat(first|exact Drawn0.refl _|apply Drawn0.step)⟩
 ·rw [if_neg c3] at H
  have c3b0 : ((l0.length : Int) == a1) = false:=beq_eq_false_iff_ne.mpr c3
  have c3b1 : ((l0.length : Int) != a1) = true:=bne_iff_ne.mpr c3
  obtain rfl:=Option.some.inj H
  go_enter Try.func36,Try.ntmps36
  go_wp2
  go_ret
  exact ⟨by first|rfl|(simp;done)|(simp [*];done),by repeat(first|exact Drawn0.refl _|apply Drawn0.step)⟩

end Go.Proofs.Ytnagfbadjbkhmaa.PA
