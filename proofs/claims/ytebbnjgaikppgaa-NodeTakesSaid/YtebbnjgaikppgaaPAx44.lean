import Derived.Test.YtebbnjgaikppgaaPAx0
namespace Go.Proofs.Ytebbnjgaikppgaa.PA
open Go.RowKit Go.Proofs.YtebbnjgaikppgaaW.PrintWords Go.Proofs.YtebbnjgaikppgaaW.PrintLast Go.Proofs.YtebbnjgaikppgaaW.PrintMore
attribute [local go_sem] max2_int min2_int max_two min_two max_three min_three max_four min_four   -- for this text's walks alone
attribute [local go_sem high] Flt.fold_eq Flt.fold_ne Flt.fold_lt Flt.fold_gt Flt.fold_le Flt.fold_ge Flt.run_bits Flt.run_frombits
set_option linter.unusedVariables false
set_option linter.unusedSimpArgs false

/-! ### hornbeamref18_May: function 51 -/
def hornbeamref18_May.j0 : Nat → Int → Int → Bool → Option (Bool)
 | 0,_,_,_=>none
 | k + 1,x2,x3,x22=>if x22 = true then (some false) else (if x2 = 0 then (if x3 ≥ 2 then (some (decide (x3 ≤ 256))) else (some false)) else (if x2 = 1 then (some (x3 == 0)) else (some false)))
def hornbeamref18_May.f (k : Nat) (a0 : Int) (a1 : Int) (a2 : Int) (a3 : Int) : Option (Bool):=if a0 < 1 then (hornbeamref18_May.j0 k a2 a3 true) else (if a0 > 1024 then (hornbeamref18_May.j0 k a2 a3 true) else (if a1 < 2 then (hornbeamref18_May.j0 k a2 a3 true) else (hornbeamref18_May.j0 k a2 a3 (decide (a1 > 256)))))
theorem hornbeamref18_May.mono_l : ∀ k,(∀ y0 y1 y2,LeO (hornbeamref18_May.j0 k y0 y1 y2) (hornbeamref18_May.j0 (k + 1) y0 y1 y2))
 | 0=>fun _ _ _ r h=>by simp [hornbeamref18_May.j0] at h
 | k + 1=>by
  have ih0:=hornbeamref18_May.mono_l k
  ·intro y0 y1 y2
   unfold hornbeamref18_May.j0
   repeat' first
   | (with_reducible exact ih0 _ _ _)
   | (with_reducible exact LeO.refl _)
   | (with_reducible exact LeO.none _)
   | (with_reducible refine LeO.ite ?_ ?_)
   | (with_reducible refine LeO.bind ?_ (fun _=>?_))
   | exact ih0 _ _ _
   | exact LeO.none _
   | refine LeO.ite ?_ ?_
   | refine LeO.bind ?_ (fun _=>?_)
theorem hornbeamref18_May.mono : ∀ a0 a1 a2 a3 k,LeO (hornbeamref18_May.f k a0 a1 a2 a3) (hornbeamref18_May.f (k + 1) a0 a1 a2 a3):=by
 intro a0 a1 a2 a3 k
 have ih0:=hornbeamref18_May.mono_l k
 unfold hornbeamref18_May.f
 repeat' first
   | (with_reducible exact ih0 _ _ _)
   | (with_reducible exact LeO.refl _)
   | (with_reducible exact LeO.none _)
   | (with_reducible refine LeO.ite ?_ ?_)
   | (with_reducible refine LeO.bind ?_ (fun _=>?_))
   | exact ih0 _ _ _
   | exact LeO.none _
   | refine LeO.ite ?_ ?_
   | refine LeO.bind ?_ (fun _=>?_)
set_option maxHeartbeats 8000000 in
set_option maxRecDepth 100000 in
theorem hornbeamref18_May.calls (k : Nat) (a0 : Int) (a1 : Int) (a2 : Int) (a3 : Int) (r : Bool) (w : World) (h : hornbeamref18_May.f k a0 a1 a2 a3 = some r) :
  Calls Try.prog 51 #[.int .i64 a0,.int .i64 a1,.int .i64 a2,.int .i64 a3] w fun e w'=>e = .returned (.bool r) ∧ Drawn0 w w':=by
 have H : (if a0 < 1 then (hornbeamref18_May.j0 k a2 a3 true) else (if a0 > 1024 then (hornbeamref18_May.j0 k a2 a3 true) else (if a1 < 2 then (hornbeamref18_May.j0 k a2 a3 true) else (hornbeamref18_May.j0 k a2 a3 (decide (a1 > 256)))))) = some r:=h
 clear h
 have HC5:=Aside0.mk H
 clear H
 go_enter Try.func51,Try.ntmps51
 go_upto_region 1 with (fail)
 go_cut [22] (fun v22 wc=>∃ (kq : Nat) (x22_4 : Bool),v22 = .bool x22_4 ∧ Aside0 (hornbeamref18_May.j0 kq a2 a3 x22_4 = some r) ∧ Aside0 (kq ≤ k) ∧ Drawn0 w wc)
 case first =>
  have H:=HC5.out
  clear HC5
  by_cases c6 : a0 < 1
  ·rw [if_pos c6] at H
   have c6b0 : decide (a0 < 1) = true:=decide_eq_true c6
   clear c6
   (first|rw [c6b0]|(simp only [i64_w,i32_w];rw [c6b0])|skip)
   have H':=Aside0.mk H
   clear H
   go_wp2
   go_meet
   case rel=>exact ⟨_,(true),(by first|rfl|(simp;done)|(simp [*];done)),H',⟨by first|omega|exact Nat.le_refl _⟩,by repeat(first|exact Drawn0.refl _|apply Drawn0.step)⟩
  ·rw [if_neg c6] at H
   have c6b0 : decide (a0 < 1) = false:=decide_eq_false c6
   clear c6
   (first|rw [c6b0]|(simp only [i64_w,i32_w];rw [c6b0])|skip)
   by_cases c7 : a0 > 1024
   ·rw [if_pos c7] at H
    have c7b0 : decide (1024 < a0) = true:=decide_eq_true c7
    clear c7
    have H':=Aside0.mk H
    clear H
    go_wp2
    go_meet
    case rel=>exact ⟨_,(true),(by first|rfl|(simp;done)|(simp [*];done)),H',⟨by first|omega|exact Nat.le_refl _⟩,by repeat(first|exact Drawn0.refl _|apply Drawn0.step)⟩
   ·rw [if_neg c7] at H
    have c7b0 : decide (1024 < a0) = false:=decide_eq_false c7
    clear c7
    by_cases c8 : a1 < 2
    ·rw [if_pos c8] at H
     have c8b0 : decide (a1 < 2) = true:=decide_eq_true c8
     clear c8
     have H':=Aside0.mk H
     clear H
     go_wp2
     go_meet
     case rel=>exact ⟨_,(true),(by first|rfl|(simp;done)|(simp [*];done)),H',⟨by first|omega|exact Nat.le_refl _⟩,by repeat(first|exact Drawn0.refl _|apply Drawn0.step)⟩
    ·rw [if_neg c8] at H
     have c8b0 : decide (a1 < 2) = false:=decide_eq_false c8
     clear c8
     have H':=Aside0.mk H
     clear H
     go_wp2
     go_meet
     case rel=>exact ⟨_,(decide (a1 > 256)),(by first|rfl|(simp;done)|(simp [*];done)),H',⟨by first|omega|exact Nat.le_refl _⟩,by repeat(first|exact Drawn0.refl _|apply Drawn0.step)⟩
 case rest =>
  clear HC5
  try clear p2
  try clear c5
  try clear c6
  try clear c6b0
  try clear c7
  try clear c7b0
  try clear c8
  try clear c8b0
  obtain ⟨kq,x22_4,rfl,HA,HJ4,⟨mc4,rfl⟩⟩:=hcut
  cases kq with
  | zero=>exact absurd HA.out (by simp [hornbeamref18_May.j0])
  | succ kj4 =>
   have H:=HA.out
   clear HA
   simp only [hornbeamref18_May.j0] at H
   by_cases c9 : x22_4 = true
   ·subst c9
    have H1 : (some false) = some r:=by rw [if_pos rfl] at H;exact H
    clear H
    have H:=H1
    clear H1
    obtain rfl:=Option.some.inj H
    go_wp2
    go_ret
    exact ⟨by first|rfl|(simp;done)|(simp [*];done),by repeat(first|exact Drawn0.refl _|apply Drawn0.step)⟩
   ·replace c9:=Bool.eq_false_iff.mpr c9
    subst c9
    have H1 : (if a2 = 0 then (if a3 ≥ 2 then (some (decide (a3 ≤ 256))) else (some false)) else (if a2 = 1 then (some (a3 == 0)) else (some false))) = some r:=by rw [if_neg (show ¬ (false = true) by decide)] at H;exact H
    clear H
    have H:=H1
    clear H1
    by_cases c10 : a2 = 0
    ·rw [if_pos c10] at H
     have c10b0 : (a2 == 0) = true:=beq_iff_eq.mpr c10
     have c10b1 : (a2 != 0) = false:=bne_eq_false_iff_eq.mpr c10
     clear c10
     by_cases c11 : a3 ≥ 2
     ·rw [if_pos c11] at H
      have c11b0 : decide (2 ≤ a3) = true:=decide_eq_true c11
      clear c11
      obtain rfl:=Option.some.inj H
      go_wp2
      go_ret
      exact ⟨by first|rfl|(simp;done)|(simp [*];done),by repeat(first|exact Drawn0.refl _|apply Drawn0.step)⟩
     ·rw [if_neg c11] at H
      have c11b0 : decide (2 ≤ a3) = false:=decide_eq_false c11
      clear c11
      obtain rfl:=Option.some.inj H
      go_wp2
      go_ret
      exact ⟨by first|rfl|(simp;done)|(simp [*];done),by repeat(first|exact Drawn0.refl _|apply Drawn0.step)⟩
    ·rw [if_neg c10] at H
     have c10b0 : (a2 == 0) = false:=beq_eq_false_iff_ne.mpr c10
     have c10b1 : (a2 != 0) = true:=bne_iff_ne.mpr c10
     by_cases c12 : a2 = 1
     ·rw [if_pos c12] at H
      have c12b0 : (a2 == 1) = true:=beq_iff_eq.mpr c12
      have c12b1 : (a2 != 1) = false:=bne_eq_false_iff_eq.mpr c12
      clear c12
      obtain rfl:=Option.some.inj H
      go_wp2
      go_ret
      exact ⟨by first|rfl|(simp;done)|(simp [*];done),by repeat(first|exact Drawn0.refl _|apply Drawn0.step)⟩
     ·rw [if_neg c12] at H
      have c12b0 : (a2 == 1) = false:=beq_eq_false_iff_ne.mpr c12
      have c12b1 : (a2 != 1) = true:=bne_iff_ne.mpr c12
      obtain rfl:=Option.some.inj H
      go_wp2
      go_ret
      exact ⟨by first|rfl|(simp;done)|(simp [*];done),by repeat(first|exact Drawn0.refl _|apply Drawn0.step)⟩

end Go.Proofs.Ytebbnjgaikppgaa.PA
