import Derived.Test.YtnagfbadjbkhmaaPBx0
import Derived.Test.YtnagfbadjbkhmaaPBx6
namespace Go.Proofs.Ytnagfbadjbkhmaa.PB
open Go.RowKit Go.Proofs.YtnagfbadjbkhmaaW.PrintWords Go.Proofs.YtnagfbadjbkhmaaW.PrintLast Go.Proofs.YtnagfbadjbkhmaaW.PrintMore
attribute [local go_sem] max2_int min2_int max_two min_two max_three min_three max_four min_four   -- for this text's walks alone
attribute [local go_sem high] Flt.fold_eq Flt.fold_ne Flt.fold_lt Flt.fold_gt Flt.fold_le Flt.fold_ge Flt.run_bits Flt.run_frombits
set_option linter.unusedVariables false
set_option linter.unusedSimpArgs false

/-! ### hornbeamref10_Bin: function 72 -/
def hornbeamref10_Bin.l0 : Nat → List Nat → Nat → Int → Int → Option (Int)
 | 0,_,_,_,_=>none
 | k + 1,x0,x1,x5,x6=>if x6 < (x0.length : Int) then (if 0 ≤ x6 then ((hornbeamref06_Cmp.f k (rdOf (0 : Nat) x0 x6) x1).bind fun t301=>(if t301 ≤ 0 then (hornbeamref10_Bin.l0 k x0 x1 (wrap64 (x5 + 1)) (wrap64 (x6 + 1))) else (hornbeamref10_Bin.l0 k x0 x1 x5 (wrap64 (x6 + 1))))) else (none)) else (some x5)
def hornbeamref10_Bin.f (k : Nat) (l0 : List Nat) (a1 : Nat) : Option (Int):=(hornbeamref06_Missing.f a1).bind fun t299=>(if t299 = true then (some 0) else (hornbeamref10_Bin.l0 k l0 a1 1 0))
theorem hornbeamref10_Bin.mono_l : ∀ k,(∀ y0 y1 y2 y3,LeO (hornbeamref10_Bin.l0 k y0 y1 y2 y3) (hornbeamref10_Bin.l0 (k + 1) y0 y1 y2 y3))
 | 0=>fun _ _ _ _ r h=>by simp [hornbeamref10_Bin.l0] at h
 | k + 1=>by
  have ih0:=hornbeamref10_Bin.mono_l k
  ·intro y0 y1 y2 y3
   unfold hornbeamref10_Bin.l0
   repeat' first
   | (with_reducible exact ih0 _ _ _ _)
   | (with_reducible exact hornbeamref06_Cmp.mono _ _ _)
   | (with_reducible exact LeO.refl _)
   | (with_reducible exact LeO.none _)
   | (with_reducible refine LeO.ite ?_ ?_)
   | (with_reducible refine LeO.bind ?_ (fun _=>?_))
   | exact ih0 _ _ _ _
   | exact hornbeamref06_Cmp.mono _ _ _
   | exact LeO.none _
   | refine LeO.ite ?_ ?_
   | refine LeO.bind ?_ (fun _=>?_)
theorem hornbeamref10_Bin.mono : ∀ a0 a1 k,LeO (hornbeamref10_Bin.f k a0 a1) (hornbeamref10_Bin.f (k + 1) a0 a1):=by
 intro a0 a1 k
 have ih0:=hornbeamref10_Bin.mono_l k
 unfold hornbeamref10_Bin.f
 repeat' first
   | (with_reducible exact ih0 _ _ _ _)
   | (with_reducible exact hornbeamref06_Cmp.mono _ _ _)
   | (with_reducible exact LeO.refl _)
   | (with_reducible exact LeO.none _)
   | (with_reducible refine LeO.ite ?_ ?_)
   | (with_reducible refine LeO.bind ?_ (fun _=>?_))
   | exact ih0 _ _ _ _
   | exact hornbeamref06_Cmp.mono _ _ _
   | exact LeO.none _
   | refine LeO.ite ?_ ?_
   | refine LeO.bind ?_ (fun _=>?_)
set_option maxHeartbeats 8000000 in
set_option maxRecDepth 100000 in
theorem hornbeamref10_Bin.calls (k : Nat) (A0 : Option Addr) (c0 : Nat) (l0 : List Nat) (a1 : Nat) (r : Int) (w : World) (hr0 : Kd.C Flt.kf w A0 l0.length l0) (hc0 : l0.length ≤ c0) (h : hornbeamref10_Bin.f k l0 a1 = some r) :
  Calls Try.prog 72 #[.slice A0 l0.length c0,.float .f64 a1] w fun e w'=>e = .returned (.int .i64 r) ∧ Drawn0 w w':=by
 have HR0:=Aside0.mk hr0
 have HC0:=Aside0.mk hc0
 clear hr0 hc0
 have H : ((hornbeamref06_Missing.f a1).bind fun t299=>(if t299 = true then (some 0) else (hornbeamref10_Bin.l0 k l0 a1 1 0))) = some r:=h
 clear h
 replace H:=Option.bind_eq_some_iff.mp H
 obtain ⟨t299,A30,H⟩:=H
 replace H : (if t299 = true then (some 0) else (hornbeamref10_Bin.l0 k l0 a1 1 0)) = some r:=H
 have A3:=Aside0.mk A30
 clear A30
 by_cases c4 : t299 = true
 ·subst c4
  have H1 : (some 0) = some r:=by rw [if_pos rfl] at H;exact H
  clear H
  have H:=H1
  clear H1
  obtain rfl:=Option.some.inj H
  go_enter Try.func72,Try.ntmps72
  go_wp2_with (first|((with_reducible refine gate_callee (f:=38) rfl ?_);refine goesL_ (some 8) rfl rfl Try.func38 (by kernel_rfl) rfl #[.float .f64 a1] rfl (by (try simp only [List.map_toArray,List.map_cons,List.map_nil]);first|done|rfl|(simp only [List.length_drop,List.length_take];rfl)) ?_;(with_reducible refine (hornbeamref06_Missing.calls a1 true _ A3.out).mono ?_);rintro e w' ⟨rfl,⟨nd,rfl⟩⟩;refine ⟨_,rfl,?_⟩))
  go_ret
  exact ⟨by first|rfl|(simp;done)|(simp [*];done),by repeat(first|exact Drawn0.refl _|apply Drawn0.step)⟩
 ·replace c4:=Bool.eq_false_iff.mpr c4
  subst c4
  have H1 : (hornbeamref10_Bin.l0 k l0 a1 1 0) = some r:=by rw [if_neg (show ¬ (false = true) by decide)] at H;exact H
  clear H
  have H:=H1
  clear H1
  have H':=Aside0.mk H
  clear H
  go_enter Try.func72,Try.ntmps72
  go_wp2_with (first|((with_reducible refine gate_callee (f:=38) rfl ?_);refine goesL_ (some 8) rfl rfl Try.func38 (by kernel_rfl) rfl #[.float .f64 a1] rfl (by (try simp only [List.map_toArray,List.map_cons,List.map_nil]);first|done|rfl|(simp only [List.length_drop,List.length_take];rfl)) ?_;(with_reducible refine (hornbeamref06_Missing.calls a1 false _ A3.out).mono ?_);rintro e w' ⟨rfl,⟨nd,rfl⟩⟩;refine ⟨_,rfl,?_⟩))
  go_loopg [5,6] k (fun kq v5 v6 w'=>∃ (x5_1 : Int) (x6_1 : Int),v5 = .int .i64 x5_1 ∧ v6 = .int .i64 x6_1 ∧ Aside0 (hornbeamref10_Bin.l0 kq l0 a1 x5_1 x6_1 = some r) ∧ Aside0 (kq ≤ k) ∧ Drawn0 w w')
  case atStart=>exact ⟨(1),(0),(by first|rfl|(simp;done)|(simp [*];done)),(by first|rfl|(simp;done)|(simp [*];done)),H',⟨Nat.le_refl _⟩,by repeat(first|exact Drawn0.refl _|apply Drawn0.step)⟩
  case round =>
   clear H'
   try clear p2
   try clear c3
   try clear c4
   obtain ⟨x5_1,x6_1,rfl,rfl,HA,HK1,⟨m1,rfl⟩⟩:=hrel
   cases gk with
   | zero=>exact absurd HA.out (by simp [hornbeamref10_Bin.l0])
   | succ k1 =>
    have H:=HA.out
    clear HA
    simp only [hornbeamref10_Bin.l0] at H
    by_cases c5 : x6_1 < (l0.length : Int)
    ·rw [if_pos c5] at H
     have c5b0 : decide (x6_1 < (l0.length : Int)) = true:=decide_eq_true c5
     clear c5
     by_cases c6 : 0 ≤ x6_1
     ·rw [if_pos c6] at H
      have c6b0 : decide (0 ≤ x6_1) = true:=decide_eq_true c6
      clear c6
      replace H:=Option.bind_eq_some_iff.mp H
      obtain ⟨t301,A70,H⟩:=H
      replace H : (if t301 ≤ 0 then (hornbeamref10_Bin.l0 k1 l0 a1 (wrap64 (x5_1 + 1)) (wrap64 (x6_1 + 1))) else (hornbeamref10_Bin.l0 k1 l0 a1 x5_1 (wrap64 (x6_1 + 1)))) = some r:=H
      have A7:=Aside0.mk A70
      clear A70
      by_cases c8 : t301 ≤ 0
      ·rw [if_pos c8] at H
       have c8b0 : decide (t301 ≤ 0) = true:=decide_eq_true c8
       clear c8
       have H':=Aside0.mk H
       clear H
       have p300 : 0 ≤ (x6_1 : Int):=of_decide_eq_true (by first|(with_reducible assumption)|assumption)
       have q300 : x6_1 < (l0.length : Int):=of_decide_eq_true (by first|(with_reducible assumption)|assumption)
       obtain ⟨ad300,e300,hx300_0⟩:=Flt.at_kf HR0.out x6_1 p300 q300
       cases e300
       replace p300:=eq_true p300
       replace q300:=eq_true q300
       go_wp2_with (first|((with_reducible refine gate_callee (f:=39) rfl ?_);refine goesL_ (some 20) rfl rfl Try.func39 (by kernel_rfl) rfl #[.float .f64 (rdOf (0 : Nat) l0 x6_1),.float .f64 a1] rfl (by (try simp only [List.map_toArray,List.map_cons,List.map_nil]);first|done|rfl|(simp only [List.length_drop,List.length_take];rfl)) ?_;(with_reducible refine (hornbeamref06_Cmp.calls k1 (rdOf (0 : Nat) l0 x6_1) a1 t301 _ A7.out).mono ?_);rintro e w' ⟨rfl,⟨nd,rfl⟩⟩;refine ⟨_,rfl,?_⟩))
       go_roundg k1
       case measure=>have:=HK1.out;omega
       case rel=>exact ⟨(wrap64 (x5_1 + 1)),(wrap64 (x6_1 + 1)),(by first|rfl|(simp;done)|(simp [*];done)),(by first|rfl|(simp;done)|(simp [*];done)),H',⟨by have:=HK1.out;omega⟩,by repeat(first|exact Drawn0.refl _|apply Drawn0.step)⟩
      ·rw [if_neg c8] at H
       have c8b0 : decide (t301 ≤ 0) = false:=decide_eq_false c8
       clear c8
       have H':=Aside0.mk H
       clear H
       have p300 : 0 ≤ (x6_1 : Int):=of_decide_eq_true (by first|(with_reducible assumption)|assumption)
       have q300 : x6_1 < (l0.length : Int):=of_decide_eq_true (by first|(with_reducible assumption)|assumption)
       obtain ⟨ad300,e300,hx300_0⟩:=Flt.at_kf HR0.out x6_1 p300 q300
       cases e300
       replace p300:=eq_true p300
       replace q300:=eq_true q300
       go_wp2_with (first|((with_reducible refine gate_callee (f:=39) rfl ?_);refine goesL_ (some 20) rfl rfl Try.func39 (by kernel_rfl) rfl #[.float .f64 (rdOf (0 : Nat) l0 x6_1),.float .f64 a1] rfl (by (try simp only [List.map_toArray,List.map_cons,List.map_nil]);first|done|rfl|(simp only [List.length_drop,List.length_take];rfl)) ?_;(with_reducible refine (hornbeamref06_Cmp.calls k1 (rdOf (0 : Nat) l0 x6_1) a1 t301 _ A7.out).mono ?_);rintro e w' ⟨rfl,⟨nd,rfl⟩⟩;refine ⟨_,rfl,?_⟩))
       go_roundg k1
       case measure=>have:=HK1.out;omega
       case rel=>exact ⟨(x5_1),(wrap64 (x6_1 + 1)),(by first|rfl|(simp;done)|(simp [*];done)),(by first|rfl|(simp;done)|(simp [*];done)),H',⟨by have:=HK1.out;omega⟩,by repeat(first|exact Drawn0.refl _|apply Drawn0.step)⟩
     ·rw [if_neg c6] at H
      exact absurd H (by simp)
    ·rw [if_neg c5] at H
     have c5b0 : decide (x6_1 < (l0.length : Int)) = false:=decide_eq_false c5
     clear c5
     obtain rfl:=Option.some.inj H
     go_wp2
     go_ret
     exact ⟨by first|rfl|(simp;done)|(simp [*];done),by repeat(first|exact Drawn0.refl _|apply Drawn0.step)⟩

end Go.Proofs.Ytnagfbadjbkhmaa.PB
