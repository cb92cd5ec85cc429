import Derived.Test.YtnagfbadjbkhmaaPBx0
import Derived.Test.YtnagfbadjbkhmaaPBx2
namespace Go.Proofs.Ytnagfbadjbkhmaa.PB
open Go.RowKit Go.Proofs.YtnagfbadjbkhmaaW.PrintWords Go.Proofs.YtnagfbadjbkhmaaW.PrintLast Go.Proofs.YtnagfbadjbkhmaaW.PrintMore
attribute [local go_sem] max2_int min2_int max_two min_two max_three min_three max_four min_four   -- for this text's walks alone
attribute [local go_sem high] Flt.fold_eq Flt.fold_ne Flt.fold_lt Flt.fold_gt Flt.fold_le Flt.fold_ge Flt.run_bits Flt.run_frombits
set_option linter.unusedVariables false
set_option linter.unusedSimpArgs false

/-! ### edges_Bin: function 71 -/
def edges_Bin.l0 : Nat → Nat → Int → List Nat → Int → Int → Option (Int)
 | 0,_,_,_,_,_=>none
 | k + 1,x1,x5,x10,x11,x12=>if x12 < x11 then (if 0 ≤ x12 then (if x12 < (x10.length : Int) then ((rank_Cmp.f (rdOf (0 : Nat) x10 x12) x1).bind fun t162=>(if t162 ≤ 0 then (edges_Bin.l0 k x1 (wrap64 (x5 + 1)) x10 x11 (wrap64 (x12 + 1))) else (edges_Bin.l0 k x1 x5 x10 x11 (wrap64 (x12 + 1))))) else (none)) else (none)) else (some x5)
def edges_Bin.f (k : Nat) (l0 : List Nat) (a1 : Nat) : Option (Int):=(rank_Missing.f a1).bind fun t160=>(if t160 = true then (some 0) else (edges_Bin.l0 k a1 1 l0 (l0.length : Int) 0))
theorem edges_Bin.mono_l : ∀ k,(∀ y0 y1 y2 y3 y4,LeO (edges_Bin.l0 k y0 y1 y2 y3 y4) (edges_Bin.l0 (k + 1) y0 y1 y2 y3 y4))
 | 0=>fun _ _ _ _ _ r h=>by simp [edges_Bin.l0] at h
 | k + 1=>by
  have ih0:=edges_Bin.mono_l k
  ·intro y0 y1 y2 y3 y4
   unfold edges_Bin.l0
   repeat' first
   | (with_reducible exact ih0 _ _ _ _ _)
   | (with_reducible exact LeO.refl _)
   | (with_reducible exact LeO.none _)
   | (with_reducible refine LeO.ite ?_ ?_)
   | (with_reducible refine LeO.bind ?_ (fun _=>?_))
   | exact ih0 _ _ _ _ _
   | exact LeO.none _
   | refine LeO.ite ?_ ?_
   | refine LeO.bind ?_ (fun _=>?_)
theorem edges_Bin.mono : ∀ a0 a1 k,LeO (edges_Bin.f k a0 a1) (edges_Bin.f (k + 1) a0 a1):=by
 intro a0 a1 k
 have ih0:=edges_Bin.mono_l k
 unfold edges_Bin.f
 repeat' first
   | (with_reducible exact ih0 _ _ _ _ _)
   | (with_reducible exact LeO.refl _)
   | (with_reducible exact LeO.none _)
   | (with_reducible refine LeO.ite ?_ ?_)
   | (with_reducible refine LeO.bind ?_ (fun _=>?_))
   | exact ih0 _ _ _ _ _
   | exact LeO.none _
   | refine LeO.ite ?_ ?_
   | refine LeO.bind ?_ (fun _=>?_)
set_option maxHeartbeats 8000000 in
set_option maxRecDepth 100000 in
theorem edges_Bin.calls (k : Nat) (A0 : Option Addr) (c0 : Nat) (l0 : List Nat) (a1 : Nat) (r : Int) (w : World) (hr0 : Kd.C Flt.kf w A0 l0.length l0) (hc0 : l0.length ≤ c0) (h : edges_Bin.f k l0 a1 = some r) :
  Calls Try.prog 71 #[.slice A0 l0.length c0,.float .f64 a1] w fun e w'=>e = .returned (.int .i64 r) ∧ Drawn0 w w':=by
 have HR0:=Aside0.mk hr0
 have HC0:=Aside0.mk hc0
 clear hr0 hc0
 have H : ((rank_Missing.f a1).bind fun t160=>(if t160 = true then (some 0) else (edges_Bin.l0 k a1 1 l0 (l0.length : Int) 0))) = some r:=h
 clear h
 replace H:=Option.bind_eq_some_iff.mp H
 obtain ⟨t160,A30,H⟩:=H
 replace H : (if t160 = true then (some 0) else (edges_Bin.l0 k a1 1 l0 (l0.length : Int) 0)) = some r:=H
 have A3:=Aside0.mk A30
 clear A30
 by_cases c4 : t160 = true
 ·subst c4
  have H1 : (some 0) = some r:=by rw [if_pos rfl] at H;exact H
  clear H
  have H:=H1
  clear H1
  obtain rfl:=Option.some.inj H
  go_enter Try.func71,Try.ntmps71
  go_wp2_with (first|((with_reducible refine gate_callee (f:=93) rfl ?_);refine goesL_ (some 9) rfl rfl Try.func93 (by kernel_rfl) rfl #[.float .f64 a1] rfl (by (try simp only [List.map_toArray,List.map_cons,List.map_nil]);first|done|rfl|(simp only [List.length_drop,List.length_take];rfl)) ?_;(with_reducible refine (rank_Missing.calls a1 true _ A3.out).mono ?_);rintro e w' ⟨rfl,⟨nd,rfl⟩⟩;refine ⟨_,rfl,?_⟩))
  go_ret
  exact ⟨by first|rfl|(simp;done)|(simp [*];done),by repeat(first|exact Drawn0.refl _|apply Drawn0.step)⟩
 ·replace c4:=Bool.eq_false_iff.mpr c4
  subst c4
  have H1 : (edges_Bin.l0 k a1 1 l0 (l0.length : Int) 0) = some r:=by rw [if_neg (show ¬ (false = true) by decide)] at H;exact H
  clear H
  have H:=H1
  clear H1
  have H':=Aside0.mk H
  clear H
  go_enter Try.func71,Try.ntmps71
  go_wp2_with (first|((with_reducible refine gate_callee (f:=93) rfl ?_);refine goesL_ (some 9) rfl rfl Try.func93 (by kernel_rfl) rfl #[.float .f64 a1] rfl (by (try simp only [List.map_toArray,List.map_cons,List.map_nil]);first|done|rfl|(simp only [List.length_drop,List.length_take];rfl)) ?_;(with_reducible refine (rank_Missing.calls a1 false _ A3.out).mono ?_);rintro e w' ⟨rfl,⟨nd,rfl⟩⟩;refine ⟨_,rfl,?_⟩))
  go_loopg [5,12] k (fun kq v5 v12 w'=>∃ (x5_1 : Int) (x12_1 : Int),v5 = .int .i64 x5_1 ∧ v12 = .int .i64 x12_1 ∧ Aside0 (edges_Bin.l0 kq a1 x5_1 l0 (l0.length : Int) x12_1 = some r) ∧ Aside0 (kq ≤ k) ∧ Drawn0 w w')
  case atStart=>exact ⟨(1),(0),(by first|rfl|(simp;done)|(simp [*];done)),(by first|rfl|(simp;done)|(simp [*];done)),H',⟨Nat.le_refl _⟩,by repeat(first|exact Drawn0.refl _|apply Drawn0.step)⟩
  case round =>
   clear H'
   try clear p2
   try clear c4
   obtain ⟨x5_1,x12_1,rfl,rfl,HA,HK1,⟨m1,rfl⟩⟩:=hrel
   cases gk with
   | zero=>exact absurd HA.out (by simp [edges_Bin.l0])
   | succ k1 =>
    have H:=HA.out
    clear HA
    simp only [edges_Bin.l0] at H
    by_cases c5 : x12_1 < (l0.length : Int)
    ·rw [if_pos c5] at H
     have c5b0 : decide (x12_1 < (l0.length : Int)) = true:=decide_eq_true c5
     clear c5
     by_cases c6 : 0 ≤ x12_1
     ·rw [if_pos c6] at H
      have c6b0 : decide (0 ≤ x12_1) = true:=decide_eq_true c6
      clear c6
      by_cases c7 : x12_1 < (l0.length : Int)
      ·rw [if_pos c7] at H
       have c7b0 : decide (x12_1 < (l0.length : Int)) = true:=decide_eq_true c7
       clear c7
       replace H:=Option.bind_eq_some_iff.mp H
       obtain ⟨t162,A80,H⟩:=H
       replace H : (if t162 ≤ 0 then (edges_Bin.l0 k1 a1 (wrap64 (x5_1 + 1)) l0 (l0.length : Int) (wrap64 (x12_1 + 1))) else (edges_Bin.l0 k1 a1 x5_1 l0 (l0.length : Int) (wrap64 (x12_1 + 1)))) = some r:=H
       have A8:=Aside0.mk A80
       clear A80
       by_cases c9 : t162 ≤ 0
       ·rw [if_pos c9] at H
        have c9b0 : decide (t162 ≤ 0) = true:=decide_eq_true c9
        clear c9
        have H':=Aside0.mk H
        clear H
        have p161 : 0 ≤ (x12_1 : Int):=of_decide_eq_true (by first|(with_reducible assumption)|assumption)
        have q161 : x12_1 < (l0.length : Int):=of_decide_eq_true (by first|(with_reducible assumption)|assumption)
        obtain ⟨ad161,e161,hx161_0⟩:=Flt.at_kf HR0.out x12_1 p161 q161
        cases e161
        replace p161:=eq_true p161
        replace q161:=eq_true q161
        go_wp2_with (first|((with_reducible refine gate_callee (f:=95) rfl ?_);refine goesL_ (some 18) rfl rfl Try.func95 (by kernel_rfl) rfl #[.float .f64 (rdOf (0 : Nat) l0 x12_1),.float .f64 a1] rfl (by (try simp only [List.map_toArray,List.map_cons,List.map_nil]);first|done|rfl|(simp only [List.length_drop,List.length_take];rfl)) ?_;(with_reducible refine (rank_Cmp.calls (rdOf (0 : Nat) l0 x12_1) a1 t162 _ A8.out).mono ?_);rintro e w' ⟨rfl,⟨nd,rfl⟩⟩;refine ⟨_,rfl,?_⟩))
        go_roundg k1
        case measure=>have:=HK1.out;omega
        case rel=>exact ⟨(wrap64 (x5_1 + 1)),(wrap64 (x12_1 + 1)),(by first|rfl|(simp;done)|(simp [*];done)),(by first|rfl|(simp;done)|(simp [*];done)),H',⟨by have:=HK1.out;omega⟩,by repeat(first|exact Drawn0.refl _|apply Drawn0.step)⟩
       ·rw [if_neg c9] at H
        have c9b0 : decide (t162 ≤ 0) = false:=decide_eq_false c9
        clear c9
        have H':=Aside0.mk H
        clear H
        have p161 : 0 ≤ (x12_1 : Int):=of_decide_eq_true (by first|(with_reducible assumption)|assumption)
        have q161 : x12_1 < (l0.length : Int):=of_decide_eq_true (by first|(with_reducible assumption)|assumption)
        obtain ⟨ad161,e161,hx161_0⟩:=Flt.at_kf HR0.out x12_1 p161 q161
        cases e161
        replace p161:=eq_true p161
        replace q161:=eq_true q161
        go_wp2_with (first|((with_reducible refine gate_callee (f:=95) rfl ?_);refine goesL_ (some 18) rfl rfl Try.func95 (by kernel_rfl) rfl #[.float .f64 (rdOf (0 : Nat) l0 x12_1),.float .f64 a1] rfl (by (try simp only [List.map_toArray,List.map_cons,List.map_nil]);first|done|rfl|(simp only [List.length_drop,List.length_take];rfl)) ?_;(with_reducible refine (rank_Cmp.calls (rdOf (0 : Nat) l0 x12_1) a1 t162 _ A8.out).mono ?_);rintro e w' ⟨rfl,⟨nd,rfl⟩⟩;refine ⟨_,rfl,?_⟩))
        go_roundg k1
        case measure=>have:=HK1.out;omega
        case rel=>exact ⟨(x5_1),(wrap64 (x12_1 + 1)),(by first|rfl|(simp;done)|(simp [*];done)),(by first|rfl|(simp;done)|(simp [*];done)),H',⟨by have:=HK1.out;omega⟩,by repeat(first|exact Drawn0.refl _|apply Drawn0.step)⟩
      ·rw [if_neg c7] at H
       exact absurd H (by simp)
     ·rw [if_neg c6] at H
      exact absurd H (by simp)
    ·rw [if_neg c5] at H
     have c5b0 : decide (x12_1 < (l0.length : Int)) = false:=decide_eq_false c5
     clear c5
     obtain rfl:=Option.some.inj H
     go_wp2
     go_ret
     exact ⟨by first|rfl|(simp;done)|(simp [*];done),by repeat(first|exact Drawn0.refl _|apply Drawn0.step)⟩

end Go.Proofs.Ytnagfbadjbkhmaa.PB
