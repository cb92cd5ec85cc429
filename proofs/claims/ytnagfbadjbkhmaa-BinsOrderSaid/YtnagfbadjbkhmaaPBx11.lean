import Derived.Test.YtnagfbadjbkhmaaPBx0
import Derived.Test.YtnagfbadjbkhmaaPBx10
namespace Go.Proofs.Ytnagfbadjbkhmaa.PB
open Go.RowKit Go.Proofs.YtnagfbadjbkhmaaW.PrintWords Go.Proofs.YtnagfbadjbkhmaaW.PrintLast Go.Proofs.YtnagfbadjbkhmaaW.PrintMore
attribute [local go_sem] max2_int min2_int max_two min_two max_three min_three max_four min_four   -- for this text's walks alone
attribute [local go_sem high] Flt.fold_eq Flt.fold_ne Flt.fold_lt Flt.fold_gt Flt.fold_le Flt.fold_ge Flt.run_bits Flt.run_frombits
set_option linter.unusedVariables false
set_option linter.unusedSimpArgs false

/-! ### hornbeamref06_Cmp: function 39 -/
def hornbeamref06_Cmp.j0 : Nat → Nat → Nat → Bool → Option (Int)
 | 0,_,_,_=>none
 | k + 1,x0,x1,x10=>if x10 = true then (some 0) else ((hornbeamref06_Missing.f x0).bind fun t182=>(if t182 = true then (some (-1)) else ((hornbeamref06_Missing.f x1).bind fun t183=>(if t183 = true then (some 1) else (if (Flt.lt x0 x1) = true then (some (-1)) else (if (Flt.gt x0 x1) = true then (some 1) else (some 0)))))))
def hornbeamref06_Cmp.f (k : Nat) (a0 : Nat) (a1 : Nat) : Option (Int):=(hornbeamref06_Missing.f a0).bind fun t180=>(if t180 = true then ((hornbeamref06_Missing.f a1).bind fun t181=>(hornbeamref06_Cmp.j0 k a0 a1 t181)) else (hornbeamref06_Cmp.j0 k a0 a1 false))
theorem hornbeamref06_Cmp.mono_l : ∀ k,(∀ y0 y1 y2,LeO (hornbeamref06_Cmp.j0 k y0 y1 y2) (hornbeamref06_Cmp.j0 (k + 1) y0 y1 y2))
 | 0=>fun _ _ _ r h=>by simp [hornbeamref06_Cmp.j0] at h
 | k + 1=>by
  have ih0:=hornbeamref06_Cmp.mono_l k
  ·intro y0 y1 y2
   unfold hornbeamref06_Cmp.j0
   repeat' first
   | (with_reducible exact ih0 _ _ _)
   | (with_reducible exact LeO.refl _)
   | (with_reducible exact LeO.none _)
   | (with_reducible refine LeO.ite ?_ ?_)
   | (with_reducible refine LeO.bind ?_ (fun _=>?_))
   | exact ih0 _ _ _
   | exact LeO.none _
   | refine LeO.ite ?_ ?_
   | refine LeO.bind ?_ (fun _=>?_)
theorem hornbeamref06_Cmp.mono : ∀ a0 a1 k,LeO (hornbeamref06_Cmp.f k a0 a1) (hornbeamref06_Cmp.f (k + 1) a0 a1):=by
 intro a0 a1 k
 have ih0:=hornbeamref06_Cmp.mono_l k
 unfold hornbeamref06_Cmp.f
 repeat' first
   | (with_reducible exact ih0 _ _ _)
   | (with_reducible exact LeO.refl _)
   | (with_reducible exact LeO.none _)
   | (with_reducible refine LeO.ite ?_ ?_)
   | (with_reducible refine LeO.bind ?_ (fun _=>?_))
   | exact ih0 _ _ _
   | exact LeO.none _
   | refine LeO.ite ?_ ?_
   | refine LeO.bind ?_ (fun _=>?_)
set_option maxHeartbeats 8000000 in
set_option maxRecDepth 100000 in
theorem hornbeamref06_Cmp.calls (k : Nat) (a0 : Nat) (a1 : Nat) (r : Int) (w : World) (h : hornbeamref06_Cmp.f k a0 a1 = some r) :
  Calls Try.prog 39 #[.float .f64 a0,.float .f64 a1] w fun e w'=>e = .returned (.int .i64 r) ∧ Drawn0 w w':=by
 have H : ((hornbeamref06_Missing.f a0).bind fun t180=>(if t180 = true then ((hornbeamref06_Missing.f a1).bind fun t181=>(hornbeamref06_Cmp.j0 k a0 a1 t181)) else (hornbeamref06_Cmp.j0 k a0 a1 false))) = some r:=h
 clear h
 have HC3:=Aside0.mk H
 clear H
 go_enter Try.func39,Try.ntmps39
 go_upto_region 1 with (fail)
 go_cut [10] (fun v10 wc=>∃ (kq : Nat) (x10_2 : Bool),v10 = .bool x10_2 ∧ Aside0 (hornbeamref06_Cmp.j0 kq a0 a1 x10_2 = some r) ∧ Aside0 (kq ≤ k) ∧ Drawn0 w wc)
 case first =>
  have H:=HC3.out
  clear HC3
  replace H:=Option.bind_eq_some_iff.mp H
  obtain ⟨t180,A40,H⟩:=H
  replace H : (if t180 = true then ((hornbeamref06_Missing.f a1).bind fun t181=>(hornbeamref06_Cmp.j0 k a0 a1 t181)) else (hornbeamref06_Cmp.j0 k a0 a1 false)) = some r:=H
  have A4:=Aside0.mk A40
  clear A40
  by_cases c5 : t180 = true
  ·subst c5
   have H1 : ((hornbeamref06_Missing.f a1).bind fun t181=>(hornbeamref06_Cmp.j0 k a0 a1 t181)) = some r:=by rw [if_pos rfl] at H;exact H
   clear H
   have H:=H1
   clear H1
   replace H:=Option.bind_eq_some_iff.mp H
   obtain ⟨t181,A60,H⟩:=H
   replace H : (hornbeamref06_Cmp.j0 k a0 a1 t181) = some r:=H
   have A6:=Aside0.mk A60
   clear A60
   have H':=Aside0.mk H
   clear H
   go_wp2_with (first|((with_reducible refine gate_callee (f:=38) rfl ?_);refine goesL_ (some 6) rfl rfl Try.func38 (by kernel_rfl) rfl #[.float .f64 a0] rfl (by (try simp only [List.map_toArray,List.map_cons,List.map_nil]);first|done|rfl|(simp only [List.length_drop,List.length_take];rfl)) ?_;(with_reducible refine (hornbeamref06_Missing.calls a0 true _ A4.out).mono ?_);rintro e w' ⟨rfl,⟨nd,rfl⟩⟩;refine ⟨_,rfl,?_⟩)|(go_at_call 38;(with_reducible refine (hornbeamref06_Missing.calls a1 t181 _ A6.out).mono ?_);rintro e w' ⟨rfl,⟨nd,rfl⟩⟩))
   go_meet
   case rel=>exact ⟨_,(t181),(by first|rfl|(simp;done)|(simp [*];done)),H',⟨by first|omega|exact Nat.le_refl _⟩,by repeat(first|exact Drawn0.refl _|apply Drawn0.step)⟩
  ·replace c5:=Bool.eq_false_iff.mpr c5
   subst c5
   have H1 : (hornbeamref06_Cmp.j0 k a0 a1 false) = some r:=by rw [if_neg (show ¬ (false = true) by decide)] at H;exact H
   clear H
   have H:=H1
   clear H1
   have H':=Aside0.mk H
   clear H
   go_wp2_with (first|((with_reducible refine gate_callee (f:=38) rfl ?_);refine goesL_ (some 6) rfl rfl Try.func38 (by kernel_rfl) rfl #[.float .f64 a0] rfl (by (try simp only [List.map_toArray,List.map_cons,List.map_nil]);first|done|rfl|(simp only [List.length_drop,List.length_take];rfl)) ?_;(with_reducible refine (hornbeamref06_Missing.calls a0 false _ A4.out).mono ?_);rintro e w' ⟨rfl,⟨nd,rfl⟩⟩;refine ⟨_,rfl,?_⟩))
   go_meet
   case rel=>exact ⟨_,(false),(by first|rfl|(simp;done)|(simp [*];done)),H',⟨by first|omega|exact Nat.le_refl _⟩,by repeat(first|exact Drawn0.refl _|apply Drawn0.step)⟩
 case rest =>
  clear HC3
  try clear p2
  try clear c3
  try clear c5
  obtain ⟨kq,x10_2,rfl,HA,HJ2,⟨mc2,rfl⟩⟩:=hcut
  cases kq with
  | zero=>exact absurd HA.out (by simp [hornbeamref06_Cmp.j0])
  | succ kj2 =>
   have H:=HA.out
   clear HA
   simp only [hornbeamref06_Cmp.j0] at H
   by_cases c7 : x10_2 = true
   ·subst c7
    have H1 : (some 0) = some r:=by rw [if_pos rfl] at H;exact H
    clear H
    have H:=H1
    clear H1
    obtain rfl:=Option.some.inj H
    go_wp2
    go_ret
    exact ⟨by first|rfl|(simp;done)|(simp [*];done),by repeat(first|exact Drawn0.refl _|apply Drawn0.step)⟩
   ·replace c7:=Bool.eq_false_iff.mpr c7
    subst c7
    have H1 : ((hornbeamref06_Missing.f a0).bind fun t182=>(if t182 = true then (some (-1)) else ((hornbeamref06_Missing.f a1).bind fun t183=>(if t183 = true then (some 1) else (if (Flt.lt a0 a1) = true then (some (-1)) else (if (Flt.gt a0 a1) = true then (some 1) else (some 0))))))) = some r:=by rw [if_neg (show ¬ (false = true) by decide)] at H;exact H
    clear H
    have H:=H1
    clear H1
    replace H:=Option.bind_eq_some_iff.mp H
    obtain ⟨t182,A80,H⟩:=H
    replace H : (if t182 = true then (some (-1)) else ((hornbeamref06_Missing.f a1).bind fun t183=>(if t183 = true then (some 1) else (if (Flt.lt a0 a1) = true then (some (-1)) else (if (Flt.gt a0 a1) = true then (some 1) else (some 0)))))) = some r:=H
    have A8:=Aside0.mk A80
    clear A80
    by_cases c9 : t182 = true
    ·subst c9
     have H1 : (some (-1)) = some r:=by rw [if_pos rfl] at H;exact H
     clear H
     have H:=H1
     clear H1
     obtain rfl:=Option.some.inj H
     go_wp2_with (first|((with_reducible refine gate_callee (f:=38) rfl ?_);refine goesL_ (some 12) rfl rfl Try.func38 (by kernel_rfl) rfl #[.float .f64 a0] rfl (by (try simp only [List.map_toArray,List.map_cons,List.map_nil]);first|done|rfl|(simp only [List.length_drop,List.length_take];rfl)) ?_;(with_reducible refine (hornbeamref06_Missing.calls a0 true _ A8.out).mono ?_);rintro e w' ⟨rfl,⟨nd,rfl⟩⟩;refine ⟨_,rfl,?_⟩))
     go_ret
     exact ⟨by first|rfl|(simp;done)|(simp [*];done),by repeat(first|exact Drawn0.refl _|apply Drawn0.step)⟩
    ·replace c9:=Bool.eq_false_iff.mpr c9
     subst c9
     have H1 : ((hornbeamref06_Missing.f a1).bind fun t183=>(if t183 = true then (some 1) else (if (Flt.lt a0 a1) = true then (some (-1)) else (if (Flt.gt a0 a1) = true then (some 1) else (some 0))))) = some r:=by rw [if_neg (show ¬ (false = true) by decide)] at H;exact H
     clear H
     have H:=H1
     clear H1
     replace H:=Option.bind_eq_some_iff.mp H
     obtain ⟨t183,A100,H⟩:=H
     replace H : (if t183 = true then (some 1) else (if (Flt.lt a0 a1) = true then (some (-1)) else (if (Flt.gt a0 a1) = true then (some 1) else (some 0)))) = some r:=H
     have A10:=Aside0.mk A100
     clear A100
     by_cases c11 : t183 = true
     ·subst c11
      have H1 : (some 1) = some r:=by rw [if_pos rfl] at H;exact H
      clear H
      have H:=H1
      clear H1
      obtain rfl:=Option.some.inj H
      go_wp2_with (first|((with_reducible refine gate_callee (f:=38) rfl ?_);refine goesL_ (some 12) rfl rfl Try.func38 (by kernel_rfl) rfl #[.float .f64 a0] rfl (by (try simp only [List.map_toArray,List.map_cons,List.map_nil]);first|done|rfl|(simp only [List.length_drop,List.length_take];rfl)) ?_;(with_reducible refine (hornbeamref06_Missing.calls a0 false _ A8.out).mono ?_);rintro e w' ⟨rfl,⟨nd,rfl⟩⟩;refine ⟨_,rfl,?_⟩)|((with_reducible refine gate_callee (f:=38) rfl ?_);refine goesL_ (some 14) rfl rfl Try.func38 (by kernel_rfl) rfl #[.float .f64 a1] rfl (by (try simp only [List.map_toArray,List.map_cons,List.map_nil]);first|done|rfl|(simp only [List.length_drop,List.length_take];rfl)) ?_;(with_reducible refine (hornbeamref06_Missing.calls a1 true _ A10.out).mono ?_);rintro e w' ⟨rfl,⟨nd,rfl⟩⟩;refine ⟨_,rfl,?_⟩))
      go_ret
      exact ⟨by first|rfl|(simp;done)|(simp [*];done),by repeat(first|exact Drawn0.refl _|apply Drawn0.step)⟩
     ·replace c11:=Bool.eq_false_iff.mpr c11
      subst c11
      have H1 : (if (Flt.lt a0 a1) = true then (some (-1)) else (if (Flt.gt a0 a1) = true then (some 1) else (some 0))) = some r:=by rw [if_neg (show ¬ (false = true) by decide)] at H;exact H
      clear H
      have H:=H1
      clear H1
      by_cases c12 : (Flt.lt a0 a1) = true
      ·rw [if_pos c12] at H
       have c12b0 : (Flt.lt a0 a1) = true:=c12
       clear c12
       obtain rfl:=Option.some.inj H
       go_wp2_with (first|((with_reducible refine gate_callee (f:=38) rfl ?_);refine goesL_ (some 12) rfl rfl Try.func38 (by kernel_rfl) rfl #[.float .f64 a0] rfl (by (try simp only [List.map_toArray,List.map_cons,List.map_nil]);first|done|rfl|(simp only [List.length_drop,List.length_take];rfl)) ?_;(with_reducible refine (hornbeamref06_Missing.calls a0 false _ A8.out).mono ?_);rintro e w' ⟨rfl,⟨nd,rfl⟩⟩;refine ⟨_,rfl,?_⟩)|((with_reducible refine gate_callee (f:=38) rfl ?_);refine goesL_ (some 14) rfl rfl Try.func38 (by kernel_rfl) rfl #[.float .f64 a1] rfl (by (try simp only [List.map_toArray,List.map_cons,List.map_nil]);first|done|rfl|(simp only [List.length_drop,List.length_take];rfl)) ?_;(with_reducible refine (hornbeamref06_Missing.calls a1 false _ A10.out).mono ?_);rintro e w' ⟨rfl,⟨nd,rfl⟩⟩;refine ⟨_,rfl,?_⟩))
       go_ret
       exact ⟨by first|rfl|(simp;done)|(simp [*];done),by repeat(first|exact Drawn0.refl _|apply Drawn0.step)⟩
      ·rw [if_neg c12] at H
       have c12b0 : (Flt.lt a0 a1) = false:=by simpa using c12
       clear c12
       by_cases c13 : (Flt.gt a0 a1) = true
       ·rw [if_pos c13] at H
        have c13b0 : (Flt.gt a0 a1) = true:=c13
        clear c13
        obtain rfl:=Option.some.inj H
        go_wp2_with (first|((with_reducible refine gate_callee (f:=38) rfl ?_);refine goesL_ (some 12) rfl rfl Try.func38 (by kernel_rfl) rfl #[.float .f64 a0] rfl (by (try simp only [List.map_toArray,List.map_cons,List.map_nil]);first|done|rfl|(simp only [List.length_drop,List.length_take];rfl)) ?_;(with_reducible refine (hornbeamref06_Missing.calls a0 false _ A8.out).mono ?_);rintro e w' ⟨rfl,⟨nd,rfl⟩⟩;refine ⟨_,rfl,?_⟩)|((with_reducible refine gate_callee (f:=38) rfl ?_);refine goesL_ (some 14) rfl rfl Try.func38 (by kernel_rfl) rfl #[.float .f64 a1] rfl (by (try simp only [List.map_toArray,List.map_cons,List.map_nil]);first|done|rfl|(simp only [List.length_drop,List.length_take];rfl)) ?_;(with_reducible refine (hornbeamref06_Missing.calls a1 false _ A10.out).mono ?_);rintro e w' ⟨rfl,⟨nd,rfl⟩⟩;refine ⟨_,rfl,?_⟩))
        go_ret
        exact ⟨by first|rfl|(simp;done)|(simp [*];done),by repeat(first|exact Drawn0.refl _|apply Drawn0.step)⟩
       ·rw [if_neg c13] at H
        have c13b0 : (Flt.gt a0 a1) = false:=by simpa using c13
        clear c13
        obtain rfl:=Option.some.inj H
        go_wp2_with (first|((with_reducible refine gate_callee (f:=38) rfl ?_);refine goesL_ (some 12) rfl rfl Try.func38 (by kernel_rfl) rfl #[.float .f64 a0] rfl (by (try simp only [List.map_toArray,List.map_cons,List.map_nil]);first|done|rfl|(simp only [List.length_drop,List.length_take];rfl)) ?_;(with_reducible refine (hornbeamref06_Missing.calls a0 false _ A8.out).mono ?_);rintro e w' ⟨rfl,⟨nd,rfl⟩⟩;refine ⟨_,rfl,?_⟩)|((with_reducible refine gate_callee (f:=38) rfl ?_);refine goesL_ (some 14) rfl rfl Try.func38 (by kernel_rfl) rfl #[.float .f64 a1] rfl (by (try simp only [List.map_toArray,List.map_cons,List.map_nil]);first|done|rfl|(simp only [List.length_drop,List.length_take];rfl)) ?_;(with_reducible refine (hornbeamref06_Missing.calls a1 false _ A10.out).mono ?_);rintro e w' ⟨rfl,⟨nd,rfl⟩⟩;refine ⟨_,rfl,?_⟩))
        go_ret
        exact ⟨by first|rfl|(simp;done)|(simp [*];done),by repeat(first|exact Drawn0.refl _|apply Drawn0.step)⟩

end Go.Proofs.Ytnagfbadjbkhmaa.PB
