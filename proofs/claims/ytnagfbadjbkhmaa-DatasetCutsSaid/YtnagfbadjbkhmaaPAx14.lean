import Derived.Test.YtnagfbadjbkhmaaPAx0
namespace Go.Proofs.Ytnagfbadjbkhmaa.PA
open Go.RowKit Go.Proofs.YtnagfbadjbkhmaaW.PrintWords Go.Proofs.YtnagfbadjbkhmaaW.PrintLast Go.Proofs.YtnagfbadjbkhmaaW.PrintMore
attribute [local go_sem] max2_int min2_int max_two min_two max_three min_three max_four min_four   -- for this text's walks alone
attribute [local go_sem high] Flt.fold_eq Flt.fold_ne Flt.fold_lt Flt.fold_gt Flt.fold_le Flt.fold_ge Flt.run_bits Flt.run_frombits
set_option linter.unusedVariables false
set_option linter.unusedSimpArgs false

/-! ### hornbeamref07_Count: function 82 -/
def hornbeamref07_Count.f (a0 : Int) : Option (Int):=if a0 < 0 then (some 0) else (if a0 > 8 then (some 8) else (some a0))
set_option maxHeartbeats 8000000 in
set_option maxRecDepth 100000 in
theorem hornbeamref07_Count.calls (a0 : Int) (r : Int) (w : World) (h : hornbeamref07_Count.f a0 = some r) :
  Calls Try.prog 82 #[.int .i64 a0] w fun e w'=>e = .returned (.int .i64 r) ∧ Drawn0 w w':=by
 have H : (if a0 < 0 then (some 0) else (if a0 > 8 then (some 8) else (some a0))) = some r:=h
 clear h
 by_cases c2 : a0 < 0
 ·rw [if_pos c2] at H
  have c2b0 : decide (a0 < 0) = true:=decide_eq_true c2
  clear c2
  obtain rfl:=Option.some.inj H
  go_enter Try.func82,Try.ntmps82
  go_wp2
  go_ret
  exact ⟨by first|rfl|(simp;done)|(simp [*];done),by repeat(first|exact Drawn0.refl _|apply Drawn0.step)⟩
 ·rw [if_neg c2] at H
  have c2b0 : decide (a0 < 0) = false:=decide_eq_false c2
  clear c2
  by_cases c3 : a0 > 8
  ·rw [if_pos c3] at H
   have c3b0 : decide (8 < a0) = true:=decide_eq_true c3
   clear c3
   obtain rfl:=Option.some.inj H
   go_enter Try.func82,Try.ntmps82
   go_wp2
   go_ret
   exact ⟨by first|rfl|(simp;done)|(simp [*];done),by repeat(first|exact Drawn0.refl _|apply Drawn0.step)⟩
  ·rw [if_neg c3] at H
   have c3b0 : decide (8 < a0) = false:=decide_eq_false c3
   clear c3
   obtain rfl:=Option.some.inj H
   go_enter Try.func82,Try.ntmps82
   go_wp2
   go_ret
   exact ⟨by first|rfl|(simp;done)|(simp [*];done),by repeat(first|exact Drawn0.refl _|apply Drawn0.step)⟩

/-! ### hornbeamref07_Get: function 63 -/
def hornbeamref07_Get.l0 : Nat → ByteArray → Int → Int → Int → Int → Option (Int × Int × Bool)
 | 0,_,_,_,_,_=>none
 | k + 1,x0,x1,x9,x10,x11=>if x11 < x9 then (if 0 ≤ (wrap64 (x1 + x11)) then (if (wrap64 (x1 + x11)) < (x0.size : Int) then (hornbeamref07_Get.l0 k x0 x1 x9 (IntKind.u64.wrap ((IntKind.u64.wrap (256 * x10)) + (IntKind.u64.wrap (bt x0 (wrap64 (x1 + x11)))))) (wrap64 (x11 + 1))) else (none)) else (none)) else (some (x10,wrap64 (x1 + x9),true))
def hornbeamref07_Get.f (k : Nat) (a0 : ByteArray) (a1 : Int) (a2 : Int) : Option (Int × Int × Bool):=(hornbeamref07_Count.f a2).bind fun t305=>(if (wrap64 ((a0.size : Int) - a1)) < t305 then (some (0,a1,false)) else (hornbeamref07_Get.l0 k a0 a1 t305 0 0))
theorem hornbeamref07_Get.mono_l : ∀ k,(∀ y0 y1 y2 y3 y4,LeO (hornbeamref07_Get.l0 k y0 y1 y2 y3 y4) (hornbeamref07_Get.l0 (k + 1) y0 y1 y2 y3 y4))
 | 0=>fun _ _ _ _ _ r h=>by simp [hornbeamref07_Get.l0] at h
 | k + 1=>by
  have ih0:=hornbeamref07_Get.mono_l k
  ·intro y0 y1 y2 y3 y4
   unfold hornbeamref07_Get.l0
   repeat' first
   | (with_reducible exact ih0 _ _ _ _ _)
   | (with_reducible exact LeO.refl _)
   | (with_reducible exact LeO.none _)
   | (with_reducible refine LeO.ite ?_ ?_)
   | (with_reducible refine LeO.bind ?_ (fun _=>?_))
   | exact ih0 _ _ _ _ _
   | exact LeO.none _
   | refine LeO.ite ?_ ?_
   | refine LeO.bind ?_ (fun _=>?_)
theorem hornbeamref07_Get.mono : ∀ a0 a1 a2 k,LeO (hornbeamref07_Get.f k a0 a1 a2) (hornbeamref07_Get.f (k + 1) a0 a1 a2):=by
 intro a0 a1 a2 k
 have ih0:=hornbeamref07_Get.mono_l k
 unfold hornbeamref07_Get.f
 repeat' first
   | (with_reducible exact ih0 _ _ _ _ _)
   | (with_reducible exact LeO.refl _)
   | (with_reducible exact LeO.none _)
   | (with_reducible refine LeO.ite ?_ ?_)
   | (with_reducible refine LeO.bind ?_ (fun _=>?_))
   | exact ih0 _ _ _ _ _
   | exact LeO.none _
   | refine LeO.ite ?_ ?_
   | refine LeO.bind ?_ (fun _=>?_)
set_option maxHeartbeats 8000000 in
set_option maxRecDepth 100000 in
theorem hornbeamref07_Get.calls (k : Nat) (a0 : ByteArray) (a1 : Int) (a2 : Int) (r1 : Int) (r2 : Int) (r3 : Bool) (w : World) (h : hornbeamref07_Get.f k a0 a1 a2 = some (r1,r2,r3)) :
  Calls Try.prog 63 #[.string a0,.int .i64 a1,.int .i64 a2] w fun e w'=>e = .returned (.tuple #[.int .u64 r1,.int .i64 r2,.bool r3]) ∧ Drawn0 w w':=by
 have H : ((hornbeamref07_Count.f a2).bind fun t305=>(if (wrap64 ((a0.size : Int) - a1)) < t305 then (some (0,a1,false)) else (hornbeamref07_Get.l0 k a0 a1 t305 0 0))) = some (r1,r2,r3):=h
 clear h
 replace H:=Option.bind_eq_some_iff.mp H
 obtain ⟨t305,A40,H⟩:=H
 replace H : (if (wrap64 ((a0.size : Int) - a1)) < t305 then (some (0,a1,false)) else (hornbeamref07_Get.l0 k a0 a1 t305 0 0)) = some (r1,r2,r3):=H
 have A4:=Aside0.mk A40
 clear A40
 by_cases c5 : (wrap64 ((a0.size : Int) - a1)) < t305
 ·rw [if_pos c5] at H
  have c5b0 : decide ((wrap64 ((a0.size : Int) - a1)) < t305) = true:=decide_eq_true c5
  clear c5
  simp only [Option.some.injEq,Prod.mk.injEq] at H
  obtain ⟨rfl,rfl,rfl⟩:=H
  go_enter Try.func63,Try.ntmps63
  go_wp2_with (first|((with_reducible refine gate_callee (f:=82) rfl ?_);refine goesL_ (some 13) rfl rfl Try.func82 (by kernel_rfl) rfl #[.int .i64 a2] rfl (by (try simp only [List.map_toArray,List.map_cons,List.map_nil]);first|done|rfl|(simp only [List.length_drop,List.length_take];rfl)) ?_;(with_reducible refine (hornbeamref07_Count.calls a2 t305 _ A4.out).mono ?_);rintro e w' ⟨rfl,⟨nd,rfl⟩⟩;refine ⟨_,rfl,?_⟩))
  go_ret3
  exact ⟨by first|rfl|(simp;done)|(simp [*];done),by repeat(first|exact Drawn0.refl _|apply Drawn0.step)⟩
 ·rw [if_neg c5] at H
  have c5b0 : decide ((wrap64 ((a0.size : Int) - a1)) < t305) = false:=decide_eq_false c5
  clear c5
  have H':=Aside0.mk H
  clear H
  go_enter Try.func63,Try.ntmps63
  go_wp2_with (first|((with_reducible refine gate_callee (f:=82) rfl ?_);refine goesL_ (some 13) rfl rfl Try.func82 (by kernel_rfl) rfl #[.int .i64 a2] rfl (by (try simp only [List.map_toArray,List.map_cons,List.map_nil]);first|done|rfl|(simp only [List.length_drop,List.length_take];rfl)) ?_;(with_reducible refine (hornbeamref07_Count.calls a2 t305 _ A4.out).mono ?_);rintro e w' ⟨rfl,⟨nd,rfl⟩⟩;refine ⟨_,rfl,?_⟩))
  go_loopg [10,11] k (fun kq v10 v11 w'=>∃ (x10_1 : Int) (x11_1 : Int),v10 = .int .u64 x10_1 ∧ v11 = .int .i64 x11_1 ∧ Aside0 (hornbeamref07_Get.l0 kq a0 a1 t305 x10_1 x11_1 = some (r1,r2,r3)) ∧ Aside0 (kq ≤ k) ∧ Drawn0 w w')
  case atStart=>exact ⟨(0),(0),(by first|rfl|(simp;done)|(simp [*];done)),(by first|rfl|(simp;done)|(simp [*];done)),H',⟨Nat.le_refl _⟩,by repeat(first|exact Drawn0.refl _|apply Drawn0.step)⟩
  case round =>
   clear H'
   try clear p2
   try clear c5
   try clear c5b0
   obtain ⟨x10_1,x11_1,rfl,rfl,HA,HK1,⟨m1,rfl⟩⟩:=hrel
   cases gk with
   | zero=>exact absurd HA.out (by simp [hornbeamref07_Get.l0])
   | succ k1 =>
    have H:=HA.out
    clear HA
    simp only [hornbeamref07_Get.l0] at H
    by_cases c6 : x11_1 < t305
    ·rw [if_pos c6] at H
     have c6b0 : decide (x11_1 < t305) = true:=decide_eq_true c6
     clear c6
     obtain ⟨ji7,hji7⟩ : ∃ j_ : Int,(wrap64 (a1 + x11_1)) = j_:=⟨_,rfl⟩
     replace H : (if 0 ≤ (ji7) then (if (ji7) < (a0.size : Int) then (hornbeamref07_Get.l0 k1 a0 a1 t305 (IntKind.u64.wrap ((IntKind.u64.wrap (256 * x10_1)) + (IntKind.u64.wrap (bt a0 (ji7))))) (wrap64 (x11_1 + 1))) else (none)) else (none)) = some (r1,r2,r3):=by first|(rw [hji7] at H;exact H)|(simp only [hji7] at H ⊢;exact H)
     have hji7w : (IntKind.i64.wrap (a1 + x11_1)) = ji7:=(i64_w _).trans hji7
     by_cases c8 : 0 ≤ (ji7)
     ·rw [if_pos c8] at H
      have c8b0 : decide (0 ≤ (ji7)) = true:=decide_eq_true c8
      clear c8
      by_cases c9 : (ji7) < (a0.size : Int)
      ·rw [if_pos c9] at H
       have c9b0 : decide ((ji7) < (a0.size : Int)) = true:=decide_eq_true c9
       clear c9
       have H':=Aside0.mk H
       clear H
       have p10 : 0 ≤ ((ji7) : Int):=of_decide_eq_true (by first|(with_reducible assumption)|assumption)
       have q10 : (ji7) < (a0.size : Int):=of_decide_eq_true (by first|(with_reducible assumption)|assumption)
       have hx10:=bt_at a0 (ji7)
       replace p10:=eq_true p10
       replace q10:=eq_true q10
       go_wp2
       go_roundg k1
       case measure=>have:=HK1.out;omega
       case rel=>exact ⟨(IntKind.u64.wrap ((IntKind.u64.wrap (256 * x10_1)) + (IntKind.u64.wrap (bt a0 (ji7))))),(wrap64 (x11_1 + 1)),(by first|rfl|(simp;done)|(simp only [← hji7] <;> (first|rfl|simp))|(simp [*];done)),(by first|rfl|(simp;done)|(simp [*];done)),H',⟨by have:=HK1.out;omega⟩,by repeat(first|exact Drawn0.refl _|apply Drawn0.step)⟩
      ·rw [if_neg c9] at H
       exact absurd H (by simp)
     ·rw [if_neg c8] at H
      exact absurd H (by simp)
    ·rw [if_neg c6] at H
     have c6b0 : decide (x11_1 < t305) = false:=decide_eq_false c6
     clear c6
     simp only [Option.some.injEq,Prod.mk.injEq] at H
     obtain ⟨rfl,rfl,rfl⟩:=H
     go_wp2
     go_ret3
     exact ⟨by first|rfl|(simp;done)|(simp [*];done),by repeat(first|exact Drawn0.refl _|apply Drawn0.step)⟩

end Go.Proofs.Ytnagfbadjbkhmaa.PA
