import Derived.Test.YtnagfbadjbkhmaaPAx0
import Derived.Test.YtnagfbadjbkhmaaPAx4
namespace Go.Proofs.Ytnagfbadjbkhmaa.PA
open Go.RowKit Go.Proofs.YtnagfbadjbkhmaaW.PrintWords Go.Proofs.YtnagfbadjbkhmaaW.PrintLast Go.Proofs.YtnagfbadjbkhmaaW.PrintMore
attribute [local go_sem] max2_int min2_int max_two min_two max_three min_three max_four min_four   -- for this text's walks alone
attribute [local go_sem high] Flt.fold_eq Flt.fold_ne Flt.fold_lt Flt.fold_gt Flt.fold_le Flt.fold_ge Flt.run_bits Flt.run_frombits
set_option linter.unusedVariables false
set_option linter.unusedSimpArgs false

/-! ### take_PutValue: function 53 -/
def take_PutValue.f (k : Nat) (l0 : List Int) (a1 : Nat) : Option (List Int):=(take_Put.f k l0 (Flt.ubits a1) 8).bind fun t219=>(some t219)
theorem take_PutValue.mono : ∀ a0 a1 k,LeO (take_PutValue.f k a0 a1) (take_PutValue.f (k + 1) a0 a1):=by
 intro a0 a1 k
 unfold take_PutValue.f
 repeat' first
   | (with_reducible exact take_Put.mono _ _ _ _)
   | (with_reducible exact LeO.refl _)
   | (with_reducible exact LeO.none _)
   | (with_reducible refine LeO.ite ?_ ?_)
   | (with_reducible refine LeO.bind ?_ (fun _=>?_))
   | exact take_Put.mono _ _ _ _
   | exact LeO.none _
   | refine LeO.ite ?_ ?_
   | refine LeO.bind ?_ (fun _=>?_)
set_option maxHeartbeats 8000000 in
set_option maxRecDepth 100000 in
theorem take_PutValue.calls (k : Nat) (A0 : Option Addr) (c0 : Nat) (l0 : List Int) (a1 : Nat) (r : List Int) (w : World) (hr0 : Kd.C (Kd.int .u8) w A0 l0.length l0) (hc0 : l0.length ≤ c0) (h : take_PutValue.f k l0 a1 = some r) :
  Calls Try.prog 53 #[.slice A0 l0.length c0,.float .f64 a1] w fun e w'=>∃ v0_ : Value,e = .returned (v0_) ∧ Kd.R (Kd.int .u8) 5 w' w.heap.size (fun _=>True) v0_ r ∧ Below w.heap.size w w':=by
 have HR0:=Aside0.mk hr0
 have HC0:=Aside0.mk hc0
 clear hr0 hc0
 have HB:=Aside0.mk (Below.refl w.heap.size w)
 have H : ((take_Put.f k l0 (Flt.ubits a1) 8).bind fun t219=>(some t219)) = some r:=h
 clear h
 replace H:=Option.bind_eq_some_iff.mp H
 obtain ⟨t219,A30,H⟩:=H
 replace H : (some t219) = some r:=H
 have A3:=Aside0.mk A30
 clear A30
 obtain rfl:=Option.some.inj H
 go_enter Try.func53,Try.ntmps53
 go_wp2_with (first|((with_reducible refine gate_callee (f:=50) rfl ?_);refine goesL_ (some 8) rfl rfl Try.func50 (by kernel_rfl) rfl #[.slice A0 l0.length c0,.int .u64 (Flt.ubits a1),.int .i64 8] rfl (by (try simp only [List.map_toArray,List.map_cons,List.map_nil]);first|done|rfl|(simp only [List.length_drop,List.length_take];rfl)) ?_;(with_reducible refine (take_Put.calls k _ _ l0 (Flt.ubits a1) 8 t219 _ ?side1 ?side2 A3.out).mono ?_);(case side1=>repeat(first|exact HR0.out|(with_reducible refine Kd.C_alloc ?_ _)|(with_reducible refine Kd.C_drewN ?_ _)|(with_reducible refine Kd.C_drew ?_)));(case side2=>exact HC0.out);rintro e w4 ⟨v220,rfl,ho0,hb⟩;refine ⟨_,rfl,?_⟩;have n0_:=Aside0.mk (Kd.R_lower ho0 (below_size (by repeat(first|(with_reducible first|exact HB.out|apply below_alloc|apply pw_below_drewN|apply below_drew1)|exact HB.out))));have n1_:=Aside0.mk (below_step (by repeat(first|(with_reducible first|exact HB.out|apply below_alloc|apply pw_below_drewN|apply below_drew1)|exact HB.out)) hb);clear HB;have HO221:=n0_;have HB:=n1_;clear n0_ n1_;(try clear hb);(try clear hb2);(try clear hk);(try clear hi);(try clear ho0)))
 go_ret
 exact ⟨_,by first|rfl|(simp [errW_none,errW_some] <;> rfl)|(simp [*,errW_none,errW_some] <;> rfl),by (with_reducible repeat(first|apply Kd.R_alloc|apply Kd.R_drewN|apply Kd.R_drew));exact HO221.out,by repeat(first|(with_reducible first|exact HB.out|apply below_alloc|apply pw_below_drewN|apply below_drew1)|exact HB.out)⟩


/-! ### take_PutWhole: function 55 -/
def take_PutWhole.f (k : Nat) (l0 : List Int) (a1 : Int) : Option (List Int):=(take_Put.f k l0 (IntKind.u64.wrap (a1)) 8).bind fun t222=>(some t222)
theorem take_PutWhole.mono : ∀ a0 a1 k,LeO (take_PutWhole.f k a0 a1) (take_PutWhole.f (k + 1) a0 a1):=by
 intro a0 a1 k
 unfold take_PutWhole.f
 repeat' first
   | (with_reducible exact take_Put.mono _ _ _ _)
   | (with_reducible exact LeO.refl _)
   | (with_reducible exact LeO.none _)
   | (with_reducible refine LeO.ite ?_ ?_)
   | (with_reducible refine LeO.bind ?_ (fun _=>?_))
   | exact take_Put.mono _ _ _ _
   | exact LeO.none _
   | refine LeO.ite ?_ ?_
   | refine LeO.bind ?_ (fun _=>?_)
set_option maxHeartbeats 8000000 in
set_option maxRecDepth 100000 in
theorem take_PutWhole.calls (k : Nat) (A0 : Option Addr) (c0 : Nat) (l0 : List Int) (a1 : Int) (r : List Int) (w : World) (hr0 : Kd.C (Kd.int .u8) w A0 l0.length l0) (hc0 : l0.length ≤ c0) (h : take_PutWhole.f k l0 a1 = some r) :
  Calls Try.prog 55 #[.slice A0 l0.length c0,.int .i64 a1] w fun e w'=>∃ v0_ : Value,e = .returned (v0_) ∧ Kd.R (Kd.int .u8) 5 w' w.heap.size (fun _=>True) v0_ r ∧ Below w.heap.size w w':=by
 have HR0:=Aside0.mk hr0
 have HC0:=Aside0.mk hc0
 clear hr0 hc0
 have HB:=Aside0.mk (Below.refl w.heap.size w)
 have H : ((take_Put.f k l0 (IntKind.u64.wrap (a1)) 8).bind fun t222=>(some t222)) = some r:=h
 clear h
 replace H:=Option.bind_eq_some_iff.mp H
 obtain ⟨t222,A30,H⟩:=H
 replace H : (some t222) = some r:=H
 have A3:=Aside0.mk A30
 clear A30
 obtain rfl:=Option.some.inj H
 go_enter Try.func55,Try.ntmps55
 go_wp2_with (first|((with_reducible refine gate_callee (f:=50) rfl ?_);refine goesL_ (some 8) rfl rfl Try.func50 (by kernel_rfl) rfl #[.slice A0 l0.length c0,.int .u64 (IntKind.u64.wrap (a1)),.int .i64 8] rfl (by (try simp only [List.map_toArray,List.map_cons,List.map_nil]);first|done|rfl|(simp only [List.length_drop,List.length_take];rfl)) ?_;(with_reducible refine (take_Put.calls k _ _ l0 (IntKind.u64.wrap (a1)) 8 t222 _ ?side1 ?side2 A3.out).mono ?_);(case side1=>repeat(first|exact HR0.out|(with_reducible refine Kd.C_alloc ?_ _)|(with_reducible refine Kd.C_drewN ?_ _)|(with_reducible refine Kd.C_drew ?_)));(case side2=>exact HC0.out);rintro e w4 ⟨v223,rfl,ho0,hb⟩;refine ⟨_,rfl,?_⟩;have n0_:=Aside0.mk (Kd.R_lower ho0 (below_size (by repeat(first|(with_reducible first|exact HB.out|apply below_alloc|apply pw_below_drewN|apply below_drew1)|exact HB.out))));have n1_:=Aside0.mk (below_step (by repeat(first|(with_reducible first|exact HB.out|apply below_alloc|apply pw_below_drewN|apply below_drew1)|exact HB.out)) hb);clear HB;have HO224:=n0_;have HB:=n1_;clear n0_ n1_;(try clear hb);(try clear hb2);(try clear hk);(try clear hi);(try clear ho0)))
 go_ret
 exact ⟨_,by first|rfl|(simp [errW_none,errW_some] <;> rfl)|(simp [*,errW_none,errW_some] <;> rfl),by (with_reducible repeat(first|apply Kd.R_alloc|apply Kd.R_drewN|apply Kd.R_drew));exact HO224.out,by repeat(first|(with_reducible first|exact HB.out|apply below_alloc|apply pw_below_drewN|apply below_drew1)|exact HB.out)⟩


/-! ### hornbeamref06_Missing: function 38 -/
def hornbeamref06_Missing.f (a0 : Nat) : Option (Bool):=if ((Flt.le a0 0) = true) then (some false) else (some (!(Flt.ge a0 0)))
set_option maxHeartbeats 8000000 in
set_option maxRecDepth 100000 in
theorem hornbeamref06_Missing.calls (a0 : Nat) (r : Bool) (w : World) (h : hornbeamref06_Missing.f a0 = some r) :
  Calls Try.prog 38 #[.float .f64 a0] w fun e w'=>e = .returned (.bool r) ∧ Drawn0 w w':=by
 have H : (if ((Flt.le a0 0) = true) then (some false) else (some (!(Flt.ge a0 0)))) = some r:=h
 clear h
 by_cases c2 : ((Flt.le a0 0) = true)
 ·rw [if_pos c2] at H
  have c2b0 : (Flt.le a0 0) = true:=c2
  clear c2
  obtain rfl:=Option.some.inj H
  go_enter Try.func38,Try.ntmps38
  go_wp2
  go_ret
  exact ⟨by first|rfl|(simp;done)|(simp [*];done),by repeat(first|exact Drawn0.refl _|apply Drawn0.step)⟩
 ·rw [if_neg c2] at H
  have c2b0 : (Flt.le a0 0) = false:=by simpa using c2
  clear c2
  obtain rfl:=Option.some.inj H
  go_enter Try.func38,Try.ntmps38
  go_wp2
  go_ret
  exact ⟨by first|rfl|(simp;done)|(simp [*];done),by repeat(first|exact Drawn0.refl _|apply Drawn0.step)⟩

/-! ### hornbeamref06_Bits: function 64 -/
def hornbeamref06_Bits.f (a0 : Nat) : Option (Int):=(hornbeamref06_Missing.f a0).bind fun t241=>(if t241 = true then (some 9221120237041090561) else (if (Flt.ge a0 0) = true then (if (Flt.le a0 0) = true then (some 0) else (some (Flt.ubits a0))) else (some (Flt.ubits a0))))
set_option maxHeartbeats 8000000 in
set_option maxRecDepth 100000 in
theorem hornbeamref06_Bits.calls (a0 : Nat) (r : Int) (w : World) (h : hornbeamref06_Bits.f a0 = some r) :
  Calls Try.prog 64 #[.float .f64 a0] w fun e w'=>e = .returned (.int .u64 r) ∧ Drawn0 w w':=by
 have H : ((hornbeamref06_Missing.f a0).bind fun t241=>(if t241 = true then (some 9221120237041090561) else (if (Flt.ge a0 0) = true then (if (Flt.le a0 0) = true then (some 0) else (some (Flt.ubits a0))) else (some (Flt.ubits a0))))) = some r:=h
 clear h
 replace H:=Option.bind_eq_some_iff.mp H
 obtain ⟨t241,A20,H⟩:=H
 replace H : (if t241 = true then (some 9221120237041090561) else (if (Flt.ge a0 0) = true then (if (Flt.le a0 0) = true then (some 0) else (some (Flt.ubits a0))) else (some (Flt.ubits a0)))) = some r:=H
 have A2:=Aside0.mk A20
 clear A20
 by_cases c3 : t241 = true
 ·subst c3
  have H1 : (some 9221120237041090561) = some r:=by rw [if_pos rfl] at H;exact H
  clear H
  have H:=H1
  clear H1
  obtain rfl:=Option.some.inj H
  go_enter Try.func64,Try.ntmps64
  go_wp2_with (first|((with_reducible refine gate_callee (f:=38) rfl ?_);refine goesL_ (some 4) rfl rfl Try.func38 (by kernel_rfl) rfl #[.float .f64 a0] rfl (by (try simp only [List.map_toArray,List.map_cons,List.map_nil]);first|done|rfl|(simp only [List.length_drop,List.length_take];rfl)) ?_;(with_reducible refine (hornbeamref06_Missing.calls a0 true _ A2.out).mono ?_);rintro e w' ⟨rfl,⟨nd,rfl⟩⟩;refine ⟨_,rfl,?_⟩))
  go_ret
  exact ⟨by first|rfl|(simp;done)|(simp [*];done),by repeat(first|exact Drawn0.refl _|apply Drawn0.step)⟩
 ·replace c3:=Bool.eq_false_iff.mpr c3
  subst c3
  have H1 : (if (Flt.ge a0 0) = true then (if (Flt.le a0 0) = true then (some 0) else (some (Flt.ubits a0))) else (some (Flt.ubits a0))) = some r:=by rw [if_neg (show ¬ (false = true) by decide)] at H;exact H
  clear H
  have H:=H1
  clear H1
  by_cases c4 : (Flt.ge a0 0) = true
  ·rw [if_pos c4] at H
   have c4b0 : (Flt.ge a0 0) = true:=c4
   clear c4
   by_cases c5 : (Flt.le a0 0) = true
   ·rw [if_pos c5] at H
    have c5b0 : (Flt.le a0 0) = true:=c5
    clear c5
    obtain rfl:=Option.some.inj H
    go_enter Try.func64,Try.ntmps64
    go_wp2_with (first|((with_reducible refine gate_callee (f:=38) rfl ?_);refine goesL_ (some 4) rfl rfl Try.func38 (by kernel_rfl) rfl #[.float .f64 a0] rfl (by (try simp only [List.map_toArray,List.map_cons,List.map_nil]);first|done|rfl|(simp only [List.length_drop,List.length_take];rfl)) ?_;(with_reducible refine (hornbeamref06_Missing.calls a0 false _ A2.out).mono ?_);rintro e w' ⟨rfl,⟨nd,rfl⟩⟩;refine ⟨_,rfl,?_⟩))
    go_ret
    exact ⟨by first|rfl|(simp;done)|(simp [*];done),by repeat(first|exact Drawn0.refl _|apply Drawn0.step)⟩
   ·rw [if_neg c5] at H
    have c5b0 : (Flt.le a0 0) = false:=by simpa using c5
    clear c5
    obtain rfl:=Option.some.inj H
    go_enter Try.func64,Try.ntmps64
    go_wp2_with (first|((with_reducible refine gate_callee (f:=38) rfl ?_);refine goesL_ (some 4) rfl rfl Try.func38 (by kernel_rfl) rfl #[.float .f64 a0] rfl (by (try simp only [List.map_toArray,List.map_cons,List.map_nil]);first|done|rfl|(simp only [List.length_drop,List.length_take];rfl)) ?_;(with_reducible refine (hornbeamref06_Missing.calls a0 false _ A2.out).mono ?_);rintro e w' ⟨rfl,⟨nd,rfl⟩⟩;refine ⟨_,rfl,?_⟩))
    go_ret
    exact ⟨by first|rfl|(simp;done)|(simp [*];done),by repeat(first|exact Drawn0.refl _|apply Drawn0.step)⟩
  ·rw [if_neg c4] at H
   have c4b0 : (Flt.ge a0 0) = false:=by simpa using c4
   clear c4
   obtain rfl:=Option.some.inj H
   go_enter Try.func64,Try.ntmps64
   go_wp2_with (first|((with_reducible refine gate_callee (f:=38) rfl ?_);refine goesL_ (some 4) rfl rfl Try.func38 (by kernel_rfl) rfl #[.float .f64 a0] rfl (by (try simp only [List.map_toArray,List.map_cons,List.map_nil]);first|done|rfl|(simp only [List.length_drop,List.length_take];rfl)) ?_;(with_reducible refine (hornbeamref06_Missing.calls a0 false _ A2.out).mono ?_);rintro e w' ⟨rfl,⟨nd,rfl⟩⟩;refine ⟨_,rfl,?_⟩))
   go_ret
   exact ⟨by first|rfl|(simp;done)|(simp [*];done),by repeat(first|exact Drawn0.refl _|apply Drawn0.step)⟩

/-! ### hornbeamref06_Clean: function 43 -/
def hornbeamref06_Clean.f (a0 : Nat) : Option (Nat):=(hornbeamref06_Bits.f a0).bind fun t242=>(some (Flt.fbits t242))
set_option maxHeartbeats 8000000 in
set_option maxRecDepth 100000 in
theorem hornbeamref06_Clean.calls (a0 : Nat) (r : Nat) (w : World) (h : hornbeamref06_Clean.f a0 = some r) :
  Calls Try.prog 43 #[.float .f64 a0] w fun e w'=>e = .returned (.float .f64 r) ∧ Drawn0 w w':=by
 have H : ((hornbeamref06_Bits.f a0).bind fun t242=>(some (Flt.fbits t242))) = some r:=h
 clear h
 replace H:=Option.bind_eq_some_iff.mp H
 obtain ⟨t242,A20,H⟩:=H
 replace H : (some (Flt.fbits t242)) = some r:=H
 have A2:=Aside0.mk A20
 clear A20
 obtain rfl:=Option.some.inj H
 go_enter Try.func43,Try.ntmps43
 go_wp2_with (first|((with_reducible refine gate_callee (f:=64) rfl ?_);refine goesL_ (some 4) rfl rfl Try.func64 (by kernel_rfl) rfl #[.float .f64 a0] rfl (by (try simp only [List.map_toArray,List.map_cons,List.map_nil]);first|done|rfl|(simp only [List.length_drop,List.length_take];rfl)) ?_;(with_reducible refine (hornbeamref06_Bits.calls a0 t242 _ A2.out).mono ?_);rintro e w' ⟨rfl,⟨nd,rfl⟩⟩;refine ⟨_,rfl,?_⟩))
 go_ret
 exact ⟨by first|rfl|(simp;done)|(simp [*];done),by repeat(first|exact Drawn0.refl _|apply Drawn0.step)⟩

/-! ### math_NaN: function 44 -/
def math_NaN.f  : Option (Nat):=some (Flt.fbits 9221120237041090561)
set_option maxHeartbeats 8000000 in
set_option maxRecDepth 100000 in
theorem math_NaN.calls  (r : Nat) (w : World) (h : math_NaN.f  = some r) :
  Calls Try.prog 44 #[] w fun e w'=>e = .returned (.float .f64 r) ∧ Drawn0 w w':=by
 have H : (some (Flt.fbits 9221120237041090561)) = some r:=h
 clear h
 obtain rfl:=Option.some.inj H
 go_enter Try.func44,Try.ntmps44
 go_wp2
 go_ret
 exact ⟨by first|rfl|(simp;done)|(simp [*];done),by repeat(first|exact Drawn0.refl _|apply Drawn0.step)⟩


/-! ### hornbeamref06_Of: function 28 -/
def hornbeamref06_Of.l0 : Nat → List Int → List Nat → Int → Option (List Nat)
 | 0,_,_,_=>none
 | k + 1,x0,x3,x4=>if x4 < (x0.length : Int) then (if 0 ≤ x4 then (if x3.length < 17592186044416 then (hornbeamref06_Of.l0 k x0 (x3 ++ [Flt.fbits (rd x0 x4)]) (wrap64 (x4 + 1))) else (none)) else (none)) else (some x3)
def hornbeamref06_Of.f (k : Nat) (l0 : List Int) : Option (List Nat):=hornbeamref06_Of.l0 k l0 (([] : List Nat)) 0
theorem hornbeamref06_Of.mono_l : ∀ k,(∀ y0 y1 y2,LeO (hornbeamref06_Of.l0 k y0 y1 y2) (hornbeamref06_Of.l0 (k + 1) y0 y1 y2))
 | 0=>fun _ _ _ r h=>by simp [hornbeamref06_Of.l0] at h
 | k + 1=>by
  have ih0:=hornbeamref06_Of.mono_l k
  ·intro y0 y1 y2
   unfold hornbeamref06_Of.l0
   repeat' first
   | (with_reducible exact ih0 _ _ _)
   | (with_reducible exact LeO.refl _)
   | (with_reducible exact LeO.none _)
   | (with_reducible refine LeO.ite ?_ ?_)
   | (with_reducible refine LeO.bind ?_ (fun _=>?_))
   | exact ih0 _ _ _
   | exact LeO.none _
   | refine LeO.ite ?_ ?_
   | refine LeO.bind ?_ (fun _=>?_)
theorem hornbeamref06_Of.mono : ∀ a0 k,LeO (hornbeamref06_Of.f k a0) (hornbeamref06_Of.f (k + 1) a0):=by
 intro a0 k
 have ih0:=hornbeamref06_Of.mono_l k
 unfold hornbeamref06_Of.f
 repeat' first
   | (with_reducible exact ih0 _ _ _)
   | (with_reducible exact LeO.refl _)
   | (with_reducible exact LeO.none _)
   | (with_reducible refine LeO.ite ?_ ?_)
   | (with_reducible refine LeO.bind ?_ (fun _=>?_))
   | exact ih0 _ _ _
   | exact LeO.none _
   | refine LeO.ite ?_ ?_
   | refine LeO.bind ?_ (fun _=>?_)
set_option maxHeartbeats 8000000 in
set_option maxRecDepth 100000 in
theorem hornbeamref06_Of.calls (k : Nat) (A0 : Option Addr) (c0 : Nat) (l0 : List Int) (r : List Nat) (w : World) (hr0 : Kd.C (Kd.int .u64) w A0 l0.length l0) (hc0 : l0.length ≤ c0) (h : hornbeamref06_Of.f k l0 = some r) :
  Calls Try.prog 28 #[.slice A0 l0.length c0] w fun e w'=>∃ v0_ : Value,e = .returned (v0_) ∧ Kd.R Flt.kf 36 w' w.heap.size (fun _=>True) v0_ r ∧ Below w.heap.size w w':=by
 have HR0:=Aside0.mk hr0
 have HC0:=Aside0.mk hc0
 clear hr0 hc0
 have HB:=Aside0.mk (Below.refl w.heap.size w)
 have H : (hornbeamref06_Of.l0 k l0 (([] : List Nat)) 0) = some r:=h
 clear h
 obtain ⟨y251,hy251⟩ : ∃ y_ : List Nat,y_ = (([] : List Nat)):=⟨_,rfl⟩
 replace H : (hornbeamref06_Of.l0 k l0 y251 0) = some r:=by first|(rw [hy251];with_reducible exact H)|(have H2_:=(Option.bind_some _ _).symm.trans H;rw [hy251];with_reducible exact H2_)|(have H2_:=(Option.bind_some _ _).symm.trans H;with_reducible exact H2_)|with_reducible exact H|(rw [hy251];exact H)|exact H
 have Ny251:=Aside0.mk hy251
 clear hy251
 have H':=Aside0.mk H
 clear H
 go_enter Try.func28,Try.ntmps28
 go_wp2_with (first|((with_reducible refine gate_dst (N:=5) rfl ?_);refine Kd.R_lit Flt.kf _ 36 ?hg (N:=5) ?hd (xs:=([] : List Nat)) (inner:=[]) (ok:=fun _=>True) (okp:=fun _=>True) ?hr ?hp (fun _ hk=>hk) trivial (Below.refl _ _) (Nat.le_refl _) (by simp) ?_;(case hd=>rfl);(case hg=>rfl);(case hr=>first|(go_simp;done)|(go_simp;rfl));(case hp=>exact (Reps.none _ _));intro v252 w2 ho3 hb hg_ hnew_;clear hg_ hnew_;(first|rw [← Ny251.out] at ho3|(simp only [Int.reduceToNat] at ho3;rw [← Ny251.out] at ho3));have n0_:=Aside0.mk (Kd.R_lower ho3 (below_size (by repeat(first|(with_reducible first|exact HB.out|apply below_alloc|apply pw_below_drewN|apply below_drew1)|exact HB.out))));have n1_:=Aside0.mk (below_step (by repeat(first|(with_reducible first|exact HB.out|apply below_alloc|apply pw_below_drewN|apply below_drew1)|exact HB.out)) hb);clear HB;have HO253:=n0_;have HB:=n1_;clear n0_ n1_;clear hb ho3))
 go_loopg [3,4] k (fun kq v3 v4 w'=>∃ (x3_1 : List Nat) (x4_1 : Int),v4 = .int .i64 x4_1 ∧ Aside0 (hornbeamref06_Of.l0 kq l0 x3_1 x4_1 = some r) ∧ Aside0 (kq ≤ k) ∧ Aside0 (Kd.R Flt.kf 36 w' w.heap.size (fun _=>True) v3 x3_1) ∧ Aside0 (Below w.heap.size w w'))
 case atStart=>exact ⟨(y251),(0),(by first|rfl|(simp;done)|(simp [*];done)),H',⟨Nat.le_refl _⟩,⟨by (with_reducible repeat(first|apply Kd.R_alloc|apply Kd.R_drewN|apply Kd.R_drew));exact HO253.out⟩,⟨by repeat(first|(with_reducible first|exact HB.out|apply below_alloc|apply pw_below_drewN|apply below_drew1)|exact HB.out)⟩⟩
 case round =>
  clear H'
  try clear c2
  try clear p2
  obtain ⟨x3_1,x4_1,rfl,HA,HK1,HO_3,HB⟩:=hrel
  cases gk with
  | zero=>exact absurd HA.out (by simp [hornbeamref06_Of.l0])
  | succ k1 =>
   have H:=HA.out
   clear HA
   simp only [hornbeamref06_Of.l0] at H
   by_cases c4 : x4_1 < (l0.length : Int)
   ·rw [if_pos c4] at H
    have c4b0 : decide (x4_1 < (l0.length : Int)) = true:=decide_eq_true c4
    clear c4
    by_cases c5 : 0 ≤ x4_1
    ·rw [if_pos c5] at H
     have c5b0 : decide (0 ≤ x4_1) = true:=decide_eq_true c5
     clear c5
     by_cases c6 : x3_1.length < 17592186044416
     ·rw [if_pos c6] at H
      have LMc6:=Aside0.mk c6
      clear c6
      obtain ⟨y255,hy255⟩ : ∃ y_ : List Nat,y_ = (x3_1 ++ [Flt.fbits (rd l0 x4_1)]):=⟨_,rfl⟩
      replace H : (hornbeamref06_Of.l0 k1 l0 y255 (wrap64 (x4_1 + 1))) = some r:=by first|(rw [hy255];with_reducible exact H)|(have H2_:=(Option.bind_some _ _).symm.trans H;rw [hy255];with_reducible exact H2_)|(have H2_:=(Option.bind_some _ _).symm.trans H;with_reducible exact H2_)|with_reducible exact H|(rw [hy255];exact H)|exact H
      have Ny255:=Aside0.mk hy255
      clear hy255
      have H':=Aside0.mk H
      clear H
      have p254 : 0 ≤ (x4_1 : Int):=of_decide_eq_true (by first|(with_reducible assumption)|assumption)
      have q254 : x4_1 < (l0.length : Int):=of_decide_eq_true (by first|(with_reducible assumption)|assumption)
      obtain ⟨ad254,e254,hx254_0⟩:=Kd.at_int HR0.out x4_1 p254 q254
      cases e254
      replace hx254_0:=(HB.out.cell (World.block_lt_of_cell? w _ hx254_0)).trans hx254_0
      replace p254:=eq_true p254
      replace q254:=eq_true q254
      go_wp2_with (first|((with_reducible refine gate_builtin (b:=.append) (xs:=#[.tmp 12,.tmp 18]) rfl ?_);at_builtin;refine Kd.R_append Flt.kf (w0:=w) w.heap.size rfl (.tmp 12) (.tmp 18) 30 36 (.float .f64 0) 8 rfl Try.underlying30 info36 rfl (by decide) (by omega) u3 x3_1 (Flt.fbits (rd l0 x4_1)) [.float .f64 (Flt.fbits (rd l0 x4_1))] (fun _=>True) (fun _=>False) rfl rfl ?aP (fun _ hk=>hk.elim) ?aF ?aO ?aB ?aS ?aL ?_;(case aP=>exact rfl);(case aB=>exact (by repeat(first|(with_reducible first|exact HB.out|apply below_alloc|apply pw_below_drewN|apply below_drew1)|exact HB.out)));(case aF=>exact (fun _ _=>trivial));(case aO=>exact (by (with_reducible repeat(first|apply Kd.R_alloc|apply Kd.R_drewN|apply Kd.R_drew));exact HO_3.out));(case aS=>exact (below_size (by repeat(first|(with_reducible first|exact HB.out|apply below_alloc|apply pw_below_drewN|apply below_drew1)|exact HB.out))));(case aL=>have:=LMc6.out;omega);intro v256 w7 ho hb hg hat;rw [← Ny255.out] at ho;have n0_:=Aside0.mk (hb);have n1_:=Aside0.mk (ho);clear HB;clear HO_3;have HB:=n0_;have HO257:=n1_;clear n0_ n1_;clear ho hb hg hat))
      go_roundg k1
      case measure=>have:=HK1.out;omega
      case rel=>exact ⟨(y255),(wrap64 (x4_1 + 1)),(by first|rfl|(simp;done)|(simp [*];done)),H',⟨by have:=HK1.out;omega⟩,⟨by (with_reducible repeat(first|apply Kd.R_alloc|apply Kd.R_drewN|apply Kd.R_drew));exact HO257.out⟩,⟨by repeat(first|(with_reducible first|exact HB.out|apply below_alloc|apply pw_below_drewN|apply below_drew1)|exact HB.out)⟩⟩
     ·rw [if_neg c6] at H
      exact absurd H (by simp)
    ·rw [if_neg c5] at H
     exact absurd H (by simp)
   ·rw [if_neg c4] at H
    have c4b0 : decide (x4_1 < (l0.length : Int)) = false:=decide_eq_false c4
    clear c4
    obtain rfl:=Option.some.inj H
    go_wp2
    go_ret
    exact ⟨_,by first|rfl|(simp [errW_none,errW_some] <;> rfl)|(simp [*,errW_none,errW_some] <;> rfl),by (with_reducible repeat(first|apply Kd.R_alloc|apply Kd.R_drewN|apply Kd.R_drew));exact HO_3.out,by repeat(first|(with_reducible first|exact HB.out|apply below_alloc|apply pw_below_drewN|apply below_drew1)|exact HB.out)⟩

end Go.Proofs.Ytnagfbadjbkhmaa.PA
