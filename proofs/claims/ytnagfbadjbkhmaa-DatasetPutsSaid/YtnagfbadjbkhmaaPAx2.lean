import Derived.Test.YtnagfbadjbkhmaaPAx0
import Derived.Test.YtnagfbadjbkhmaaPAx1
namespace Go.Proofs.Ytnagfbadjbkhmaa.PA
open Go.RowKit Go.Proofs.YtnagfbadjbkhmaaW.PrintWords Go.Proofs.YtnagfbadjbkhmaaW.PrintLast Go.Proofs.YtnagfbadjbkhmaaW.PrintMore
attribute [local go_sem] max2_int min2_int max_two min_two max_three min_three max_four min_four   -- for this text's walks alone
attribute [local go_sem high] Flt.fold_eq Flt.fold_ne Flt.fold_lt Flt.fold_gt Flt.fold_le Flt.fold_ge Flt.run_bits Flt.run_frombits
set_option linter.unusedVariables false
set_option linter.unusedSimpArgs false

/-! ### take_Put: function 50 -/
def take_Put.l0 : Nat → Int → List Int → Int → Option (List Int)
 | 0,_,_,_=>none
 | k + 1,x1,x7,x8=>if x8 ≥ 0 then (if 0 ≤ (wrap64 (8 * x8)) then (if x7.length < 140737488355328 then (take_Put.l0 k x1 (x7 ++ [(shr .u64 x1 (wrap64 (8 * x8))) % 256]) (wrap64 (x8 - 1))) else (none)) else (none)) else (some x7)
def take_Put.f (k : Nat) (l0 : List Int) (a1 : Int) (a2 : Int) : Option (List Int):=(slices_Clone_byte_byte.f l0).bind fun t115=>((take_count.f a2).bind fun t118=>(take_Put.l0 k a1 t115 (wrap64 (t118 - 1))))
theorem take_Put.mono_l : ∀ k,(∀ y0 y1 y2,LeO (take_Put.l0 k y0 y1 y2) (take_Put.l0 (k + 1) y0 y1 y2))
 | 0=>fun _ _ _ r h=>by simp [take_Put.l0] at h
 | k + 1=>by
  have ih0:=take_Put.mono_l k
  ·intro y0 y1 y2
   unfold take_Put.l0
   repeat' first
   | (with_reducible exact ih0 _ _ _)
   | (with_reducible exact LeO.refl _)
   | (with_reducible exact LeO.none _)
   | (with_reducible refine LeO.ite ?_ ?_)
   | (with_reducible refine LeO.bind ?_ (fun _=>?_))
   | exact ih0 _ _ _
   | exact LeO.none _
   | refine LeO.ite ?_ ?_
   | refine LeO.bind ?_ (fun _=>?_)
theorem take_Put.mono : ∀ a0 a1 a2 k,LeO (take_Put.f k a0 a1 a2) (take_Put.f (k + 1) a0 a1 a2):=by
 intro a0 a1 a2 k
 have ih0:=take_Put.mono_l k
 unfold take_Put.f
 repeat' first
   | (with_reducible exact ih0 _ _ _)
   | (with_reducible exact LeO.refl _)
   | (with_reducible exact LeO.none _)
   | (with_reducible refine LeO.ite ?_ ?_)
   | (with_reducible refine LeO.bind ?_ (fun _=>?_))
   | exact ih0 _ _ _
   | exact LeO.none _
   | refine LeO.ite ?_ ?_
   | refine LeO.bind ?_ (fun _=>?_)
set_option maxHeartbeats 8000000 in
set_option maxRecDepth 100000 in
theorem take_Put.calls (k : Nat) (A0 : Option Addr) (c0 : Nat) (l0 : List Int) (a1 : Int) (a2 : Int) (r : List Int) (w : World) (hr0 : Kd.C (Kd.int .u8) w A0 l0.length l0) (hc0 : l0.length ≤ c0) (h : take_Put.f k l0 a1 a2 = some r) :
  Calls Try.prog 50 #[.slice A0 l0.length c0,.int .u64 a1,.int .i64 a2] w fun e w'=>∃ v0_ : Value,e = .returned (v0_) ∧ Kd.R (Kd.int .u8) 5 w' w.heap.size (fun _=>True) v0_ r ∧ Below w.heap.size w w':=by
 have HR0:=Aside0.mk hr0
 have HC0:=Aside0.mk hc0
 clear hr0 hc0
 have HB:=Aside0.mk (Below.refl w.heap.size w)
 have H : ((slices_Clone_byte_byte.f l0).bind fun t115=>((take_count.f a2).bind fun t118=>(take_Put.l0 k a1 t115 (wrap64 (t118 - 1))))) = some r:=h
 clear h
 replace H:=Option.bind_eq_some_iff.mp H
 obtain ⟨t115,A40,H⟩:=H
 replace H : ((take_count.f a2).bind fun t118=>(take_Put.l0 k a1 t115 (wrap64 (t118 - 1)))) = some r:=H
 have A4:=Aside0.mk A40
 clear A40
 replace H:=Option.bind_eq_some_iff.mp H
 obtain ⟨t118,A50,H⟩:=H
 replace H : (take_Put.l0 k a1 t115 (wrap64 (t118 - 1))) = some r:=H
 have A5:=Aside0.mk A50
 clear A50
 have H':=Aside0.mk H
 clear H
 go_enter Try.func50,Try.ntmps50
 go_wp2_with (first|((with_reducible refine gate_callee (f:=77) rfl ?_);refine goesL_ (some 10) rfl rfl Try.func77 (by kernel_rfl) rfl #[.slice A0 l0.length c0] rfl (by (try simp only [List.map_toArray,List.map_cons,List.map_nil]);first|done|rfl|(simp only [List.length_drop,List.length_take];rfl)) ?_;(with_reducible refine (slices_Clone_byte_byte.calls _ _ l0 t115 _ ?side1 ?side2 A4.out).mono ?_);(case side1=>repeat(first|exact HR0.out|(with_reducible refine Kd.C_alloc ?_ _)|(with_reducible refine Kd.C_drewN ?_ _)|(with_reducible refine Kd.C_drew ?_)));(case side2=>exact HC0.out);rintro e w6 ⟨v116,rfl,ho0,hb⟩;refine ⟨_,rfl,?_⟩;have n0_:=Aside0.mk (Kd.R_lower ho0 (below_size (by repeat(first|(with_reducible first|exact HB.out|apply below_alloc|apply pw_below_drewN|apply below_drew1)|exact HB.out))));have n1_:=Aside0.mk (below_step (by repeat(first|(with_reducible first|exact HB.out|apply below_alloc|apply pw_below_drewN|apply below_drew1)|exact HB.out)) hb);clear HB;have HO117:=n0_;have HB:=n1_;clear n0_ n1_;(try clear hb);(try clear hb2);(try clear hk);(try clear hi);(try clear ho0))|((with_reducible refine gate_callee (f:=78) rfl ?_);refine goesL_ (some 12) rfl rfl Try.func78 (by kernel_rfl) rfl #[.int .i64 a2] rfl (by (try simp only [List.map_toArray,List.map_cons,List.map_nil]);first|done|rfl|(simp only [List.length_drop,List.length_take];rfl)) ?_;(with_reducible refine (take_count.calls a2 t118 _ A5.out).mono ?_);rintro e w7 ⟨rfl,hb⟩;refine ⟨_,rfl,?_⟩;have n0_:=Aside0.mk (Kd.R_below (by (with_reducible repeat(first|apply Kd.R_alloc|apply Kd.R_drewN|apply Kd.R_drew));exact HO117.out) hb);have n1_:=Aside0.mk (below_step (by repeat(first|(with_reducible first|exact HB.out|apply below_alloc|apply pw_below_drewN|apply below_drew1)|exact HB.out)) hb);clear HO117;clear HB;have HO117:=n0_;have HB:=n1_;clear n0_ n1_;(try clear hb);(try clear hb2);(try clear hk);(try clear hi)))
 go_loopg [7,8] k (fun kq v7 v8 w'=>∃ (x7_1 : List Int) (x8_1 : Int),v8 = .int .i64 x8_1 ∧ Aside0 (take_Put.l0 kq a1 x7_1 x8_1 = some r) ∧ Aside0 (kq ≤ k) ∧ Aside0 (Kd.R (Kd.int .u8) 5 w' w.heap.size (fun _=>True) v7 x7_1) ∧ Aside0 (Below w.heap.size w w'))
 case atStart=>exact ⟨(t115),(wrap64 (t118 - 1)),(by first|rfl|(simp;done)|(simp [*];done)),H',⟨Nat.le_refl _⟩,⟨by (with_reducible repeat(first|apply Kd.R_alloc|apply Kd.R_drewN|apply Kd.R_drew));exact HO117.out⟩,⟨by repeat(first|(with_reducible first|exact HB.out|apply below_alloc|apply pw_below_drewN|apply below_drew1)|exact HB.out)⟩⟩
 case round =>
  clear H'
  try clear p2
  try clear c5
  try clear p6
  try clear c7
  obtain ⟨x7_1,x8_1,rfl,HA,HK1,HO_7,HB⟩:=hrel
  cases gk with
  | zero=>exact absurd HA.out (by simp [take_Put.l0])
  | succ k1 =>
   have H:=HA.out
   clear HA
   simp only [take_Put.l0] at H
   by_cases c8 : x8_1 ≥ 0
   ·rw [if_pos c8] at H
    have c8b0 : decide (0 ≤ x8_1) = true:=decide_eq_true c8
    clear c8
    obtain ⟨ji9,hji9⟩ : ∃ j_ : Int,(wrap64 (8 * x8_1)) = j_:=⟨_,rfl⟩
    replace H : (if 0 ≤ (ji9) then (if x7_1.length < 140737488355328 then (take_Put.l0 k1 a1 (x7_1 ++ [(shr .u64 a1 (ji9)) % 256]) (wrap64 (x8_1 - 1))) else (none)) else (none)) = some r:=by first|(rw [hji9] at H;exact H)|(simp only [hji9] at H ⊢;exact H)
    have hji9w : (IntKind.i64.wrap (8 * x8_1)) = ji9:=(i64_w _).trans hji9
    by_cases c10 : 0 ≤ (ji9)
    ·rw [if_pos c10] at H
     have c10b0:=eq_true c10
     have c10b1 : decide (0 ≤ (ji9)) = true:=decide_eq_true c10
     clear c10
     obtain ⟨ji11,hji11⟩ : ∃ j_ : Int,(shr .u64 a1 (ji9)) = j_:=⟨_,rfl⟩
     replace H : (if x7_1.length < 140737488355328 then (take_Put.l0 k1 a1 (x7_1 ++ [(ji11) % 256]) (wrap64 (x8_1 - 1))) else (none)) = some r:=by first|(rw [hji11] at H;exact H)|(simp only [hji11] at H ⊢;exact H)
     have hji11_ : (a1 / 2 ^ min (ji9).toNat 64) = ji11:=hji11
     have hji11z : (ji9) ≤ 64 → (a1 / 2 ^ (ji9).toNat) = ji11:=shr_small hji11
     by_cases c12 : x7_1.length < 140737488355328
     ·rw [if_pos c12] at H
      have LMc12:=Aside0.mk c12
      clear c12
      obtain ⟨y119,hy119⟩ : ∃ y_ : List Int,y_ = (x7_1 ++ [(ji11) % 256]):=⟨_,rfl⟩
      replace H : (take_Put.l0 k1 a1 y119 (wrap64 (x8_1 - 1))) = some r:=by first|(rw [hy119];with_reducible exact H)|(have H2_:=(Option.bind_some _ _).symm.trans H;rw [hy119];with_reducible exact H2_)|(have H2_:=(Option.bind_some _ _).symm.trans H;with_reducible exact H2_)|with_reducible exact H|(rw [hy119];exact H)|exact H
      have Ny119:=Aside0.mk hy119
      clear hy119
      have H':=Aside0.mk H
      clear H
      go_wp2_with (first|((with_reducible refine gate_builtin (b:=.append) (xs:=#[.tmp 18,.tmp 24]) rfl ?_);at_builtin;refine Kd.R_append (Kd.int .u8) (w0:=w) w.heap.size rfl (.tmp 18) (.tmp 24) 42 5 (.int .u8 0) 1 rfl Try.underlying42 info5 rfl (by decide) (by omega) u7 x7_1 ((ji11) % 256) [.int .u8 ((ji11) % 256)] (fun _=>True) (fun _=>False) rfl rfl ?aP (fun _ hk=>hk.elim) ?aF ?aO ?aB ?aS ?aL ?_;(case aP=>exact rfl);(case aB=>exact (by repeat(first|(with_reducible first|exact HB.out|apply below_alloc|apply pw_below_drewN|apply below_drew1)|exact HB.out)));(case aF=>exact (fun _ _=>trivial));(case aO=>exact (by (with_reducible repeat(first|apply Kd.R_alloc|apply Kd.R_drewN|apply Kd.R_drew));exact HO_7.out));(case aS=>exact (below_size (by repeat(first|(with_reducible first|exact HB.out|apply below_alloc|apply pw_below_drewN|apply below_drew1)|exact HB.out))));(case aL=>have:=LMc12.out;omega);intro v120 w13 ho hb hg hat;rw [← Ny119.out] at ho;have n0_:=Aside0.mk (hb);have n1_:=Aside0.mk (ho);clear HB;clear HO_7;have HB:=n0_;have HO121:=n1_;clear n0_ n1_;clear ho hb hg hat))
      go_roundg k1
      case measure=>have:=HK1.out;omega
      case rel=>exact ⟨(y119),(wrap64 (x8_1 - 1)),(by first|rfl|(simp;done)|(simp [*];done)),H',⟨by have:=HK1.out;omega⟩,⟨by (with_reducible repeat(first|apply Kd.R_alloc|apply Kd.R_drewN|apply Kd.R_drew));exact HO121.out⟩,⟨by repeat(first|(with_reducible first|exact HB.out|apply below_alloc|apply pw_below_drewN|apply below_drew1)|exact HB.out)⟩⟩
     ·rw [if_neg c12] at H
      exact absurd H (by simp)
    ·rw [if_neg c10] at H
     exact absurd H (by simp)
   ·rw [if_neg c8] at H
    have c8b0 : decide (0 ≤ x8_1) = false:=decide_eq_false c8
    clear c8
    obtain rfl:=Option.some.inj H
    go_wp2
    go_ret
    exact ⟨_,by first|rfl|(simp [errW_none,errW_some] <;> rfl)|(simp [*,errW_none,errW_some] <;> rfl),by (with_reducible repeat(first|apply Kd.R_alloc|apply Kd.R_drewN|apply Kd.R_drew));exact HO_7.out,by repeat(first|(with_reducible first|exact HB.out|apply below_alloc|apply pw_below_drewN|apply below_drew1)|exact HB.out)⟩

/-! ### take_PutValue: function 53 -/
def take_PutValue.f (k : Nat) (l0 : List Int) (a1 : Nat) : Option (List Int):=(take_Put.f k l0 (Flt.ubits a1) 8).bind fun t122=>(some t122)
theorem take_PutValue.mono : ∀ a0 a1 k,LeO (take_PutValue.f k a0 a1) (take_PutValue.f (k + 1) a0 a1):=by
 intro a0 a1 k
 unfold take_PutValue.f
 repeat' first
   | (with_reducible exact take_Put.mono _ _ _ _)
   | (with_reducible exact LeO.refl _)
   | (with_reducible exact LeO.none _)
   | (with_reducible refine LeO.ite ?_ ?_)
   | (with_reducible refine LeO.bind ?_ (fun _=>?_))
   | exact take_Put.mono _ _ _ _
   | exact LeO.none _
   | refine LeO.ite ?_ ?_
   | refine LeO.bind ?_ (fun _=>?_)
set_option maxHeartbeats 8000000 in
set_option maxRecDepth 100000 in
theorem take_PutValue.calls (k : Nat) (A0 : Option Addr) (c0 : Nat) (l0 : List Int) (a1 : Nat) (r : List Int) (w : World) (hr0 : Kd.C (Kd.int .u8) w A0 l0.length l0) (hc0 : l0.length ≤ c0) (h : take_PutValue.f k l0 a1 = some r) :
  Calls Try.prog 53 #[.slice A0 l0.length c0,.float .f64 a1] w fun e w'=>∃ v0_ : Value,e = .returned (v0_) ∧ Kd.R (Kd.int .u8) 5 w' w.heap.size (fun _=>True) v0_ r ∧ Below w.heap.size w w':=by
 have HR0:=Aside0.mk hr0
 have HC0:=Aside0.mk hc0
 clear hr0 hc0
 have HB:=Aside0.mk (Below.refl w.heap.size w)
 have H : ((take_Put.f k l0 (Flt.ubits a1) 8).bind fun t122=>(some t122)) = some r:=h
 clear h
 replace H:=Option.bind_eq_some_iff.mp H
 obtain ⟨t122,A30,H⟩:=H
 replace H : (some t122) = some r:=H
 have A3:=Aside0.mk A30
 clear A30
 obtain rfl:=Option.some.inj H
 go_enter Try.func53,Try.ntmps53
 go_wp2_with (first|((with_reducible refine gate_callee (f:=50) rfl ?_);refine goesL_ (some 8) rfl rfl Try.func50 (by kernel_rfl) rfl #[.slice A0 l0.length c0,.int .u64 (Flt.ubits a1),.int .i64 8] rfl (by (try simp only [List.map_toArray,List.map_cons,List.map_nil]);first|done|rfl|(simp only [List.length_drop,List.length_take];rfl)) ?_;(with_reducible refine (take_Put.calls k _ _ l0 (Flt.ubits a1) 8 t122 _ ?side1 ?side2 A3.out).mono ?_);(case side1=>repeat(first|exact HR0.out|(with_reducible refine Kd.C_alloc ?_ _)|(with_reducible refine Kd.C_drewN ?_ _)|(with_reducible refine Kd.C_drew ?_)));(case side2=>exact HC0.out);rintro e w4 ⟨v123,rfl,ho0,hb⟩;refine ⟨_,rfl,?_⟩;have n0_:=Aside0.mk (Kd.R_lower ho0 (below_size (by repeat(first|(with_reducible first|exact HB.out|apply below_alloc|apply pw_below_drewN|apply below_drew1)|exact HB.out))));have n1_:=Aside0.mk (below_step (by repeat(first|(with_reducible first|exact HB.out|apply below_alloc|apply pw_below_drewN|apply below_drew1)|exact HB.out)) hb);clear HB;have HO124:=n0_;have HB:=n1_;clear n0_ n1_;(try clear hb);(try clear hb2);(try clear hk);(try clear hi);(try clear ho0)))
 go_ret
 exact ⟨_,by first|rfl|(simp [errW_none,errW_some] <;> rfl)|(simp [*,errW_none,errW_some] <;> rfl),by (with_reducible repeat(first|apply Kd.R_alloc|apply Kd.R_drewN|apply Kd.R_drew));exact HO124.out,by repeat(first|(with_reducible first|exact HB.out|apply below_alloc|apply pw_below_drewN|apply below_drew1)|exact HB.out)⟩

/-! ### take_PutWhole: function 55 -/
def take_PutWhole.f (k : Nat) (l0 : List Int) (a1 : Int) : Option (List Int):=(take_Put.f k l0 (IntKind.u64.wrap (a1)) 8).bind fun t125=>(some t125)
theorem take_PutWhole.mono : ∀ a0 a1 k,LeO (take_PutWhole.f k a0 a1) (take_PutWhole.f (k + 1) a0 a1):=by
 intro a0 a1 k
 unfold take_PutWhole.f
 repeat' first
   | (with_reducible exact take_Put.mono _ _ _ _)
   | (with_reducible exact LeO.refl _)
   | (with_reducible exact LeO.none _)
   | (with_reducible refine LeO.ite ?_ ?_)
   | (with_reducible refine LeO.bind ?_ (fun _=>?_))
   | exact take_Put.mono _ _ _ _
   | exact LeO.none _
   | refine LeO.ite ?_ ?_
   | refine LeO.bind ?_ (fun _=>?_)
set_option maxHeartbeats 8000000 in
set_option maxRecDepth 100000 in
theorem take_PutWhole.calls (k : Nat) (A0 : Option Addr) (c0 : Nat) (l0 : List Int) (a1 : Int) (r : List Int) (w : World) (hr0 : Kd.C (Kd.int .u8) w A0 l0.length l0) (hc0 : l0.length ≤ c0) (h : take_PutWhole.f k l0 a1 = some r) :
  Calls Try.prog 55 #[.slice A0 l0.length c0,.int .i64 a1] w fun e w'=>∃ v0_ : Value,e = .returned (v0_) ∧ Kd.R (Kd.int .u8) 5 w' w.heap.size (fun _=>True) v0_ r ∧ Below w.heap.size w w':=by
 have HR0:=Aside0.mk hr0
 have HC0:=Aside0.mk hc0
 clear hr0 hc0
 have HB:=Aside0.mk (Below.refl w.heap.size w)
 have H : ((take_Put.f k l0 (IntKind.u64.wrap (a1)) 8).bind fun t125=>(some t125)) = some r:=h
 clear h
 replace H:=Option.bind_eq_some_iff.mp H
 obtain ⟨t125,A30,H⟩:=H
 replace H : (some t125) = some r:=H
 have A3:=Aside0.mk A30
 clear A30
 obtain rfl:=Option.some.inj H
 go_enter Try.func55,Try.ntmps55
 go_wp2_with (first|((with_reducible refine gate_callee (f:=50) rfl ?_);refine goesL_ (some 8) rfl rfl Try.func50 (by kernel_rfl) rfl #[.slice A0 l0.length c0,.int .u64 (IntKind.u64.wrap (a1)),.int .i64 8] rfl (by (try simp only [List.map_toArray,List.map_cons,List.map_nil]);first|done|rfl|(simp only [List.length_drop,List.length_take];rfl)) ?_;(with_reducible refine (take_Put.calls k _ _ l0 (IntKind.u64.wrap (a1)) 8 t125 _ ?side1 ?side2 A3.out).mono ?_);(case side1=>repeat(first|exact HR0.out|(with_reducible refine Kd.C_alloc ?_ _)|(with_reducible refine Kd.C_drewN ?_ _)|(with_reducible refine Kd.C_drew ?_)));(case side2=>exact HC0.out);rintro e w4 ⟨v126,rfl,ho0,hb⟩;refine ⟨_,rfl,?_⟩;have n0_:=Aside0.mk (Kd.R_lower ho0 (below_size (by repeat(first|(with_reducible first|exact HB.out|apply below_alloc|apply pw_below_drewN|apply below_drew1)|exact HB.out))));have n1_:=Aside0.mk (below_step (by repeat(first|(with_reducible first|exact HB.out|apply below_alloc|apply pw_below_drewN|apply below_drew1)|exact HB.out)) hb);clear HB;have HO127:=n0_;have HB:=n1_;clear n0_ n1_;(try clear hb);(try clear hb2);(try clear hk);(try clear hi);(try clear ho0)))
 go_ret
 exact ⟨_,by first|rfl|(simp [errW_none,errW_some] <;> rfl)|(simp [*,errW_none,errW_some] <;> rfl),by (with_reducible repeat(first|apply Kd.R_alloc|apply Kd.R_drewN|apply Kd.R_drew));exact HO127.out,by repeat(first|(with_reducible first|exact HB.out|apply below_alloc|apply pw_below_drewN|apply below_drew1)|exact HB.out)⟩

/-! ### hornbeamref06_Missing: function 38 -/
def hornbeamref06_Missing.f (a0 : Nat) : Option (Bool):=if ((Flt.le a0 0) = true) then (some false) else (some (!(Flt.ge a0 0)))
set_option maxHeartbeats 8000000 in
set_option maxRecDepth 100000 in
theorem hornbeamref06_Missing.calls (a0 : Nat) (r : Bool) (w : World) (h : hornbeamref06_Missing.f a0 = some r) :
  Calls Try.prog 38 #[.float .f64 a0] w fun e w'=>e = .returned (.bool r) ∧ Drawn0 w w':=by
 have H : (if ((Flt.le a0 0) = true) then (some false) else (some (!(Flt.ge a0 0)))) = some r:=h
 clear h
 by_cases c2 : ((Flt.le a0 0) = true)
 ·rw [if_pos c2] at H
  have c2b0 : (Flt.le a0 0) = true:=c2
  clear c2
  obtain rfl:=Option.some.inj H
  go_enter Try.func38,Try.ntmps38
  go_wp2
  go_ret
  exact ⟨by first|rfl|(simp;done)|(simp [*];done),by repeat(first|exact Drawn0.refl _|apply Drawn0.step)⟩
 ·rw [if_neg c2] at H
  have c2b0 : (Flt.le a0 0) = false:=by simpa using c2
  clear c2
  obtain rfl:=Option.some.inj H
  go_enter Try.func38,Try.ntmps38
  go_wp2
  go_ret
  exact ⟨by first|rfl|(simp;done)|(simp [*];done),by repeat(first|exact Drawn0.refl _|apply Drawn0.step)⟩

/-! ### hornbeamref06_Bits: function 64 -/
def hornbeamref06_Bits.f (a0 : Nat) : Option (Int):=(hornbeamref06_Missing.f a0).bind fun t128=>(if t128 = true then (some 9221120237041090561) else (if (Flt.ge a0 0) = true then (if (Flt.le a0 0) = true then (some 0) else (some (Flt.ubits a0))) else (some (Flt.ubits a0))))
set_option maxHeartbeats 8000000 in
set_option maxRecDepth 100000 in
theorem hornbeamref06_Bits.calls (a0 : Nat) (r : Int) (w : World) (h : hornbeamref06_Bits.f a0 = some r) :
  Calls Try.prog 64 #[.float .f64 a0] w fun e w'=>e = .returned (.int .u64 r) ∧ Drawn0 w w':=by
 have H : ((hornbeamref06_Missing.f a0).bind fun t128=>(if t128 = true then (some 9221120237041090561) else (if (Flt.ge a0 0) = true then (if (Flt.le a0 0) = true then (some 0) else (some (Flt.ubits a0))) else (some (Flt.ubits a0))))) = some r:=h
 clear h
 replace H:=Option.bind_eq_some_iff.mp H
 obtain ⟨t128,A20,H⟩:=H
 replace H : (if t128 = true then (some 9221120237041090561) else (if (Flt.ge a0 0) = true then (if (Flt.le a0 0) = true then (some 0) else (some (Flt.ubits a0))) else (some (Flt.ubits a0)))) = some r:=H
 have A2:=Aside0.mk A20
 clear A20
 by_cases c3 : t128 = true
 ·subst c3
  have H1 : (some 9221120237041090561) = some r:=by rw [if_pos rfl] at H;exact H
  clear H
  have H:=H1
  clear H1
  obtain rfl:=Option.some.inj H
  go_enter Try.func64,Try.ntmps64
  go_wp2_with (first|((with_reducible refine gate_callee (f:=38) rfl ?_);refine goesL_ (some 4) rfl rfl Try.func38 (by kernel_rfl) rfl #[.float .f64 a0] rfl (by (try simp only [List.map_toArray,List.map_cons,List.map_nil]);first|done|rfl|(simp only [List.length_drop,List.length_take];rfl)) ?_;(with_reducible refine (hornbeamref06_Missing.calls a0 true _ A2.out).mono ?_);rintro e w' ⟨rfl,⟨nd,rfl⟩⟩;refine ⟨_,rfl,?_⟩))
  go_ret
  exact ⟨by first|rfl|(simp;done)|(simp [*];done),by repeat(first|exact Drawn0.refl _|apply Drawn0.step)⟩
 ·replace c3:=Bool.eq_false_iff.mpr c3
  subst c3
  have H1 : (if (Flt.ge a0 0) = true then (if (Flt.le a0 0) = true then (some 0) else (some (Flt.ubits a0))) else (some (Flt.ubits a0))) = some r:=by rw [if_neg (show ¬ (false = true) by decide)] at H;exact H
  clear H
  have H:=H1
  clear H1
  by_cases c4 : (Flt.ge a0 0) = true
  ·rw [if_pos c4] at H
   have c4b0 : (Flt.ge a0 0) = true:=c4
   clear c4
   by_cases c5 : (Flt.le a0 0) = true
   ·rw [if_pos c5] at H
    have c5b0 : (Flt.le a0 0) = true:=c5
    clear c5
    obtain rfl:=Option.some.inj H
    go_enter Try.func64,Try.ntmps64
    go_wp2_with (first|((with_reducible refine gate_callee (f:=38) rfl ?_);refine goesL_ (some 4) rfl rfl Try.func38 (by kernel_rfl) rfl #[.float .f64 a0] rfl (by (try simp only [List.map_toArray,List.map_cons,List.map_nil]);first|done|rfl|(simp only [List.length_drop,List.length_take];rfl)) ?_;(with_reducible refine (hornbeamref06_Missing.calls a0 false _ A2.out).mono ?_);rintro e w' ⟨rfl,⟨nd,rfl⟩⟩;refine ⟨_,rfl,?_⟩))
    go_ret
    exact ⟨by first|rfl|(simp;done)|(simp [*];done),by repeat(first|exact Drawn0.refl _|apply Drawn0.step)⟩
   ·rw [if_neg c5] at H
    have c5b0 : (Flt.le a0 0) = false:=by simpa using c5
    clear c5
    obtain rfl:=Option.some.inj H
    go_enter Try.func64,Try.ntmps64
    go_wp2_with (first|((with_reducible refine gate_callee (f:=38) rfl ?_);refine goesL_ (some 4) rfl rfl Try.func38 (by kernel_rfl) rfl #[.float .f64 a0] rfl (by (try simp only [List.map_toArray,List.map_cons,List.map_nil]);first|done|rfl|(simp only [List.length_drop,List.length_take];rfl)) ?_;(with_reducible refine (hornbeamref06_Missing.calls a0 false _ A2.out).mono ?_);rintro e w' ⟨rfl,⟨nd,rfl⟩⟩;refine ⟨_,rfl,?_⟩))
    go_ret
    exact ⟨by first|rfl|(simp;done)|(simp [*];done),by repeat(first|exact Drawn0.refl _|apply Drawn0.step)⟩
  ·rw [if_neg c4] at H
   have c4b0 : (Flt.ge a0 0) = false:=by simpa using c4
   clear c4
   obtain rfl:=Option.some.inj H
   go_enter Try.func64,Try.ntmps64
   go_wp2_with (first|((with_reducible refine gate_callee (f:=38) rfl ?_);refine goesL_ (some 4) rfl rfl Try.func38 (by kernel_rfl) rfl #[.float .f64 a0] rfl (by (try simp only [List.map_toArray,List.map_cons,List.map_nil]);first|done|rfl|(simp only [List.length_drop,List.length_take];rfl)) ?_;(with_reducible refine (hornbeamref06_Missing.calls a0 false _ A2.out).mono ?_);rintro e w' ⟨rfl,⟨nd,rfl⟩⟩;refine ⟨_,rfl,?_⟩))
   go_ret
   exact ⟨by first|rfl|(simp;done)|(simp [*];done),by repeat(first|exact Drawn0.refl _|apply Drawn0.step)⟩

/-! ### hornbeamref06_Clean: function 43 -/
def hornbeamref06_Clean.f (a0 : Nat) : Option (Nat):=(hornbeamref06_Bits.f a0).bind fun t129=>(some (Flt.fbits t129))
set_option maxHeartbeats 8000000 in
set_option maxRecDepth 100000 in
theorem hornbeamref06_Clean.calls (a0 : Nat) (r : Nat) (w : World) (h : hornbeamref06_Clean.f a0 = some r) :
  Calls Try.prog 43 #[.float .f64 a0] w fun e w'=>e = .returned (.float .f64 r) ∧ Drawn0 w w':=by
 have H : ((hornbeamref06_Bits.f a0).bind fun t129=>(some (Flt.fbits t129))) = some r:=h
 clear h
 replace H:=Option.bind_eq_some_iff.mp H
 obtain ⟨t129,A20,H⟩:=H
 replace H : (some (Flt.fbits t129)) = some r:=H
 have A2:=Aside0.mk A20
 clear A20
 obtain rfl:=Option.some.inj H
 go_enter Try.func43,Try.ntmps43
 go_wp2_with (first|((with_reducible refine gate_callee (f:=64) rfl ?_);refine goesL_ (some 4) rfl rfl Try.func64 (by kernel_rfl) rfl #[.float .f64 a0] rfl (by (try simp only [List.map_toArray,List.map_cons,List.map_nil]);first|done|rfl|(simp only [List.length_drop,List.length_take];rfl)) ?_;(with_reducible refine (hornbeamref06_Bits.calls a0 t129 _ A2.out).mono ?_);rintro e w' ⟨rfl,⟨nd,rfl⟩⟩;refine ⟨_,rfl,?_⟩))
 go_ret
 exact ⟨by first|rfl|(simp;done)|(simp [*];done),by repeat(first|exact Drawn0.refl _|apply Drawn0.step)⟩

/-! ### math_NaN: function 44 -/
def math_NaN.f  : Option (Nat):=some (Flt.fbits 9221120237041090561)
set_option maxHeartbeats 8000000 in
set_option maxRecDepth 100000 in
theorem math_NaN.calls  (r : Nat) (w : World) (h : math_NaN.f  = some r) :
  Calls Try.prog 44 #[] w fun e w'=>e = .returned (.float .f64 r) ∧ Drawn0 w w':=by
 have H : (some (Flt.fbits 9221120237041090561)) = some r:=h
 clear h
 obtain rfl:=Option.some.inj H
 go_enter Try.func44,Try.ntmps44
 go_wp2
 go_ret
 exact ⟨by first|rfl|(simp;done)|(simp [*];done),by repeat(first|exact Drawn0.refl _|apply Drawn0.step)⟩

end Go.Proofs.Ytnagfbadjbkhmaa.PA
