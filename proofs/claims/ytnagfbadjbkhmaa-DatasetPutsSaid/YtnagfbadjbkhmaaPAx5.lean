import Derived.Test.YtnagfbadjbkhmaaPAx0
namespace Go.Proofs.Ytnagfbadjbkhmaa.PA
open Go.RowKit Go.Proofs.YtnagfbadjbkhmaaW.PrintWords Go.Proofs.YtnagfbadjbkhmaaW.PrintLast Go.Proofs.YtnagfbadjbkhmaaW.PrintMore
attribute [local go_sem] max2_int min2_int max_two min_two max_three min_three max_four min_four   -- for this text's walks alone
attribute [local go_sem high] Flt.fold_eq Flt.fold_ne Flt.fold_lt Flt.fold_gt Flt.fold_le Flt.fold_ge Flt.run_bits Flt.run_frombits
set_option linter.unusedVariables false
set_option linter.unusedSimpArgs false

/-! ### hornbeamref07_Count: function 82 -/
def hornbeamref07_Count.f (a0 : Int) : Option (Int):=if a0 < 0 then (some 0) else (if a0 > 8 then (some 8) else (some a0))
set_option maxHeartbeats 8000000 in
set_option maxRecDepth 100000 in
theorem hornbeamref07_Count.calls (a0 : Int) (r : Int) (w : World) (h : hornbeamref07_Count.f a0 = some r) :
  Calls Try.prog 82 #[.int .i64 a0] w fun e w'=>e = .returned (.int .i64 r) ∧ Drawn0 w w':=by
 have H : (if a0 < 0 then (some 0) else (if a0 > 8 then (some 8) else (some a0))) = some r:=h
 clear h
 by_cases c2 : a0 < 0
 ·rw [if_pos c2] at H
  have c2b0 : decide (a0 < 0) = true:=decide_eq_true c2
  clear c2
  obtain rfl:=Option.some.inj H
  go_enter Try.func82,Try.ntmps82
  go_wp2
  go_ret
  exact ⟨by first|rfl|(simp;done)|(simp [*];done),by repeat(first|exact Drawn0.refl _|apply Drawn0.step)⟩
 ·rw [if_neg c2] at H
  have c2b0 : decide (a0 < 0) = false:=decide_eq_false c2
  clear c2
  by_cases c3 : a0 > 8
  ·rw [if_pos c3] at H
   have c3b0 : decide (8 < a0) = true:=decide_eq_true c3
   clear c3
   obtain rfl:=Option.some.inj H
   go_enter Try.func82,Try.ntmps82
   go_wp2
   go_ret
   exact ⟨by first|rfl|(simp;done)|(simp [*];done),by repeat(first|exact Drawn0.refl _|apply Drawn0.step)⟩
  ·rw [if_neg c3] at H
   have c3b0 : decide (8 < a0) = false:=decide_eq_false c3
   clear c3
   obtain rfl:=Option.some.inj H
   go_enter Try.func82,Try.ntmps82
   go_wp2
   go_ret
   exact ⟨by first|rfl|(simp;done)|(simp [*];done),by repeat(first|exact Drawn0.refl _|apply Drawn0.step)⟩

/-! ### hornbeamref07_Get: function 63 -/
def hornbeamref07_Get.l0 : Nat → ByteArray → Int → Int → Int → Int → Option (Int × Int × Bool)
 | 0,_,_,_,_,_=>none
 | k + 1,x0,x1,x9,x10,x11=>if x11 < x9 then (if 0 ≤ (wrap64 (x1 + x11)) then (if (wrap64 (x1 + x11)) < (x0.size : Int) then (hornbeamref07_Get.l0 k x0 x1 x9 (IntKind.u64.wrap ((IntKind.u64.wrap (256 * x10)) + (IntKind.u64.wrap (bt x0 (wrap64 (x1 + x11)))))) (wrap64 (x11 + 1))) else (none)) else (none)) else (some (x10,wrap64 (x1 + x9),true))
def hornbeamref07_Get.f (k : Nat) (a0 : ByteArray) (a1 : Int) (a2 : Int) : Option (Int × Int × Bool):=(hornbeamref07_Count.f a2).bind fun t148=>(if (wrap64 ((a0.size : Int) - a1)) < t148 then (some (0,a1,false)) else (hornbeamref07_Get.l0 k a0 a1 t148 0 0))
theorem hornbeamref07_Get.mono_l : ∀ k,(∀ y0 y1 y2 y3 y4,LeO (hornbeamref07_Get.l0 k y0 y1 y2 y3 y4) (hornbeamref07_Get.l0 (k + 1) y0 y1 y2 y3 y4))
 | 0=>fun _ _ _ _ _ r h=>by simp [hornbeamref07_Get.l0] at h
 | k + 1=>by
  have ih0:=hornbeamref07_Get.mono_l k
  ·intro y0 y1 y2 y3 y4
   unfold hornbeamref07_Get.l0
   repeat' first
   | (with_reducible exact ih0 _ _ _ _ _)
   | (with_reducible exact LeO.refl _)
   | (with_reducible exact LeO.none _)
   | (with_reducible refine LeO.ite ?_ ?_)
   | (with_reducible refine LeO.bind ?_ (fun _=>?_))
   | exact ih0 _ _ _ _ _
   | exact LeO.none _
   | refine LeO.ite ?_ ?_
   | refine LeO.bind ?_ (fun _=>?_)
theorem hornbeamref07_Get.mono : ∀ a0 a1 a2 k,LeO (hornbeamref07_Get.f k a0 a1 a2) (hornbeamref07_Get.f (k + 1) a0 a1 a2):=by
 intro a0 a1 a2 k
 have ih0:=hornbeamref07_Get.mono_l k
 unfold hornbeamref07_Get.f
 repeat' first
   | (with_reducible exact ih0 _ _ _ _ _)
   | (with_reducible exact LeO.refl _)
   | (with_reducible exact LeO.none _)
   | (with_reducible refine LeO.ite ?_ ?_)
   | (with_reducible refine LeO.bind ?_ (fun _=>?_))
   | exact ih0 _ _ _ _ _
   | exact LeO.none _
   | refine LeO.ite ?_ ?_
   | refine LeO.bind ?_ (fun _=>?_)
set_option maxHeartbeats 8000000 in
set_option maxRecDepth 100000 in
theorem hornbeamref07_Get.calls (k : Nat) (a0 : ByteArray) (a1 : Int) (a2 : Int) (r1 : Int) (r2 : Int) (r3 : Bool) (w : World) (h : hornbeamref07_Get.f k a0 a1 a2 = some (r1,r2,r3)) :
  Calls Try.prog 63 #[.string a0,.int .i64 a1,.int .i64 a2] w fun e w'=>e = .returned (.tuple #[.int .u64 r1,.int .i64 r2,.bool r3]) ∧ Drawn0 w w':=by
 have H : ((hornbeamref07_Count.f a2).bind fun t148=>(if (wrap64 ((a0.size : Int) - a1)) < t148 then (some (0,a1,false)) else (hornbeamref07_Get.l0 k a0 a1 t148 0 0))) = some (r1,r2,r3):=h
 clear h
 replace H:=Option.bind_eq_some_iff.mp H
 obtain ⟨t148,A40,H⟩:=H
 replace H : (if (wrap64 ((a0.size : Int) - a1)) < t148 then (some (0,a1,false)) else (hornbeamref07_Get.l0 k a0 a1 t148 0 0)) = some (r1,r2,r3):=H
 have A4:=Aside0.mk A40
 clear A40
 by_cases c5 : (wrap64 ((a0.size : Int) - a1)) < t148
 ·rw [if_pos c5] at H
  have c5b0 : decide ((wrap64 ((a0.size : Int) - a1)) < t148) = true:=decide_eq_true c5
  clear c5
  simp only [Option.some.injEq,Prod.mk.injEq] at H
  obtain ⟨rfl,rfl,rfl⟩:=H
  go_enter Try.func63,Try.ntmps63
  go_wp2_with (first|((with_reducible refine gate_callee (f:=82) rfl ?_);refine goesL_ (some 13) rfl rfl Try.func82 (by kernel_rfl) rfl #[.int .i64 a2] rfl (by (try simp only [List.map_toArray,List.map_cons,List.map_nil]);first|done|rfl|(simp only [List.length_drop,List.length_take];rfl)) ?_;(with_reducible refine (hornbeamref07_Count.calls a2 t148 _ A4.out).mono ?_);rintro e w' ⟨rfl,⟨nd,rfl⟩⟩;refine ⟨_,rfl,?_⟩))
  go_ret3
  exact ⟨by first|rfl|(simp;done)|(simp [*];done),by repeat(first|exact Drawn0.refl _|apply Drawn0.step)⟩
 ·rw [if_neg c5] at H
  have c5b0 : decide ((wrap64 ((a0.size : Int) - a1)) < t148) = false:=decide_eq_false c5
  clear c5
  have H':=Aside0.mk H
  clear H
  go_enter Try.func63,Try.ntmps63
  go_wp2_with (first|((with_reducible refine gate_callee (f:=82) rfl ?_);refine goesL_ (some 13) rfl rfl Try.func82 (by kernel_rfl) rfl #[.int .i64 a2] rfl (by (try simp only [List.map_toArray,List.map_cons,List.map_nil]);first|done|rfl|(simp only [List.length_drop,List.length_take];rfl)) ?_;(with_reducible refine (hornbeamref07_Count.calls a2 t148 _ A4.out).mono ?_);rintro e w' ⟨rfl,⟨nd,rfl⟩⟩;refine ⟨_,rfl,?_⟩))
  go_loopg [10,11] k (fun kq v10 v11 w'=>∃ (x10_1 : Int) (x11_1 : Int),v10 = .int .u64 x10_1 ∧ v11 = .int .i64 x11_1 ∧ Aside0 (hornbeamref07_Get.l0 kq a0 a1 t148 x10_1 x11_1 = some (r1,r2,r3)) ∧ Aside0 (kq ≤ k) ∧ Drawn0 w w')
  case atStart=>exact ⟨(0),(0),(by first|rfl|(simp;done)|(simp [*];done)),(by first|rfl|(simp;done)|(simp [*];done)),H',⟨Nat.le_refl _⟩,by repeat(first|exact Drawn0.refl _|apply Drawn0.step)⟩
  case round =>
   clear H'
   try clear p2
   try clear c5
   try clear c5b0
   obtain ⟨x10_1,x11_1,rfl,rfl,HA,HK1,⟨m1,rfl⟩⟩:=hrel
   cases gk with
   | zero=>exact absurd HA.out (by simp [hornbeamref07_Get.l0])
   | succ k1 =>
    have H:=HA.out
    clear HA
    simp only [hornbeamref07_Get.l0] at H
    by_cases c6 : x11_1 < t148
    ·rw [if_pos c6] at H
     have c6b0 : decide (x11_1 < t148) = true:=decide_eq_true c6
     clear c6
     obtain ⟨ji7,hji7⟩ : ∃ j_ : Int,(wrap64 (a1 + x11_1)) = j_:=⟨_,rfl⟩
     replace H : (if 0 ≤ (ji7) then (if (ji7) < (a0.size : Int) then (hornbeamref07_Get.l0 k1 a0 a1 t148 (IntKind.u64.wrap ((IntKind.u64.wrap (256 * x10_1)) + (IntKind.u64.wrap (bt a0 (ji7))))) (wrap64 (x11_1 + 1))) else (none)) else (none)) = some (r1,r2,r3):=by first|(rw [hji7] at H;exact H)|(simp only [hji7] at H ⊢;exact H)
     have hji7w : (IntKind.i64.wrap (a1 + x11_1)) = ji7:=(i64_w _).trans hji7
     by_cases c8 : 0 ≤ (ji7)
     ·rw [if_pos c8] at H
      have c8b0 : decide (0 ≤ (ji7)) = true:=decide_eq_true c8
      clear c8
      by_cases c9 : (ji7) < (a0.size : Int)
      ·rw [if_pos c9] at H
       have c9b0 : decide ((ji7) < (a0.size : Int)) = true:=decide_eq_true c9
       clear c9
       have H':=Aside0.mk H
       clear H
       have p10 : 0 ≤ ((ji7) : Int):=of_decide_eq_true (by first|(with_reducible assumption)|assumption)
       have q10 : (ji7) < (a0.size : Int):=of_decide_eq_true (by first|(with_reducible assumption)|assumption)
       have hx10:=bt_at a0 (ji7)
       replace p10:=eq_true p10
       replace q10:=eq_true q10
       go_wp2
       go_roundg k1
       case measure=>have:=HK1.out;omega
       case rel=>exact ⟨(IntKind.u64.wrap ((IntKind.u64.wrap (256 * x10_1)) + (IntKind.u64.wrap (bt a0 (ji7))))),(wrap64 (x11_1 + 1)),(by first|rfl|(simp;done)|(simp only [← hji7] <;> (first|rfl|simp))|(simp [*];done)),(by first|rfl|(simp;done)|(simp [*];done)),H',⟨by have:=HK1.out;omega⟩,by repeat(first|exact Drawn0.refl _|apply Drawn0.step)⟩
      ·rw [if_neg c9] at H
       exact absurd H (by simp)
     ·rw [if_neg c8] at H
      exact absurd H (by simp)
    ·rw [if_neg c6] at H
     have c6b0 : decide (x11_1 < t148) = false:=decide_eq_false c6
     clear c6
     simp only [Option.some.injEq,Prod.mk.injEq] at H
     obtain ⟨rfl,rfl,rfl⟩:=H
     go_wp2
     go_ret3
     exact ⟨by first|rfl|(simp;done)|(simp [*];done),by repeat(first|exact Drawn0.refl _|apply Drawn0.step)⟩

/-! ### hornbeamref07_Put: function 58 -/
def hornbeamref07_Put.l0 : Nat → Int → Int → ByteArray → Int → Option (ByteArray)
 | 0,_,_,_,_=>none
 | k + 1,x0,x1,x5,x6=>(hornbeamref07_Count.f x1).bind fun t149=>(if x6 < t149 then ((some (([(Int.tmod x0 256) % 256] : List Int) : List Int)).bind fun y150=>(if (strOfNums y150).size + x5.size ≤ 9223372036854775807 then (hornbeamref07_Put.l0 k (IntKind.u64.wrap (Int.tdiv x0 256)) x1 ((strOfNums y150) ++ x5) (wrap64 (x6 + 1))) else (none))) else (some x5))
def hornbeamref07_Put.f (k : Nat) (a0 : Int) (a1 : Int) : Option (ByteArray):=hornbeamref07_Put.l0 k a0 a1 (⟨#[]⟩ : ByteArray) 0
theorem hornbeamref07_Put.mono_l : ∀ k,(∀ y0 y1 y2 y3,LeO (hornbeamref07_Put.l0 k y0 y1 y2 y3) (hornbeamref07_Put.l0 (k + 1) y0 y1 y2 y3))
 | 0=>fun _ _ _ _ r h=>by simp [hornbeamref07_Put.l0] at h
 | k + 1=>by
  have ih0:=hornbeamref07_Put.mono_l k
  ·intro y0 y1 y2 y3
   unfold hornbeamref07_Put.l0
   repeat' first
   | (with_reducible exact ih0 _ _ _ _)
   | (with_reducible exact LeO.refl _)
   | (with_reducible exact LeO.none _)
   | (with_reducible refine LeO.ite ?_ ?_)
   | (with_reducible refine LeO.bind ?_ (fun _=>?_))
   | exact ih0 _ _ _ _
   | exact LeO.none _
   | refine LeO.ite ?_ ?_
   | refine LeO.bind ?_ (fun _=>?_)
theorem hornbeamref07_Put.mono : ∀ a0 a1 k,LeO (hornbeamref07_Put.f k a0 a1) (hornbeamref07_Put.f (k + 1) a0 a1):=by
 intro a0 a1 k
 have ih0:=hornbeamref07_Put.mono_l k
 unfold hornbeamref07_Put.f
 repeat' first
   | (with_reducible exact ih0 _ _ _ _)
   | (with_reducible exact LeO.refl _)
   | (with_reducible exact LeO.none _)
   | (with_reducible refine LeO.ite ?_ ?_)
   | (with_reducible refine LeO.bind ?_ (fun _=>?_))
   | exact ih0 _ _ _ _
   | exact LeO.none _
   | refine LeO.ite ?_ ?_
   | refine LeO.bind ?_ (fun _=>?_)
set_option maxHeartbeats 8000000 in
set_option maxRecDepth 100000 in
theorem hornbeamref07_Put.calls (k : Nat) (a0 : Int) (a1 : Int) (r : ByteArray) (w : World) (h : hornbeamref07_Put.f k a0 a1 = some r) :
  Calls Try.prog 58 #[.int .u64 a0,.int .i64 a1] w fun e w'=>e = .returned (.string r) ∧ Below w.heap.size w w':=by
 have HB:=Aside0.mk (Below.refl w.heap.size w)
 have H : (hornbeamref07_Put.l0 k a0 a1 (⟨#[]⟩ : ByteArray) 0) = some r:=h
 clear h
 have H':=Aside0.mk H
 clear H
 go_enter Try.func58,Try.ntmps58
 go_wp2
 go_loopg [0,5,6] k (fun kq v0 v5 v6 w'=>∃ (x0_1 : Int) (x5_1 : ByteArray) (x6_1 : Int),v0 = .int .u64 x0_1 ∧ v5 = .string x5_1 ∧ v6 = .int .i64 x6_1 ∧ Aside0 (hornbeamref07_Put.l0 kq x0_1 a1 x5_1 x6_1 = some r) ∧ Aside0 (kq ≤ k) ∧ Aside0 (Below w.heap.size w w'))
 case atStart=>exact ⟨(a0),((⟨#[]⟩ : ByteArray)),(0),(by first|rfl|(simp;done)|(simp [*];done)),(by first|rfl|(simp;done)|(simp [*];done)),(by first|rfl|(simp;done)|(simp [*];done)),H',⟨Nat.le_refl _⟩,⟨by repeat(first|(with_reducible first|exact HB.out|apply below_alloc|apply pw_below_drewN|apply below_drew1)|exact HB.out)⟩⟩
 case round =>
  clear H'
  try clear p2
  obtain ⟨x0_1,x5_1,x6_1,rfl,rfl,rfl,HA,HK1,HB⟩:=hrel
  cases gk with
  | zero=>exact absurd HA.out (by simp [hornbeamref07_Put.l0])
  | succ k1 =>
   have H:=HA.out
   clear HA
   simp only [hornbeamref07_Put.l0] at H
   replace H:=Option.bind_eq_some_iff.mp H
   obtain ⟨t149,A30,H⟩:=H
   replace H : (if x6_1 < t149 then ((some (([(Int.tmod x0_1 256) % 256] : List Int) : List Int)).bind fun y150=>(if (strOfNums y150).size + x5_1.size ≤ 9223372036854775807 then (hornbeamref07_Put.l0 k1 (IntKind.u64.wrap (Int.tdiv x0_1 256)) a1 ((strOfNums y150) ++ x5_1) (wrap64 (x6_1 + 1))) else (none))) else (some x5_1)) = some r:=H
   have A3:=Aside0.mk A30
   clear A30
   by_cases c4 : x6_1 < t149
   ·rw [if_pos c4] at H
    have c4b0 : decide (x6_1 < t149) = true:=decide_eq_true c4
    clear c4
    obtain ⟨y150,hy150⟩ : ∃ y_ : List Int,y_ = (([(Int.tmod x0_1 256) % 256] : List Int)):=⟨_,rfl⟩
    replace H : (if (strOfNums y150).size + x5_1.size ≤ 9223372036854775807 then (hornbeamref07_Put.l0 k1 (IntKind.u64.wrap (Int.tdiv x0_1 256)) a1 ((strOfNums y150) ++ x5_1) (wrap64 (x6_1 + 1))) else (none)) = some r:=by first|(rw [hy150];with_reducible exact H)|(have H2_:=(Option.bind_some _ _).symm.trans H;rw [hy150];with_reducible exact H2_)|(have H2_:=(Option.bind_some _ _).symm.trans H;with_reducible exact H2_)|with_reducible exact H|(rw [hy150];exact H)|exact H
    have Ny150:=Aside0.mk hy150
    clear hy150
    by_cases c5 : (strOfNums y150).size + x5_1.size ≤ 9223372036854775807
    ·rw [if_pos c5] at H
     have c5b0:=eq_true c5
     have c5b1 : decide ((strOfNums y150).size + x5_1.size ≤ 9223372036854775807) = true:=decide_eq_true c5
     try have c5b2 : (9223372036854775807 < (strOfNums y150).size + x5_1.size) = False:=eq_false (Nat.not_lt.2 c5)
     have H':=Aside0.mk H
     clear H
     go_wp2_with (first|((with_reducible refine gate_callee (f:=82) rfl ?_);refine goesL_ (some 9) rfl rfl Try.func82 (by kernel_rfl) rfl #[.int .i64 a1] rfl (by (try simp only [List.map_toArray,List.map_cons,List.map_nil]);first|done|rfl|(simp only [List.length_drop,List.length_take];rfl)) ?_;(with_reducible refine (hornbeamref07_Count.calls a1 t149 _ A3.out).mono ?_);rintro e w' ⟨rfl,⟨nd,rfl⟩⟩;refine ⟨_,rfl,?_⟩)|((with_reducible refine gate_dst (N:=16) rfl ?_);refine Kd.R_lit (Kd.int .u8) _ 5 ?hg (N:=16) ?hd (xs:=([(Int.tmod x0_1 256) % 256] : List Int)) (inner:=[.int .u8 ((Int.tmod x0_1 256) % 256)]) (ok:=fun _=>True) (okp:=fun _=>True) ?hr ?hp (fun _ hk=>hk) trivial (Below.refl _ _) (Nat.le_refl _) (by simp) ?_;(case hd=>rfl);(case hg=>rfl);(case hr=>first|(go_simp;done)|(go_simp;rfl));(case hp=>exact (Reps.one (show Kd.M (Kd.int .u8) _ _ _ ((Int.tmod x0_1 256) % 256) [.int .u8 ((Int.tmod x0_1 256) % 256)] from rfl) (Reps.none _ _)));intro v151 w6 ho7 hb hg_ hnew_;clear hg_ hnew_;(first|rw [← Ny150.out] at ho7|(simp only [Int.reduceToNat] at ho7;rw [← Ny150.out] at ho7));have n0_:=Aside0.mk (Kd.R_lower ho7 (below_size (by repeat(first|(with_reducible first|exact HB.out|apply below_alloc|apply pw_below_drewN|apply below_drew1)|exact HB.out))));have n1_:=Aside0.mk (below_step (by repeat(first|(with_reducible first|exact HB.out|apply below_alloc|apply pw_below_drewN|apply below_drew1)|exact HB.out)) hb);clear HB;have HO152:=n0_;have HB:=n1_;clear n0_ n1_;clear hb ho7;have hcv8:=own_string (P:=Try.prog) Try.underlying42 Try.underlying5 Try.underlying9 (Kd.own_of_R HO152.out)))
     go_roundg k1
     case measure=>have:=HK1.out;omega
     case rel=>exact ⟨(IntKind.u64.wrap (Int.tdiv x0_1 256)),((strOfNums y150) ++ x5_1),(wrap64 (x6_1 + 1)),(by first|rfl|(simp;done)|(simp [*];done)),(by first|rfl|(simp;done)|(simp [*];done)),(by first|rfl|(simp;done)|(simp [*];done)),H',⟨by have:=HK1.out;omega⟩,⟨by repeat(first|(with_reducible first|exact HB.out|apply below_alloc|apply pw_below_drewN|apply below_drew1)|exact HB.out)⟩⟩
    ·rw [if_neg c5] at H
     exact absurd H (by simp)
   ·rw [if_neg c4] at H
    have c4b0 : decide (x6_1 < t149) = false:=decide_eq_false c4
    clear c4
    obtain rfl:=Option.some.inj H
    go_wp2_with (first|((with_reducible refine gate_callee (f:=82) rfl ?_);refine goesL_ (some 9) rfl rfl Try.func82 (by kernel_rfl) rfl #[.int .i64 a1] rfl (by (try simp only [List.map_toArray,List.map_cons,List.map_nil]);first|done|rfl|(simp only [List.length_drop,List.length_take];rfl)) ?_;(with_reducible refine (hornbeamref07_Count.calls a1 t149 _ A3.out).mono ?_);rintro e w' ⟨rfl,⟨nd,rfl⟩⟩;refine ⟨_,rfl,?_⟩))
    go_ret
    exact ⟨by first|rfl|(simp [errW_none,errW_some] <;> rfl)|(simp [*,errW_none,errW_some] <;> rfl),by repeat(first|(with_reducible first|exact HB.out|apply below_alloc|apply pw_below_drewN|apply below_drew1)|exact HB.out)⟩

end Go.Proofs.Ytnagfbadjbkhmaa.PA
