import Derived.Test.YtebbnjgaikppgaaPAx0
import Derived.Test.YtebbnjgaikppgaaPAx3
namespace Go.Proofs.Ytebbnjgaikppgaa.PA
open Go.RowKit Go.Proofs.YtebbnjgaikppgaaW.PrintWords Go.Proofs.YtebbnjgaikppgaaW.PrintLast Go.Proofs.YtebbnjgaikppgaaW.PrintMore
attribute [local go_sem] max2_int min2_int max_two min_two max_three min_three max_four min_four   -- for this text's walks alone
attribute [local go_sem high] Flt.fold_eq Flt.fold_ne Flt.fold_lt Flt.fold_gt Flt.fold_le Flt.fold_ge Flt.run_bits Flt.run_frombits
set_option linter.unusedVariables false
set_option linter.unusedSimpArgs false

/-! ### slices_Clone_byte_byte: function 58 -/
def slices_Clone_byte_byte.f (l0 : List Int) : Option (List Int):=(some (([] : List Int) : List Int)).bind fun y102 => (if y102.length + l0.length < 140737488355328 then (some (y102 ++ l0)) else (none))
set_option maxHeartbeats 8000000 in
set_option maxRecDepth 100000 in
theorem slices_Clone_byte_byte.calls (A0 : Option Addr) (c0 : Nat) (l0 : List Int) (r : List Int) (w : World) (hr0 : Kd.C (Kd.int .u8) w A0 l0.length l0) (hc0 : l0.length ≤ c0) (h : slices_Clone_byte_byte.f l0 = some r) :
  Calls Try.prog 58 #[.slice A0 l0.length c0] w fun e w' => ∃ v0_ : Value,e = .returned (v0_) ∧ Kd.R (Kd.int .u8) 5 w' w.heap.size (fun _ => True) v0_ r ∧ Below w.heap.size w w':=by
 cases A0 with
 | none =>
  have hl0 : l0.length = 0:=by
   rcases Nat.eq_zero_or_pos l0.length with h_ | h_
   ·exact h_
   ·obtain ⟨_,e_,_⟩:=hr0.2.2 h_;cases e_
  obtain rfl:=List.eq_nil_of_length_eq_zero hl0
  have hr_ : r = []:=by
   have h_:=h
   simp [slices_Clone_byte_byte.f] at h_
   first | exact h_ | exact h_.symm
  subst hr_
  clear h hr0 hc0 hl0
  have hnil : ∀ (n_ c_ : Nat) (W : World),(binOp .eql 22 (.slice none n_ c_) (.slice none 0 0)).run Try.prog W = .ok (.bool true) W:=fun n_ c_ W => Go.Lib.run_eql_slice_nil W 22 5 none n_ c_ 0 0 Try.underlying22
  go_enter Try.func58,Try.ntmps58
  go_wp2
  go_ret
  exact ⟨_,by first | rfl | (simp;done),Kd.R_nil _ _ _ _ _,by repeat (first | exact Below.refl _ _ | apply below_alloc | apply pw_below_drewN | apply below_drew1)⟩
 | some ad0 =>
  have hnil : ∀ (n_ c_ : Nat) (W : World),(binOp .eql 22 (.slice (some ad0) n_ c_) (.slice none 0 0)).run Try.prog W = .ok (.bool false) W:=fun n_ c_ W => Go.Lib.run_eql_slice_nil W 22 5 (some ad0) n_ c_ 0 0 Try.underlying22
  have HR0:=Aside0.mk hr0
  have HC0:=Aside0.mk hc0
  clear hr0 hc0
  have HB:=Aside0.mk (Below.refl w.heap.size w)
  have H : ((some (([] : List Int) : List Int)).bind fun y102 => (if y102.length + l0.length < 140737488355328 then (some (y102 ++ l0)) else (none))) = some r:=h
  clear h
  obtain ⟨y102,hy102⟩ : ∃ y_ : List Int,y_ = (([] : List Int)):=⟨_,rfl⟩
  replace H : (if y102.length + l0.length < 140737488355328 then (some (y102 ++ l0)) else (none)) = some r:=by first | (rw [hy102];with_reducible exact H) | (have H2_:=(Option.bind_some _ _).symm.trans H;rw [hy102];with_reducible exact H2_) | (have H2_:=(Option.bind_some _ _).symm.trans H;with_reducible exact H2_) | with_reducible exact H | (rw [hy102];exact H) | exact H
  have Ny102:=Aside0.mk hy102
  clear hy102
  by_cases c2 : y102.length + l0.length < 140737488355328
  ·rw [if_pos c2] at H
   have LMc2:=Aside0.mk c2
   clear c2
   obtain ⟨y105,hy105⟩ : ∃ y_ : List Int,y_ = (y102 ++ l0):=⟨_,rfl⟩
   replace H : (some y105) = some r:=by first | (rw [hy105];with_reducible exact H) | (have H2_:=(Option.bind_some _ _).symm.trans H;rw [hy105];with_reducible exact H2_) | (have H2_:=(Option.bind_some _ _).symm.trans H;with_reducible exact H2_) | with_reducible exact H | (rw [hy105];exact H) | exact H
   have Ny105:=Aside0.mk hy105
   clear hy105
   obtain rfl:=Option.some.inj H
   go_enter Try.func58,Try.ntmps58
   go_wp2_with (first | ((with_reducible refine gate_dst (N:=5) rfl ?_);refine Kd.R_lit (Kd.int .u8) _ 5 ?hg (N:=5) ?hd (xs:=([] : List Int)) (inner:=[]) (ok:=fun _ => True) (okp:=fun _ => True) ?hr ?hp (fun _ hk => hk) trivial (Below.refl _ _) (Nat.le_refl _) (by simp) ?_;(case hd => rfl);(case hg => rfl);(case hr => first | (go_simp;done) | (go_simp;rfl));(case hp => exact (Reps.none _ _));intro v103 w3 ho4 hb hg_ hnew_;clear hg_ hnew_;(first | rw [← Ny102.out] at ho4 | (simp only [Int.reduceToNat] at ho4;rw [← Ny102.out] at ho4));have n0_:=Aside0.mk (Kd.R_lower ho4 (below_size (by repeat (first | (with_reducible first | exact HB.out | apply below_alloc | apply pw_below_drewN | apply below_drew1) | exact HB.out))));have n1_:=Aside0.mk (below_step (by repeat (first | (with_reducible first | exact HB.out | apply below_alloc | apply pw_below_drewN | apply below_drew1) | exact HB.out)) hb);clear HB;have HO104:=n0_;have HB:=n1_;clear n0_ n1_;clear hb ho4) | ((with_reducible refine gate_builtin (b:=.append) (xs:=#[.tmp 5,.tmp 6]) rfl ?_);at_builtin;refine Kd.R_append_rows (Kd.int .u8) (w0:=w) w.heap.size rfl (.tmp 5) (.tmp 6) 22 5 (.int .u8 0) 1 rfl Try.underlying22 info5 rfl (by decide) (by omega) v103 y102 l0 _ _ _ (fun _ => True) (fun _ => False) rfl rfl ?aO ?aR (fun _ _ h => h) (fun _ h => h.elim) ?aF ?aB ?aS ?aL ?_;(case aR => repeat (first | exact (Kd.C_below HR0.out HB.out) | (with_reducible refine Kd.C_alloc ?_ _) | (with_reducible refine Kd.C_drewN ?_ _) | (with_reducible refine Kd.C_drew ?_)));(case aB => exact (by repeat (first | (with_reducible first | exact HB.out | apply below_alloc | apply pw_below_drewN | apply below_drew1) | exact HB.out)));(case aF => exact (fun _ _ => trivial));(case aO => exact (by (with_reducible repeat (first | apply Kd.R_alloc | apply Kd.R_drewN | apply Kd.R_drew));exact HO104.out));(case aS => exact (below_size (by repeat (first | (with_reducible first | exact HB.out | apply below_alloc | apply pw_below_drewN | apply below_drew1) | exact HB.out))));(case aL => have:=LMc2.out;omega);intro v106 w5 ho hb hg hat;rw [← Ny105.out] at ho;have n0_:=Aside0.mk (hb);have n1_:=Aside0.mk (ho);clear HB;clear HO104;have HB:=n0_;have HO107:=n1_;clear n0_ n1_;clear ho hb hg hat))
   go_ret
   exact ⟨_,by first | rfl | (simp [errW_none,errW_some] <;> rfl) | (simp [*,errW_none,errW_some] <;> rfl),by (with_reducible repeat (first | apply Kd.R_alloc | apply Kd.R_drewN | apply Kd.R_drew));exact HO107.out,by repeat (first | (with_reducible first | exact HB.out | apply below_alloc | apply pw_below_drewN | apply below_drew1) | exact HB.out)⟩
  ·rw [if_neg c2] at H
   exact absurd H (by simp)

/-! ### take_Put: function 24 -/
def take_Put.l0 : Nat → Int → List Int → Int → Option (List Int)
 | 0,_,_,_ => none
 | k + 1,x1,x7,x8 => if x8 ≥ 0 then (if 0 ≤ (wrap64 (8 * x8)) then (if x7.length < 140737488355328 then (take_Put.l0 k x1 (x7 ++ [(shr .u64 x1 (wrap64 (8 * x8))) % 256]) (wrap64 (x8 - 1))) else (none)) else (none)) else (some x7)
def take_Put.f (k : Nat) (l0 : List Int) (a1 : Int) (a2 : Int) : Option (List Int):=(slices_Clone_byte_byte.f l0).bind fun t108 => ((take_count.f a2).bind fun t111 => (take_Put.l0 k a1 t108 (wrap64 (t111 - 1))))
theorem take_Put.mono_l : ∀ k,(∀ y0 y1 y2,LeO (take_Put.l0 k y0 y1 y2) (take_Put.l0 (k + 1) y0 y1 y2))
 | 0 => fun _ _ _ r h => by simp [take_Put.l0] at h
 | k + 1 => by
  have ih0:=take_Put.mono_l k
  ·intro y0 y1 y2
   unfold take_Put.l0
   repeat' first
   | (with_reducible exact ih0 _ _ _)
   | (with_reducible exact LeO.refl _)
   | (with_reducible exact LeO.none _)
   | (with_reducible refine LeO.ite ?_ ?_)
   | (with_reducible refine LeO.bind ?_ (fun _ => ?_))
   | exact ih0 _ _ _
   | exact LeO.none _
   | refine LeO.ite ?_ ?_
   | refine LeO.bind ?_ (fun _ => ?_)
theorem take_Put.mono : ∀ a0 a1 a2 k,LeO (take_Put.f k a0 a1 a2) (take_Put.f (k + 1) a0 a1 a2):=by
 intro a0 a1 a2 k
 have ih0:=take_Put.mono_l k
 unfold take_Put.f
 repeat' first
   | (with_reducible exact ih0 _ _ _)
   | (with_reducible exact LeO.refl _)
   | (with_reducible exact LeO.none _)
   | (with_reducible refine LeO.ite ?_ ?_)
   | (with_reducible refine LeO.bind ?_ (fun _ => ?_))
   | exact ih0 _ _ _
   | exact LeO.none _
   | refine LeO.ite ?_ ?_
   | refine LeO.bind ?_ (fun _ => ?_)
set_option maxHeartbeats 8000000 in
set_option maxRecDepth 100000 in
theorem take_Put.calls (k : Nat) (A0 : Option Addr) (c0 : Nat) (l0 : List Int) (a1 : Int) (a2 : Int) (r : List Int) (w : World) (hr0 : Kd.C (Kd.int .u8) w A0 l0.length l0) (hc0 : l0.length ≤ c0) (h : take_Put.f k l0 a1 a2 = some r) :
  Calls Try.prog 24 #[.slice A0 l0.length c0,.int .u64 a1,.int .i64 a2] w fun e w' => ∃ v0_ : Value,e = .returned (v0_) ∧ Kd.R (Kd.int .u8) 5 w' w.heap.size (fun _ => True) v0_ r ∧ Below w.heap.size w w':=by
 have HR0:=Aside0.mk hr0
 have HC0:=Aside0.mk hc0
 clear hr0 hc0
 have HB:=Aside0.mk (Below.refl w.heap.size w)
 have H : ((slices_Clone_byte_byte.f l0).bind fun t108 => ((take_count.f a2).bind fun t111 => (take_Put.l0 k a1 t108 (wrap64 (t111 - 1))))) = some r:=h
 clear h
 replace H:=Option.bind_eq_some_iff.mp H
 obtain ⟨t108,A40,H⟩:=H
 replace H : ((take_count.f a2).bind fun t111 => (take_Put.l0 k a1 t108 (wrap64 (t111 - 1)))) = some r:=H
 have A4:=Aside0.mk A40
 clear A40
 replace H:=Option.bind_eq_some_iff.mp H
 obtain ⟨t111,A50,H⟩:=H
 replace H : (take_Put.l0 k a1 t108 (wrap64 (t111 - 1))) = some r:=H
 have A5:=Aside0.mk A50
 clear A50
 have H':=Aside0.mk H
 clear H
 go_enter Try.func24,Try.ntmps24
 go_wp2_with (first | ((with_reducible refine gate_callee (f:=58) rfl ?_);refine goesL_ (some 10) rfl rfl Try.func58 (by kernel_rfl) rfl #[.slice A0 l0.length c0] rfl (by (try simp only [List.map_toArray,List.map_cons,List.map_nil]);first | done | rfl | (simp only [List.length_drop,List.length_take];rfl)) ?_;(with_reducible refine (slices_Clone_byte_byte.calls _ _ l0 t108 _ ?side1 ?side2 A4.out).mono ?_);(case side1 => repeat (first | exact HR0.out | (with_reducible refine Kd.C_alloc ?_ _) | (with_reducible refine Kd.C_drewN ?_ _) | (with_reducible refine Kd.C_drew ?_)));(case side2 => exact HC0.out);rintro e w6 ⟨v109,rfl,ho0,hb⟩;refine ⟨_,rfl,?_⟩;have n0_:=Aside0.mk (Kd.R_lower ho0 (below_size (by repeat (first | (with_reducible first | exact HB.out | apply below_alloc | apply pw_below_drewN | apply below_drew1) | exact HB.out))));have n1_:=Aside0.mk (below_step (by repeat (first | (with_reducible first | exact HB.out | apply below_alloc | apply pw_below_drewN | apply below_drew1) | exact HB.out)) hb);clear HB;have HO110:=n0_;have HB:=n1_;clear n0_ n1_;(try clear hb);(try clear hb2);(try clear hk);(try clear hi);(try clear ho0)) | ((with_reducible refine gate_callee (f:=56) rfl ?_);refine goesL_ (some 12) rfl rfl Try.func56 (by kernel_rfl) rfl #[.int .i64 a2] rfl (by (try simp only [List.map_toArray,List.map_cons,List.map_nil]);first | done | rfl | (simp only [List.length_drop,List.length_take];rfl)) ?_;(with_reducible refine (take_count.calls a2 t111 _ A5.out).mono ?_);rintro e w7 ⟨rfl,hb⟩;refine ⟨_,rfl,?_⟩;have n0_:=Aside0.mk (Kd.R_below (by (with_reducible repeat (first | apply Kd.R_alloc | apply Kd.R_drewN | apply Kd.R_drew));exact HO110.out) hb);have n1_:=Aside0.mk (below_step (by repeat (first | (with_reducible first | exact HB.out | apply below_alloc | apply pw_below_drewN | apply below_drew1) | exact HB.out)) hb);clear HO110;clear HB;have HO110:=n0_;have HB:=n1_;clear n0_ n1_;(try clear hb);(try clear hb2);(try clear hk);(try clear hi)))
 go_loopg [7,8] k (fun kq v7 v8 w' => ∃ (x7_1 : List Int) (x8_1 : Int),v8 = .int .i64 x8_1 ∧ Aside0 (take_Put.l0 kq a1 x7_1 x8_1 = some r) ∧ Aside0 (kq ≤ k) ∧ Aside0 (Kd.R (Kd.int .u8) 5 w' w.heap.size (fun _ => True) v7 x7_1) ∧ Aside0 (Below w.heap.size w w'))
 case atStart => exact ⟨(t108),(wrap64 (t111 - 1)),(by first | rfl | (simp;done) | (simp [*];done)),H',⟨Nat.le_refl _⟩,⟨by (with_reducible repeat (first | apply Kd.R_alloc | apply Kd.R_drewN | apply Kd.R_drew));exact HO110.out⟩,⟨by repeat (first | (with_reducible first | exact HB.out | apply below_alloc | apply pw_below_drewN | apply below_drew1) | exact HB.out)⟩⟩
 case round =>
  clear H'
  try clear c2
  try clear p2
  try clear c5
  try clear p6
  obtain ⟨x7_1,x8_1,rfl,HA,HK1,HO_7,HB⟩:=hrel
  cases gk with
  | zero => exact absurd HA.out (by simp [take_Put.l0])
  | succ k1 =>
   have H:=HA.out
   clear HA
   simp only [take_Put.l0] at H
   by_cases c8 : x8_1 ≥ 0
   ·rw [if_pos c8] at H
    have c8b0 : decide (0 ≤ x8_1) = true:=decide_eq_true c8
    clear c8
    obtain ⟨ji9,hji9⟩ : ∃ j_ : Int,(wrap64 (8 * x8_1)) = j_:=⟨_,rfl⟩
    replace H : (if 0 ≤ (ji9) then (if x7_1.length < 140737488355328 then (take_Put.l0 k1 a1 (x7_1 ++ [(shr .u64 a1 (ji9)) % 256]) (wrap64 (x8_1 - 1))) else (none)) else (none)) = some r:=by first | (rw [hji9] at H;exact H) | (simp only [hji9] at H ⊢;exact H)
    have hji9w : (IntKind.i64.wrap (8 * x8_1)) = ji9:=(i64_w _).trans hji9
    by_cases c10 : 0 ≤ (ji9)
    ·rw [if_pos c10] at H
     have c10b0:=eq_true c10
     have c10b1 : decide (0 ≤ (ji9)) = true:=decide_eq_true c10
     clear c10
     obtain ⟨ji11,hji11⟩ : ∃ j_ : Int,(shr .u64 a1 (ji9)) = j_:=⟨_,rfl⟩
     replace H : (if x7_1.length < 140737488355328 then (take_Put.l0 k1 a1 (x7_1 ++ [(ji11) % 256]) (wrap64 (x8_1 - 1))) else (none)) = some r:=by first | (rw [hji11] at H;exact H) | (simp only [hji11] at H ⊢;exact H)
     have hji11_ : (a1 / 2 ^ min (ji9).toNat 64) = ji11:=hji11
     have hji11z : (ji9) ≤ 64 → (a1 / 2 ^ (ji9).toNat) = ji11:=shr_small hji11
     by_cases c12 : x7_1.length < 140737488355328
     ·rw [if_pos c12] at H
      have LMc12:=Aside0.mk c12
      clear c12
      obtain ⟨y112,hy112⟩ : ∃ y_ : List Int,y_ = (x7_1 ++ [(ji11) % 256]):=⟨_,rfl⟩
      replace H : (take_Put.l0 k1 a1 y112 (wrap64 (x8_1 - 1))) = some r:=by first | (rw [hy112];with_reducible exact H) | (have H2_:=(Option.bind_some _ _).symm.trans H;rw [hy112];with_reducible exact H2_) | (have H2_:=(Option.bind_some _ _).symm.trans H;with_reducible exact H2_) | with_reducible exact H | (rw [hy112];exact H) | exact H
      have Ny112:=Aside0.mk hy112
      clear hy112
      have H':=Aside0.mk H
      clear H
      go_wp2_with (first | ((with_reducible refine gate_builtin (b:=.append) (xs:=#[.tmp 18,.tmp 24]) rfl ?_);at_builtin;refine Kd.R_append (Kd.int .u8) (w0:=w) w.heap.size rfl (.tmp 18) (.tmp 24) 22 5 (.int .u8 0) 1 rfl Try.underlying22 info5 rfl (by decide) (by omega) u7 x7_1 ((ji11) % 256) [.int .u8 ((ji11) % 256)] (fun _ => True) (fun _ => False) rfl rfl ?aP (fun _ hk => hk.elim) ?aF ?aO ?aB ?aS ?aL ?_;(case aP => exact rfl);(case aB => exact (by repeat (first | (with_reducible first | exact HB.out | apply below_alloc | apply pw_below_drewN | apply below_drew1) | exact HB.out)));(case aF => exact (fun _ _ => trivial));(case aO => exact (by (with_reducible repeat (first | apply Kd.R_alloc | apply Kd.R_drewN | apply Kd.R_drew));exact HO_7.out));(case aS => exact (below_size (by repeat (first | (with_reducible first | exact HB.out | apply below_alloc | apply pw_below_drewN | apply below_drew1) | exact HB.out))));(case aL => have:=LMc12.out;omega);intro v113 w13 ho hb hg hat;rw [← Ny112.out] at ho;have n0_:=Aside0.mk (hb);have n1_:=Aside0.mk (ho);clear HB;clear HO_7;have HB:=n0_;have HO114:=n1_;clear n0_ n1_;clear ho hb hg hat))
      go_roundg k1
      case measure => have:=HK1.out;omega
      case rel => exact ⟨(y112),(wrap64 (x8_1 - 1)),(by first | rfl | (simp;done) | (simp [*];done)),H',⟨by have:=HK1.out;omega⟩,⟨by (with_reducible repeat (first | apply Kd.R_alloc | apply Kd.R_drewN | apply Kd.R_drew));exact HO114.out⟩,⟨by repeat (first | (with_reducible first | exact HB.out | apply below_alloc | apply pw_below_drewN | apply below_drew1) | exact HB.out)⟩⟩
     ·rw [if_neg c12] at H
      exact absurd H (by simp)
    ·rw [if_neg c10] at H
     exact absurd H (by simp)
   ·rw [if_neg c8] at H
    have c8b0 : decide (0 ≤ x8_1) = false:=decide_eq_false c8
    clear c8
    obtain rfl:=Option.some.inj H
    go_wp2
    go_ret
    exact ⟨_,by first | rfl | (simp [errW_none,errW_some] <;> rfl) | (simp [*,errW_none,errW_some] <;> rfl),by (with_reducible repeat (first | apply Kd.R_alloc | apply Kd.R_drewN | apply Kd.R_drew));exact HO_7.out,by repeat (first | (with_reducible first | exact HB.out | apply below_alloc | apply pw_below_drewN | apply below_drew1) | exact HB.out)⟩

/-! ### take_PutWhole: function 25 -/
def take_PutWhole.f (k : Nat) (l0 : List Int) (a1 : Int) : Option (List Int):=(take_Put.f k l0 (IntKind.u64.wrap (a1)) 8).bind fun t115 => (some t115)
theorem take_PutWhole.mono : ∀ a0 a1 k,LeO (take_PutWhole.f k a0 a1) (take_PutWhole.f (k + 1) a0 a1):=by
 intro a0 a1 k
 unfold take_PutWhole.f
 repeat' first
   | (with_reducible exact take_Put.mono _ _ _ _)
   | (with_reducible exact LeO.refl _)
   | (with_reducible exact LeO.none _)
   | (with_reducible refine LeO.ite ?_ ?_)
   | (with_reducible refine LeO.bind ?_ (fun _ => ?_))
   | exact take_Put.mono _ _ _ _
   | exact LeO.none _
   | refine LeO.ite ?_ ?_
   | refine LeO.bind ?_ (fun _ => ?_)
set_option maxHeartbeats 8000000 in
set_option maxRecDepth 100000 in
theorem take_PutWhole.calls (k : Nat) (A0 : Option Addr) (c0 : Nat) (l0 : List Int) (a1 : Int) (r : List Int) (w : World) (hr0 : Kd.C (Kd.int .u8) w A0 l0.length l0) (hc0 : l0.length ≤ c0) (h : take_PutWhole.f k l0 a1 = some r) :
  Calls Try.prog 25 #[.slice A0 l0.length c0,.int .i64 a1] w fun e w' => ∃ v0_ : Value,e = .returned (v0_) ∧ Kd.R (Kd.int .u8) 5 w' w.heap.size (fun _ => True) v0_ r ∧ Below w.heap.size w w':=by
 have HR0:=Aside0.mk hr0
 have HC0:=Aside0.mk hc0
 clear hr0 hc0
 have HB:=Aside0.mk (Below.refl w.heap.size w)
 have H : ((take_Put.f k l0 (IntKind.u64.wrap (a1)) 8).bind fun t115 => (some t115)) = some r:=h
 clear h
 replace H:=Option.bind_eq_some_iff.mp H
 obtain ⟨t115,A30,H⟩:=H
 replace H : (some t115) = some r:=H
 have A3:=Aside0.mk A30
 clear A30
 obtain rfl:=Option.some.inj H
 go_enter Try.func25,Try.ntmps25
 go_wp2_with (first | ((with_reducible refine gate_callee (f:=24) rfl ?_);refine goesL_ (some 8) rfl rfl Try.func24 (by kernel_rfl) rfl #[.slice A0 l0.length c0,.int .u64 (IntKind.u64.wrap (a1)),.int .i64 8] rfl (by (try simp only [List.map_toArray,List.map_cons,List.map_nil]);first | done | rfl | (simp only [List.length_drop,List.length_take];rfl)) ?_;(with_reducible refine (take_Put.calls k _ _ l0 (IntKind.u64.wrap (a1)) 8 t115 _ ?side1 ?side2 A3.out).mono ?_);(case side1 => repeat (first | exact HR0.out | (with_reducible refine Kd.C_alloc ?_ _) | (with_reducible refine Kd.C_drewN ?_ _) | (with_reducible refine Kd.C_drew ?_)));(case side2 => exact HC0.out);rintro e w4 ⟨v116,rfl,ho0,hb⟩;refine ⟨_,rfl,?_⟩;have n0_:=Aside0.mk (Kd.R_lower ho0 (below_size (by repeat (first | (with_reducible first | exact HB.out | apply below_alloc | apply pw_below_drewN | apply below_drew1) | exact HB.out))));have n1_:=Aside0.mk (below_step (by repeat (first | (with_reducible first | exact HB.out | apply below_alloc | apply pw_below_drewN | apply below_drew1) | exact HB.out)) hb);clear HB;have HO117:=n0_;have HB:=n1_;clear n0_ n1_;(try clear hb);(try clear hb2);(try clear hk);(try clear hi);(try clear ho0)))
 go_ret
 exact ⟨_,by first | rfl | (simp [errW_none,errW_some] <;> rfl) | (simp [*,errW_none,errW_some] <;> rfl),by (with_reducible repeat (first | apply Kd.R_alloc | apply Kd.R_drewN | apply Kd.R_drew));exact HO117.out,by repeat (first | (with_reducible first | exact HB.out | apply below_alloc | apply pw_below_drewN | apply below_drew1) | exact HB.out)⟩


/-! ### take_PutValue: function 26 -/
def take_PutValue.f (k : Nat) (l0 : List Int) (a1 : Nat) : Option (List Int):=(take_Put.f k l0 (Flt.ubits a1) 8).bind fun t118 => (some t118)
theorem take_PutValue.mono : ∀ a0 a1 k,LeO (take_PutValue.f k a0 a1) (take_PutValue.f (k + 1) a0 a1):=by
 intro a0 a1 k
 unfold take_PutValue.f
 repeat' first
   | (with_reducible exact take_Put.mono _ _ _ _)
   | (with_reducible exact LeO.refl _)
   | (with_reducible exact LeO.none _)
   | (with_reducible refine LeO.ite ?_ ?_)
   | (with_reducible refine LeO.bind ?_ (fun _ => ?_))
   | exact take_Put.mono _ _ _ _
   | exact LeO.none _
   | refine LeO.ite ?_ ?_
   | refine LeO.bind ?_ (fun _ => ?_)
set_option maxHeartbeats 8000000 in
set_option maxRecDepth 100000 in
theorem take_PutValue.calls (k : Nat) (A0 : Option Addr) (c0 : Nat) (l0 : List Int) (a1 : Nat) (r : List Int) (w : World) (hr0 : Kd.C (Kd.int .u8) w A0 l0.length l0) (hc0 : l0.length ≤ c0) (h : take_PutValue.f k l0 a1 = some r) :
  Calls Try.prog 26 #[.slice A0 l0.length c0,.float .f64 a1] w fun e w' => ∃ v0_ : Value,e = .returned (v0_) ∧ Kd.R (Kd.int .u8) 5 w' w.heap.size (fun _ => True) v0_ r ∧ Below w.heap.size w w':=by
 have HR0:=Aside0.mk hr0
 have HC0:=Aside0.mk hc0
 clear hr0 hc0
 have HB:=Aside0.mk (Below.refl w.heap.size w)
 have H : ((take_Put.f k l0 (Flt.ubits a1) 8).bind fun t118 => (some t118)) = some r:=h
 clear h
 replace H:=Option.bind_eq_some_iff.mp H
 obtain ⟨t118,A30,H⟩:=H
 replace H : (some t118) = some r:=H
 have A3:=Aside0.mk A30
 clear A30
 obtain rfl:=Option.some.inj H
 go_enter Try.func26,Try.ntmps26
 go_wp2_with (first | ((with_reducible refine gate_callee (f:=24) rfl ?_);refine goesL_ (some 8) rfl rfl Try.func24 (by kernel_rfl) rfl #[.slice A0 l0.length c0,.int .u64 (Flt.ubits a1),.int .i64 8] rfl (by (try simp only [List.map_toArray,List.map_cons,List.map_nil]);first | done | rfl | (simp only [List.length_drop,List.length_take];rfl)) ?_;(with_reducible refine (take_Put.calls k _ _ l0 (Flt.ubits a1) 8 t118 _ ?side1 ?side2 A3.out).mono ?_);(case side1 => repeat (first | exact HR0.out | (with_reducible refine Kd.C_alloc ?_ _) | (with_reducible refine Kd.C_drewN ?_ _) | (with_reducible refine Kd.C_drew ?_)));(case side2 => exact HC0.out);rintro e w4 ⟨v119,rfl,ho0,hb⟩;refine ⟨_,rfl,?_⟩;have n0_:=Aside0.mk (Kd.R_lower ho0 (below_size (by repeat (first | (with_reducible first | exact HB.out | apply below_alloc | apply pw_below_drewN | apply below_drew1) | exact HB.out))));have n1_:=Aside0.mk (below_step (by repeat (first | (with_reducible first | exact HB.out | apply below_alloc | apply pw_below_drewN | apply below_drew1) | exact HB.out)) hb);clear HB;have HO120:=n0_;have HB:=n1_;clear n0_ n1_;(try clear hb);(try clear hb2);(try clear hk);(try clear hi);(try clear ho0)))
 go_ret
 exact ⟨_,by first | rfl | (simp [errW_none,errW_some] <;> rfl) | (simp [*,errW_none,errW_some] <;> rfl),by (with_reducible repeat (first | apply Kd.R_alloc | apply Kd.R_drewN | apply Kd.R_drew));exact HO120.out,by repeat (first | (with_reducible first | exact HB.out | apply below_alloc | apply pw_below_drewN | apply below_drew1) | exact HB.out)⟩


end Go.Proofs.Ytebbnjgaikppgaa.PA
