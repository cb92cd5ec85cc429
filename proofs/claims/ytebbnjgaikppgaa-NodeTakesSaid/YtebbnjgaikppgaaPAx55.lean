import Derived.Test.YtebbnjgaikppgaaPAx0
import Derived.Test.YtebbnjgaikppgaaPAx6
import Derived.Test.YtebbnjgaikppgaaPAx47
namespace Go.Proofs.Ytebbnjgaikppgaa.PA
open Go.RowKit Go.Proofs.YtebbnjgaikppgaaW.PrintWords Go.Proofs.YtebbnjgaikppgaaW.PrintLast Go.Proofs.YtebbnjgaikppgaaW.PrintMore
attribute [local go_sem] max2_int min2_int max_two min_two max_three min_three max_four min_four   -- for this text's walks alone
attribute [local go_sem high] Flt.fold_eq Flt.fold_ne Flt.fold_lt Flt.fold_gt Flt.fold_le Flt.fold_ge Flt.run_bits Flt.run_frombits
set_option linter.unusedVariables false
set_option linter.unusedSimpArgs false

/-! ### hornbeamref18_Get: function 52 -/
mutual
def hornbeamref18_Get.l0 : Nat → ByteArray → Int → Int → Int → Int → Int → Int → List (S75) → Int → Int → Option ((List (S75)) × Int × Int)
 | 0,_,_,_,_,_,_,_,_,_,_=>none
 | k + 1,x0,x1,x2,x3,x4,x5,x15,x17,x18,x19=>if x19 < x15 then ((hornbeamref07_Get.f k x0 x1 1).bind fun bt507=>(if bt507.2.2 = true then (if bt507.1 > 1 then (some (([] : List (S75)),0,3)) else (if bt507.1 = 1 then (hornbeamref18_Get.j1 k x0 bt507.2.1 x2 x3 x4 x5 x15 x17 x18 x19 bt507.1 (([2,2] : List Int)) (-1) 0 0 0 0 0) else (if x4 = 0 then (hornbeamref18_Get.j1 k x0 bt507.2.1 x2 x3 x4 x5 x15 x17 x18 x19 bt507.1 (([1] : List Int)) (-1) 0 0 0 0 0) else (hornbeamref18_Get.j1 k x0 bt507.2.1 x2 x3 x4 x5 x15 x17 x18 x19 bt507.1 (([8,4] : List Int)) (-1) 0 0 0 0 0)))) else (some (([] : List (S75)),0,2)))) else ((hornbeamref18_Right.f k x17 x2 x3 x4 x5).bind fun t506=>(if t506 = true then (some (x17,x1,0)) else (some (([] : List (S75)),0,3))))
def hornbeamref18_Get.j1 : Nat → ByteArray → Int → Int → Int → Int → Int → Int → List (S75) → Int → Int → Int → List Int → Int → Int → Int → Int → Int → Int → Option ((List (S75)) × Int × Int)
 | 0,_,_,_,_,_,_,_,_,_,_,_,_,_,_,_,_,_,_=>none
 | k + 1,x0,x1,x2,x3,x4,x5,x15,x17,x18,x19,x20,x24,x511000,x511001,x511002,x511003,x511004,x511005=>hornbeamref18_Get.l1 k x0 x1 x2 x3 x4 x5 x15 x17 x18 x19 x20 x24 (([] : List Int)) 0 x511000 x511001 x511002 x511003 x511004 x511005
def hornbeamref18_Get.l1 : Nat → ByteArray → Int → Int → Int → Int → Int → Int → List (S75) → Int → Int → Int → List Int → List Int → Int → Int → Int → Int → Int → Int → Int → Option ((List (S75)) × Int × Int)
 | 0,_,_,_,_,_,_,_,_,_,_,_,_,_,_,_,_,_,_,_,_=>none
 | k + 1,x0,x1,x2,x3,x4,x5,x15,x17,x18,x19,x20,x24,x25,x26,x511000,x511001,x511002,x511003,x511004,x511005=>if x26 < (x24.length : Int) then (if 0 ≤ x26 then ((hornbeamref07_Get.f k x0 x1 (rd x24 x26)).bind fun bt524=>(if bt524.2.2 = true then (if x25.length < 17592186044416 then (hornbeamref18_Get.l1 k x0 bt524.2.1 x2 x3 x4 x5 x15 x17 x18 x19 x20 x24 (x25 ++ [bt524.1]) (wrap64 (x26 + 1)) x511000 x511001 x511002 x511003 x511004 x511005) else (none)) else (some (([] : List (S75)),0,2)))) else (none)) else (if x20 = 1 then (if 0 < (x25.length : Int) then (if 1 < (x25.length : Int) then (if x17.length < 2932031007402 then (hornbeamref18_Get.l0 k x0 x1 x2 x3 x4 x5 x15 (x17 ++ [(⟨wrap64 (rd x25 0),wrap64 (rd x25 1),x18,0,0,0⟩ : S75)]) (wrap64 (x18 + 2)) (IntKind.u64.wrap (x19 + 1))) else (none)) else (none)) else (none)) else (if x4 = 0 then (if 0 < (x25.length : Int) then (if x17.length < 2932031007402 then (hornbeamref18_Get.l0 k x0 x1 x2 x3 x4 x5 x15 (x17 ++ [(⟨x511000,x511001,x511002,wrap64 (rd x25 0),x511004,x511005⟩ : S75)]) x18 (IntKind.u64.wrap (x19 + 1))) else (none)) else (none)) else (if 0 < (x25.length : Int) then (if 1 < (x25.length : Int) then (if x17.length < 2932031007402 then (hornbeamref18_Get.l0 k x0 x1 x2 x3 x4 x5 x15 (x17 ++ [(⟨x511000,x511001,x511002,x511003,wrap64 (rd x25 0),wrap64 (rd x25 1)⟩ : S75)]) x18 (IntKind.u64.wrap (x19 + 1))) else (none)) else (none)) else (none))))
end
def hornbeamref18_Get.f (k : Nat) (a0 : ByteArray) (a1 : Int) (a2 : Int) (a3 : Int) (a4 : Int) (a5 : Int) : Option ((List (S75)) × Int × Int):=(hornbeamref07_Get.f k a0 a1 4).bind fun bt500=>(if bt500.2.2 = true then (if bt500.1 > 4194304 then (some (([] : List (S75)),0,4)) else (hornbeamref18_Get.l0 k a0 bt500.2.1 a2 a3 a4 a5 bt500.1 (([] : List (S75))) 1 0)) else (some (([] : List (S75)),0,2)))
theorem hornbeamref18_Get.mono_l : ∀ k,(∀ y0 y1 y2 y3 y4 y5 y6 y7 y8 y9,LeO (hornbeamref18_Get.l0 k y0 y1 y2 y3 y4 y5 y6 y7 y8 y9) (hornbeamref18_Get.l0 (k + 1) y0 y1 y2 y3 y4 y5 y6 y7 y8 y9)) ∧ (∀ y0 y1 y2 y3 y4 y5 y6 y7 y8 y9 y10 y11 y12 y13 y14 y15 y16 y17,LeO (hornbeamref18_Get.j1 k y0 y1 y2 y3 y4 y5 y6 y7 y8 y9 y10 y11 y12 y13 y14 y15 y16 y17) (hornbeamref18_Get.j1 (k + 1) y0 y1 y2 y3 y4 y5 y6 y7 y8 y9 y10 y11 y12 y13 y14 y15 y16 y17)) ∧ (∀ y0 y1 y2 y3 y4 y5 y6 y7 y8 y9 y10 y11 y12 y13 y14 y15 y16 y17 y18 y19,LeO (hornbeamref18_Get.l1 k y0 y1 y2 y3 y4 y5 y6 y7 y8 y9 y10 y11 y12 y13 y14 y15 y16 y17 y18 y19) (hornbeamref18_Get.l1 (k + 1) y0 y1 y2 y3 y4 y5 y6 y7 y8 y9 y10 y11 y12 y13 y14 y15 y16 y17 y18 y19))
 | 0=>⟨fun _ _ _ _ _ _ _ _ _ _ r h=>by simp [hornbeamref18_Get.l0] at h,fun _ _ _ _ _ _ _ _ _ _ _ _ _ _ _ _ _ _ r h=>by simp [hornbeamref18_Get.j1] at h,fun _ _ _ _ _ _ _ _ _ _ _ _ _ _ _ _ _ _ _ _ r h=>by simp [hornbeamref18_Get.l1] at h⟩
 | k + 1=>by
  obtain ⟨ih0,ih1,ih2⟩:=hornbeamref18_Get.mono_l k
  refine ⟨?_,?_,?_⟩
  ·intro y0 y1 y2 y3 y4 y5 y6 y7 y8 y9
   unfold hornbeamref18_Get.l0
   repeat' first
   | (with_reducible exact ih0 _ _ _ _ _ _ _ _ _ _)
   | (with_reducible exact ih1 _ _ _ _ _ _ _ _ _ _ _ _ _ _ _ _ _ _)
   | (with_reducible exact ih2 _ _ _ _ _ _ _ _ _ _ _ _ _ _ _ _ _ _ _ _)
   | (with_reducible exact hornbeamref07_Get.mono _ _ _ _)
   | (with_reducible exact hornbeamref18_Right.mono _ _ _ _ _ _)
   | (with_reducible exact LeO.refl _)
   | (with_reducible exact LeO.none _)
   | (with_reducible refine LeO.ite ?_ ?_)
   | (with_reducible refine LeO.bind ?_ (fun _=>?_))
   | exact ih0 _ _ _ _ _ _ _ _ _ _
   | exact ih1 _ _ _ _ _ _ _ _ _ _ _ _ _ _ _ _ _ _
   | exact ih2 _ _ _ _ _ _ _ _ _ _ _ _ _ _ _ _ _ _ _ _
   | exact hornbeamref07_Get.mono _ _ _ _
   | exact hornbeamref18_Right.mono _ _ _ _ _ _
   | exact LeO.none _
   | refine LeO.ite ?_ ?_
   | refine LeO.bind ?_ (fun _=>?_)
  ·intro y0 y1 y2 y3 y4 y5 y6 y7 y8 y9 y10 y11 y12 y13 y14 y15 y16 y17
   unfold hornbeamref18_Get.j1
   repeat' first
   | (with_reducible exact ih0 _ _ _ _ _ _ _ _ _ _)
   | (with_reducible exact ih1 _ _ _ _ _ _ _ _ _ _ _ _ _ _ _ _ _ _)
   | (with_reducible exact ih2 _ _ _ _ _ _ _ _ _ _ _ _ _ _ _ _ _ _ _ _)
   | (with_reducible exact hornbeamref07_Get.mono _ _ _ _)
   | (with_reducible exact hornbeamref18_Right.mono _ _ _ _ _ _)
   | (with_reducible exact LeO.refl _)
   | (with_reducible exact LeO.none _)
   | (with_reducible refine LeO.ite ?_ ?_)
   | (with_reducible refine LeO.bind ?_ (fun _=>?_))
   | exact ih0 _ _ _ _ _ _ _ _ _ _
   | exact ih1 _ _ _ _ _ _ _ _ _ _ _ _ _ _ _ _ _ _
   | exact ih2 _ _ _ _ _ _ _ _ _ _ _ _ _ _ _ _ _ _ _ _
   | exact hornbeamref07_Get.mono _ _ _ _
   | exact hornbeamref18_Right.mono _ _ _ _ _ _
   | exact LeO.none _
   | refine LeO.ite ?_ ?_
   | refine LeO.bind ?_ (fun _=>?_)
  ·intro y0 y1 y2 y3 y4 y5 y6 y7 y8 y9 y10 y11 y12 y13 y14 y15 y16 y17 y18 y19
   unfold hornbeamref18_Get.l1
   repeat' first
   | (with_reducible exact ih0 _ _ _ _ _ _ _ _ _ _)
   | (with_reducible exact ih1 _ _ _ _ _ _ _ _ _ _ _ _ _ _ _ _ _ _)
   | (with_reducible exact ih2 _ _ _ _ _ _ _ _ _ _ _ _ _ _ _ _ _ _ _ _)
   | (with_reducible exact hornbeamref07_Get.mono _ _ _ _)
   | (with_reducible exact hornbeamref18_Right.mono _ _ _ _ _ _)
   | (with_reducible exact LeO.refl _)
   | (with_reducible exact LeO.none _)
   | (with_reducible refine LeO.ite ?_ ?_)
   | (with_reducible refine LeO.bind ?_ (fun _=>?_))
   | exact ih0 _ _ _ _ _ _ _ _ _ _
   | exact ih1 _ _ _ _ _ _ _ _ _ _ _ _ _ _ _ _ _ _
   | exact ih2 _ _ _ _ _ _ _ _ _ _ _ _ _ _ _ _ _ _ _ _
   | exact hornbeamref07_Get.mono _ _ _ _
   | exact hornbeamref18_Right.mono _ _ _ _ _ _
   | exact LeO.none _
   | refine LeO.ite ?_ ?_
   | refine LeO.bind ?_ (fun _=>?_)
theorem hornbeamref18_Get.mono : ∀ a0 a1 a2 a3 a4 a5 k,LeO (hornbeamref18_Get.f k a0 a1 a2 a3 a4 a5) (hornbeamref18_Get.f (k + 1) a0 a1 a2 a3 a4 a5):=by
 intro a0 a1 a2 a3 a4 a5 k
 obtain ⟨ih0,ih1,ih2⟩:=hornbeamref18_Get.mono_l k
 unfold hornbeamref18_Get.f
 repeat' first
   | (with_reducible exact ih0 _ _ _ _ _ _ _ _ _ _)
   | (with_reducible exact ih1 _ _ _ _ _ _ _ _ _ _ _ _ _ _ _ _ _ _)
   | (with_reducible exact ih2 _ _ _ _ _ _ _ _ _ _ _ _ _ _ _ _ _ _ _ _)
   | (with_reducible exact hornbeamref07_Get.mono _ _ _ _)
   | (with_reducible exact hornbeamref18_Right.mono _ _ _ _ _ _)
   | (with_reducible exact LeO.refl _)
   | (with_reducible exact LeO.none _)
   | (with_reducible refine LeO.ite ?_ ?_)
   | (with_reducible refine LeO.bind ?_ (fun _=>?_))
   | exact ih0 _ _ _ _ _ _ _ _ _ _
   | exact ih1 _ _ _ _ _ _ _ _ _ _ _ _ _ _ _ _ _ _
   | exact ih2 _ _ _ _ _ _ _ _ _ _ _ _ _ _ _ _ _ _ _ _
   | exact hornbeamref07_Get.mono _ _ _ _
   | exact hornbeamref18_Right.mono _ _ _ _ _ _
   | exact LeO.none _
   | refine LeO.ite ?_ ?_
   | refine LeO.bind ?_ (fun _=>?_)
def hornbeamref18_Get.T33 : Bool × List (List Nat × List Nat):=(true,[([],[]),([0],[0]),([1],[1]),([2],[2]),([],[]),([4],[4]),([5],[5]),([6],[6]),([],[]),([3,7,8],[3,7,8]),([9,0,1,2,3,4,5,6,7,8,9],[9])])
def hornbeamref18_Get.B33 : List Nat:=[0,1,3,7,0,16,48,112,0,511,1023]
theorem hornbeamref18_Get.tab33 : rtab .any (opsOf Try.f52 33) = hornbeamref18_Get.T33:=by kernel_rfl
theorem hornbeamref18_Get.bits33 : waitsOk hornbeamref18_Get.T33.2 hornbeamref18_Get.B33 = true:=by kernel_rfl
def hornbeamref18_Get.T37 : Bool × List (List Nat × List Nat):=(true,[([],[]),([0],[0]),([1],[1]),([2],[2]),([],[]),([4],[4]),([5],[5]),([6],[6]),([0,1,2,3],[]),([8,3,0,1,2,3],[3,8]),([0,1,2,3,4,5,6,7,8,9],[]),([10,7,9,0,1,2,3,4,5,6,7,8,9],[7,10])])
def hornbeamref18_Get.B37 : List Nat:=[0,1,3,7,0,16,48,112,15,271,1023,2047]
theorem hornbeamref18_Get.tab37 : rtab .any (opsOf Try.f52 37) = hornbeamref18_Get.T37:=by kernel_rfl
theorem hornbeamref18_Get.bits37 : waitsOk hornbeamref18_Get.T37.2 hornbeamref18_Get.B37 = true:=by kernel_rfl
set_option maxHeartbeats 8000000 in
set_option maxRecDepth 100000 in
theorem hornbeamref18_Get.calls (k : Nat) (a0 : ByteArray) (a1 : Int) (a2 : Int) (a3 : Int) (a4 : Int) (a5 : Int) (r1 : List (S75)) (r2 : Int) (r3 : Int) (w : World) (h : hornbeamref18_Get.f k a0 a1 a2 a3 a4 a5 = some (r1,r2,r3)) :
  Calls Try.prog 52 #[.string a0,.int .i64 a1,.int .i64 a2,.int .i64 a3,.int .i64 a4,.int .i64 a5] w fun e w'=>∃ v0_ : Value,e = .returned (.tuple #[v0_,.int .i64 r2,.int .i64 r3]) ∧ Kd.R k75 75 w' w.heap.size (fun _=>True) v0_ r1 ∧ Below w.heap.size w w':=by
 have hu75:=Try.underlying75
 have HB:=Aside0.mk (Below.refl w.heap.size w)
 have H : ((hornbeamref07_Get.f k a0 a1 4).bind fun bt500=>(if bt500.2.2 = true then (if bt500.1 > 4194304 then (some (([] : List (S75)),0,4)) else (hornbeamref18_Get.l0 k a0 bt500.2.1 a2 a3 a4 a5 bt500.1 (([] : List (S75))) 1 0)) else (some (([] : List (S75)),0,2)))) = some (r1,r2,r3):=h
 clear h
 replace H:=Option.bind_eq_some_iff.mp H
 obtain ⟨⟨t500,t501,t502⟩,A70,H⟩:=H
 replace H : (if t502 = true then (if t500 > 4194304 then (some (([] : List (S75)),0,4)) else (hornbeamref18_Get.l0 k a0 t501 a2 a3 a4 a5 t500 (([] : List (S75))) 1 0)) else (some (([] : List (S75)),0,2))) = some (r1,r2,r3):=H
 have A7:=Aside0.mk A70
 clear A70
 by_cases c8 : t502 = true
 ·subst c8
  have H1 : (if t500 > 4194304 then (some (([] : List (S75)),0,4)) else (hornbeamref18_Get.l0 k a0 t501 a2 a3 a4 a5 t500 (([] : List (S75))) 1 0)) = some (r1,r2,r3):=by rw [if_pos rfl] at H;exact H
  clear H
  have H:=H1
  clear H1
  by_cases c9 : t500 > 4194304
  ·rw [if_pos c9] at H
   have c9b0 : decide (4194304 < t500) = true:=decide_eq_true c9
   clear c9
   simp only [Option.some.injEq,Prod.mk.injEq] at H
   obtain ⟨rfl,rfl,rfl⟩:=H
   go_enter Try.func52,Try.ntmps52
   go_wp2_with (first|((with_reducible refine gate_callee (f:=20) rfl ?_);refine goesL_ (some 33) rfl rfl Try.func20 (by kernel_rfl) rfl #[.string a0,.int .i64 a1,.int .i64 4] rfl (by (try simp only [List.map_toArray,List.map_cons,List.map_nil]);first|done|rfl|(simp only [List.length_drop,List.length_take];rfl)) ?_;(with_reducible refine (hornbeamref07_Get.calls k a0 a1 4 t500 t501 true _ A7.out).mono ?_);rintro e w' ⟨rfl,⟨nd,rfl⟩⟩;refine ⟨_,rfl,?_⟩))
   go_ret3
   exact ⟨_,by first|rfl|(simp [errW_none,errW_some] <;> rfl)|(simp [*,errW_none,errW_some] <;> rfl),by first|exact Kd.R_nil _ _ _ _ _|exact Kd.N_nil _ _ _ _ _|exact Kd.V_nil _ _ _ _ _|exact Kd.Q_nil _ _ _ _ _|exact Kd.S_nil _ _ _ _ _,by repeat(first|(with_reducible first|exact HB.out|apply below_alloc|apply pw_below_drewN|apply below_drew1)|exact HB.out)⟩
  ·rw [if_neg c9] at H
   have c9b0 : decide (4194304 < t500) = false:=decide_eq_false c9
   clear c9
   obtain ⟨y503,hy503⟩ : ∃ y_ : List (S75),y_ = (([] : List (S75))):=⟨_,rfl⟩
   replace H : (hornbeamref18_Get.l0 k a0 t501 a2 a3 a4 a5 t500 y503 1 0) = some (r1,r2,r3):=by first|(rw [hy503];with_reducible exact H)|(have H2_:=(Option.bind_some _ _).symm.trans H;rw [hy503];with_reducible exact H2_)|(have H2_:=(Option.bind_some _ _).symm.trans H;with_reducible exact H2_)|with_reducible exact H|(rw [hy503];exact H)|exact H
   have Ny503:=Aside0.mk hy503
   clear hy503
   have H':=Aside0.mk H
   clear H
   go_enter Try.func52,Try.ntmps52
   go_wp2_with (first|((with_reducible refine gate_callee (f:=20) rfl ?_);refine goesL_ (some 33) rfl rfl Try.func20 (by kernel_rfl) rfl #[.string a0,.int .i64 a1,.int .i64 4] rfl (by (try simp only [List.map_toArray,List.map_cons,List.map_nil]);first|done|rfl|(simp only [List.length_drop,List.length_take];rfl)) ?_;(with_reducible refine (hornbeamref07_Get.calls k a0 a1 4 t500 t501 true _ A7.out).mono ?_);rintro e w' ⟨rfl,⟨nd,rfl⟩⟩;refine ⟨_,rfl,?_⟩)|((with_reducible refine gate_dst (N:=41) rfl ?_);refine Kd.R_lit k75 _ 75 ?hg (N:=41) ?hd (xs:=([] : List (S75))) (inner:=[]) (ok:=fun _=>True) (okp:=fun _=>True) ?hr ?hp (fun _ hk=>hk) trivial (Below.refl _ _) (Nat.le_refl _) (by simp) ?_;(case hd=>rfl);(case hg=>rfl);(case hr=>first|(go_simp;done)|(go_simp;rfl));(case hp=>exact (Reps.none _ _));intro v504 w10 ho11 hb hg_ hnew_;clear hg_ hnew_;(first|rw [← Ny503.out] at ho11|(simp only [Int.reduceToNat] at ho11;rw [← Ny503.out] at ho11));have n0_:=Aside0.mk (Kd.R_lower ho11 (below_size (by repeat(first|(with_reducible first|exact HB.out|apply below_alloc|apply pw_below_drewN|apply below_drew1)|exact HB.out))));have n1_:=Aside0.mk (below_step (by repeat(first|(with_reducible first|exact HB.out|apply below_alloc|apply pw_below_drewN|apply below_drew1)|exact HB.out)) hb);clear HB;have HO505:=n0_;have HB:=n1_;clear n0_ n1_;clear hb ho11))
   go_loopg [1,17,18,19] k (fun kq v1 v17 v18 v19 w'=>∃ (x1_1 : Int) (x17_1 : List (S75)) (x18_1 : Int) (x19_1 : Int),v1 = .int .i64 x1_1 ∧ v18 = .int .i64 x18_1 ∧ v19 = .int .u64 x19_1 ∧ Aside0 (hornbeamref18_Get.l0 kq a0 x1_1 a2 a3 a4 a5 t500 x17_1 x18_1 x19_1 = some (r1,r2,r3)) ∧ Aside0 (kq ≤ k) ∧ Aside0 (Kd.R k75 75 w' w.heap.size (fun _=>True) v17 x17_1) ∧ Aside0 (Below w.heap.size w w'))
   case atStart=>exact ⟨(t501),(y503),(1),(0),(by first|rfl|(simp;done)|(simp [*];done)),(by first|rfl|(simp;done)|(simp [*];done)),(by first|rfl|(simp;done)|(simp [*];done)),H',⟨Nat.le_refl _⟩,⟨by (with_reducible repeat(first|apply Kd.R_alloc|apply Kd.R_drewN|apply Kd.R_drew));exact HO505.out⟩,⟨by repeat(first|(with_reducible first|exact HB.out|apply below_alloc|apply pw_below_drewN|apply below_drew1)|exact HB.out)⟩⟩
   case round =>
    clear H'
    try clear c2
    try clear p2
    try clear c5
    try clear c8
    try clear c9
    try clear c9b0
    obtain ⟨x1_1,x17_1,x18_1,x19_1,rfl,rfl,rfl,HA,HK1,HO_17,HB⟩:=hrel
    cases gk with
    | zero=>exact absurd HA.out (by simp [hornbeamref18_Get.l0])
    | succ k1 =>
     have H:=HA.out
     clear HA
     simp only [hornbeamref18_Get.l0] at H
     by_cases c12 : x19_1 < t500
     ·rw [if_pos c12] at H
      have c12b0 : decide (x19_1 < t500) = true:=decide_eq_true c12
      clear c12
      replace H:=Option.bind_eq_some_iff.mp H
      obtain ⟨⟨t507,t508,t509⟩,A130,H⟩:=H
      replace H : (if t509 = true then (if t507 > 1 then (some (([] : List (S75)),0,3)) else (if t507 = 1 then (hornbeamref18_Get.j1 k1 a0 t508 a2 a3 a4 a5 t500 x17_1 x18_1 x19_1 t507 (([2,2] : List Int)) (-1) 0 0 0 0 0) else (if a4 = 0 then (hornbeamref18_Get.j1 k1 a0 t508 a2 a3 a4 a5 t500 x17_1 x18_1 x19_1 t507 (([1] : List Int)) (-1) 0 0 0 0 0) else (hornbeamref18_Get.j1 k1 a0 t508 a2 a3 a4 a5 t500 x17_1 x18_1 x19_1 t507 (([8,4] : List Int)) (-1) 0 0 0 0 0)))) else (some (([] : List (S75)),0,2))) = some (r1,r2,r3):=H
      have A13:=Aside0.mk A130
      clear A130
      by_cases c14 : t509 = true
      ·subst c14
       have H1 : (if t507 > 1 then (some (([] : List (S75)),0,3)) else (if t507 = 1 then (hornbeamref18_Get.j1 k1 a0 t508 a2 a3 a4 a5 t500 x17_1 x18_1 x19_1 t507 (([2,2] : List Int)) (-1) 0 0 0 0 0) else (if a4 = 0 then (hornbeamref18_Get.j1 k1 a0 t508 a2 a3 a4 a5 t500 x17_1 x18_1 x19_1 t507 (([1] : List Int)) (-1) 0 0 0 0 0) else (hornbeamref18_Get.j1 k1 a0 t508 a2 a3 a4 a5 t500 x17_1 x18_1 x19_1 t507 (([8,4] : List Int)) (-1) 0 0 0 0 0)))) = some (r1,r2,r3):=by rw [if_pos rfl] at H;exact H
       clear H
       have H:=H1
       clear H1
       by_cases c15 : t507 > 1
       ·rw [if_pos c15] at H
        have c15b0 : decide (1 < t507) = true:=decide_eq_true c15
        clear c15
        simp only [Option.some.injEq,Prod.mk.injEq] at H
        obtain ⟨rfl,rfl,rfl⟩:=H
        go_wp2_with (first|((with_reducible refine gate_callee (f:=20) rfl ?_);refine goesL_ (some 50) rfl rfl Try.func20 (by kernel_rfl) rfl #[.string a0,.int .i64 x1_1,.int .i64 1] rfl (by (try simp only [List.map_toArray,List.map_cons,List.map_nil]);first|done|rfl|(simp only [List.length_drop,List.length_take];rfl)) ?_;(with_reducible refine (hornbeamref07_Get.calls k1 a0 x1_1 1 t507 t508 true _ A13.out).mono ?_);rintro e w' ⟨rfl,⟨nd,rfl⟩⟩;refine ⟨_,rfl,?_⟩))
        go_ret3
        exact ⟨_,by first|rfl|(simp [errW_none,errW_some] <;> rfl)|(simp [*,errW_none,errW_some] <;> rfl),by first|exact Kd.R_nil _ _ _ _ _|exact Kd.N_nil _ _ _ _ _|exact Kd.V_nil _ _ _ _ _|exact Kd.Q_nil _ _ _ _ _|exact Kd.S_nil _ _ _ _ _,by repeat(first|(with_reducible first|exact HB.out|apply below_alloc|apply pw_below_drewN|apply below_drew1)|exact HB.out)⟩
       ·rw [if_neg c15] at H
        have c15b0 : decide (1 < t507) = false:=decide_eq_false c15
        clear c15
        obtain ⟨y511,hy511⟩ : ∃ y_ : List Int,y_ = (([8,4] : List Int)):=⟨_,rfl⟩
        replace H : (if t507 = 1 then (hornbeamref18_Get.j1 k1 a0 t508 a2 a3 a4 a5 t500 x17_1 x18_1 x19_1 t507 (([2,2] : List Int)) (-1) 0 0 0 0 0) else (if a4 = 0 then (hornbeamref18_Get.j1 k1 a0 t508 a2 a3 a4 a5 t500 x17_1 x18_1 x19_1 t507 (([1] : List Int)) (-1) 0 0 0 0 0) else (hornbeamref18_Get.j1 k1 a0 t508 a2 a3 a4 a5 t500 x17_1 x18_1 x19_1 t507 y511 (-1) 0 0 0 0 0))) = some (r1,r2,r3):=by first|(rw [hy511];with_reducible exact H)|(have H2_:=(Option.bind_some _ _).symm.trans H;rw [hy511];with_reducible exact H2_)|(have H2_:=(Option.bind_some _ _).symm.trans H;with_reducible exact H2_)|with_reducible exact H|(rw [hy511];exact H)|exact H
        have Ny511:=Aside0.mk hy511
        clear hy511
        have HC16:=Aside0.mk H
        clear H
        go_upto_if 62 with (first|((with_reducible refine gate_callee (f:=20) rfl ?_);refine goesL_ (some 50) rfl rfl Try.func20 (by kernel_rfl) rfl #[.string a0,.int .i64 x1_1,.int .i64 1] rfl (by (try simp only [List.map_toArray,List.map_cons,List.map_nil]);first|done|rfl|(simp only [List.length_drop,List.length_take];rfl)) ?_;(with_reducible refine (hornbeamref07_Get.calls k1 a0 x1_1 1 t507 t508 true _ A13.out).mono ?_);rintro e w' ⟨rfl,⟨nd,rfl⟩⟩;refine ⟨_,rfl,?_⟩;(try (rw [drewN_self wr];generalize hq_ : World.drewN wr _ = wr;have n0_ : Aside0 (Kd.R k75 75 wr w.heap.size (fun _=>True) u17 x17_1):=⟨by rw [← hq_];exact (by (with_reducible repeat(first|apply Kd.R_alloc|apply Kd.R_drewN|apply Kd.R_drew));exact HO_17.out)⟩;have n1_ : Aside0 (Below w.heap.size w wr):=⟨by rw [← hq_];exact (by repeat(first|(with_reducible first|exact HB.out|apply below_alloc|apply pw_below_drewN|apply below_drew1)|exact HB.out))⟩;clear HO_17 HB hq_;have HO_17:=n0_;have HB:=n1_;clear n0_ n1_)))|((with_reducible refine gate_dst (N:=23) rfl ?_);refine box_event ?hg (N:=23) ?hd (cs:=#[.int .i64 0,.int .i64 0,.int .i64 0,.int .i64 0,.int .i64 0,.int .i64 0]) (t:=75) ?hr ?_;(case hd=>rfl);(case hg=>rfl);(case hr=>first|(go_simp;done)|(go_simp;rfl));intro gb510 hg w17 hbox hb;have n0_:=Aside0.mk (Kd.R_below (Kd.R_elderB (by (with_reducible repeat(first|apply Kd.R_alloc|apply Kd.R_drewN|apply Kd.R_drew));exact HO_17.out) gb510 (Nat.le_of_eq hg.symm)) hb);have n1_:=Aside0.mk (below_step (by repeat(first|(with_reducible first|exact HB.out|apply below_alloc|apply pw_below_drewN|apply below_drew1)|exact HB.out)) hb);have n2_:=Aside0.mk (hbox);have n3_:=Aside0.mk ((by rw [hg];exact (below_size (by repeat(first|(with_reducible first|exact HB.out|apply below_alloc|apply pw_below_drewN|apply below_drew1)|exact HB.out))) : w.heap.size ≤ gb510));have n4_:=Aside0.mk ((by rw [hg];exact (below_size (by repeat(first|(with_reducible first|exact HB.out|apply below_alloc|apply pw_below_drewN|apply below_drew1)|exact HB.out))) : w.heap.size ≤ gb510));clear HO_17;clear HB;have HO_17:=n0_;have HB:=n1_;have BK510:=n2_;have GW510:=n3_;have GE510:=n4_;clear n0_ n1_ n2_ n3_ n4_;clear hb hbox hg;have hcz18_0 : w17.cell? ⟨gb510,0,none⟩ = some (.int .i64 0):=(blk_cell BK510.out 0).trans rfl;have hcz18_1 : w17.cell? ⟨gb510,1,none⟩ = some (.int .i64 0):=(blk_cell BK510.out 1).trans rfl;have hcz18_2 : w17.cell? ⟨gb510,2,none⟩ = some (.int .i64 0):=(blk_cell BK510.out 2).trans rfl;have hcz18_3 : w17.cell? ⟨gb510,3,none⟩ = some (.int .i64 0):=(blk_cell BK510.out 3).trans rfl;have hcz18_4 : w17.cell? ⟨gb510,4,none⟩ = some (.int .i64 0):=(blk_cell BK510.out 4).trans rfl;have hcz18_5 : w17.cell? ⟨gb510,5,none⟩ = some (.int .i64 0):=(blk_cell BK510.out 5).trans rfl;have hfz18_0:=blk_frozen BK510.out 0;have hfz18_1:=blk_frozen BK510.out 1;have hfz18_2:=blk_frozen BK510.out 2;have hfz18_3:=blk_frozen BK510.out 3;have hfz18_4:=blk_frozen BK510.out 4;have hfz18_5:=blk_frozen BK510.out 5)|((with_reducible refine gate_dst (N:=60) rfl ?_);refine Kd.R_lit (Kd.int .i64) _ 3 ?hg (N:=60) ?hd (xs:=([8,4] : List Int)) (inner:=[.int .i64 8,.int .i64 4]) (ok:=fun _=>True) (okp:=fun _=>True) ?hr ?hp (fun _ hk=>hk) trivial (Below.refl _ _) (Nat.le_refl _) (by simp) ?_;(case hd=>rfl);(case hg=>rfl);(case hr=>first|(go_simp;done)|(go_simp;rfl));(case hp=>exact (Reps.one (show Kd.M (Kd.int .i64) _ _ _ 8 [.int .i64 8] from rfl) (Reps.one (show Kd.M (Kd.int .i64) _ _ _ 4 [.int .i64 4] from rfl) (Reps.none _ _))));intro v512 w19 ho20 hb hg_ hnew_;clear hg_ hnew_;(first|rw [← Ny511.out] at ho20|(simp only [Int.reduceToNat] at ho20;rw [← Ny511.out] at ho20));have n0_:=Aside0.mk (Kd.R_below (by (with_reducible repeat(first|apply Kd.R_alloc|apply Kd.R_drewN|apply Kd.R_drew));exact (Kd.R_mono (Kd.R_far (p:=⟨gb510,5,none⟩) (Kd.R_far (p:=⟨gb510,4,none⟩) (Kd.R_far (p:=⟨gb510,3,none⟩) (Kd.R_far (p:=⟨gb510,2,none⟩) (Kd.R_far (p:=⟨gb510,1,none⟩) (Kd.R_far (p:=⟨gb510,0,none⟩) (Kd.R_mono HO_17.out (fun k_ hk=>(⟨hk,hk.2⟩ : _ ∧ k_ ≠ gb510))) (fun _ hk=>hk.2) (.int .i64 (-1))) (fun _ hk=>hk.2) (.int .i64 0)) (fun _ hk=>hk.2) (.int .i64 0)) (fun _ hk=>hk.2) (.int .i64 0)) (fun _ hk=>hk.2) (.int .i64 0)) (fun _ hk=>hk.2) (.int .i64 0)) (fun _ h_=>h_.1))) hb);have n1_:=Aside0.mk (Kd.R_lower ho20 (below_size (by repeat(first|(with_reducible first|exact HB.out|apply below_alloc|apply pw_below_drewN|apply below_drew1|refine below_set ?_ GE510.out)|exact HB.out))));have n2_:=Aside0.mk (blk_below (g:=gb510) (o:=.cells #[.int .i64 (-1),.int .i64 0,.int .i64 0,.int .i64 0,.int .i64 0,.int .i64 0] 75 (0,0)) (by (with_reducible repeat(first|refine blk_drewN ?_ _|refine blk_drew ?_|refine blk_alloc ?_ _));refine blk_put (cs:=#[.int .i64 (-1),.int .i64 0,.int .i64 0,.int .i64 0,.int .i64 0,.int .i64 0]) ?_ 5 _ rfl;(with_reducible repeat(first|refine blk_drewN ?_ _|refine blk_drew ?_|refine blk_alloc ?_ _));refine blk_put (cs:=#[.int .i64 (-1),.int .i64 0,.int .i64 0,.int .i64 0,.int .i64 0,.int .i64 0]) ?_ 4 _ rfl;(with_reducible repeat(first|refine blk_drewN ?_ _|refine blk_drew ?_|refine blk_alloc ?_ _));refine blk_put (cs:=#[.int .i64 (-1),.int .i64 0,.int .i64 0,.int .i64 0,.int .i64 0,.int .i64 0]) ?_ 3 _ rfl;(with_reducible repeat(first|refine blk_drewN ?_ _|refine blk_drew ?_|refine blk_alloc ?_ _));refine blk_put (cs:=#[.int .i64 (-1),.int .i64 0,.int .i64 0,.int .i64 0,.int .i64 0,.int .i64 0]) ?_ 2 _ rfl;(with_reducible repeat(first|refine blk_drewN ?_ _|refine blk_drew ?_|refine blk_alloc ?_ _));refine blk_put (cs:=#[.int .i64 (-1),.int .i64 0,.int .i64 0,.int .i64 0,.int .i64 0,.int .i64 0]) ?_ 1 _ rfl;(with_reducible repeat(first|refine blk_drewN ?_ _|refine blk_drew ?_|refine blk_alloc ?_ _));refine blk_put (cs:=#[.int .i64 0,.int .i64 0,.int .i64 0,.int .i64 0,.int .i64 0,.int .i64 0]) ?_ 0 _ rfl;(with_reducible repeat(first|refine blk_drewN ?_ _|refine blk_drew ?_|refine blk_alloc ?_ _));exact BK510.out) hb);have n3_:=Aside0.mk (below_step (by repeat(first|(with_reducible first|exact HB.out|apply below_alloc|apply pw_below_drewN|apply below_drew1|refine below_set ?_ GE510.out)|exact HB.out)) hb);clear HO_17;clear BK510;clear HB;have HO_17:=n0_;have HO513:=n1_;have BK510:=n2_;have HB:=n3_;clear n0_ n1_ n2_ n3_;clear hb ho20))
        (try simp only [Act.put,List.setIfInBounds_toArray,List.set_cons_zero,List.set_cons_succ])
        go_cut [24] (fun v24 wc=>∃ (kq : Nat) (x24_15 : List Int),Aside0 (hornbeamref18_Get.j1 kq a0 t508 a2 a3 a4 a5 t500 x17_1 x18_1 x19_1 t507 x24_15 (-1) 0 0 0 0 0 = some (r1,r2,r3)) ∧ Aside0 (kq ≤ k1) ∧ Aside0 (Kd.R k75 75 wc w.heap.size (fun k_=>k_ ≠ gb510) u17 x17_1) ∧ Aside0 (Kd.R (Kd.int .i64) 3 wc w.heap.size (fun _=>True) v24 x24_15) ∧ Aside0 (wc.heap[gb510]? = some (.cells #[.int .i64 (-1),.int .i64 0,.int .i64 0,.int .i64 0,.int .i64 0,.int .i64 0] 75 (0,0))) ∧ Aside0 (Below w.heap.size w wc))
        case first =>
         have H:=HC16.out
         clear HC16
         by_cases c21 : t507 = 1
         ·rw [if_pos c21] at H
          have c21b0 : (t507 == 1) = true:=beq_iff_eq.mpr c21
          have c21b1 : (t507 != 1) = false:=bne_eq_false_iff_eq.mpr c21
          clear c21
          (first|rw [c21b0]|(simp only [i64_w,i32_w];rw [c21b0])|skip)
          obtain ⟨y514,hy514⟩ : ∃ y_ : List Int,y_ = (([2,2] : List Int)):=⟨_,rfl⟩
          replace H : (hornbeamref18_Get.j1 k1 a0 t508 a2 a3 a4 a5 t500 x17_1 x18_1 x19_1 t507 y514 (-1) 0 0 0 0 0) = some (r1,r2,r3):=by first|(rw [hy514];with_reducible exact H)|(have H2_:=(Option.bind_some _ _).symm.trans H;rw [hy514];with_reducible exact H2_)|(have H2_:=(Option.bind_some _ _).symm.trans H;with_reducible exact H2_)|with_reducible exact H|(rw [hy514];exact H)|exact H
          have Ny514:=Aside0.mk hy514
          clear hy514
          have H':=Aside0.mk H
          clear H
          go_wp2_with (first|((with_reducible refine gate_dst (N:=63) rfl ?_);refine Kd.R_lit (Kd.int .i64) _ 3 ?hg (N:=63) ?hd (xs:=([2,2] : List Int)) (inner:=[.int .i64 2,.int .i64 2]) (ok:=fun _=>True) (okp:=fun _=>True) ?hr ?hp (fun _ hk=>hk) trivial (Below.refl _ _) (Nat.le_refl _) (by simp) ?_;(case hd=>rfl);(case hg=>rfl);(case hr=>first|(go_simp;done)|(go_simp;rfl));(case hp=>exact (Reps.one (show Kd.M (Kd.int .i64) _ _ _ 2 [.int .i64 2] from rfl) (Reps.one (show Kd.M (Kd.int .i64) _ _ _ 2 [.int .i64 2] from rfl) (Reps.none _ _))));intro v515 w22 ho23 hb hg_ hnew_;clear hg_ hnew_;(first|rw [← Ny514.out] at ho23|(simp only [Int.reduceToNat] at ho23;rw [← Ny514.out] at ho23));have n0_:=Aside0.mk (Kd.R_below (by (with_reducible repeat(first|apply Kd.R_alloc|apply Kd.R_drewN|apply Kd.R_drew));exact HO_17.out) hb);have n1_:=Aside0.mk (Kd.R_elder' (by (with_reducible repeat(first|apply Kd.R_alloc|apply Kd.R_drewN|apply Kd.R_drew));exact HO513.out) (Kd.R_base ho23) hb);have n2_:=Aside0.mk (Kd.R_lower (Kd.R_new' ho23 (Kd.R_lt (by (with_reducible repeat(first|apply Kd.R_alloc|apply Kd.R_drewN|apply Kd.R_drew));exact HO513.out))) (below_size (by repeat(first|(with_reducible first|exact HB.out|apply below_alloc|apply pw_below_drewN|apply below_drew1|refine below_set ?_ GE510.out)|exact HB.out))));have n3_:=Aside0.mk (blk_below (g:=gb510) (o:=.cells #[.int .i64 (-1),.int .i64 0,.int .i64 0,.int .i64 0,.int .i64 0,.int .i64 0] 75 (0,0)) (by (with_reducible repeat(first|refine blk_drewN ?_ _|refine blk_drew ?_|refine blk_alloc ?_ _));exact BK510.out) hb);have n4_:=Aside0.mk (below_step (by repeat(first|(with_reducible first|exact HB.out|apply below_alloc|apply pw_below_drewN|apply below_drew1|refine below_set ?_ GE510.out)|exact HB.out)) hb);clear HO_17;clear HO513;clear BK510;clear HB;have HO_17:=n0_;have HO513:=n1_;have HO516:=n2_;have BK510:=n3_;have HB:=n4_;clear n0_ n1_ n2_ n3_ n4_;clear hb ho23))
          go_meet
          case rel=>exact ⟨_,(y514),H',⟨by have:=HK1.out;first|omega|exact Nat.le_refl _⟩,⟨by (with_reducible repeat(first|apply Kd.R_alloc|apply Kd.R_drewN|apply Kd.R_drew));exact Kd.R_mono HO_17.out (fun _ hk=>hk.2)⟩,⟨by (with_reducible repeat(first|apply Kd.R_alloc|apply Kd.R_drewN|apply Kd.R_drew));exact Kd.R_mono HO516.out (fun _ hk=>trivial)⟩,⟨by (with_reducible repeat(first|refine blk_drewN ?_ _|refine blk_drew ?_|refine blk_alloc ?_ _));exact BK510.out⟩,⟨by repeat(first|(with_reducible first|exact HB.out|apply below_alloc|apply pw_below_drewN|apply below_drew1|refine below_set ?_ GE510.out)|exact HB.out)⟩⟩
         ·rw [if_neg c21] at H
          have c21b0 : (t507 == 1) = false:=beq_eq_false_iff_ne.mpr c21
          have c21b1 : (t507 != 1) = true:=bne_iff_ne.mpr c21
          (first|rw [c21b0]|(simp only [i64_w,i32_w];rw [c21b0])|skip)
          by_cases c24 : a4 = 0
          ·rw [if_pos c24] at H
           have c24b0 : (a4 == 0) = true:=beq_iff_eq.mpr c24
           have c24b1 : (a4 != 0) = false:=bne_eq_false_iff_eq.mpr c24
           clear c24
           obtain ⟨y517,hy517⟩ : ∃ y_ : List Int,y_ = (([1] : List Int)):=⟨_,rfl⟩
           replace H : (hornbeamref18_Get.j1 k1 a0 t508 a2 a3 a4 a5 t500 x17_1 x18_1 x19_1 t507 y517 (-1) 0 0 0 0 0) = some (r1,r2,r3):=by first|(rw [hy517];with_reducible exact H)|(have H2_:=(Option.bind_some _ _).symm.trans H;rw [hy517];with_reducible exact H2_)|(have H2_:=(Option.bind_some _ _).symm.trans H;with_reducible exact H2_)|with_reducible exact H|(rw [hy517];exact H)|exact H
           have Ny517:=Aside0.mk hy517
           clear hy517
           have H':=Aside0.mk H
           clear H
           go_wp2_with (first|((with_reducible refine gate_dst (N:=66) rfl ?_);refine Kd.R_lit (Kd.int .i64) _ 3 ?hg (N:=66) ?hd (xs:=([1] : List Int)) (inner:=[.int .i64 1]) (ok:=fun _=>True) (okp:=fun _=>True) ?hr ?hp (fun _ hk=>hk) trivial (Below.refl _ _) (Nat.le_refl _) (by simp) ?_;(case hd=>rfl);(case hg=>rfl);(case hr=>first|(go_simp;done)|(go_simp;rfl));(case hp=>exact (Reps.one (show Kd.M (Kd.int .i64) _ _ _ 1 [.int .i64 1] from rfl) (Reps.none _ _)));intro v518 w25 ho26 hb hg_ hnew_;clear hg_ hnew_;(first|rw [← Ny517.out] at ho26|(simp only [Int.reduceToNat] at ho26;rw [← Ny517.out] at ho26));have n0_:=Aside0.mk (Kd.R_below (by (with_reducible repeat(first|apply Kd.R_alloc|apply Kd.R_drewN|apply Kd.R_drew));exact HO_17.out) hb);have n1_:=Aside0.mk (Kd.R_elder' (by (with_reducible repeat(first|apply Kd.R_alloc|apply Kd.R_drewN|apply Kd.R_drew));exact HO513.out) (Kd.R_base ho26) hb);have n2_:=Aside0.mk (Kd.R_lower (Kd.R_new' ho26 (Kd.R_lt (by (with_reducible repeat(first|apply Kd.R_alloc|apply Kd.R_drewN|apply Kd.R_drew));exact HO513.out))) (below_size (by repeat(first|(with_reducible first|exact HB.out|apply below_alloc|apply pw_below_drewN|apply below_drew1|refine below_set ?_ GE510.out)|exact HB.out))));have n3_:=Aside0.mk (blk_below (g:=gb510) (o:=.cells #[.int .i64 (-1),.int .i64 0,.int .i64 0,.int .i64 0,.int .i64 0,.int .i64 0] 75 (0,0)) (by (with_reducible repeat(first|refine blk_drewN ?_ _|refine blk_drew ?_|refine blk_alloc ?_ _));exact BK510.out) hb);have n4_:=Aside0.mk (below_step (by repeat(first|(with_reducible first|exact HB.out|apply below_alloc|apply pw_below_drewN|apply below_drew1|refine below_set ?_ GE510.out)|exact HB.out)) hb);clear HO_17;clear HO513;clear BK510;clear HB;have HO_17:=n0_;have HO513:=n1_;have HO519:=n2_;have BK510:=n3_;have HB:=n4_;clear n0_ n1_ n2_ n3_ n4_;clear hb ho26))
           go_meet
           case rel=>exact ⟨_,(y517),H',⟨by have:=HK1.out;first|omega|exact Nat.le_refl _⟩,⟨by (with_reducible repeat(first|apply Kd.R_alloc|apply Kd.R_drewN|apply Kd.R_drew));exact Kd.R_mono HO_17.out (fun _ hk=>hk.2)⟩,⟨by (with_reducible repeat(first|apply Kd.R_alloc|apply Kd.R_drewN|apply Kd.R_drew));exact Kd.R_mono HO519.out (fun _ hk=>trivial)⟩,⟨by (with_reducible repeat(first|refine blk_drewN ?_ _|refine blk_drew ?_|refine blk_alloc ?_ _));exact BK510.out⟩,⟨by repeat(first|(with_reducible first|exact HB.out|apply below_alloc|apply pw_below_drewN|apply below_drew1|refine below_set ?_ GE510.out)|exact HB.out)⟩⟩
          ·rw [if_neg c24] at H
           have c24b0 : (a4 == 0) = false:=beq_eq_false_iff_ne.mpr c24
           have c24b1 : (a4 != 0) = true:=bne_iff_ne.mpr c24
           have H':=Aside0.mk H
           clear H
           go_wp2
           go_meet
           case rel=>exact ⟨_,(y511),H',⟨by have:=HK1.out;first|omega|exact Nat.le_refl _⟩,⟨by (with_reducible repeat(first|apply Kd.R_alloc|apply Kd.R_drewN|apply Kd.R_drew));exact Kd.R_mono HO_17.out (fun _ hk=>hk.2)⟩,⟨by (with_reducible repeat(first|apply Kd.R_alloc|apply Kd.R_drewN|apply Kd.R_drew));exact HO513.out⟩,⟨by (with_reducible repeat(first|refine blk_drewN ?_ _|refine blk_drew ?_|refine blk_alloc ?_ _));exact BK510.out⟩,⟨by repeat(first|(with_reducible first|exact HB.out|apply below_alloc|apply pw_below_drewN|apply below_drew1|refine below_set ?_ GE510.out)|exact HB.out)⟩⟩
        case rest =>
         clear HC16
         try clear c1
         try clear c2
         try clear p2
         try clear c5
         try clear c8
         try clear c9
         try clear c9b0
         try clear c12
         try clear c12b0
         try clear c14
         try clear c15
         try clear c15b0
         try clear c20
         try clear c21
         try clear c21b0
         try clear c21b1
         try clear c24
         try clear c24b0
         try clear c24b1
         try clear hcz18_0
         try clear hcz18_1
         try clear hcz18_2
         try clear hcz18_3
         try clear hcz18_4
         try clear hcz18_5
         try clear hfz18_0
         try clear hfz18_1
         try clear hfz18_2
         try clear hfz18_3
         try clear hfz18_4
         try clear hfz18_5
         try clear p2
         obtain ⟨kq,x24_15,HA,HJ15,HO_17,HO_24,BK510,HB⟩:=hcut
         cases kq with
         | zero=>exact absurd HA.out (by simp [hornbeamref18_Get.j1])
         | succ kj15 =>
          have H:=HA.out
          clear HA
          simp only [hornbeamref18_Get.j1] at H
          obtain ⟨y520,hy520⟩ : ∃ y_ : List Int,y_ = (([] : List Int)):=⟨_,rfl⟩
          replace H : (hornbeamref18_Get.l1 kj15 a0 t508 a2 a3 a4 a5 t500 x17_1 x18_1 x19_1 t507 x24_15 y520 0 (-1) 0 0 0 0 0) = some (r1,r2,r3):=by first|(rw [hy520];with_reducible exact H)|(have H2_:=(Option.bind_some _ _).symm.trans H;rw [hy520];with_reducible exact H2_)|(have H2_:=(Option.bind_some _ _).symm.trans H;with_reducible exact H2_)|with_reducible exact H|(rw [hy520];exact H)|exact H
          have Ny520:=Aside0.mk hy520
          clear hy520
          have H':=Aside0.mk H
          clear H
          go_wp2_with (first|((with_reducible refine gate_dst (N:=67) rfl ?_);refine Kd.R_lit (Kd.int .u64) _ 31 ?hg (N:=67) ?hd (xs:=([] : List Int)) (inner:=[]) (ok:=fun _=>True) (okp:=fun _=>True) ?hr ?hp (fun _ hk=>hk) trivial (Below.refl _ _) (Nat.le_refl _) (by simp) ?_;(case hd=>rfl);(case hg=>rfl);(case hr=>first|(go_simp;done)|(go_simp;rfl));(case hp=>exact (Reps.none _ _));intro v521 w27 ho28 hb hg_ hnew_;clear hg_ hnew_;(first|rw [← Ny520.out] at ho28|(simp only [Int.reduceToNat] at ho28;rw [← Ny520.out] at ho28));have n0_:=Aside0.mk (Kd.R_below (by (with_reducible repeat(first|apply Kd.R_alloc|apply Kd.R_drewN|apply Kd.R_drew));exact HO_17.out) hb);have n1_:=Aside0.mk (Kd.R_below (by (with_reducible repeat(first|apply Kd.R_alloc|apply Kd.R_drewN|apply Kd.R_drew));exact HO_24.out) hb);have n2_:=Aside0.mk (Kd.R_lower ho28 (below_size (by repeat(first|(with_reducible first|exact HB.out|apply below_alloc|apply pw_below_drewN|apply below_drew1|refine below_set ?_ GE510.out)|exact HB.out))));have n3_:=Aside0.mk (blk_below (g:=gb510) (o:=.cells #[.int .i64 (-1),.int .i64 0,.int .i64 0,.int .i64 0,.int .i64 0,.int .i64 0] 75 (0,0)) (by (with_reducible repeat(first|refine blk_drewN ?_ _|refine blk_drew ?_|refine blk_alloc ?_ _));exact BK510.out) hb);have n4_:=Aside0.mk (below_step (by repeat(first|(with_reducible first|exact HB.out|apply below_alloc|apply pw_below_drewN|apply below_drew1|refine below_set ?_ GE510.out)|exact HB.out)) hb);clear HO_17;clear HO_24;clear BK510;clear HB;have HO_17:=n0_;have HO_24:=n1_;have HO522:=n2_;have BK510:=n3_;have HB:=n4_;clear n0_ n1_ n2_ n3_ n4_;clear hb ho28))
          go_loopg [1,25,26] kj15 (fun kq v1 v25 v26 w'=>∃ (x1_3 : Int) (x25_3 : List Int) (x26_3 : Int),v1 = .int .i64 x1_3 ∧ v26 = .int .i64 x26_3 ∧ Aside0 (hornbeamref18_Get.l1 kq a0 x1_3 a2 a3 a4 a5 t500 x17_1 x18_1 x19_1 t507 x24_15 x25_3 x26_3 (-1) 0 0 0 0 0 = some (r1,r2,r3)) ∧ Aside0 (kq ≤ kj15) ∧ Aside0 (Kd.R k75 75 w' w.heap.size (fun k_=>k_ ≠ gb510) u17 x17_1) ∧ Aside0 (Kd.R (Kd.int .i64) 3 w' w.heap.size (fun _=>True) u24 x24_15) ∧ Aside0 (Kd.R (Kd.int .u64) 31 w' w.heap.size (fun _=>True) v25 x25_3) ∧ Aside0 (w'.heap[gb510]? = some (.cells #[.int .i64 (-1),.int .i64 0,.int .i64 0,.int .i64 0,.int .i64 0,.int .i64 0] 75 (0,0))) ∧ Aside0 (Below w.heap.size w w'))
          case atStart=>exact ⟨(t508),(y520),(0),(by first|rfl|(simp;done)|(simp [*];done)),(by first|rfl|(simp;done)|(simp [*];done)),H',⟨Nat.le_refl _⟩,⟨by (with_reducible repeat(first|apply Kd.R_alloc|apply Kd.R_drewN|apply Kd.R_drew));exact HO_17.out⟩,⟨by (with_reducible repeat(first|apply Kd.R_alloc|apply Kd.R_drewN|apply Kd.R_drew));exact HO_24.out⟩,⟨by (with_reducible repeat(first|apply Kd.R_alloc|apply Kd.R_drewN|apply Kd.R_drew));exact HO522.out⟩,⟨by (with_reducible repeat(first|refine blk_drewN ?_ _|refine blk_drew ?_|refine blk_alloc ?_ _));exact BK510.out⟩,⟨by repeat(first|(with_reducible first|exact HB.out|apply below_alloc|apply pw_below_drewN|apply below_drew1|refine below_set ?_ GE510.out)|exact HB.out)⟩⟩
          case round =>
           clear H'
           try clear c1
           try clear c2
           try clear p2
           try clear c5
           try clear c8
           try clear c9
           try clear c9b0
           try clear c12
           try clear c12b0
           try clear c14
           try clear c15
           try clear c15b0
           try clear c20
           try clear c21
           try clear c21b0
           try clear c21b1
           try clear c24
           try clear c24b0
           try clear c24b1
           try clear hcz18_0
           try clear hcz18_1
           try clear hcz18_2
           try clear hcz18_3
           try clear hcz18_4
           try clear hcz18_5
           try clear hfz18_0
           try clear hfz18_1
           try clear hfz18_2
           try clear hfz18_3
           try clear hfz18_4
           try clear hfz18_5
           try clear p2
           obtain ⟨x1_3,x25_3,x26_3,rfl,rfl,HA,HK3,HO_17,HO_24,HO_25,BK510,HB⟩:=hrel
           cases gk with
           | zero=>exact absurd HA.out (by simp [hornbeamref18_Get.l1])
           | succ k3 =>
            have H:=HA.out
            clear HA
            simp only [hornbeamref18_Get.l1] at H
            by_cases c29 : x26_3 < (x24_15.length : Int)
            ·rw [if_pos c29] at H
             have c29b0 : decide (x26_3 < (x24_15.length : Int)) = true:=decide_eq_true c29
             clear c29
             by_cases c30 : 0 ≤ x26_3
             ·rw [if_pos c30] at H
              have c30b0 : decide (0 ≤ x26_3) = true:=decide_eq_true c30
              clear c30
              replace H:=Option.bind_eq_some_iff.mp H
              obtain ⟨⟨t524,t525,t526⟩,A310,H⟩:=H
              replace H : (if t526 = true then (if x25_3.length < 17592186044416 then (hornbeamref18_Get.l1 k3 a0 t525 a2 a3 a4 a5 t500 x17_1 x18_1 x19_1 t507 x24_15 (x25_3 ++ [t524]) (wrap64 (x26_3 + 1)) (-1) 0 0 0 0 0) else (none)) else (some (([] : List (S75)),0,2))) = some (r1,r2,r3):=H
              have A31:=Aside0.mk A310
              clear A310
              by_cases c32 : t526 = true
              ·subst c32
               have H1 : (if x25_3.length < 17592186044416 then (hornbeamref18_Get.l1 k3 a0 t525 a2 a3 a4 a5 t500 x17_1 x18_1 x19_1 t507 x24_15 (x25_3 ++ [t524]) (wrap64 (x26_3 + 1)) (-1) 0 0 0 0 0) else (none)) = some (r1,r2,r3):=by rw [if_pos rfl] at H;exact H
               clear H
               have H:=H1
               clear H1
               by_cases c33 : x25_3.length < 17592186044416
               ·rw [if_pos c33] at H
                have LMc33:=Aside0.mk c33
                clear c33
                obtain ⟨y527,hy527⟩ : ∃ y_ : List Int,y_ = (x25_3 ++ [t524]):=⟨_,rfl⟩
                replace H : (hornbeamref18_Get.l1 k3 a0 t525 a2 a3 a4 a5 t500 x17_1 x18_1 x19_1 t507 x24_15 y527 (wrap64 (x26_3 + 1)) (-1) 0 0 0 0 0) = some (r1,r2,r3):=by first|(rw [hy527];with_reducible exact H)|(have H2_:=(Option.bind_some _ _).symm.trans H;rw [hy527];with_reducible exact H2_)|(have H2_:=(Option.bind_some _ _).symm.trans H;with_reducible exact H2_)|with_reducible exact H|(rw [hy527];exact H)|exact H
                have Ny527:=Aside0.mk hy527
                clear hy527
                have H':=Aside0.mk H
                clear H
                obtain ⟨Ao34,co34,eo34⟩:=Kd.R_slice HO_24.out
                subst eo34
                have p523 : 0 ≤ (x26_3 : Int):=of_decide_eq_true (by first|(with_reducible assumption)|assumption)
                have q523 : x26_3 < (x24_15.length : Int):=of_decide_eq_true (by first|(with_reducible assumption)|assumption)
                obtain ⟨ad523,e523,hx523_0⟩:=Kd.at_int (Kd.R_reads' HO_24.out).2.2 x26_3 p523 q523
                cases e523
                replace p523:=eq_true p523
                replace q523:=eq_true q523
                go_wp2_with (first|((with_reducible refine gate_callee (f:=20) rfl ?_);refine goesL_ (some 81) rfl rfl Try.func20 (by kernel_rfl) rfl #[.string a0,.int .i64 x1_3,.int .i64 (rd x24_15 x26_3)] rfl (by (try simp only [List.map_toArray,List.map_cons,List.map_nil]);first|done|rfl|(simp only [List.length_drop,List.length_take];rfl)) ?_;(with_reducible refine (hornbeamref07_Get.calls k3 a0 x1_3 (rd x24_15 x26_3) t524 t525 true _ A31.out).mono ?_);rintro e w' ⟨rfl,⟨nd,rfl⟩⟩;refine ⟨_,rfl,?_⟩)|((with_reducible refine gate_builtin (b:=.append) (xs:=#[.tmp 87,.tmp 89]) rfl ?_);at_builtin;refine Kd.R_append (Kd.int .u64) (w0:=w) w.heap.size rfl (.tmp 87) (.tmp 89) 25 31 (.int .u64 0) 8 rfl Try.underlying25 info31 rfl (by decide) (by omega) u25 x25_3 t524 [.int .u64 t524] (fun _=>True) (fun _=>False) rfl rfl ?aP (fun _ hk=>hk.elim) ?aF ?aO ?aB ?aS ?aL ?_;(case aP=>exact rfl);(case aB=>exact (by repeat(first|(with_reducible first|exact HB.out|apply below_alloc|apply pw_below_drewN|apply below_drew1|refine below_set ?_ GE510.out)|exact HB.out)));(case aF=>exact (fun _ _=>trivial));(case aO=>exact (by (with_reducible repeat(first|apply Kd.R_alloc|apply Kd.R_drewN|apply Kd.R_drew));exact HO_25.out));(case aS=>exact (below_size (by repeat(first|(with_reducible first|exact HB.out|apply below_alloc|apply pw_below_drewN|apply below_drew1|refine below_set ?_ GE510.out)|exact HB.out))));(case aL=>have:=LMc33.out;omega);intro v528 w35 ho hb hg hat;rw [← Ny527.out] at ho;have n0_:=Aside0.mk (Kd.R_over' (by (with_reducible repeat(first|apply Kd.R_alloc|apply Kd.R_drewN|apply Kd.R_drew));exact HO_17.out) (Kd.R_typed (by (with_reducible repeat(first|apply Kd.R_alloc|apply Kd.R_drewN|apply Kd.R_drew));exact HO_25.out)) (by decide) hg);have n1_:=Aside0.mk (Kd.R_over' (by (with_reducible repeat(first|apply Kd.R_alloc|apply Kd.R_drewN|apply Kd.R_drew));exact HO_24.out) (Kd.R_typed (by (with_reducible repeat(first|apply Kd.R_alloc|apply Kd.R_drewN|apply Kd.R_drew));exact HO_25.out)) (by decide) hg);have n2_:=Aside0.mk (blk_grown (g:=gb510) (o:=.cells #[.int .i64 (-1),.int .i64 0,.int .i64 0,.int .i64 0,.int .i64 0,.int .i64 0] 75 (0,0)) (by (with_reducible repeat(first|refine blk_drewN ?_ _|refine blk_drew ?_|refine blk_alloc ?_ _));exact BK510.out) hg (Kd.R_ne HO_25.out BK510.out (by decide)));have n3_:=Aside0.mk (hb);have n4_:=Aside0.mk (ho);clear HO_17;clear HO_24;clear BK510;clear HB;clear HO_25;have HO_17:=n0_;have HO_24:=n1_;have BK510:=n2_;have HB:=n3_;have HO529:=n4_;clear n0_ n1_ n2_ n3_ n4_;clear ho hb hg hat))
                go_roundg k3
                case measure=>have:=HK1.out;have:=HJ15.out;have:=HK3.out;omega
                case rel=>exact ⟨(t525),(y527),(wrap64 (x26_3 + 1)),(by first|rfl|(simp;done)|(simp [*];done)),(by first|rfl|(simp;done)|(simp [*];done)),H',⟨by have:=HK1.out;have:=HJ15.out;have:=HK3.out;omega⟩,⟨by (with_reducible repeat(first|apply Kd.R_alloc|apply Kd.R_drewN|apply Kd.R_drew));exact HO_17.out⟩,⟨by (with_reducible repeat(first|apply Kd.R_alloc|apply Kd.R_drewN|apply Kd.R_drew));exact HO_24.out⟩,⟨by (with_reducible repeat(first|apply Kd.R_alloc|apply Kd.R_drewN|apply Kd.R_drew));exact HO529.out⟩,⟨by (with_reducible repeat(first|refine blk_drewN ?_ _|refine blk_drew ?_|refine blk_alloc ?_ _));exact BK510.out⟩,⟨by repeat(first|(with_reducible first|exact HB.out|apply below_alloc|apply pw_below_drewN|apply below_drew1|refine below_set ?_ GE510.out)|exact HB.out)⟩⟩
               ·rw [if_neg c33] at H
                exact absurd H (by simp)
              ·replace c32:=Bool.eq_false_iff.mpr c32
               subst c32
               have H1 : (some (([] : List (S75)),0,2)) = some (r1,r2,r3):=by rw [if_neg (show ¬ (false = true) by decide)] at H;exact H
               clear H
               have H:=H1
               clear H1
               simp only [Option.some.injEq,Prod.mk.injEq] at H
               obtain ⟨rfl,rfl,rfl⟩:=H
               obtain ⟨Ao36,co36,eo36⟩:=Kd.R_slice HO_24.out
               subst eo36
               have p523 : 0 ≤ (x26_3 : Int):=of_decide_eq_true (by first|(with_reducible assumption)|assumption)
               have q523 : x26_3 < (x24_15.length : Int):=of_decide_eq_true (by first|(with_reducible assumption)|assumption)
               obtain ⟨ad523,e523,hx523_0⟩:=Kd.at_int (Kd.R_reads' HO_24.out).2.2 x26_3 p523 q523
               cases e523
               replace p523:=eq_true p523
               replace q523:=eq_true q523
               go_wp2_with (first|((with_reducible refine gate_callee (f:=20) rfl ?_);refine goesL_ (some 81) rfl rfl Try.func20 (by kernel_rfl) rfl #[.string a0,.int .i64 x1_3,.int .i64 (rd x24_15 x26_3)] rfl (by (try simp only [List.map_toArray,List.map_cons,List.map_nil]);first|done|rfl|(simp only [List.length_drop,List.length_take];rfl)) ?_;(with_reducible refine (hornbeamref07_Get.calls k3 a0 x1_3 (rd x24_15 x26_3) t524 t525 false _ A31.out).mono ?_);rintro e w' ⟨rfl,⟨nd,rfl⟩⟩;refine ⟨_,rfl,?_⟩))
               go_ret3
               exact ⟨_,by first|rfl|(simp [errW_none,errW_some] <;> rfl)|(simp [*,errW_none,errW_some] <;> rfl),by first|exact Kd.R_nil _ _ _ _ _|exact Kd.N_nil _ _ _ _ _|exact Kd.V_nil _ _ _ _ _|exact Kd.Q_nil _ _ _ _ _|exact Kd.S_nil _ _ _ _ _,by repeat(first|(with_reducible first|exact HB.out|apply below_alloc|apply pw_below_drewN|apply below_drew1|refine below_set ?_ GE510.out)|exact HB.out)⟩
             ·rw [if_neg c30] at H
              exact absurd H (by simp)
            ·rw [if_neg c29] at H
             have c29b0 : decide (x26_3 < (x24_15.length : Int)) = false:=decide_eq_false c29
             clear c29
             by_cases c37 : t507 = 1
             ·rw [if_pos c37] at H
              have c37b0 : (t507 == 1) = true:=beq_iff_eq.mpr c37
              have c37b1 : (t507 != 1) = false:=bne_eq_false_iff_eq.mpr c37
              clear c37
              by_cases c38 : 0 < (x25_3.length : Int)
              ·rw [if_pos c38] at H
               have c38b0 : decide (0 < (x25_3.length : Int)) = true:=decide_eq_true c38
               have c38b1 : decide (0 < x25_3.length) = true:=decide_eq_true (by omega)
               clear c38
               by_cases c39 : 1 < (x25_3.length : Int)
               ·rw [if_pos c39] at H
                have c39b0 : decide (1 < (x25_3.length : Int)) = true:=decide_eq_true c39
                have c39b1 : decide (1 < x25_3.length) = true:=decide_eq_true (by omega)
                clear c39
                by_cases c40 : x17_1.length < 2932031007402
                ·rw [if_pos c40] at H
                 have LMc40:=Aside0.mk c40
                 clear c40
                 obtain ⟨y532,hy532⟩ : ∃ y_ : List (S75),y_ = (x17_1 ++ [(⟨wrap64 (rd x25_3 0),wrap64 (rd x25_3 1),x18_1,0,0,0⟩ : S75)]):=⟨_,rfl⟩
                 replace H : (hornbeamref18_Get.l0 k3 a0 x1_3 a2 a3 a4 a5 t500 y532 (wrap64 (x18_1 + 2)) (IntKind.u64.wrap (x19_1 + 1))) = some (r1,r2,r3):=by first|(rw [hy532];with_reducible exact H)|(have H2_:=(Option.bind_some _ _).symm.trans H;rw [hy532];with_reducible exact H2_)|(have H2_:=(Option.bind_some _ _).symm.trans H;with_reducible exact H2_)|with_reducible exact H|(rw [hy532];exact H)|exact H
                 have Ny532:=Aside0.mk hy532
                 clear hy532
                 have H':=Aside0.mk H
                 clear H
                 obtain ⟨Ao41,co41,eo41⟩:=Kd.R_slice HO_24.out
                 subst eo41
                 try go_wp2
                 have n0_:=Aside0.mk (Kd.R_drew HO_17.out)
                 have n1_:=Aside0.mk (Kd.R_drew HO_24.out)
                 have n2_:=Aside0.mk (Kd.R_drew HO_25.out)
                 have n3_:=Aside0.mk (blk_drew BK510.out)
                 have n4_:=Aside0.mk (below_drew1 HB.out)
                 clear HO_17
                 clear HO_24
                 clear HO_25
                 clear BK510
                 clear HB
                 have HO_17:=n0_
                 have HO_24:=n1_
                 have HO_25:=n2_
                 have BK510:=n3_
                 have HB:=n4_
                 clear n0_ n1_ n2_ n3_ n4_
                 obtain ⟨Ao43,co43,eo43⟩:=Kd.R_slice HO_25.out
                 (first|subst eo43|(injection eo43 with f1_ f2_ f3_;have f4_:=f1_.symm;have f5_:=f3_.symm;clear f1_ f2_ f3_;subst f4_;subst f5_))
                 have p530 : 0 ≤ (0 : Int):=(by omega)
                 have q530 : 0 < (x25_3.length : Int):=of_decide_eq_true (by first|(with_reducible assumption)|assumption)
                 obtain ⟨ad530,e530,hx530_0⟩:=Kd.at_int (Kd.R_reads' HO_25.out).2.2 0 p530 q530
                 cases e530
                 have qi530 : (0 < x25_3.length) = True:=eq_true (by omega)
                 (try rw [show ((0 : Int)).toNat = 0 from rfl] at hx530_0)
                 (try rw [Addr.add_zero'] at hx530_0)
                 replace p530:=eq_true p530
                 replace q530:=eq_true q530
                 have p531 : 0 ≤ (1 : Int):=(by omega)
                 have q531 : 1 < (x25_3.length : Int):=of_decide_eq_true (by first|(with_reducible assumption)|assumption)
                 obtain ⟨ad531,e531,hx531_0⟩:=Kd.at_int (Kd.R_reads' HO_25.out).2.2 1 p531 q531
                 obtain rfl : ad530 = ad531:=(by injection e531)
                 (try simp only [show (1 : Int).toNat = 1 from rfl,Nat.reduceMul,Nat.reduceEqDiff,Go.Addr.add,↓reduceIte] at hx531_0)
                 have qi531 : (1 < x25_3.length) = True:=eq_true (by omega)
                 (try rw [show ((1 : Int)).toNat = 1 from rfl] at hx531_0)
                 replace p531:=eq_true p531
                 replace q531:=eq_true q531
                 refine start_ (n:=11) (S:=fun w'=>w'.cell? ad530 = some (.int .u64 (rd x25_3 0)) ∧ w'.cell? ⟨ad530.block,ad530.off + 1,none⟩ = some (.int .u64 (rd x25_3 1))) (ds:=[]) #[false,false,false,false,false,false,false,false,false,false,false] (by kernel_rfl) rfl rfl ⟨hx530_0,hx531_0⟩ (fun hHeld=>?_);refine with_tabW hornbeamref18_Get.tab33 hornbeamref18_Get.bits33 (fun HT_ HW_=>?_)
                 generalize wr.drew = w42 at HO_17 HO_24 HO_25 BK510 HB hx530_0 hx531_0 hHeld ⊢
                 refine pure_ (i:=0) (N:=some 94) (v:=?_) (a':=?_) #[true,false,false,false,false,false,false,false,false,false,false] rfl rfl (any_of HT_.out (by kernel_rfl)) (fun _ _ _ h=>h) (Or.inl ⟨by rfl,?_⟩) ?_ ?_
                 rotate_left
                 ·intro w'
                  go_simp
                  with_reducible rfl
                 rotate_left
                 ·simp only [Act.put,List.setIfInBounds_toArray,List.set_cons_zero,List.set_cons_succ,i64_w,i32_w]
                  rfl
                 refine pure_ (i:=1) (N:=some 95) (v:=?_) (a':=?_) #[true,true,false,false,false,false,false,false,false,false,false] rfl rfl (any_of HT_.out (by kernel_rfl)) (fun _ _ _ h=>h) (Or.inl ⟨by rfl,?_⟩) ?_ ?_
                 rotate_left
                 ·intro w'
                  go_simp
                  with_reducible rfl
                 rotate_left
                 ·simp only [Act.put,List.setIfInBounds_toArray,List.set_cons_zero,List.set_cons_succ,i64_w,i32_w]
                  rfl
                 refine pure_ (i:=4) (N:=some 98) (v:=?_) (a':=?_) #[true,true,false,false,true,false,false,false,false,false,false] rfl rfl (any_of HT_.out (by kernel_rfl)) (fun _ _ _ h=>h) (Or.inl ⟨by rfl,?_⟩) ?_ ?_
                 rotate_left
                 ·intro w'
                  go_simp
                  with_reducible rfl
                 rotate_left
                 ·simp only [Act.put,List.setIfInBounds_toArray,List.set_cons_zero,List.set_cons_succ,i64_w,i32_w]
                  rfl
                 refine pure_ (i:=5) (N:=some 99) (v:=?_) (a':=?_) #[true,true,false,false,true,true,false,false,false,false,false] rfl rfl (any_of HT_.out (by kernel_rfl)) (fun _ _ _ h=>h) (Or.inl ⟨by rfl,?_⟩) ?_ ?_
                 rotate_left
                 ·intro w'
                  go_simp
                  with_reducible rfl
                 rotate_left
                 ·simp only [Act.put,List.setIfInBounds_toArray,List.set_cons_zero,List.set_cons_succ,i64_w,i32_w]
                  rfl
                 refine pure_ (i:=8) (N:=some 102) (v:=?_) (a':=?_) #[true,true,false,false,true,true,false,false,true,false,false] rfl rfl (any_of HT_.out (by kernel_rfl)) (fun _ _ _ h=>h) (Or.inl ⟨by rfl,?_⟩) ?_ ?_
                 rotate_left
                 ·intro w'
                  go_simp
                  with_reducible rfl
                 rotate_left
                 ·simp only [Act.put,List.setIfInBounds_toArray,List.set_cons_zero,List.set_cons_succ,i64_w,i32_w]
                  rfl
                 refine take_ (i:=2) (N:=some 96) (v:=?_) (a':=?_) #[true,true,true,false,true,true,false,false,true,false,false] rfl rfl (take_ofW HT_.out HW_.out (by kernel_rfl)) (fun _ _ _ h=>h) (Or.inl ⟨by rfl,?_⟩) hHeld ?_ ?_
                 rotate_left
                 ·rintro w' ⟨s0,s1⟩
                  go_simp
                  with_reducible rfl
                 rotate_left
                 ·simp only [Act.put,List.setIfInBounds_toArray,List.set_cons_zero,List.set_cons_succ,i64_w,i32_w]
                  rfl
                 refine pure_ (i:=3) (N:=some 97) (v:=?_) (a':=?_) #[true,true,true,true,true,true,false,false,true,false,false] rfl rfl (any_of HT_.out (by kernel_rfl)) (fun _ _ _ h=>h) (Or.inl ⟨by rfl,?_⟩) ?_ ?_
                 rotate_left
                 ·intro w'
                  go_simp
                  with_reducible rfl
                 rotate_left
                 ·simp only [Act.put,List.setIfInBounds_toArray,List.set_cons_zero,List.set_cons_succ,i64_w,i32_w]
                  rfl
                 refine take_ (i:=6) (N:=some 100) (v:=?_) (a':=?_) #[true,true,true,true,true,true,true,false,true,false,false] rfl rfl (take_ofW HT_.out HW_.out (by kernel_rfl)) (fun _ _ _ h=>h) (Or.inl ⟨by rfl,?_⟩) hHeld ?_ ?_
                 rotate_left
                 ·rintro w' ⟨s0,s1⟩
                  go_simp
                  with_reducible rfl
                 rotate_left
                 ·simp only [Act.put,List.setIfInBounds_toArray,List.set_cons_zero,List.set_cons_succ,i64_w,i32_w]
                  rfl
                 refine pure_ (i:=7) (N:=some 101) (v:=?_) (a':=?_) #[true,true,true,true,true,true,true,true,true,false,false] rfl rfl (any_of HT_.out (by kernel_rfl)) (fun _ _ _ h=>h) (Or.inl ⟨by rfl,?_⟩) ?_ ?_
                 rotate_left
                 ·intro w'
                  go_simp
                  with_reducible rfl
                 rotate_left
                 ·simp only [Act.put,List.setIfInBounds_toArray,List.set_cons_zero,List.set_cons_succ,i64_w,i32_w]
                  rfl
                 refine pure_ (i:=9) (N:=some 103) (v:=?_) (a':=?_) #[true,true,true,true,true,true,true,true,true,true,false] rfl rfl (any_of HT_.out (by kernel_rfl)) (fun _ _ _ h=>h) (Or.inl ⟨by rfl,?_⟩) ?_ ?_
                 rotate_left
                 ·intro w'
                  go_simp
                  with_reducible rfl
                 rotate_left
                 ·simp only [Act.put,List.setIfInBounds_toArray,List.set_cons_zero,List.set_cons_succ,i64_w,i32_w]
                  rfl
                 refine one_ (i:=10) (N:=none) #[true,true,true,true,true,true,true,true,true,true,true] rfl rfl (one_of HT_.out (by kernel_rfl)) (by decide) (fun K hK=>?_)
                 have hs44 : w42.cell? ⟨gb510,0,none⟩ = some (.int .i64 (-1)):=(blk_cell BK510.out 0).trans rfl
                 have hfs44:=blk_frozen BK510.out 0
                 have hs45 : w42.cell? ⟨gb510,1,none⟩ = some (.int .i64 0):=(blk_cell BK510.out 1).trans rfl
                 have hfs45:=blk_frozen BK510.out 1
                 have hs46 : w42.cell? ⟨gb510,2,none⟩ = some (.int .i64 0):=(blk_cell BK510.out 2).trans rfl
                 have hfs46:=blk_frozen BK510.out 2
                 have hs47 : w42.cell? ⟨gb510,3,none⟩ = some (.int .i64 0):=(blk_cell BK510.out 3).trans rfl
                 have hfs47:=blk_frozen BK510.out 3
                 have hs48 : w42.cell? ⟨gb510,4,none⟩ = some (.int .i64 0):=(blk_cell BK510.out 4).trans rfl
                 have hfs48:=blk_frozen BK510.out 4
                 have hs49 : w42.cell? ⟨gb510,5,none⟩ = some (.int .i64 0):=(blk_cell BK510.out 5).trans rfl
                 have hfs49:=blk_frozen BK510.out 5
                 refine skip_ (w1:=?_) (by rfl) rfl ?_ ?_
                 rotate_left
                 ·go_simp
                  rfl
                 refine hK.out _ _ ⟨((cell_far (p:=⟨gb510,_,none⟩) (by first|exact Kd.own_blk (Kd.R_ne HO_25.out BK510.out (by decide))|(rw [add_block];exact Kd.own_blk (Kd.R_ne HO_25.out BK510.out (by decide)))|(show (Addr.add _ _).block ≠ _;rw [add_block];exact Kd.own_blk (Kd.R_ne HO_25.out BK510.out (by decide)))|(dsimp only;exact Kd.own_blk (Kd.R_ne HO_25.out BK510.out (by decide)))) _).trans (((cell_far (p:=⟨gb510,_,none⟩) (by first|exact Kd.own_blk (Kd.R_ne HO_25.out BK510.out (by decide))|(rw [add_block];exact Kd.own_blk (Kd.R_ne HO_25.out BK510.out (by decide)))|(show (Addr.add _ _).block ≠ _;rw [add_block];exact Kd.own_blk (Kd.R_ne HO_25.out BK510.out (by decide)))|(dsimp only;exact Kd.own_blk (Kd.R_ne HO_25.out BK510.out (by decide)))) _).trans (((cell_far (p:=⟨gb510,_,none⟩) (by first|exact Kd.own_blk (Kd.R_ne HO_25.out BK510.out (by decide))|(rw [add_block];exact Kd.own_blk (Kd.R_ne HO_25.out BK510.out (by decide)))|(show (Addr.add _ _).block ≠ _;rw [add_block];exact Kd.own_blk (Kd.R_ne HO_25.out BK510.out (by decide)))|(dsimp only;exact Kd.own_blk (Kd.R_ne HO_25.out BK510.out (by decide)))) _).trans (((cell_far (p:=⟨gb510,_,none⟩) (by first|exact Kd.own_blk (Kd.R_ne HO_25.out BK510.out (by decide))|(rw [add_block];exact Kd.own_blk (Kd.R_ne HO_25.out BK510.out (by decide)))|(show (Addr.add _ _).block ≠ _;rw [add_block];exact Kd.own_blk (Kd.R_ne HO_25.out BK510.out (by decide)))|(dsimp only;exact Kd.own_blk (Kd.R_ne HO_25.out BK510.out (by decide)))) _).trans (((cell_far (p:=⟨gb510,_,none⟩) (by first|exact Kd.own_blk (Kd.R_ne HO_25.out BK510.out (by decide))|(rw [add_block];exact Kd.own_blk (Kd.R_ne HO_25.out BK510.out (by decide)))|(show (Addr.add _ _).block ≠ _;rw [add_block];exact Kd.own_blk (Kd.R_ne HO_25.out BK510.out (by decide)))|(dsimp only;exact Kd.own_blk (Kd.R_ne HO_25.out BK510.out (by decide)))) _).trans (((cell_far (p:=⟨gb510,_,none⟩) (by first|exact Kd.own_blk (Kd.R_ne HO_25.out BK510.out (by decide))|(rw [add_block];exact Kd.own_blk (Kd.R_ne HO_25.out BK510.out (by decide)))|(show (Addr.add _ _).block ≠ _;rw [add_block];exact Kd.own_blk (Kd.R_ne HO_25.out BK510.out (by decide)))|(dsimp only;exact Kd.own_blk (Kd.R_ne HO_25.out BK510.out (by decide)))) _).trans (hHeld.1)))))))))))),((cell_far (p:=⟨gb510,_,none⟩) (by first|exact Kd.own_blk (Kd.R_ne HO_25.out BK510.out (by decide))|(rw [add_block];exact Kd.own_blk (Kd.R_ne HO_25.out BK510.out (by decide)))|(show (Addr.add _ _).block ≠ _;rw [add_block];exact Kd.own_blk (Kd.R_ne HO_25.out BK510.out (by decide)))|(dsimp only;exact Kd.own_blk (Kd.R_ne HO_25.out BK510.out (by decide)))) _).trans (((cell_far (p:=⟨gb510,_,none⟩) (by first|exact Kd.own_blk (Kd.R_ne HO_25.out BK510.out (by decide))|(rw [add_block];exact Kd.own_blk (Kd.R_ne HO_25.out BK510.out (by decide)))|(show (Addr.add _ _).block ≠ _;rw [add_block];exact Kd.own_blk (Kd.R_ne HO_25.out BK510.out (by decide)))|(dsimp only;exact Kd.own_blk (Kd.R_ne HO_25.out BK510.out (by decide)))) _).trans (((cell_far (p:=⟨gb510,_,none⟩) (by first|exact Kd.own_blk (Kd.R_ne HO_25.out BK510.out (by decide))|(rw [add_block];exact Kd.own_blk (Kd.R_ne HO_25.out BK510.out (by decide)))|(show (Addr.add _ _).block ≠ _;rw [add_block];exact Kd.own_blk (Kd.R_ne HO_25.out BK510.out (by decide)))|(dsimp only;exact Kd.own_blk (Kd.R_ne HO_25.out BK510.out (by decide)))) _).trans (((cell_far (p:=⟨gb510,_,none⟩) (by first|exact Kd.own_blk (Kd.R_ne HO_25.out BK510.out (by decide))|(rw [add_block];exact Kd.own_blk (Kd.R_ne HO_25.out BK510.out (by decide)))|(show (Addr.add _ _).block ≠ _;rw [add_block];exact Kd.own_blk (Kd.R_ne HO_25.out BK510.out (by decide)))|(dsimp only;exact Kd.own_blk (Kd.R_ne HO_25.out BK510.out (by decide)))) _).trans (((cell_far (p:=⟨gb510,_,none⟩) (by first|exact Kd.own_blk (Kd.R_ne HO_25.out BK510.out (by decide))|(rw [add_block];exact Kd.own_blk (Kd.R_ne HO_25.out BK510.out (by decide)))|(show (Addr.add _ _).block ≠ _;rw [add_block];exact Kd.own_blk (Kd.R_ne HO_25.out BK510.out (by decide)))|(dsimp only;exact Kd.own_blk (Kd.R_ne HO_25.out BK510.out (by decide)))) _).trans (((cell_far (p:=⟨gb510,_,none⟩) (by first|exact Kd.own_blk (Kd.R_ne HO_25.out BK510.out (by decide))|(rw [add_block];exact Kd.own_blk (Kd.R_ne HO_25.out BK510.out (by decide)))|(show (Addr.add _ _).block ≠ _;rw [add_block];exact Kd.own_blk (Kd.R_ne HO_25.out BK510.out (by decide)))|(dsimp only;exact Kd.own_blk (Kd.R_ne HO_25.out BK510.out (by decide)))) _).trans (hHeld.2))))))))))))⟩ (fun hHeld=>?_)
                 clear hK K
                 refine done_ (done_of HT_.out (by kernel_rfl)) ?_
                 have hcz50_0 : w42.cell? ⟨gb510,0,none⟩ = some (.int .i64 (-1)):=(blk_cell BK510.out 0).trans rfl
                 have hcz50_1 : w42.cell? ⟨gb510,1,none⟩ = some (.int .i64 0):=(blk_cell BK510.out 1).trans rfl
                 have hcz50_2 : w42.cell? ⟨gb510,2,none⟩ = some (.int .i64 0):=(blk_cell BK510.out 2).trans rfl
                 have hcz50_3 : w42.cell? ⟨gb510,3,none⟩ = some (.int .i64 0):=(blk_cell BK510.out 3).trans rfl
                 have hcz50_4 : w42.cell? ⟨gb510,4,none⟩ = some (.int .i64 0):=(blk_cell BK510.out 4).trans rfl
                 have hcz50_5 : w42.cell? ⟨gb510,5,none⟩ = some (.int .i64 0):=(blk_cell BK510.out 5).trans rfl
                 have hfz50_0:=blk_frozen BK510.out 0
                 have hfz50_1:=blk_frozen BK510.out 1
                 have hfz50_2:=blk_frozen BK510.out 2
                 have hfz50_3:=blk_frozen BK510.out 3
                 have hfz50_4:=blk_frozen BK510.out 4
                 have hfz50_5:=blk_frozen BK510.out 5
                 try go_wp2_with (first|((with_reducible refine gate_builtin (b:=.append) (xs:=#[.tmp 123,.tmp 125]) rfl ?_);at_builtin;refine Kd.R_append k75 (w0:=w) w.heap.size rfl (.tmp 123) (.tmp 125) 70 75 (.agg #[(.int .i64 0),(.int .i64 0),(.int .i64 0),(.int .i64 0),(.int .i64 0),(.int .i64 0)]) 48 rfl Try.underlying70 info75 rfl (by decide) (by omega) u17 x17_1 (⟨wrap64 (rd x25_3 0),wrap64 (rd x25_3 1),x18_1,0,0,0⟩ : S75) [.int .i64 (wrap64 (rd x25_3 0)),.int .i64 (wrap64 (rd x25_3 1)),.int .i64 x18_1,.int .i64 0,.int .i64 0,.int .i64 0] (fun k_=>k_ ≠ gb510) (fun _=>False) rfl (by first|(go_simp;done)|(go_simp;rfl)) ?aP (fun _ hk=>hk.elim) ?aF ?aO ?aB ?aS ?aL ?_;(case aP=>exact k75_mkM _ _ _ (⟨wrap64 (rd x25_3 0),wrap64 (rd x25_3 1),x18_1,0,0,0⟩ : S75));(case aB=>exact (by repeat(first|(with_reducible first|exact HB.out|apply below_alloc|apply pw_below_drewN|apply below_drew1|refine below_set ?_ GE510.out)|exact HB.out)));(case aF=>exact (fun k_ hk=>Kd.freshB (g:=gb510) (o:=.cells #[.int .i64 (wrap64 (rd x25_3 0)),.int .i64 (wrap64 (rd x25_3 1)),.int .i64 x18_1,.int .i64 0,.int .i64 0,.int .i64 0] 75 (0,0)) (by (with_reducible repeat(first|refine blk_drewN ?_ _|refine blk_drew ?_|refine blk_alloc ?_ _));refine blk_put (cs:=#[.int .i64 (wrap64 (rd x25_3 0)),.int .i64 (wrap64 (rd x25_3 1)),.int .i64 x18_1,.int .i64 0,.int .i64 0,.int .i64 0]) ?_ 5 _ rfl;(with_reducible repeat(first|refine blk_drewN ?_ _|refine blk_drew ?_|refine blk_alloc ?_ _));refine blk_put (cs:=#[.int .i64 (wrap64 (rd x25_3 0)),.int .i64 (wrap64 (rd x25_3 1)),.int .i64 x18_1,.int .i64 0,.int .i64 0,.int .i64 0]) ?_ 4 _ rfl;(with_reducible repeat(first|refine blk_drewN ?_ _|refine blk_drew ?_|refine blk_alloc ?_ _));refine blk_put (cs:=#[.int .i64 (wrap64 (rd x25_3 0)),.int .i64 (wrap64 (rd x25_3 1)),.int .i64 x18_1,.int .i64 0,.int .i64 0,.int .i64 0]) ?_ 3 _ rfl;(with_reducible repeat(first|refine blk_drewN ?_ _|refine blk_drew ?_|refine blk_alloc ?_ _));refine blk_put (cs:=#[.int .i64 (wrap64 (rd x25_3 0)),.int .i64 (wrap64 (rd x25_3 1)),.int .i64 0,.int .i64 0,.int .i64 0,.int .i64 0]) ?_ 2 _ rfl;(with_reducible repeat(first|refine blk_drewN ?_ _|refine blk_drew ?_|refine blk_alloc ?_ _));refine blk_put (cs:=#[.int .i64 (wrap64 (rd x25_3 0)),.int .i64 0,.int .i64 0,.int .i64 0,.int .i64 0,.int .i64 0]) ?_ 1 _ rfl;(with_reducible repeat(first|refine blk_drewN ?_ _|refine blk_drew ?_|refine blk_alloc ?_ _));refine blk_put (cs:=#[.int .i64 (-1),.int .i64 0,.int .i64 0,.int .i64 0,.int .i64 0,.int .i64 0]) ?_ 0 _ rfl;(with_reducible repeat(first|refine blk_drewN ?_ _|refine blk_drew ?_|refine blk_alloc ?_ _));exact BK510.out) k_ hk));(case aO=>exact (by (with_reducible repeat(first|apply Kd.R_alloc|apply Kd.R_drewN|apply Kd.R_drew));exact Kd.R_mono (Kd.R_far (p:=⟨gb510,5,none⟩) (Kd.R_far (p:=⟨gb510,4,none⟩) (Kd.R_far (p:=⟨gb510,3,none⟩) (Kd.R_far (p:=⟨gb510,2,none⟩) (Kd.R_far (p:=⟨gb510,1,none⟩) (Kd.R_far (p:=⟨gb510,0,none⟩) (Kd.R_mono HO_17.out (fun k_ hk=>(⟨hk,hk⟩ : _ ∧ k_ ≠ gb510))) (fun _ hk=>hk.2) (.int .i64 (wrap64 (rd x25_3 0)))) (fun _ hk=>hk.2) (.int .i64 (wrap64 (rd x25_3 1)))) (fun _ hk=>hk.2) (.int .i64 x18_1)) (fun _ hk=>hk.2) (.int .i64 0)) (fun _ hk=>hk.2) (.int .i64 0)) (fun _ hk=>hk.2) (.int .i64 0)) (fun _ hk=>hk.1)));(case aS=>exact (below_size (by repeat(first|(with_reducible first|exact HB.out|apply below_alloc|apply pw_below_drewN|apply below_drew1|refine below_set ?_ GE510.out)|exact HB.out))));(case aL=>have:=LMc40.out;omega);intro v533 w51 ho hb hg hat;rw [← Ny532.out] at ho;have n0_:=Aside0.mk (Kd.R_over' (by (with_reducible repeat(first|apply Kd.R_alloc|apply Kd.R_drewN|apply Kd.R_drew));exact (Kd.R_mono (Kd.R_far (p:=⟨gb510,5,none⟩) (Kd.R_far (p:=⟨gb510,4,none⟩) (Kd.R_far (p:=⟨gb510,3,none⟩) (Kd.R_far (p:=⟨gb510,2,none⟩) (Kd.R_far (p:=⟨gb510,1,none⟩) (Kd.R_far (p:=⟨gb510,0,none⟩) (Kd.R_types HO_24.out BK510.out (by decide)) (fun _ hk=>hk.2) (.int .i64 (wrap64 (rd x25_3 0)))) (fun _ hk=>hk.2) (.int .i64 (wrap64 (rd x25_3 1)))) (fun _ hk=>hk.2) (.int .i64 x18_1)) (fun _ hk=>hk.2) (.int .i64 0)) (fun _ hk=>hk.2) (.int .i64 0)) (fun _ hk=>hk.2) (.int .i64 0)) (fun _ h_=>h_.1))) (Kd.R_typed (by (with_reducible repeat(first|apply Kd.R_alloc|apply Kd.R_drewN|apply Kd.R_drew));exact (Kd.R_mono (Kd.R_far (p:=⟨gb510,5,none⟩) (Kd.R_far (p:=⟨gb510,4,none⟩) (Kd.R_far (p:=⟨gb510,3,none⟩) (Kd.R_far (p:=⟨gb510,2,none⟩) (Kd.R_far (p:=⟨gb510,1,none⟩) (Kd.R_far (p:=⟨gb510,0,none⟩) (Kd.R_mono HO_17.out (fun k_ hk=>(⟨hk,hk⟩ : _ ∧ k_ ≠ gb510))) (fun _ hk=>hk.2) (.int .i64 (wrap64 (rd x25_3 0)))) (fun _ hk=>hk.2) (.int .i64 (wrap64 (rd x25_3 1)))) (fun _ hk=>hk.2) (.int .i64 x18_1)) (fun _ hk=>hk.2) (.int .i64 0)) (fun _ hk=>hk.2) (.int .i64 0)) (fun _ hk=>hk.2) (.int .i64 0)) (fun _ h_=>h_.1)))) (by decide) hg);have n1_:=Aside0.mk (Kd.R_over' (by (with_reducible repeat(first|apply Kd.R_alloc|apply Kd.R_drewN|apply Kd.R_drew));exact (Kd.R_mono (Kd.R_far (p:=⟨gb510,5,none⟩) (Kd.R_far (p:=⟨gb510,4,none⟩) (Kd.R_far (p:=⟨gb510,3,none⟩) (Kd.R_far (p:=⟨gb510,2,none⟩) (Kd.R_far (p:=⟨gb510,1,none⟩) (Kd.R_far (p:=⟨gb510,0,none⟩) (Kd.R_types HO_25.out BK510.out (by decide)) (fun _ hk=>hk.2) (.int .i64 (wrap64 (rd x25_3 0)))) (fun _ hk=>hk.2) (.int .i64 (wrap64 (rd x25_3 1)))) (fun _ hk=>hk.2) (.int .i64 x18_1)) (fun _ hk=>hk.2) (.int .i64 0)) (fun _ hk=>hk.2) (.int .i64 0)) (fun _ hk=>hk.2) (.int .i64 0)) (fun _ h_=>h_.1))) (Kd.R_typed (by (with_reducible repeat(first|apply Kd.R_alloc|apply Kd.R_drewN|apply Kd.R_drew));exact (Kd.R_mono (Kd.R_far (p:=⟨gb510,5,none⟩) (Kd.R_far (p:=⟨gb510,4,none⟩) (Kd.R_far (p:=⟨gb510,3,none⟩) (Kd.R_far (p:=⟨gb510,2,none⟩) (Kd.R_far (p:=⟨gb510,1,none⟩) (Kd.R_far (p:=⟨gb510,0,none⟩) (Kd.R_mono HO_17.out (fun k_ hk=>(⟨hk,hk⟩ : _ ∧ k_ ≠ gb510))) (fun _ hk=>hk.2) (.int .i64 (wrap64 (rd x25_3 0)))) (fun _ hk=>hk.2) (.int .i64 (wrap64 (rd x25_3 1)))) (fun _ hk=>hk.2) (.int .i64 x18_1)) (fun _ hk=>hk.2) (.int .i64 0)) (fun _ hk=>hk.2) (.int .i64 0)) (fun _ hk=>hk.2) (.int .i64 0)) (fun _ h_=>h_.1)))) (by decide) hg);have n2_:=Aside0.mk (blk_grown (g:=gb510) (o:=.cells #[.int .i64 (wrap64 (rd x25_3 0)),.int .i64 (wrap64 (rd x25_3 1)),.int .i64 x18_1,.int .i64 0,.int .i64 0,.int .i64 0] 75 (0,0)) (by (with_reducible repeat(first|refine blk_drewN ?_ _|refine blk_drew ?_|refine blk_alloc ?_ _));refine blk_put (cs:=#[.int .i64 (wrap64 (rd x25_3 0)),.int .i64 (wrap64 (rd x25_3 1)),.int .i64 x18_1,.int .i64 0,.int .i64 0,.int .i64 0]) ?_ 5 _ rfl;(with_reducible repeat(first|refine blk_drewN ?_ _|refine blk_drew ?_|refine blk_alloc ?_ _));refine blk_put (cs:=#[.int .i64 (wrap64 (rd x25_3 0)),.int .i64 (wrap64 (rd x25_3 1)),.int .i64 x18_1,.int .i64 0,.int .i64 0,.int .i64 0]) ?_ 4 _ rfl;(with_reducible repeat(first|refine blk_drewN ?_ _|refine blk_drew ?_|refine blk_alloc ?_ _));refine blk_put (cs:=#[.int .i64 (wrap64 (rd x25_3 0)),.int .i64 (wrap64 (rd x25_3 1)),.int .i64 x18_1,.int .i64 0,.int .i64 0,.int .i64 0]) ?_ 3 _ rfl;(with_reducible repeat(first|refine blk_drewN ?_ _|refine blk_drew ?_|refine blk_alloc ?_ _));refine blk_put (cs:=#[.int .i64 (wrap64 (rd x25_3 0)),.int .i64 (wrap64 (rd x25_3 1)),.int .i64 0,.int .i64 0,.int .i64 0,.int .i64 0]) ?_ 2 _ rfl;(with_reducible repeat(first|refine blk_drewN ?_ _|refine blk_drew ?_|refine blk_alloc ?_ _));refine blk_put (cs:=#[.int .i64 (wrap64 (rd x25_3 0)),.int .i64 0,.int .i64 0,.int .i64 0,.int .i64 0,.int .i64 0]) ?_ 1 _ rfl;(with_reducible repeat(first|refine blk_drewN ?_ _|refine blk_drew ?_|refine blk_alloc ?_ _));refine blk_put (cs:=#[.int .i64 (-1),.int .i64 0,.int .i64 0,.int .i64 0,.int .i64 0,.int .i64 0]) ?_ 0 _ rfl;(with_reducible repeat(first|refine blk_drewN ?_ _|refine blk_drew ?_|refine blk_alloc ?_ _));exact BK510.out) hg (Kd.R_away HO_17.out (fun _ hk=>hk)));have n3_:=Aside0.mk (hb);have n4_:=Aside0.mk (ho);clear HO_24;clear HO_25;clear BK510;clear HB;clear HO_17;have HO_24:=n0_;have HO_25:=n1_;have BK510:=n2_;have HB:=n3_;have HO534:=n4_;clear n0_ n1_ n2_ n3_ n4_;clear ho hb hg hat))
                 go_roundg k3
                 case measure=>have:=HK1.out;have:=HJ15.out;have:=HK3.out;omega
                 case rel=>exact ⟨(x1_3),(y532),(wrap64 (x18_1 + 2)),(IntKind.u64.wrap (x19_1 + 1)),(by first|rfl|(simp;done)|(simp [*];done)),(by first|rfl|(simp;done)|(simp [*];done)),(by first|rfl|(simp;done)|(simp [*];done)),H',⟨by have:=HK1.out;have:=HJ15.out;have:=HK3.out;omega⟩,⟨by (with_reducible repeat(first|apply Kd.R_alloc|apply Kd.R_drewN|apply Kd.R_drew));exact Kd.R_mono HO534.out (fun _ hk=>trivial)⟩,⟨by repeat(first|(with_reducible first|exact HB.out|apply below_alloc|apply pw_below_drewN|apply below_drew1|refine below_set ?_ GE510.out)|exact HB.out)⟩⟩
                ·rw [if_neg c40] at H
                 exact absurd H (by simp)
               ·rw [if_neg c39] at H
                exact absurd H (by simp)
              ·rw [if_neg c38] at H
               exact absurd H (by simp)
             ·rw [if_neg c37] at H
              have c37b0 : (t507 == 1) = false:=beq_eq_false_iff_ne.mpr c37
              have c37b1 : (t507 != 1) = true:=bne_iff_ne.mpr c37
              by_cases c52 : a4 = 0
              ·rw [if_pos c52] at H
               have c52b0 : (a4 == 0) = true:=beq_iff_eq.mpr c52
               have c52b1 : (a4 != 0) = false:=bne_eq_false_iff_eq.mpr c52
               clear c52
               by_cases c53 : 0 < (x25_3.length : Int)
               ·rw [if_pos c53] at H
                have c53b0 : decide (0 < (x25_3.length : Int)) = true:=decide_eq_true c53
                have c53b1 : decide (0 < x25_3.length) = true:=decide_eq_true (by omega)
                clear c53
                by_cases c54 : x17_1.length < 2932031007402
                ·rw [if_pos c54] at H
                 have LMc54:=Aside0.mk c54
                 clear c54
                 obtain ⟨y536,hy536⟩ : ∃ y_ : List (S75),y_ = (x17_1 ++ [(⟨(-1),0,0,wrap64 (rd x25_3 0),0,0⟩ : S75)]):=⟨_,rfl⟩
                 replace H : (hornbeamref18_Get.l0 k3 a0 x1_3 a2 a3 a4 a5 t500 y536 x18_1 (IntKind.u64.wrap (x19_1 + 1))) = some (r1,r2,r3):=by first|(rw [hy536];with_reducible exact H)|(have H2_:=(Option.bind_some _ _).symm.trans H;rw [hy536];with_reducible exact H2_)|(have H2_:=(Option.bind_some _ _).symm.trans H;with_reducible exact H2_)|with_reducible exact H|(rw [hy536];exact H)|exact H
                 have Ny536:=Aside0.mk hy536
                 clear hy536
                 have H':=Aside0.mk H
                 clear H
                 obtain ⟨Ao55,co55,eo55⟩:=Kd.R_slice HO_24.out
                 subst eo55
                 obtain ⟨Ao56,co56,eo56⟩:=Kd.R_slice HO_25.out
                 subst eo56
                 have p535 : 0 ≤ (0 : Int):=(by omega)
                 have q535 : 0 < (x25_3.length : Int):=of_decide_eq_true (by first|(with_reducible assumption)|assumption)
                 obtain ⟨ad535,e535,hx535_0⟩:=Kd.at_int (Kd.R_reads' HO_25.out).2.2 0 p535 q535
                 cases e535
                 have qi535 : (0 < x25_3.length) = True:=eq_true (by omega)
                 (try rw [show ((0 : Int)).toNat = 0 from rfl] at hx535_0)
                 (try rw [Addr.add_zero'] at hx535_0)
                 replace p535:=eq_true p535
                 replace q535:=eq_true q535
                 have hcz57_0 : wr.cell? ⟨gb510,0,none⟩ = some (.int .i64 (-1)):=(blk_cell BK510.out 0).trans rfl
                 have hcz57_1 : wr.cell? ⟨gb510,1,none⟩ = some (.int .i64 0):=(blk_cell BK510.out 1).trans rfl
                 have hcz57_2 : wr.cell? ⟨gb510,2,none⟩ = some (.int .i64 0):=(blk_cell BK510.out 2).trans rfl
                 have hcz57_3 : wr.cell? ⟨gb510,3,none⟩ = some (.int .i64 0):=(blk_cell BK510.out 3).trans rfl
                 have hcz57_4 : wr.cell? ⟨gb510,4,none⟩ = some (.int .i64 0):=(blk_cell BK510.out 4).trans rfl
                 have hcz57_5 : wr.cell? ⟨gb510,5,none⟩ = some (.int .i64 0):=(blk_cell BK510.out 5).trans rfl
                 have hfz57_0:=blk_frozen BK510.out 0
                 have hfz57_1:=blk_frozen BK510.out 1
                 have hfz57_2:=blk_frozen BK510.out 2
                 have hfz57_3:=blk_frozen BK510.out 3
                 have hfz57_4:=blk_frozen BK510.out 4
                 have hfz57_5:=blk_frozen BK510.out 5
                 go_wp2_with (first|((with_reducible refine gate_builtin (b:=.append) (xs:=#[.tmp 123,.tmp 125]) rfl ?_);at_builtin;refine Kd.R_append k75 (w0:=w) w.heap.size rfl (.tmp 123) (.tmp 125) 70 75 (.agg #[(.int .i64 0),(.int .i64 0),(.int .i64 0),(.int .i64 0),(.int .i64 0),(.int .i64 0)]) 48 rfl Try.underlying70 info75 rfl (by decide) (by omega) u17 x17_1 (⟨(-1),0,0,wrap64 (rd x25_3 0),0,0⟩ : S75) [.int .i64 (-1),.int .i64 0,.int .i64 0,.int .i64 (wrap64 (rd x25_3 0)),.int .i64 0,.int .i64 0] (fun k_=>k_ ≠ gb510) (fun _=>False) rfl (by first|(go_simp;done)|(go_simp;rfl)) ?aP (fun _ hk=>hk.elim) ?aF ?aO ?aB ?aS ?aL ?_;(case aP=>exact k75_mkM _ _ _ (⟨(-1),0,0,wrap64 (rd x25_3 0),0,0⟩ : S75));(case aB=>exact (by repeat(first|(with_reducible first|exact HB.out|apply below_alloc|apply pw_below_drewN|apply below_drew1|refine below_set ?_ GE510.out)|exact HB.out)));(case aF=>exact (fun k_ hk=>Kd.freshB (g:=gb510) (o:=.cells #[.int .i64 (-1),.int .i64 0,.int .i64 0,.int .i64 (wrap64 (rd x25_3 0)),.int .i64 0,.int .i64 0] 75 (0,0)) (by (with_reducible repeat(first|refine blk_drewN ?_ _|refine blk_drew ?_|refine blk_alloc ?_ _));refine blk_put (cs:=#[.int .i64 (-1),.int .i64 0,.int .i64 0,.int .i64 0,.int .i64 0,.int .i64 0]) ?_ 3 _ rfl;(with_reducible repeat(first|refine blk_drewN ?_ _|refine blk_drew ?_|refine blk_alloc ?_ _));exact BK510.out) k_ hk));(case aO=>exact (by (with_reducible repeat(first|apply Kd.R_alloc|apply Kd.R_drewN|apply Kd.R_drew));exact Kd.R_mono (Kd.R_far (p:=⟨gb510,3,none⟩) (Kd.R_mono HO_17.out (fun k_ hk=>(⟨hk,hk⟩ : _ ∧ k_ ≠ gb510))) (fun _ hk=>hk.2) (.int .i64 (wrap64 (rd x25_3 0)))) (fun _ hk=>hk.1)));(case aS=>exact (below_size (by repeat(first|(with_reducible first|exact HB.out|apply below_alloc|apply pw_below_drewN|apply below_drew1|refine below_set ?_ GE510.out)|exact HB.out))));(case aL=>have:=LMc54.out;omega);intro v537 w58 ho hb hg hat;rw [← Ny536.out] at ho;have n0_:=Aside0.mk (Kd.R_over' (by (with_reducible repeat(first|apply Kd.R_alloc|apply Kd.R_drewN|apply Kd.R_drew));exact (Kd.R_mono (Kd.R_far (p:=⟨gb510,3,none⟩) (Kd.R_types HO_24.out BK510.out (by decide)) (fun _ hk=>hk.2) (.int .i64 (wrap64 (rd x25_3 0)))) (fun _ h_=>h_.1))) (Kd.R_typed (by (with_reducible repeat(first|apply Kd.R_alloc|apply Kd.R_drewN|apply Kd.R_drew));exact (Kd.R_mono (Kd.R_far (p:=⟨gb510,3,none⟩) (Kd.R_mono HO_17.out (fun k_ hk=>(⟨hk,hk⟩ : _ ∧ k_ ≠ gb510))) (fun _ hk=>hk.2) (.int .i64 (wrap64 (rd x25_3 0)))) (fun _ h_=>h_.1)))) (by decide) hg);have n1_:=Aside0.mk (Kd.R_over' (by (with_reducible repeat(first|apply Kd.R_alloc|apply Kd.R_drewN|apply Kd.R_drew));exact (Kd.R_mono (Kd.R_far (p:=⟨gb510,3,none⟩) (Kd.R_types HO_25.out BK510.out (by decide)) (fun _ hk=>hk.2) (.int .i64 (wrap64 (rd x25_3 0)))) (fun _ h_=>h_.1))) (Kd.R_typed (by (with_reducible repeat(first|apply Kd.R_alloc|apply Kd.R_drewN|apply Kd.R_drew));exact (Kd.R_mono (Kd.R_far (p:=⟨gb510,3,none⟩) (Kd.R_mono HO_17.out (fun k_ hk=>(⟨hk,hk⟩ : _ ∧ k_ ≠ gb510))) (fun _ hk=>hk.2) (.int .i64 (wrap64 (rd x25_3 0)))) (fun _ h_=>h_.1)))) (by decide) hg);have n2_:=Aside0.mk (blk_grown (g:=gb510) (o:=.cells #[.int .i64 (-1),.int .i64 0,.int .i64 0,.int .i64 (wrap64 (rd x25_3 0)),.int .i64 0,.int .i64 0] 75 (0,0)) (by (with_reducible repeat(first|refine blk_drewN ?_ _|refine blk_drew ?_|refine blk_alloc ?_ _));refine blk_put (cs:=#[.int .i64 (-1),.int .i64 0,.int .i64 0,.int .i64 0,.int .i64 0,.int .i64 0]) ?_ 3 _ rfl;(with_reducible repeat(first|refine blk_drewN ?_ _|refine blk_drew ?_|refine blk_alloc ?_ _));exact BK510.out) hg (Kd.R_away HO_17.out (fun _ hk=>hk)));have n3_:=Aside0.mk (hb);have n4_:=Aside0.mk (ho);clear HO_24;clear HO_25;clear BK510;clear HB;clear HO_17;have HO_24:=n0_;have HO_25:=n1_;have BK510:=n2_;have HB:=n3_;have HO538:=n4_;clear n0_ n1_ n2_ n3_ n4_;clear ho hb hg hat))
                 go_roundg k3
                 case measure=>have:=HK1.out;have:=HJ15.out;have:=HK3.out;omega
                 case rel=>exact ⟨(x1_3),(y536),(x18_1),(IntKind.u64.wrap (x19_1 + 1)),(by first|rfl|(simp;done)|(simp [*];done)),(by first|rfl|(simp;done)|(simp [*];done)),(by first|rfl|(simp;done)|(simp [*];done)),H',⟨by have:=HK1.out;have:=HJ15.out;have:=HK3.out;omega⟩,⟨by (with_reducible repeat(first|apply Kd.R_alloc|apply Kd.R_drewN|apply Kd.R_drew));exact Kd.R_mono HO538.out (fun _ hk=>trivial)⟩,⟨by repeat(first|(with_reducible first|exact HB.out|apply below_alloc|apply pw_below_drewN|apply below_drew1|refine below_set ?_ GE510.out)|exact HB.out)⟩⟩
                ·rw [if_neg c54] at H
                 exact absurd H (by simp)
               ·rw [if_neg c53] at H
                exact absurd H (by simp)
              ·rw [if_neg c52] at H
               have c52b0 : (a4 == 0) = false:=beq_eq_false_iff_ne.mpr c52
               have c52b1 : (a4 != 0) = true:=bne_iff_ne.mpr c52
               by_cases c59 : 0 < (x25_3.length : Int)
               ·rw [if_pos c59] at H
                have c59b0 : decide (0 < (x25_3.length : Int)) = true:=decide_eq_true c59
                have c59b1 : decide (0 < x25_3.length) = true:=decide_eq_true (by omega)
                clear c59
                by_cases c60 : 1 < (x25_3.length : Int)
                ·rw [if_pos c60] at H
                 have c60b0 : decide (1 < (x25_3.length : Int)) = true:=decide_eq_true c60
                 have c60b1 : decide (1 < x25_3.length) = true:=decide_eq_true (by omega)
                 clear c60
                 by_cases c61 : x17_1.length < 2932031007402
                 ·rw [if_pos c61] at H
                  have LMc61:=Aside0.mk c61
                  clear c61
                  obtain ⟨y541,hy541⟩ : ∃ y_ : List (S75),y_ = (x17_1 ++ [(⟨(-1),0,0,0,wrap64 (rd x25_3 0),wrap64 (rd x25_3 1)⟩ : S75)]):=⟨_,rfl⟩
                  replace H : (hornbeamref18_Get.l0 k3 a0 x1_3 a2 a3 a4 a5 t500 y541 x18_1 (IntKind.u64.wrap (x19_1 + 1))) = some (r1,r2,r3):=by first|(rw [hy541];with_reducible exact H)|(have H2_:=(Option.bind_some _ _).symm.trans H;rw [hy541];with_reducible exact H2_)|(have H2_:=(Option.bind_some _ _).symm.trans H;with_reducible exact H2_)|with_reducible exact H|(rw [hy541];exact H)|exact H
                  have Ny541:=Aside0.mk hy541
                  clear hy541
                  have H':=Aside0.mk H
                  clear H
                  obtain ⟨Ao62,co62,eo62⟩:=Kd.R_slice HO_24.out
                  subst eo62
                  try go_wp2
                  have n0_:=Aside0.mk (Kd.R_drew HO_17.out)
                  have n1_:=Aside0.mk (Kd.R_drew HO_24.out)
                  have n2_:=Aside0.mk (Kd.R_drew HO_25.out)
                  have n3_:=Aside0.mk (blk_drew BK510.out)
                  have n4_:=Aside0.mk (below_drew1 HB.out)
                  clear HO_17
                  clear HO_24
                  clear HO_25
                  clear BK510
                  clear HB
                  have HO_17:=n0_
                  have HO_24:=n1_
                  have HO_25:=n2_
                  have BK510:=n3_
                  have HB:=n4_
                  clear n0_ n1_ n2_ n3_ n4_
                  obtain ⟨Ao64,co64,eo64⟩:=Kd.R_slice HO_25.out
                  (first|subst eo64|(injection eo64 with f1_ f2_ f3_;have f4_:=f1_.symm;have f5_:=f3_.symm;clear f1_ f2_ f3_;subst f4_;subst f5_))
                  have p539 : 0 ≤ (0 : Int):=(by omega)
                  have q539 : 0 < (x25_3.length : Int):=of_decide_eq_true (by first|(with_reducible assumption)|assumption)
                  obtain ⟨ad539,e539,hx539_0⟩:=Kd.at_int (Kd.R_reads' HO_25.out).2.2 0 p539 q539
                  cases e539
                  have qi539 : (0 < x25_3.length) = True:=eq_true (by omega)
                  (try rw [show ((0 : Int)).toNat = 0 from rfl] at hx539_0)
                  (try rw [Addr.add_zero'] at hx539_0)
                  replace p539:=eq_true p539
                  replace q539:=eq_true q539
                  have p540 : 0 ≤ (1 : Int):=(by omega)
                  have q540 : 1 < (x25_3.length : Int):=of_decide_eq_true (by first|(with_reducible assumption)|assumption)
                  obtain ⟨ad540,e540,hx540_0⟩:=Kd.at_int (Kd.R_reads' HO_25.out).2.2 1 p540 q540
                  obtain rfl : ad539 = ad540:=(by injection e540)
                  (try simp only [show (1 : Int).toNat = 1 from rfl,Nat.reduceMul,Nat.reduceEqDiff,Go.Addr.add,↓reduceIte] at hx540_0)
                  have qi540 : (1 < x25_3.length) = True:=eq_true (by omega)
                  (try rw [show ((1 : Int)).toNat = 1 from rfl] at hx540_0)
                  replace p540:=eq_true p540
                  replace q540:=eq_true q540
                  refine start_ (n:=12) (S:=fun w'=>w'.cell? ad539 = some (.int .u64 (rd x25_3 0)) ∧ w'.cell? ⟨ad539.block,ad539.off + 1,none⟩ = some (.int .u64 (rd x25_3 1))) (ds:=[]) #[false,false,false,false,false,false,false,false,false,false,false,false] (by kernel_rfl) rfl rfl ⟨hx539_0,hx540_0⟩ (fun hHeld=>?_);refine with_tabW hornbeamref18_Get.tab37 hornbeamref18_Get.bits37 (fun HT_ HW_=>?_)
                  generalize wr.drew = w63 at HO_17 HO_24 HO_25 BK510 HB hx539_0 hx540_0 hHeld ⊢
                  refine pure_ (i:=0) (N:=some 113) (v:=?_) (a':=?_) #[true,false,false,false,false,false,false,false,false,false,false,false] rfl rfl (any_of HT_.out (by kernel_rfl)) (fun _ _ _ h=>h) (Or.inl ⟨by rfl,?_⟩) ?_ ?_
                  rotate_left
                  ·intro w'
                   go_simp
                   with_reducible rfl
                  rotate_left
                  ·simp only [Act.put,List.setIfInBounds_toArray,List.set_cons_zero,List.set_cons_succ,i64_w,i32_w]
                   rfl
                  refine pure_ (i:=1) (N:=some 114) (v:=?_) (a':=?_) #[true,true,false,false,false,false,false,false,false,false,false,false] rfl rfl (any_of HT_.out (by kernel_rfl)) (fun _ _ _ h=>h) (Or.inl ⟨by rfl,?_⟩) ?_ ?_
                  rotate_left
                  ·intro w'
                   go_simp
                   with_reducible rfl
                  rotate_left
                  ·simp only [Act.put,List.setIfInBounds_toArray,List.set_cons_zero,List.set_cons_succ,i64_w,i32_w]
                   rfl
                  refine pure_ (i:=4) (N:=some 117) (v:=?_) (a':=?_) #[true,true,false,false,true,false,false,false,false,false,false,false] rfl rfl (any_of HT_.out (by kernel_rfl)) (fun _ _ _ h=>h) (Or.inl ⟨by rfl,?_⟩) ?_ ?_
                  rotate_left
                  ·intro w'
                   go_simp
                   with_reducible rfl
                  rotate_left
                  ·simp only [Act.put,List.setIfInBounds_toArray,List.set_cons_zero,List.set_cons_succ,i64_w,i32_w]
                   rfl
                  refine pure_ (i:=5) (N:=some 118) (v:=?_) (a':=?_) #[true,true,false,false,true,true,false,false,false,false,false,false] rfl rfl (any_of HT_.out (by kernel_rfl)) (fun _ _ _ h=>h) (Or.inl ⟨by rfl,?_⟩) ?_ ?_
                  rotate_left
                  ·intro w'
                   go_simp
                   with_reducible rfl
                  rotate_left
                  ·simp only [Act.put,List.setIfInBounds_toArray,List.set_cons_zero,List.set_cons_succ,i64_w,i32_w]
                   rfl
                  refine take_ (i:=2) (N:=some 115) (v:=?_) (a':=?_) #[true,true,true,false,true,true,false,false,false,false,false,false] rfl rfl (take_ofW HT_.out HW_.out (by kernel_rfl)) (fun _ _ _ h=>h) (Or.inl ⟨by rfl,?_⟩) hHeld ?_ ?_
                  rotate_left
                  ·rintro w' ⟨s0,s1⟩
                   go_simp
                   with_reducible rfl
                  rotate_left
                  ·simp only [Act.put,List.setIfInBounds_toArray,List.set_cons_zero,List.set_cons_succ,i64_w,i32_w]
                   rfl
                  refine pure_ (i:=3) (N:=some 116) (v:=?_) (a':=?_) #[true,true,true,true,true,true,false,false,false,false,false,false] rfl rfl (any_of HT_.out (by kernel_rfl)) (fun _ _ _ h=>h) (Or.inl ⟨by rfl,?_⟩) ?_ ?_
                  rotate_left
                  ·intro w'
                   go_simp
                   with_reducible rfl
                  rotate_left
                  ·simp only [Act.put,List.setIfInBounds_toArray,List.set_cons_zero,List.set_cons_succ,i64_w,i32_w]
                   rfl
                  refine pure_ (i:=8) (N:=some 121) (v:=?_) (a':=?_) #[true,true,true,true,true,true,false,false,true,false,false,false] rfl rfl (any_of HT_.out (by kernel_rfl)) (fun _ _ _ h=>h) (Or.inl ⟨by rfl,?_⟩) ?_ ?_
                  rotate_left
                  ·intro w'
                   go_simp
                   with_reducible rfl
                  rotate_left
                  ·simp only [Act.put,List.setIfInBounds_toArray,List.set_cons_zero,List.set_cons_succ,i64_w,i32_w]
                   rfl
                  refine take_ (i:=6) (N:=some 119) (v:=?_) (a':=?_) #[true,true,true,true,true,true,true,false,true,false,false,false] rfl rfl (take_ofW HT_.out HW_.out (by kernel_rfl)) (fun _ _ _ h=>h) (Or.inl ⟨by rfl,?_⟩) hHeld ?_ ?_
                  rotate_left
                  ·rintro w' ⟨s0,s1⟩
                   go_simp
                   with_reducible rfl
                  rotate_left
                  ·simp only [Act.put,List.setIfInBounds_toArray,List.set_cons_zero,List.set_cons_succ,i64_w,i32_w]
                   rfl
                  refine pure_ (i:=7) (N:=some 120) (v:=?_) (a':=?_) #[true,true,true,true,true,true,true,true,true,false,false,false] rfl rfl (any_of HT_.out (by kernel_rfl)) (fun _ _ _ h=>h) (Or.inl ⟨by rfl,?_⟩) ?_ ?_
                  rotate_left
                  ·intro w'
                   go_simp
                   with_reducible rfl
                  rotate_left
                  ·simp only [Act.put,List.setIfInBounds_toArray,List.set_cons_zero,List.set_cons_succ,i64_w,i32_w]
                   rfl
                  refine one_ (i:=9) (N:=none) #[true,true,true,true,true,true,true,true,true,true,false,false] rfl rfl (one_of HT_.out (by kernel_rfl)) (by decide) (fun K hK=>?_)
                  have hs65 : w63.cell? ⟨gb510,4,none⟩ = some (.int .i64 0):=(blk_cell BK510.out 4).trans rfl
                  have hfs65:=blk_frozen BK510.out 4
                  refine skip_ (w1:=?_) (by rfl) rfl ?_ ?_
                  rotate_left
                  ·go_simp
                   rfl
                  refine hK.out _ _ ⟨((cell_far (p:=⟨gb510,_,none⟩) (by first|exact Kd.own_blk (Kd.R_ne HO_25.out BK510.out (by decide))|(rw [add_block];exact Kd.own_blk (Kd.R_ne HO_25.out BK510.out (by decide)))|(show (Addr.add _ _).block ≠ _;rw [add_block];exact Kd.own_blk (Kd.R_ne HO_25.out BK510.out (by decide)))|(dsimp only;exact Kd.own_blk (Kd.R_ne HO_25.out BK510.out (by decide)))) _).trans (hHeld.1)),((cell_far (p:=⟨gb510,_,none⟩) (by first|exact Kd.own_blk (Kd.R_ne HO_25.out BK510.out (by decide))|(rw [add_block];exact Kd.own_blk (Kd.R_ne HO_25.out BK510.out (by decide)))|(show (Addr.add _ _).block ≠ _;rw [add_block];exact Kd.own_blk (Kd.R_ne HO_25.out BK510.out (by decide)))|(dsimp only;exact Kd.own_blk (Kd.R_ne HO_25.out BK510.out (by decide)))) _).trans (hHeld.2))⟩ (fun hHeld=>?_)
                  clear hK K
                  refine pure_ (i:=10) (N:=some 122) (v:=?_) (a':=?_) #[true,true,true,true,true,true,true,true,true,true,true,false] rfl rfl (any_of HT_.out (by kernel_rfl)) (fun _ _ _ h=>h) (Or.inl ⟨by rfl,?_⟩) ?_ ?_
                  rotate_left
                  ·intro w'
                   go_simp
                   with_reducible rfl
                  rotate_left
                  ·simp only [Act.put,List.setIfInBounds_toArray,List.set_cons_zero,List.set_cons_succ,i64_w,i32_w]
                   rfl
                  refine one_ (i:=11) (N:=none) #[true,true,true,true,true,true,true,true,true,true,true,true] rfl rfl (one_of HT_.out (by kernel_rfl)) (by decide) (fun K hK=>?_)
                  have hs66 : w63.cell? ⟨gb510,5,none⟩ = some (.int .i64 0):=(blk_cell BK510.out 5).trans rfl
                  have hfs66:=blk_frozen BK510.out 5
                  refine skip_ (w1:=?_) (by rfl) rfl ?_ ?_
                  rotate_left
                  ·go_simp
                   rfl
                  refine hK.out _ _ ⟨((cell_far (p:=⟨gb510,_,none⟩) (by first|exact Kd.own_blk (Kd.R_ne HO_25.out BK510.out (by decide))|(rw [add_block];exact Kd.own_blk (Kd.R_ne HO_25.out BK510.out (by decide)))|(show (Addr.add _ _).block ≠ _;rw [add_block];exact Kd.own_blk (Kd.R_ne HO_25.out BK510.out (by decide)))|(dsimp only;exact Kd.own_blk (Kd.R_ne HO_25.out BK510.out (by decide)))) _).trans (hHeld.1)),((cell_far (p:=⟨gb510,_,none⟩) (by first|exact Kd.own_blk (Kd.R_ne HO_25.out BK510.out (by decide))|(rw [add_block];exact Kd.own_blk (Kd.R_ne HO_25.out BK510.out (by decide)))|(show (Addr.add _ _).block ≠ _;rw [add_block];exact Kd.own_blk (Kd.R_ne HO_25.out BK510.out (by decide)))|(dsimp only;exact Kd.own_blk (Kd.R_ne HO_25.out BK510.out (by decide)))) _).trans (hHeld.2))⟩ (fun hHeld=>?_)
                  clear hK K
                  refine done_ (done_of HT_.out (by kernel_rfl)) ?_
                  have hcz67_0 : w63.cell? ⟨gb510,0,none⟩ = some (.int .i64 (-1)):=(blk_cell BK510.out 0).trans rfl
                  have hcz67_1 : w63.cell? ⟨gb510,1,none⟩ = some (.int .i64 0):=(blk_cell BK510.out 1).trans rfl
                  have hcz67_2 : w63.cell? ⟨gb510,2,none⟩ = some (.int .i64 0):=(blk_cell BK510.out 2).trans rfl
                  have hcz67_3 : w63.cell? ⟨gb510,3,none⟩ = some (.int .i64 0):=(blk_cell BK510.out 3).trans rfl
                  have hcz67_4 : w63.cell? ⟨gb510,4,none⟩ = some (.int .i64 0):=(blk_cell BK510.out 4).trans rfl
                  have hcz67_5 : w63.cell? ⟨gb510,5,none⟩ = some (.int .i64 0):=(blk_cell BK510.out 5).trans rfl
                  have hfz67_0:=blk_frozen BK510.out 0
                  have hfz67_1:=blk_frozen BK510.out 1
                  have hfz67_2:=blk_frozen BK510.out 2
                  have hfz67_3:=blk_frozen BK510.out 3
                  have hfz67_4:=blk_frozen BK510.out 4
                  have hfz67_5:=blk_frozen BK510.out 5
                  try go_wp2_with (first|((with_reducible refine gate_builtin (b:=.append) (xs:=#[.tmp 123,.tmp 125]) rfl ?_);at_builtin;refine Kd.R_append k75 (w0:=w) w.heap.size rfl (.tmp 123) (.tmp 125) 70 75 (.agg #[(.int .i64 0),(.int .i64 0),(.int .i64 0),(.int .i64 0),(.int .i64 0),(.int .i64 0)]) 48 rfl Try.underlying70 info75 rfl (by decide) (by omega) u17 x17_1 (⟨(-1),0,0,0,wrap64 (rd x25_3 0),wrap64 (rd x25_3 1)⟩ : S75) [.int .i64 (-1),.int .i64 0,.int .i64 0,.int .i64 0,.int .i64 (wrap64 (rd x25_3 0)),.int .i64 (wrap64 (rd x25_3 1))] (fun k_=>k_ ≠ gb510) (fun _=>False) rfl (by first|(go_simp;done)|(go_simp;rfl)) ?aP (fun _ hk=>hk.elim) ?aF ?aO ?aB ?aS ?aL ?_;(case aP=>exact k75_mkM _ _ _ (⟨(-1),0,0,0,wrap64 (rd x25_3 0),wrap64 (rd x25_3 1)⟩ : S75));(case aB=>exact (by repeat(first|(with_reducible first|exact HB.out|apply below_alloc|apply pw_below_drewN|apply below_drew1|refine below_set ?_ GE510.out)|exact HB.out)));(case aF=>exact (fun k_ hk=>Kd.freshB (g:=gb510) (o:=.cells #[.int .i64 (-1),.int .i64 0,.int .i64 0,.int .i64 0,.int .i64 (wrap64 (rd x25_3 0)),.int .i64 (wrap64 (rd x25_3 1))] 75 (0,0)) (by (with_reducible repeat(first|refine blk_drewN ?_ _|refine blk_drew ?_|refine blk_alloc ?_ _));refine blk_put (cs:=#[.int .i64 (-1),.int .i64 0,.int .i64 0,.int .i64 0,.int .i64 (wrap64 (rd x25_3 0)),.int .i64 0]) ?_ 5 _ rfl;(with_reducible repeat(first|refine blk_drewN ?_ _|refine blk_drew ?_|refine blk_alloc ?_ _));refine blk_put (cs:=#[.int .i64 (-1),.int .i64 0,.int .i64 0,.int .i64 0,.int .i64 0,.int .i64 0]) ?_ 4 _ rfl;(with_reducible repeat(first|refine blk_drewN ?_ _|refine blk_drew ?_|refine blk_alloc ?_ _));exact BK510.out) k_ hk));(case aO=>exact (by (with_reducible repeat(first|apply Kd.R_alloc|apply Kd.R_drewN|apply Kd.R_drew));exact Kd.R_mono (Kd.R_far (p:=⟨gb510,5,none⟩) (Kd.R_far (p:=⟨gb510,4,none⟩) (Kd.R_mono HO_17.out (fun k_ hk=>(⟨hk,hk⟩ : _ ∧ k_ ≠ gb510))) (fun _ hk=>hk.2) (.int .i64 (wrap64 (rd x25_3 0)))) (fun _ hk=>hk.2) (.int .i64 (wrap64 (rd x25_3 1)))) (fun _ hk=>hk.1)));(case aS=>exact (below_size (by repeat(first|(with_reducible first|exact HB.out|apply below_alloc|apply pw_below_drewN|apply below_drew1|refine below_set ?_ GE510.out)|exact HB.out))));(case aL=>have:=LMc61.out;omega);intro v542 w68 ho hb hg hat;rw [← Ny541.out] at ho;have n0_:=Aside0.mk (Kd.R_over' (by (with_reducible repeat(first|apply Kd.R_alloc|apply Kd.R_drewN|apply Kd.R_drew));exact (Kd.R_mono (Kd.R_far (p:=⟨gb510,5,none⟩) (Kd.R_far (p:=⟨gb510,4,none⟩) (Kd.R_types HO_24.out BK510.out (by decide)) (fun _ hk=>hk.2) (.int .i64 (wrap64 (rd x25_3 0)))) (fun _ hk=>hk.2) (.int .i64 (wrap64 (rd x25_3 1)))) (fun _ h_=>h_.1))) (Kd.R_typed (by (with_reducible repeat(first|apply Kd.R_alloc|apply Kd.R_drewN|apply Kd.R_drew));exact (Kd.R_mono (Kd.R_far (p:=⟨gb510,5,none⟩) (Kd.R_far (p:=⟨gb510,4,none⟩) (Kd.R_mono HO_17.out (fun k_ hk=>(⟨hk,hk⟩ : _ ∧ k_ ≠ gb510))) (fun _ hk=>hk.2) (.int .i64 (wrap64 (rd x25_3 0)))) (fun _ hk=>hk.2) (.int .i64 (wrap64 (rd x25_3 1)))) (fun _ h_=>h_.1)))) (by decide) hg);have n1_:=Aside0.mk (Kd.R_over' (by (with_reducible repeat(first|apply Kd.R_alloc|apply Kd.R_drewN|apply Kd.R_drew));exact (Kd.R_mono (Kd.R_far (p:=⟨gb510,5,none⟩) (Kd.R_far (p:=⟨gb510,4,none⟩) (Kd.R_types HO_25.out BK510.out (by decide)) (fun _ hk=>hk.2) (.int .i64 (wrap64 (rd x25_3 0)))) (fun _ hk=>hk.2) (.int .i64 (wrap64 (rd x25_3 1)))) (fun _ h_=>h_.1))) (Kd.R_typed (by (with_reducible repeat(first|apply Kd.R_alloc|apply Kd.R_drewN|apply Kd.R_drew));exact (Kd.R_mono (Kd.R_far (p:=⟨gb510,5,none⟩) (Kd.R_far (p:=⟨gb510,4,none⟩) (Kd.R_mono HO_17.out (fun k_ hk=>(⟨hk,hk⟩ : _ ∧ k_ ≠ gb510))) (fun _ hk=>hk.2) (.int .i64 (wrap64 (rd x25_3 0)))) (fun _ hk=>hk.2) (.int .i64 (wrap64 (rd x25_3 1)))) (fun _ h_=>h_.1)))) (by decide) hg);have n2_:=Aside0.mk (blk_grown (g:=gb510) (o:=.cells #[.int .i64 (-1),.int .i64 0,.int .i64 0,.int .i64 0,.int .i64 (wrap64 (rd x25_3 0)),.int .i64 (wrap64 (rd x25_3 1))] 75 (0,0)) (by (with_reducible repeat(first|refine blk_drewN ?_ _|refine blk_drew ?_|refine blk_alloc ?_ _));refine blk_put (cs:=#[.int .i64 (-1),.int .i64 0,.int .i64 0,.int .i64 0,.int .i64 (wrap64 (rd x25_3 0)),.int .i64 0]) ?_ 5 _ rfl;(with_reducible repeat(first|refine blk_drewN ?_ _|refine blk_drew ?_|refine blk_alloc ?_ _));refine blk_put (cs:=#[.int .i64 (-1),.int .i64 0,.int .i64 0,.int .i64 0,.int .i64 0,.int .i64 0]) ?_ 4 _ rfl;(with_reducible repeat(first|refine blk_drewN ?_ _|refine blk_drew ?_|refine blk_alloc ?_ _));exact BK510.out) hg (Kd.R_away HO_17.out (fun _ hk=>hk)));have n3_:=Aside0.mk (hb);have n4_:=Aside0.mk (ho);clear HO_24;clear HO_25;clear BK510;clear HB;clear HO_17;have HO_24:=n0_;have HO_25:=n1_;have BK510:=n2_;have HB:=n3_;have HO543:=n4_;clear n0_ n1_ n2_ n3_ n4_;clear ho hb hg hat))
                  go_roundg k3
                  case measure=>have:=HK1.out;have:=HJ15.out;have:=HK3.out;omega
                  case rel=>exact ⟨(x1_3),(y541),(x18_1),(IntKind.u64.wrap (x19_1 + 1)),(by first|rfl|(simp;done)|(simp [*];done)),(by first|rfl|(simp;done)|(simp [*];done)),(by first|rfl|(simp;done)|(simp [*];done)),H',⟨by have:=HK1.out;have:=HJ15.out;have:=HK3.out;omega⟩,⟨by (with_reducible repeat(first|apply Kd.R_alloc|apply Kd.R_drewN|apply Kd.R_drew));exact Kd.R_mono HO543.out (fun _ hk=>trivial)⟩,⟨by repeat(first|(with_reducible first|exact HB.out|apply below_alloc|apply pw_below_drewN|apply below_drew1|refine below_set ?_ GE510.out)|exact HB.out)⟩⟩
                 ·rw [if_neg c61] at H
                  exact absurd H (by simp)
                ·rw [if_neg c60] at H
                 exact absurd H (by simp)
               ·rw [if_neg c59] at H
                exact absurd H (by simp)
      ·replace c14:=Bool.eq_false_iff.mpr c14
       subst c14
       have H1 : (some (([] : List (S75)),0,2)) = some (r1,r2,r3):=by rw [if_neg (show ¬ (false = true) by decide)] at H;exact H
       clear H
       have H:=H1
       clear H1
       simp only [Option.some.injEq,Prod.mk.injEq] at H
       obtain ⟨rfl,rfl,rfl⟩:=H
       go_wp2_with (first|((with_reducible refine gate_callee (f:=20) rfl ?_);refine goesL_ (some 50) rfl rfl Try.func20 (by kernel_rfl) rfl #[.string a0,.int .i64 x1_1,.int .i64 1] rfl (by (try simp only [List.map_toArray,List.map_cons,List.map_nil]);first|done|rfl|(simp only [List.length_drop,List.length_take];rfl)) ?_;(with_reducible refine (hornbeamref07_Get.calls k1 a0 x1_1 1 t507 t508 false _ A13.out).mono ?_);rintro e w' ⟨rfl,⟨nd,rfl⟩⟩;refine ⟨_,rfl,?_⟩))
       go_ret3
       exact ⟨_,by first|rfl|(simp [errW_none,errW_some] <;> rfl)|(simp [*,errW_none,errW_some] <;> rfl),by first|exact Kd.R_nil _ _ _ _ _|exact Kd.N_nil _ _ _ _ _|exact Kd.V_nil _ _ _ _ _|exact Kd.Q_nil _ _ _ _ _|exact Kd.S_nil _ _ _ _ _,by repeat(first|(with_reducible first|exact HB.out|apply below_alloc|apply pw_below_drewN|apply below_drew1)|exact HB.out)⟩
     ·rw [if_neg c12] at H
      have c12b0 : decide (x19_1 < t500) = false:=decide_eq_false c12
      clear c12
      replace H:=Option.bind_eq_some_iff.mp H
      obtain ⟨t506,A690,H⟩:=H
      replace H : (if t506 = true then (some (x17_1,x1_1,0)) else (some (([] : List (S75)),0,3))) = some (r1,r2,r3):=H
      have A69:=Aside0.mk A690
      clear A690
      by_cases c70 : t506 = true
      ·subst c70
       have H1 : (some (x17_1,x1_1,0)) = some (r1,r2,r3):=by rw [if_pos rfl] at H;exact H
       clear H
       have H:=H1
       clear H1
       simp only [Option.some.injEq,Prod.mk.injEq] at H
       obtain ⟨rfl,rfl,rfl⟩:=H
       obtain ⟨Ao71,co71,eo71⟩:=Kd.R_slice HO_17.out
       subst eo71
       go_wp2_with (first|((with_reducible refine gate_callee (f:=43) rfl ?_);refine goesL_ (some 132) rfl rfl Try.func43 (by kernel_rfl) rfl #[.slice Ao71 x17_1.length co71,.int .i64 a2,.int .i64 a3,.int .i64 a4,.int .i64 a5] rfl (by (try simp only [List.map_toArray,List.map_cons,List.map_nil]);first|done|rfl|(simp only [List.length_drop,List.length_take];rfl)) ?_;(with_reducible refine (hornbeamref18_Right.calls k1 _ _ x17_1 a2 a3 a4 a5 true _ ?side1 ?side2 A69.out).mono ?_);(case side1=>repeat(first|exact (Kd.R_reads' HO_17.out).2.2|(with_reducible refine Kd.C_alloc ?_ _)|(with_reducible refine Kd.C_drewN ?_ _)|(with_reducible refine Kd.C_drew ?_)));(case side2=>exact (Kd.R_reads' HO_17.out).2.1);rintro e w72 ⟨rfl,hb⟩;refine ⟨_,rfl,?_⟩;have n0_:=Aside0.mk (Kd.R_below (by (with_reducible repeat(first|apply Kd.R_alloc|apply Kd.R_drewN|apply Kd.R_drew));exact HO_17.out) hb);have n1_:=Aside0.mk (below_step (by repeat(first|(with_reducible first|exact HB.out|apply below_alloc|apply pw_below_drewN|apply below_drew1)|exact HB.out)) hb);clear HO_17;clear HB;have HO_17:=n0_;have HB:=n1_;clear n0_ n1_;(try clear hb);(try clear hb2);(try clear hk);(try clear hi)))
       go_ret3
       exact ⟨_,by first|rfl|(simp [errW_none,errW_some] <;> rfl)|(simp [*,errW_none,errW_some] <;> rfl),by (with_reducible repeat(first|apply Kd.R_alloc|apply Kd.R_drewN|apply Kd.R_drew));exact HO_17.out,by repeat(first|(with_reducible first|exact HB.out|apply below_alloc|apply pw_below_drewN|apply below_drew1)|exact HB.out)⟩
      ·replace c70:=Bool.eq_false_iff.mpr c70
       subst c70
       have H1 : (some (([] : List (S75)),0,3)) = some (r1,r2,r3):=by rw [if_neg (show ¬ (false = true) by decide)] at H;exact H
       clear H
       have H:=H1
       clear H1
       simp only [Option.some.injEq,Prod.mk.injEq] at H
       obtain ⟨rfl,rfl,rfl⟩:=H
       obtain ⟨Ao73,co73,eo73⟩:=Kd.R_slice HO_17.out
       subst eo73
       go_wp2_with (first|((with_reducible refine gate_callee (f:=43) rfl ?_);refine goesL_ (some 132) rfl rfl Try.func43 (by kernel_rfl) rfl #[.slice Ao73 x17_1.length co73,.int .i64 a2,.int .i64 a3,.int .i64 a4,.int .i64 a5] rfl (by (try simp only [List.map_toArray,List.map_cons,List.map_nil]);first|done|rfl|(simp only [List.length_drop,List.length_take];rfl)) ?_;(with_reducible refine (hornbeamref18_Right.calls k1 _ _ x17_1 a2 a3 a4 a5 false _ ?side1 ?side2 A69.out).mono ?_);(case side1=>repeat(first|exact (Kd.R_reads' HO_17.out).2.2|(with_reducible refine Kd.C_alloc ?_ _)|(with_reducible refine Kd.C_drewN ?_ _)|(with_reducible refine Kd.C_drew ?_)));(case side2=>exact (Kd.R_reads' HO_17.out).2.1);rintro e w74 ⟨rfl,hb⟩;refine ⟨_,rfl,?_⟩;have n0_:=Aside0.mk (Kd.R_below (by (with_reducible repeat(first|apply Kd.R_alloc|apply Kd.R_drewN|apply Kd.R_drew));exact HO_17.out) hb);have n1_:=Aside0.mk (below_step (by repeat(first|(with_reducible first|exact HB.out|apply below_alloc|apply pw_below_drewN|apply below_drew1)|exact HB.out)) hb);clear HO_17;clear HB;have HO_17:=n0_;have HB:=n1_;clear n0_ n1_;(try clear hb);(try clear hb2);(try clear hk);(try clear hi)))
       go_ret3
       exact ⟨_,by first|rfl|(simp [errW_none,errW_some] <;> rfl)|(simp [*,errW_none,errW_some] <;> rfl),by first|exact Kd.R_nil _ _ _ _ _|exact Kd.N_nil _ _ _ _ _|exact Kd.V_nil _ _ _ _ _|exact Kd.Q_nil _ _ _ _ _|exact Kd.S_nil _ _ _ _ _,by repeat(first|(with_reducible first|exact HB.out|apply below_alloc|apply pw_below_drewN|apply below_drew1)|exact HB.out)⟩
 ·replace c8:=Bool.eq_false_iff.mpr c8
  subst c8
  have H1 : (some (([] : List (S75)),0,2)) = some (r1,r2,r3):=by rw [if_neg (show ¬ (false = true) by decide)] at H;exact H
  clear H
  have H:=H1
  clear H1
  simp only [Option.some.injEq,Prod.mk.injEq] at H
  obtain ⟨rfl,rfl,rfl⟩:=H
  go_enter Try.func52,Try.ntmps52
  go_wp2_with (first|((with_reducible refine gate_callee (f:=20) rfl ?_);refine goesL_ (some 33) rfl rfl Try.func20 (by kernel_rfl) rfl #[.string a0,.int .i64 a1,.int .i64 4] rfl (by (try simp only [List.map_toArray,List.map_cons,List.map_nil]);first|done|rfl|(simp only [List.length_drop,List.length_take];rfl)) ?_;(with_reducible refine (hornbeamref07_Get.calls k a0 a1 4 t500 t501 false _ A7.out).mono ?_);rintro e w' ⟨rfl,⟨nd,rfl⟩⟩;refine ⟨_,rfl,?_⟩))
  go_ret3
  exact ⟨_,by first|rfl|(simp [errW_none,errW_some] <;> rfl)|(simp [*,errW_none,errW_some] <;> rfl),by first|exact Kd.R_nil _ _ _ _ _|exact Kd.N_nil _ _ _ _ _|exact Kd.V_nil _ _ _ _ _|exact Kd.Q_nil _ _ _ _ _|exact Kd.S_nil _ _ _ _ _,by repeat(first|(with_reducible first|exact HB.out|apply below_alloc|apply pw_below_drewN|apply below_drew1)|exact HB.out)⟩

end Go.Proofs.Ytebbnjgaikppgaa.PA
