/- The chapter's example of the laws on package bins, by a walk. -/
import Derived.Test.YtnagfbadjbkhmaaFRefOf
import Derived.Test.YtnagfbadjbkhmaaPBx7
namespace Go.Proofs.Ytnagfbadjbkhmaa.FFix11
open Go.RowKit Go.Shelf Go.Proofs.YtnagfbadjbkhmaaW.PrintWords Go.Proofs.YtnagfbadjbkhmaaW.PrintLast Go.Proofs.YtnagfbadjbkhmaaW.PrintMore Go.Proofs.Ytnagfbadjbkhmaa.Pure Go.Proofs.Ytnagfbadjbkhmaa.PB Go.Proofs.Ytnagfbadjbkhmaa.FRefOf
attribute [local go_sem high] Flt.run_bits Flt.run_frombits
set_option linter.unusedVariables false
set_option linter.unusedSimpArgs false
theorem made_f2 (W : World) (x y : Nat) : Kd.C Flt.kf (W.alloc (.cells #[.float .f64 x,.float .f64 y] 36)) (some ⟨W.heap.size,0,none⟩) 2 [x,y]:=by
 refine Kd.C_of_reads (enc:=Value.float .f64) (d:=0) (h1:=fun _=>rfl) ⟨rfl,by omega,fun _=>⟨_,rfl,fun j hj=>?_⟩⟩
 rw [add_plain,blk_cell (blk_new W _) j]
 have : j = 0 ∨ j = 1:=by omega
 rcases this with rfl|rfl <;> rfl
theorem made_f1 (W : World) (x : Nat) : Kd.C Flt.kf (W.alloc (.cells #[.float .f64 x] 36)) (some ⟨W.heap.size,0,none⟩) 1 [x]:=by
 refine Kd.C_of_reads (enc:=Value.float .f64) (d:=0) (h1:=fun _=>rfl) ⟨rfl,by omega,fun _=>⟨_,rfl,fun j hj=>?_⟩⟩
 rw [add_plain,blk_cell (blk_new W _) j]
 have : j = 0:=by omega
 subst this;rfl
theorem made_i2 (W : World) (x y : Int) : Kd.C (Kd.int .i64) (W.alloc (.cells #[.int .i64 x,.int .i64 y] 3)) (some ⟨W.heap.size,0,none⟩) 2 [x,y]:=by
 refine Kd.C_of_reads (enc:=Value.int .i64) (d:=0) (h1:=fun _=>rfl) ⟨rfl,by omega,fun _=>⟨_,rfl,fun j hj=>?_⟩⟩
 rw [add_plain,blk_cell (blk_new W _) j]
 have : j = 0 ∨ j = 1:=by omega
 rcases this with rfl|rfl <;> rfl
theorem made_u2 (W : World) (x y : Int) : Kd.C (Kd.int .u16) (W.alloc (.cells #[.int .u16 x,.int .u16 y] 53)) (some ⟨W.heap.size,0,none⟩) 2 [x,y]:=by
 refine Kd.C_of_reads (enc:=Value.int .u16) (d:=0) (h1:=fun _=>rfl) ⟨rfl,by omega,fun _=>⟨_,rfl,fun j hj=>?_⟩⟩
 rw [add_plain,blk_cell (blk_new W _) j]
 have : j = 0 ∨ j = 1:=by omega
 rcases this with rfl|rfl <;> rfl
theorem first_row {W : World} {A : Option Addr} {x : Nat} (h : Kd.C (Kd.slice 36 Flt.kf) W A 1 [[x]]) : ∃ ad Ae ce,A = some ad ∧ W.cell? ad = some (.slice Ae 1 ce) ∧ 1 ≤ ce ∧ Kd.C Flt.kf W Ae 1 [x]:=by
 obtain ⟨ad,Ae,ce,e,h1,h2,h3⟩:=PB.at_L7 h 0 (by decide) (by decide)
 rw [show ad.add (0 : Int).toNat = ad by cases ad with|mk b o q=>cases q <;> simp [Addr.add]] at h1
 exact ⟨ad,Ae,ce,e,h1,h2,h3⟩
theorem edges_is : bins_Edges.f 20 0 0 2 0 0 0 0 2 1 [4607182418800017408,4613937818241073152] [] = some [[4613937818241073152]]:=by decide +kernel
theorem of_is : bins_Of.f 60 0 0 2 0 0 0 0 2 1 [4607182418800017408,4613937818241073152] [] [[4613937818241073152]] = some (2,1,[1,2],0):=by decide +kernel
theorem turn_is : bins_Turn.f 60 2 1 [1,2] 0 [1,0] = some (2,1,[2,1],0):=by decide +kernel
theorem same6_is : hornbeamref06_Same.f 20 [4613937818241073152] [4613937818241073152] = some true:=by decide +kernel
theorem same1_is : hornbeamref11_Same.f 20 2 1 [1,2] 2 1 [1,2] = some true:=by decide +kernel
theorem same2_is : hornbeamref11_Same.f 20 2 1 [2,1] 2 1 [2,1] = some true:=by decide +kernel
set_option maxHeartbeats 4000000 in
set_option maxRecDepth 100000 in
theorem fixed_calls (w : World) : Calls Try.prog 25 #[] w fun e w'=>e = .returned (.bool true) ∧ Below w.heap.size w w':=by
 have hu:=Try.underlying32
 have hu2:=Try.underlying62
 go_enter Try.func25,Try.ntmps25
 go_wp2_with (fail)
 obtain ⟨W0,hW0⟩ : ∃ W0,(w.alloc (.cells #[.float .f64 4607182418800017408,.float .f64 4613937818241073152] 36)).alloc (.cells #[.int .i64 0,.int .i64 0,.int .i64 2,.int .i64 0,.int .i64 0,.int .i64 0,.int .i64 0,.int .i64 2,.int .i64 1,.slice (some ⟨w.heap.size,0,none⟩) 2 2,.slice none 0 0] 32) = W0:=⟨_,rfl⟩
 have H0:=Aside0.mk (show Kd.C Flt.kf W0 (some ⟨w.heap.size,0,none⟩) 2 [4607182418800017408,4613937818241073152] ∧ Dat W0 (w.heap.size + 1) 0 0 2 0 0 0 0 2 1 (.slice (some ⟨w.heap.size,0,none⟩) 2 2) (.slice none 0 0) ∧ Below w.heap.size w W0 from by
  rw [← hW0]
  refine ⟨Kd.C_below (made_f2 w 4607182418800017408 4613937818241073152) (below_alloc (Below.refl _ _) _),?_,below_alloc (below_alloc (Below.refl _ w) _) _⟩
  have:=blk_new (w.alloc (.cells #[.float .f64 4607182418800017408,.float .f64 4613937818241073152] 36)) (.cells #[.int .i64 0,.int .i64 0,.int .i64 2,.int .i64 0,.int .i64 0,.int .i64 0,.int .i64 0,.int .i64 2,.int .i64 1,.slice (some ⟨w.heap.size,0,none⟩) 2 2,.slice none 0 0] 32)
  rw [World.size_alloc] at this
  exact this)
 rw [hW0]
 clear hW0
 refine (bins_Edges.calls 20 0 0 2 0 0 0 0 2 1 (some ⟨w.heap.size,0,none⟩) 2 [4607182418800017408,4613937818241073152] none 0 [] [[4613937818241073152]] W0 H0.out.1 (by decide) (Kd.C_nil _ _) (by decide) edges_is).mono ?_
 rintro e w1 ⟨u1,rfl,hS1,hb⟩
 obtain ⟨A1,c1,rfl,hc1,hC1⟩:=Kd.S_reads hS1
 have H1:=Aside0.mk (show Kd.C Flt.kf w1 (some ⟨w.heap.size,0,none⟩) 2 [4607182418800017408,4613937818241073152] ∧ Dat w1 (w.heap.size + 1) 0 0 2 0 0 0 0 2 1 (.slice (some ⟨w.heap.size,0,none⟩) 2 2) (.slice none 0 0) ∧ Below w.heap.size w w1 from ⟨Kd.C_below H0.out.1 hb,blk_below H0.out.2.1 hb,below_step H0.out.2.2 hb⟩)
 have HE1:=Aside0.mk (And.intro hc1 hC1)
 clear hS1 hc1 hC1 hb H0
 have q0:=H1.out.2.1.c0
 have q1:=H1.out.2.1.c1
 have q2:=H1.out.2.1.c2
 have q3:=H1.out.2.1.c3
 have q4:=H1.out.2.1.c4
 have q5:=H1.out.2.1.c5
 have q6:=H1.out.2.1.c6
 have q7:=H1.out.2.1.c7
 have q8:=H1.out.2.1.c8
 have q9:=H1.out.2.1.c9
 have q10:=H1.out.2.1.c10
 go_wp2_with (fail)
 clear q0 q1 q2 q3 q4 q5 q6 q7 q8 q9 q10
 refine (bins_Of.calls 60 0 0 2 0 0 0 0 2 1 (some ⟨w.heap.size,0,none⟩) 2 [4607182418800017408,4613937818241073152] none 0 [] A1 c1 [[4613937818241073152]] 2 1 [1,2] 0 _ H1.out.1 (by decide) (Kd.C_nil _ _) (by decide) HE1.out.2 HE1.out.1 of_is).mono ?_
 rintro e w2 ⟨u2,rfl,hR2,hb⟩
 obtain ⟨Am,cm,rfl,hcm,hCm⟩:=Kd.R_reads hR2
 have HM2:=Aside0.mk (show 2 ≤ cm ∧ Kd.C (Kd.int .u16) w2 Am 2 [1,2] ∧ Kd.C (Kd.slice 36 Flt.kf) w2 A1 1 [[4613937818241073152]] ∧ Below w.heap.size w w2 from ⟨hcm,hCm,Kd.C_below HE1.out.2 hb,below_step H1.out.2.2 hb⟩)
 clear hR2 hcm hCm hb H1
 go_wp2_with (first|((with_reducible refine gate_dst (N:=3) rfl ?_);(try (refine gate_guard (by rfl) ?_;dsimp only));refine box_event ?hg (N:=3) ?hd (cs:=#[.int .i64 0,.int .i64 0,.slice none 0 0]) (t:=62) ?hr ?_;(case hd=>rfl);(case hg=>rfl);(case hr=>first|(go_simp;done)|(go_simp;rfl));intro gm hgm w3 hbox hbb;have HX1:=Aside0.mk (show w3.heap[gm]? = some (.cells #[.int .i64 0,.int .i64 0,.slice none 0 0] 62 (0,0)) ∧ w2.heap.size ≤ gm ∧ Below w2.heap.size w2 w3 from ⟨hbox,by rw [hgm];exact Nat.le_refl _,hbb⟩);clear hgm hbox hbb)|((with_reducible refine gate_store (t:=62) (p:=3) rfl ?_);refine FStore.store_all gm 62 62 3 _ #[.int .i64 0,.int .i64 0,.slice none 0 0] #[.int .i64 2,.int .i64 1,.slice Am 2 cm] rfl rfl rfl rfl rfl HX1.out.1 (by kernel_rfl) rfl (by simp [Value.oneCell']) ?_;intro w4 hb9 hB9 hk9;have hbl:=hB9 _ _ HX1.out.2.1 HX1.out.2.2;have HM4:=Aside0.mk (show 2 ≤ cm ∧ Kd.C (Kd.int .u16) w4 Am 2 [1,2] ∧ Mat w4 gm 2 1 (.slice Am 2 cm) ∧ Kd.C (Kd.slice 36 Flt.kf) w4 A1 1 [[4613937818241073152]] ∧ Below w.heap.size w w4 from ⟨HM2.out.1,Kd.C_below HM2.out.2.1 hbl,hb9,Kd.C_below HM2.out.2.2.1 hbl,below_step HM2.out.2.2.2 hbl⟩);have m0:=HM4.out.2.2.1.c0;have m1:=HM4.out.2.2.1.c1;have m2:=HM4.out.2.2.1.c2;clear hb9 hB9 hk9 hbl HX1))
 clear m0 m1 m2 HM2
 obtain ⟨W5,hW5⟩ : ∃ W5,w4.alloc (.cells #[.int .i64 1,.int .i64 0] 3) = W5:=⟨_,rfl⟩
 have H5:=Aside0.mk (show Kd.C (Kd.int .i64) W5 (some ⟨w4.heap.size,0,none⟩) 2 [1,0] ∧ Below w4.heap.size w4 W5 from by rw [← hW5];exact ⟨made_i2 w4 1 0,below_alloc (Below.refl _ _) _⟩)
 rw [hW5]
 clear hW5
 refine (bins_Turn.calls 60 2 1 Am cm [1,2] 0 (some ⟨w4.heap.size,0,none⟩) 2 [1,0] 2 1 [2,1] 0 W5 (Kd.C_below HM4.out.2.1 H5.out.2) HM4.out.1 H5.out.1 (by decide) turn_is).mono ?_
 rintro e w6 ⟨u6,rfl,hR6,hb⟩
 obtain ⟨An,cn,rfl,hcn,hCn⟩:=Kd.R_reads hR6
 have HM6:=Aside0.mk (show (2 ≤ cm ∧ Kd.C (Kd.int .u16) w6 Am 2 [1,2] ∧ Mat w6 gm 2 1 (.slice Am 2 cm)) ∧ (2 ≤ cn ∧ Kd.C (Kd.int .u16) w6 An 2 [2,1]) ∧ Kd.C (Kd.slice 36 Flt.kf) w6 A1 1 [[4613937818241073152]] ∧ Below w.heap.size w w6 from by
  have h1:=below_step H5.out.2 hb
  exact ⟨⟨HM4.out.1,Kd.C_below HM4.out.2.1 h1,blk_below HM4.out.2.2.1 h1⟩,⟨hcn,hCn⟩,Kd.C_below HM4.out.2.2.2.1 h1,below_step HM4.out.2.2.2.2 h1⟩)
 clear hR6 hcn hCn hb H5 HM4
 go_wp2_with (first|((with_reducible refine gate_dst (N:=5) rfl ?_);(try (refine gate_guard (by rfl) ?_;dsimp only));refine box_event ?hg (N:=5) ?hd (cs:=#[.int .i64 0,.int .i64 0,.slice none 0 0]) (t:=62) ?hr ?_;(case hd=>rfl);(case hg=>rfl);(case hr=>first|(go_simp;done)|(go_simp;rfl));intro gn hgm w7 hbox hbb;have HX2:=Aside0.mk (show w7.heap[gn]? = some (.cells #[.int .i64 0,.int .i64 0,.slice none 0 0] 62 (0,0)) ∧ w6.heap.size ≤ gn ∧ Below w6.heap.size w6 w7 from ⟨hbox,by rw [hgm];exact Nat.le_refl _,hbb⟩);clear hgm hbox hbb)|((with_reducible refine gate_store (t:=62) (p:=5) rfl ?_);refine FStore.store_all gn 62 62 5 _ #[.int .i64 0,.int .i64 0,.slice none 0 0] #[.int .i64 2,.int .i64 1,.slice An 2 cn] rfl rfl rfl rfl rfl HX2.out.1 (by kernel_rfl) rfl (by simp [Value.oneCell']) ?_;intro w8 hb9 hB9 hk9;have hbl:=hB9 _ _ HX2.out.2.1 HX2.out.2.2;have HM8:=Aside0.mk (show (2 ≤ cm ∧ Kd.C (Kd.int .u16) w8 Am 2 [1,2] ∧ Mat w8 gm 2 1 (.slice Am 2 cm)) ∧ (2 ≤ cn ∧ Kd.C (Kd.int .u16) w8 An 2 [2,1] ∧ Mat w8 gn 2 1 (.slice An 2 cn)) ∧ Kd.C (Kd.slice 36 Flt.kf) w8 A1 1 [[4613937818241073152]] ∧ Below w.heap.size w w8 from ⟨⟨HM6.out.1.1,Kd.C_below HM6.out.1.2.1 hbl,blk_below HM6.out.1.2.2 hbl⟩,⟨HM6.out.2.1.1,Kd.C_below HM6.out.2.1.2 hbl,hb9⟩,Kd.C_below HM6.out.2.2.1 hbl,below_step HM6.out.2.2.2 hbl⟩);obtain ⟨ad,Ae,ce,hea,hex,hec,heC⟩:=first_row HM8.out.2.2.1;cases hea;have hex0 : w8.cell? (ad.add 0) = some (.slice Ae 1 ce):=(by rw [show ad.add 0 = ad by cases ad with|mk b o q=>cases q <;> simp [Addr.add]];exact hex);have HEC:=Aside0.mk (And.intro hec heC);clear hec heC;clear hb9 hB9 hk9 hbl HX2))
 clear HM6 hex hex0
 obtain ⟨W9,hW9⟩ : ∃ W9,w8.alloc (.cells #[.float .f64 4613937818241073152] 36) = W9:=⟨_,rfl⟩
 have H9:=Aside0.mk (show Kd.C Flt.kf W9 (some ⟨w8.heap.size,0,none⟩) 1 [4613937818241073152] ∧ Below w8.heap.size w8 W9 from by rw [← hW9];exact ⟨made_f1 w8 _,below_alloc (Below.refl _ _) _⟩)
 rw [hW9]
 clear hW9
 refine (hornbeamref06_Same.calls 20 Ae ce [4613937818241073152] (some ⟨w8.heap.size,0,none⟩) 1 [4613937818241073152] true W9 (Kd.C_below HEC.out.2 H9.out.2) HEC.out.1 H9.out.1 (by decide) same6_is).mono ?_
 rintro e w10 ⟨rfl,hb⟩
 have hbl:=below_step H9.out.2 hb
 have HM10:=Aside0.mk (show (2 ≤ cm ∧ Kd.C (Kd.int .u16) w10 Am 2 [1,2] ∧ Mat w10 gm 2 1 (.slice Am 2 cm)) ∧ (2 ≤ cn ∧ Kd.C (Kd.int .u16) w10 An 2 [2,1] ∧ Mat w10 gn 2 1 (.slice An 2 cn)) ∧ Below w.heap.size w w10 from ⟨⟨HM8.out.1.1,Kd.C_below HM8.out.1.2.1 hbl,blk_below HM8.out.1.2.2 hbl⟩,⟨HM8.out.2.1.1,Kd.C_below HM8.out.2.1.2.1 hbl,blk_below HM8.out.2.1.2.2 hbl⟩,below_step HM8.out.2.2.2 hbl⟩)
 clear hb hbl H9 HM8 HEC
 have m0:=HM10.out.1.2.2.c0
 have m1:=HM10.out.1.2.2.c1
 have m2:=HM10.out.1.2.2.c2
 go_wp2_with (fail)
 clear m0 m1 m2
 obtain ⟨W11,hW11⟩ : ∃ W11,w10.alloc (.cells #[.int .u16 1,.int .u16 2] 53) = W11:=⟨_,rfl⟩
 have H11:=Aside0.mk (show Kd.C (Kd.int .u16) W11 (some ⟨w10.heap.size,0,none⟩) 2 [1,2] ∧ Below w10.heap.size w10 W11 from by rw [← hW11];exact ⟨made_u2 w10 _ _,below_alloc (Below.refl _ _) _⟩)
 rw [hW11]
 clear hW11
 refine (hornbeamref11_Same.calls 20 2 1 Am cm [1,2] 2 1 (some ⟨w10.heap.size,0,none⟩) 2 [1,2] true W11 (Kd.C_below HM10.out.1.2.1 H11.out.2) HM10.out.1.1 H11.out.1 (by decide) same1_is).mono ?_
 rintro e w12 ⟨rfl,hb⟩
 have hbl:=below_step H11.out.2 hb
 have HM12:=Aside0.mk (show (2 ≤ cn ∧ Kd.C (Kd.int .u16) w12 An 2 [2,1] ∧ Mat w12 gn 2 1 (.slice An 2 cn)) ∧ Below w.heap.size w w12 from ⟨⟨HM10.out.2.1.1,Kd.C_below HM10.out.2.1.2.1 hbl,blk_below HM10.out.2.1.2.2 hbl⟩,below_step HM10.out.2.2 hbl⟩)
 clear hb hbl H11 HM10
 have m0:=HM12.out.1.2.2.c0
 have m1:=HM12.out.1.2.2.c1
 have m2:=HM12.out.1.2.2.c2
 go_wp2_with (fail)
 clear m0 m1 m2
 obtain ⟨W13,hW13⟩ : ∃ W13,w12.alloc (.cells #[.int .u16 2,.int .u16 1] 53) = W13:=⟨_,rfl⟩
 have H13:=Aside0.mk (show Kd.C (Kd.int .u16) W13 (some ⟨w12.heap.size,0,none⟩) 2 [2,1] ∧ Below w12.heap.size w12 W13 from by rw [← hW13];exact ⟨made_u2 w12 _ _,below_alloc (Below.refl _ _) _⟩)
 rw [hW13]
 clear hW13
 refine (hornbeamref11_Same.calls 20 2 1 An cn [2,1] 2 1 (some ⟨w12.heap.size,0,none⟩) 2 [2,1] true W13 (Kd.C_below HM12.out.1.2.1 H13.out.2) HM12.out.1.1 H13.out.1 (by decide) same2_is).mono ?_
 rintro e w14 ⟨rfl,hb⟩
 have HB:=Aside0.mk (below_step HM12.out.2 (below_step H13.out.2 hb))
 clear hb H13 HM12
 go_wp2
 go_ret
 exact ⟨rfl,HB.out⟩
end Go.Proofs.Ytnagfbadjbkhmaa.FFix11
