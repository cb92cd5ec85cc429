import Derived.Test.YtnagfbadjbkhmaaPBx0
namespace Go.Proofs.Ytnagfbadjbkhmaa.PB
open Go.RowKit Go.Proofs.YtnagfbadjbkhmaaW.PrintWords Go.Proofs.YtnagfbadjbkhmaaW.PrintLast Go.Proofs.YtnagfbadjbkhmaaW.PrintMore
attribute [local go_sem] max2_int min2_int max_two min_two max_three min_three max_four min_four   -- for this text's walks alone
attribute [local go_sem high] Flt.fold_eq Flt.fold_ne Flt.fold_lt Flt.fold_gt Flt.fold_le Flt.fold_ge Flt.run_bits Flt.run_frombits
set_option linter.unusedVariables false
set_option linter.unusedSimpArgs false

/-! ### hornbeamlaw09_Great: function 12 -/
def hornbeamlaw09_Great.f (a0_0 : Int) (a0_1 : Int) (a0_2 : Int) (a0_3 : Int) (a0_4 : Int) (a0_5 : Int) (a0_6 : Int) (a0_7 : Int) (a0_8 : Int) (l0_9 : List Int) (l0_10 : List Int) : Option (Bool):=if (l0_9.length : Int) > 500 then (some true) else (some (decide ((l0_10.length : Int) > 200)))
set_option maxHeartbeats 8000000 in
set_option maxRecDepth 100000 in
theorem hornbeamlaw09_Great.calls (a0_0 : Int) (a0_1 : Int) (a0_2 : Int) (a0_3 : Int) (a0_4 : Int) (a0_5 : Int) (a0_6 : Int) (a0_7 : Int) (a0_8 : Int) (A0_9 : Option Addr) (c0_9 : Nat) (l0_9 : List Int) (A0_10 : Option Addr) (c0_10 : Nat) (l0_10 : List Int) (r : Bool) (w : World) (hr0_9 : Kd.C (Kd.int .u64) w A0_9 l0_9.length l0_9) (hc0_9 : l0_9.length ≤ c0_9) (hr0_10 : Kd.C (Kd.int .i64) w A0_10 l0_10.length l0_10) (hc0_10 : l0_10.length ≤ c0_10) (h : hornbeamlaw09_Great.f a0_0 a0_1 a0_2 a0_3 a0_4 a0_5 a0_6 a0_7 a0_8 l0_9 l0_10 = some r) :
  Calls Try.prog 12 #[.agg #[.int .i64 a0_0,.int .i64 a0_1,.int .i64 a0_2,.int .i64 a0_3,.int .i64 a0_4,.int .i64 a0_5,.int .i64 a0_6,.int .i64 a0_7,.int .i64 a0_8,.slice A0_9 l0_9.length c0_9,.slice A0_10 l0_10.length c0_10]] w fun e w'=>e = .returned (.bool r) ∧ Below w.heap.size w w':=by
 have hu27:=Try.underlying27
 have HR0_9:=Aside0.mk hr0_9
 have HC0_9:=Aside0.mk hc0_9
 clear hr0_9 hc0_9
 have HR0_10:=Aside0.mk hr0_10
 have HC0_10:=Aside0.mk hc0_10
 clear hr0_10 hc0_10
 have HB:=Aside0.mk (Below.refl w.heap.size w)
 have H : (if (l0_9.length : Int) > 500 then (some true) else (some (decide ((l0_10.length : Int) > 200)))) = some r:=h
 clear h
 by_cases c2 : (l0_9.length : Int) > 500
 ·rw [if_pos c2] at H
  have c2b0 : decide (500 < (l0_9.length : Int)) = true:=decide_eq_true c2
  have c2b1 : decide (500 < l0_9.length) = true:=decide_eq_true (by omega)
  clear c2
  obtain rfl:=Option.some.inj H
  go_enter Try.func12,Try.ntmps12
  go_wp2_with (first|((with_reducible refine gate_dst (N:=1) rfl ?_);refine box_event ?hg (N:=1) ?hd (cs:=#[.int .i64 a0_0,.int .i64 a0_1,.int .i64 a0_2,.int .i64 a0_3,.int .i64 a0_4,.int .i64 a0_5,.int .i64 a0_6,.int .i64 a0_7,.int .i64 a0_8,.slice A0_9 l0_9.length c0_9,.slice A0_10 l0_10.length c0_10]) (t:=27) ?hr ?_;(case hd=>rfl);(case hg=>rfl);(case hr=>first|(go_simp;done)|(go_simp;rfl));intro gb101 hg w3 hbox hb;have n0_:=Aside0.mk (below_step (by repeat(first|(with_reducible first|exact HB.out|apply below_alloc|apply pw_below_drewN|apply below_drew1)|exact HB.out)) hb);have n1_:=Aside0.mk (hbox);have n2_:=Aside0.mk ((by rw [hg];exact (below_size (by repeat(first|(with_reducible first|exact HB.out|apply below_alloc|apply pw_below_drewN|apply below_drew1)|exact HB.out))) : w.heap.size ≤ gb101));have n3_:=Aside0.mk ((by rw [hg];exact (below_size (by repeat(first|(with_reducible first|exact HB.out|apply below_alloc|apply pw_below_drewN|apply below_drew1)|exact HB.out))) : w.heap.size ≤ gb101));clear HB;have HB:=n0_;have BK101:=n1_;have GW101:=n2_;have GE101:=n3_;clear n0_ n1_ n2_ n3_;clear hb hbox hg;have hcz4_0 : w3.cell? ⟨gb101,0,none⟩ = some (.int .i64 a0_0):=(blk_cell BK101.out 0).trans rfl;have hcz4_1 : w3.cell? ⟨gb101,1,none⟩ = some (.int .i64 a0_1):=(blk_cell BK101.out 1).trans rfl;have hcz4_2 : w3.cell? ⟨gb101,2,none⟩ = some (.int .i64 a0_2):=(blk_cell BK101.out 2).trans rfl;have hcz4_3 : w3.cell? ⟨gb101,3,none⟩ = some (.int .i64 a0_3):=(blk_cell BK101.out 3).trans rfl;have hcz4_4 : w3.cell? ⟨gb101,4,none⟩ = some (.int .i64 a0_4):=(blk_cell BK101.out 4).trans rfl;have hcz4_5 : w3.cell? ⟨gb101,5,none⟩ = some (.int .i64 a0_5):=(blk_cell BK101.out 5).trans rfl;have hcz4_6 : w3.cell? ⟨gb101,6,none⟩ = some (.int .i64 a0_6):=(blk_cell BK101.out 6).trans rfl;have hcz4_7 : w3.cell? ⟨gb101,7,none⟩ = some (.int .i64 a0_7):=(blk_cell BK101.out 7).trans rfl;have hcz4_8 : w3.cell? ⟨gb101,8,none⟩ = some (.int .i64 a0_8):=(blk_cell BK101.out 8).trans rfl;have hcz4_9 : w3.cell? ⟨gb101,9,none⟩ = some (.slice A0_9 l0_9.length c0_9):=(blk_cell BK101.out 9).trans rfl;have hcz4_10 : w3.cell? ⟨gb101,10,none⟩ = some (.slice A0_10 l0_10.length c0_10):=(blk_cell BK101.out 10).trans rfl;have hfz4_0:=blk_frozen BK101.out 0;have hfz4_1:=blk_frozen BK101.out 1;have hfz4_2:=blk_frozen BK101.out 2;have hfz4_3:=blk_frozen BK101.out 3;have hfz4_4:=blk_frozen BK101.out 4;have hfz4_5:=blk_frozen BK101.out 5;have hfz4_6:=blk_frozen BK101.out 6;have hfz4_7:=blk_frozen BK101.out 7;have hfz4_8:=blk_frozen BK101.out 8;have hfz4_9:=blk_frozen BK101.out 9;have hfz4_10:=blk_frozen BK101.out 10))
  go_ret
  exact ⟨by first|rfl|(simp [errW_none,errW_some] <;> rfl)|(simp [*,errW_none,errW_some] <;> rfl),by repeat(first|(with_reducible first|exact HB.out|apply below_alloc|apply pw_below_drewN|apply below_drew1|refine below_set ?_ GE101.out)|exact HB.out)⟩
 ·rw [if_neg c2] at H
  have c2b0 : decide (500 < (l0_9.length : Int)) = false:=decide_eq_false c2
  have c2b1 : decide (500 < l0_9.length) = false:=decide_eq_false (by omega)
  clear c2
  obtain rfl:=Option.some.inj H
  go_enter Try.func12,Try.ntmps12
  go_wp2_with (first|((with_reducible refine gate_dst (N:=1) rfl ?_);refine box_event ?hg (N:=1) ?hd (cs:=#[.int .i64 a0_0,.int .i64 a0_1,.int .i64 a0_2,.int .i64 a0_3,.int .i64 a0_4,.int .i64 a0_5,.int .i64 a0_6,.int .i64 a0_7,.int .i64 a0_8,.slice A0_9 l0_9.length c0_9,.slice A0_10 l0_10.length c0_10]) (t:=27) ?hr ?_;(case hd=>rfl);(case hg=>rfl);(case hr=>first|(go_simp;done)|(go_simp;rfl));intro gb101 hg w5 hbox hb;have n0_:=Aside0.mk (below_step (by repeat(first|(with_reducible first|exact HB.out|apply below_alloc|apply pw_below_drewN|apply below_drew1)|exact HB.out)) hb);have n1_:=Aside0.mk (hbox);have n2_:=Aside0.mk ((by rw [hg];exact (below_size (by repeat(first|(with_reducible first|exact HB.out|apply below_alloc|apply pw_below_drewN|apply below_drew1)|exact HB.out))) : w.heap.size ≤ gb101));have n3_:=Aside0.mk ((by rw [hg];exact (below_size (by repeat(first|(with_reducible first|exact HB.out|apply below_alloc|apply pw_below_drewN|apply below_drew1)|exact HB.out))) : w.heap.size ≤ gb101));clear HB;have HB:=n0_;have BK101:=n1_;have GW101:=n2_;have GE101:=n3_;clear n0_ n1_ n2_ n3_;clear hb hbox hg;have hcz6_0 : w5.cell? ⟨gb101,0,none⟩ = some (.int .i64 a0_0):=(blk_cell BK101.out 0).trans rfl;have hcz6_1 : w5.cell? ⟨gb101,1,none⟩ = some (.int .i64 a0_1):=(blk_cell BK101.out 1).trans rfl;have hcz6_2 : w5.cell? ⟨gb101,2,none⟩ = some (.int .i64 a0_2):=(blk_cell BK101.out 2).trans rfl;have hcz6_3 : w5.cell? ⟨gb101,3,none⟩ = some (.int .i64 a0_3):=(blk_cell BK101.out 3).trans rfl;have hcz6_4 : w5.cell? ⟨gb101,4,none⟩ = some (.int .i64 a0_4):=(blk_cell BK101.out 4).trans rfl;have hcz6_5 : w5.cell? ⟨gb101,5,none⟩ = some (.int .i64 a0_5):=(blk_cell BK101.out 5).trans rfl;have hcz6_6 : w5.cell? ⟨gb101,6,none⟩ = some (.int .i64 a0_6):=(blk_cell BK101.out 6).trans rfl;have hcz6_7 : w5.cell? ⟨gb101,7,none⟩ = some (.int .i64 a0_7):=(blk_cell BK101.out 7).trans rfl;have hcz6_8 : w5.cell? ⟨gb101,8,none⟩ = some (.int .i64 a0_8):=(blk_cell BK101.out 8).trans rfl;have hcz6_9 : w5.cell? ⟨gb101,9,none⟩ = some (.slice A0_9 l0_9.length c0_9):=(blk_cell BK101.out 9).trans rfl;have hcz6_10 : w5.cell? ⟨gb101,10,none⟩ = some (.slice A0_10 l0_10.length c0_10):=(blk_cell BK101.out 10).trans rfl;have hfz6_0:=blk_frozen BK101.out 0;have hfz6_1:=blk_frozen BK101.out 1;have hfz6_2:=blk_frozen BK101.out 2;have hfz6_3:=blk_frozen BK101.out 3;have hfz6_4:=blk_frozen BK101.out 4;have hfz6_5:=blk_frozen BK101.out 5;have hfz6_6:=blk_frozen BK101.out 6;have hfz6_7:=blk_frozen BK101.out 7;have hfz6_8:=blk_frozen BK101.out 8;have hfz6_9:=blk_frozen BK101.out 9;have hfz6_10:=blk_frozen BK101.out 10))
  go_ret
  exact ⟨by first|rfl|(simp [errW_none,errW_some] <;> rfl)|(simp [*,errW_none,errW_some] <;> rfl),by repeat(first|(with_reducible first|exact HB.out|apply below_alloc|apply pw_below_drewN|apply below_drew1|refine below_set ?_ GE101.out)|exact HB.out)⟩

/-- What is left to prove of hornbeamlaw09_Great. -/
def hornbeamlaw09_Great.Pure : Prop:=∀ (a0_0 : Int) (a0_1 : Int) (a0_2 : Int) (a0_3 : Int) (a0_4 : Int) (a0_5 : Int) (a0_6 : Int) (a0_7 : Int) (a0_8 : Int) (l0_9 : List Int) (l0_10 : List Int),((((((Lit.int .i64 a0_0).wf = true) ∧ (((Lit.int .i64 a0_1).wf = true) ∧ (((Lit.int .i64 a0_2).wf = true) ∧ (((Lit.int .i64 a0_3).wf = true) ∧ (((Lit.int .i64 a0_4).wf = true) ∧ (((Lit.int .i64 a0_5).wf = true) ∧ ((Lit.int .i64 a0_6).wf = true)))))))) ∧ (((Lit.int .i64 a0_7).wf = true) ∧ (((Lit.int .i64 a0_8).wf = true) ∧ (((l0_9.length ≤ 9223372036854775807 ∧ l0_9.length * 8 ≤ 140737488351232 ∧ ∀ x ∈ l0_9,(Lit.int .u64 x).wf = true)) ∧ ((l0_10.length ≤ 9223372036854775807 ∧ l0_10.length * 8 ≤ 140737488351232 ∧ ∀ x ∈ l0_10,(Lit.int .i64 x).wf = true))))))) → hornbeamlaw09_Great.f a0_0 a0_1 a0_2 a0_3 a0_4 a0_5 a0_6 a0_7 a0_8 l0_9 l0_10 = some true


/-! ### hornbeamref06_Of: function 28 -/
def hornbeamref06_Of.l0 : Nat → List Int → List Nat → Int → Option (List Nat)
 | 0,_,_,_=>none
 | k + 1,x0,x3,x4=>if x4 < (x0.length : Int) then (if 0 ≤ x4 then (if x3.length < 17592186044416 then (hornbeamref06_Of.l0 k x0 (x3 ++ [Flt.fbits (rd x0 x4)]) (wrap64 (x4 + 1))) else (none)) else (none)) else (some x3)
def hornbeamref06_Of.f (k : Nat) (l0 : List Int) : Option (List Nat):=hornbeamref06_Of.l0 k l0 (([] : List Nat)) 0
theorem hornbeamref06_Of.mono_l : ∀ k,(∀ y0 y1 y2,LeO (hornbeamref06_Of.l0 k y0 y1 y2) (hornbeamref06_Of.l0 (k + 1) y0 y1 y2))
 | 0=>fun _ _ _ r h=>by simp [hornbeamref06_Of.l0] at h
 | k + 1=>by
  have ih0:=hornbeamref06_Of.mono_l k
  ·intro y0 y1 y2
   unfold hornbeamref06_Of.l0
   repeat' first
   | (with_reducible exact ih0 _ _ _)
   | (with_reducible exact LeO.refl _)
   | (with_reducible exact LeO.none _)
   | (with_reducible refine LeO.ite ?_ ?_)
   | (with_reducible refine LeO.bind ?_ (fun _=>?_))
   | exact ih0 _ _ _
   | exact LeO.none _
   | refine LeO.ite ?_ ?_
   | refine LeO.bind ?_ (fun _=>?_)
theorem hornbeamref06_Of.mono : ∀ a0 k,LeO (hornbeamref06_Of.f k a0) (hornbeamref06_Of.f (k + 1) a0):=by
 intro a0 k
 have ih0:=hornbeamref06_Of.mono_l k
 unfold hornbeamref06_Of.f
 repeat' first
   | (with_reducible exact ih0 _ _ _)
   | (with_reducible exact LeO.refl _)
   | (with_reducible exact LeO.none _)
   | (with_reducible refine LeO.ite ?_ ?_)
   | (with_reducible refine LeO.bind ?_ (fun _=>?_))
   | exact ih0 _ _ _
   | exact LeO.none _
   | refine LeO.ite ?_ ?_
   | refine LeO.bind ?_ (fun _=>?_)
set_option maxHeartbeats 8000000 in
set_option maxRecDepth 100000 in
theorem hornbeamref06_Of.calls (k : Nat) (A0 : Option Addr) (c0 : Nat) (l0 : List Int) (r : List Nat) (w : World) (hr0 : Kd.C (Kd.int .u64) w A0 l0.length l0) (hc0 : l0.length ≤ c0) (h : hornbeamref06_Of.f k l0 = some r) :
  Calls Try.prog 28 #[.slice A0 l0.length c0] w fun e w'=>∃ v0_ : Value,e = .returned (v0_) ∧ Kd.R Flt.kf 36 w' w.heap.size (fun _=>True) v0_ r ∧ Below w.heap.size w w':=by
 have HR0:=Aside0.mk hr0
 have HC0:=Aside0.mk hc0
 clear hr0 hc0
 have HB:=Aside0.mk (Below.refl w.heap.size w)
 have H : (hornbeamref06_Of.l0 k l0 (([] : List Nat)) 0) = some r:=h
 clear h
 obtain ⟨y102,hy102⟩ : ∃ y_ : List Nat,y_ = (([] : List Nat)):=⟨_,rfl⟩
 replace H : (hornbeamref06_Of.l0 k l0 y102 0) = some r:=by first|(rw [hy102];with_reducible exact H)|(have H2_:=(Option.bind_some _ _).symm.trans H;rw [hy102];with_reducible exact H2_)|(have H2_:=(Option.bind_some _ _).symm.trans H;with_reducible exact H2_)|with_reducible exact H|(rw [hy102];exact H)|exact H
 have Ny102:=Aside0.mk hy102
 clear hy102
 have H':=Aside0.mk H
 clear H
 go_enter Try.func28,Try.ntmps28
 go_wp2_with (first|((with_reducible refine gate_dst (N:=5) rfl ?_);refine Kd.R_lit Flt.kf _ 36 ?hg (N:=5) ?hd (xs:=([] : List Nat)) (inner:=[]) (ok:=fun _=>True) (okp:=fun _=>True) ?hr ?hp (fun _ hk=>hk) trivial (Below.refl _ _) (Nat.le_refl _) (by simp) ?_;(case hd=>rfl);(case hg=>rfl);(case hr=>first|(go_simp;done)|(go_simp;rfl));(case hp=>exact (Reps.none _ _));intro v103 w2 ho3 hb hg_ hnew_;clear hg_ hnew_;(first|rw [← Ny102.out] at ho3|(simp only [Int.reduceToNat] at ho3;rw [← Ny102.out] at ho3));have n0_:=Aside0.mk (Kd.R_lower ho3 (below_size (by repeat(first|(with_reducible first|exact HB.out|apply below_alloc|apply pw_below_drewN|apply below_drew1)|exact HB.out))));have n1_:=Aside0.mk (below_step (by repeat(first|(with_reducible first|exact HB.out|apply below_alloc|apply pw_below_drewN|apply below_drew1)|exact HB.out)) hb);clear HB;have HO104:=n0_;have HB:=n1_;clear n0_ n1_;clear hb ho3))
 go_loopg [3,4] k (fun kq v3 v4 w'=>∃ (x3_1 : List Nat) (x4_1 : Int),v4 = .int .i64 x4_1 ∧ Aside0 (hornbeamref06_Of.l0 kq l0 x3_1 x4_1 = some r) ∧ Aside0 (kq ≤ k) ∧ Aside0 (Kd.R Flt.kf 36 w' w.heap.size (fun _=>True) v3 x3_1) ∧ Aside0 (Below w.heap.size w w'))
 case atStart=>exact ⟨(y102),(0),(by first|rfl|(simp;done)|(simp [*];done)),H',⟨Nat.le_refl _⟩,⟨by (with_reducible repeat(first|apply Kd.R_alloc|apply Kd.R_drewN|apply Kd.R_drew));exact HO104.out⟩,⟨by repeat(first|(with_reducible first|exact HB.out|apply below_alloc|apply pw_below_drewN|apply below_drew1)|exact HB.out)⟩⟩
 case round =>
  clear H'
  try clear c2
  try clear p2
  obtain ⟨x3_1,x4_1,rfl,HA,HK1,HO_3,HB⟩:=hrel
  cases gk with
  | zero=>exact absurd HA.out (by simp [hornbeamref06_Of.l0])
  | succ k1 =>
   have H:=HA.out
   clear HA
   simp only [hornbeamref06_Of.l0] at H
   by_cases c4 : x4_1 < (l0.length : Int)
   ·rw [if_pos c4] at H
    have c4b0 : decide (x4_1 < (l0.length : Int)) = true:=decide_eq_true c4
    clear c4
    by_cases c5 : 0 ≤ x4_1
    ·rw [if_pos c5] at H
     have c5b0 : decide (0 ≤ x4_1) = true:=decide_eq_true c5
     clear c5
     by_cases c6 : x3_1.length < 17592186044416
     ·rw [if_pos c6] at H
      have LMc6:=Aside0.mk c6
      clear c6
      obtain ⟨y106,hy106⟩ : ∃ y_ : List Nat,y_ = (x3_1 ++ [Flt.fbits (rd l0 x4_1)]):=⟨_,rfl⟩
      replace H : (hornbeamref06_Of.l0 k1 l0 y106 (wrap64 (x4_1 + 1))) = some r:=by first|(rw [hy106];with_reducible exact H)|(have H2_:=(Option.bind_some _ _).symm.trans H;rw [hy106];with_reducible exact H2_)|(have H2_:=(Option.bind_some _ _).symm.trans H;with_reducible exact H2_)|with_reducible exact H|(rw [hy106];exact H)|exact H
      have Ny106:=Aside0.mk hy106
      clear hy106
      have H':=Aside0.mk H
      clear H
      have p105 : 0 ≤ (x4_1 : Int):=of_decide_eq_true (by first|(with_reducible assumption)|assumption)
      have q105 : x4_1 < (l0.length : Int):=of_decide_eq_true (by first|(with_reducible assumption)|assumption)
      obtain ⟨ad105,e105,hx105_0⟩:=Kd.at_int HR0.out x4_1 p105 q105
      cases e105
      replace hx105_0:=(HB.out.cell (World.block_lt_of_cell? w _ hx105_0)).trans hx105_0
      replace p105:=eq_true p105
      replace q105:=eq_true q105
      go_wp2_with (first|((with_reducible refine gate_builtin (b:=.append) (xs:=#[.tmp 12,.tmp 18]) rfl ?_);at_builtin;refine Kd.R_append Flt.kf (w0:=w) w.heap.size rfl (.tmp 12) (.tmp 18) 30 36 (.float .f64 0) 8 rfl Try.underlying30 info36 rfl (by decide) (by omega) u3 x3_1 (Flt.fbits (rd l0 x4_1)) [.float .f64 (Flt.fbits (rd l0 x4_1))] (fun _=>True) (fun _=>False) rfl rfl ?aP (fun _ hk=>hk.elim) ?aF ?aO ?aB ?aS ?aL ?_;(case aP=>exact rfl);(case aB=>exact (by repeat(first|(with_reducible first|exact HB.out|apply below_alloc|apply pw_below_drewN|apply below_drew1)|exact HB.out)));(case aF=>exact (fun _ _=>trivial));(case aO=>exact (by (with_reducible repeat(first|apply Kd.R_alloc|apply Kd.R_drewN|apply Kd.R_drew));exact HO_3.out));(case aS=>exact (below_size (by repeat(first|(with_reducible first|exact HB.out|apply below_alloc|apply pw_below_drewN|apply below_drew1)|exact HB.out))));(case aL=>have:=LMc6.out;omega);intro v107 w7 ho hb hg hat;rw [← Ny106.out] at ho;have n0_:=Aside0.mk (hb);have n1_:=Aside0.mk (ho);clear HB;clear HO_3;have HB:=n0_;have HO108:=n1_;clear n0_ n1_;clear ho hb hg hat))
      go_roundg k1
      case measure=>have:=HK1.out;omega
      case rel=>exact ⟨(y106),(wrap64 (x4_1 + 1)),(by first|rfl|(simp;done)|(simp [*];done)),H',⟨by have:=HK1.out;omega⟩,⟨by (with_reducible repeat(first|apply Kd.R_alloc|apply Kd.R_drewN|apply Kd.R_drew));exact HO108.out⟩,⟨by repeat(first|(with_reducible first|exact HB.out|apply below_alloc|apply pw_below_drewN|apply below_drew1)|exact HB.out)⟩⟩
     ·rw [if_neg c6] at H
      exact absurd H (by simp)
    ·rw [if_neg c5] at H
     exact absurd H (by simp)
   ·rw [if_neg c4] at H
    have c4b0 : decide (x4_1 < (l0.length : Int)) = false:=decide_eq_false c4
    clear c4
    obtain rfl:=Option.some.inj H
    go_wp2
    go_ret
    exact ⟨_,by first|rfl|(simp [errW_none,errW_some] <;> rfl)|(simp [*,errW_none,errW_some] <;> rfl),by (with_reducible repeat(first|apply Kd.R_alloc|apply Kd.R_drewN|apply Kd.R_drew));exact HO_3.out,by repeat(first|(with_reducible first|exact HB.out|apply below_alloc|apply pw_below_drewN|apply below_drew1)|exact HB.out)⟩

/-! ### hornbeamref09_Plain_Full: function 14 -/
def hornbeamref09_Plain_Full.f (k : Nat) (a0_0 : Int) (a0_1 : Int) (a0_2 : Int) (a0_3 : Int) (a0_4 : Int) (a0_5 : Int) (a0_6 : Int) (a0_7 : Int) (a0_8 : Int) (l0_9 : List Int) (l0_10 : List Int) : Option (Int × Int × Int × Int × Int × Int × Int × Int × Int × List Nat × List Int):=(hornbeamref06_Of.f k l0_9).bind fun t111=>((some (([] : List Int) : List Int)).bind fun y114=>(if y114.length + l0_10.length < 17592186044416 then (some (a0_0,a0_1,a0_2,a0_3,a0_4,a0_5,a0_6,a0_7,a0_8,t111,(y114 ++ l0_10))) else (none)))
theorem hornbeamref09_Plain_Full.mono : ∀ a0 a1 a2 a3 a4 a5 a6 a7 a8 a9 a10 k,LeO (hornbeamref09_Plain_Full.f k a0 a1 a2 a3 a4 a5 a6 a7 a8 a9 a10) (hornbeamref09_Plain_Full.f (k + 1) a0 a1 a2 a3 a4 a5 a6 a7 a8 a9 a10):=by
 intro a0 a1 a2 a3 a4 a5 a6 a7 a8 a9 a10 k
 unfold hornbeamref09_Plain_Full.f
 repeat' first
   | (with_reducible exact hornbeamref06_Of.mono _ _)
   | (with_reducible exact LeO.refl _)
   | (with_reducible exact LeO.none _)
   | (with_reducible refine LeO.ite ?_ ?_)
   | (with_reducible refine LeO.bind ?_ (fun _=>?_))
   | exact hornbeamref06_Of.mono _ _
   | exact LeO.none _
   | refine LeO.ite ?_ ?_
   | refine LeO.bind ?_ (fun _=>?_)
def hornbeamref09_Plain_Full.T1 : Bool × List (List Nat × List Nat):=(true,[([],[]),([0],[0]),([],[]),([2],[2]),([],[]),([4],[4]),([],[]),([6],[6]),([7],[7]),([],[]),([],[]),([10],[10]),([9,11,8],[9,11]),([1,3,5,8,12],[1,3,5,8,12]),([13,12,0,1,2,3,4,5,6,7,8,9,10,11,12,13],[13])])
def hornbeamref09_Plain_Full.B1 : List Nat:=[0,1,0,4,0,16,0,64,192,0,0,1024,4032,8191,16383]
theorem hornbeamref09_Plain_Full.tab1 : rtab .any (opsOf Try.f14 1) = hornbeamref09_Plain_Full.T1:=by kernel_rfl
theorem hornbeamref09_Plain_Full.bits1 : waitsOk hornbeamref09_Plain_Full.T1.2 hornbeamref09_Plain_Full.B1 = true:=by kernel_rfl
set_option maxHeartbeats 8000000 in
set_option maxRecDepth 100000 in
theorem hornbeamref09_Plain_Full.calls (k : Nat) (a0_0 : Int) (a0_1 : Int) (a0_2 : Int) (a0_3 : Int) (a0_4 : Int) (a0_5 : Int) (a0_6 : Int) (a0_7 : Int) (a0_8 : Int) (A0_9 : Option Addr) (c0_9 : Nat) (l0_9 : List Int) (A0_10 : Option Addr) (c0_10 : Nat) (l0_10 : List Int) (r1 : Int) (r2 : Int) (r3 : Int) (r4 : Int) (r5 : Int) (r6 : Int) (r7 : Int) (r8 : Int) (r9 : Int) (r10 : List Nat) (r11 : List Int) (w : World) (hr0_9 : Kd.C (Kd.int .u64) w A0_9 l0_9.length l0_9) (hc0_9 : l0_9.length ≤ c0_9) (hr0_10 : Kd.C (Kd.int .i64) w A0_10 l0_10.length l0_10) (hc0_10 : l0_10.length ≤ c0_10) (h : hornbeamref09_Plain_Full.f k a0_0 a0_1 a0_2 a0_3 a0_4 a0_5 a0_6 a0_7 a0_8 l0_9 l0_10 = some (r1,r2,r3,r4,r5,r6,r7,r8,r9,r10,r11)) :
  Calls Try.prog 14 #[.agg #[.int .i64 a0_0,.int .i64 a0_1,.int .i64 a0_2,.int .i64 a0_3,.int .i64 a0_4,.int .i64 a0_5,.int .i64 a0_6,.int .i64 a0_7,.int .i64 a0_8,.slice A0_9 l0_9.length c0_9,.slice A0_10 l0_10.length c0_10]] w fun e w'=>∃ v9_ v10_ : Value,e = .returned (.agg #[.int .i64 r1,.int .i64 r2,.int .i64 r3,.int .i64 r4,.int .i64 r5,.int .i64 r6,.int .i64 r7,.int .i64 r8,.int .i64 r9,v9_,v10_]) ∧ Kd.R Flt.kf 36 w' w.heap.size (fun _=>True) v9_ r10 ∧ Kd.R (Kd.int .i64) 2 w' w.heap.size (fun _=>True) v10_ r11 ∧ Below w.heap.size w w':=by
 have hu27:=Try.underlying27
 have hu32:=Try.underlying32
 have hu23:=Try.underlying23
 have HR0_9:=Aside0.mk hr0_9
 have HC0_9:=Aside0.mk hc0_9
 clear hr0_9 hc0_9
 have HR0_10:=Aside0.mk hr0_10
 have HC0_10:=Aside0.mk hc0_10
 clear hr0_10 hc0_10
 have HB:=Aside0.mk (Below.refl w.heap.size w)
 have H : ((hornbeamref06_Of.f k l0_9).bind fun t111=>((some (([] : List Int) : List Int)).bind fun y114=>(if y114.length + l0_10.length < 17592186044416 then (some (a0_0,a0_1,a0_2,a0_3,a0_4,a0_5,a0_6,a0_7,a0_8,t111,(y114 ++ l0_10))) else (none)))) = some (r1,r2,r3,r4,r5,r6,r7,r8,r9,r10,r11):=h
 clear h
 replace H:=Option.bind_eq_some_iff.mp H
 obtain ⟨t111,A20,H⟩:=H
 replace H : ((some (([] : List Int) : List Int)).bind fun y114=>(if y114.length + l0_10.length < 17592186044416 then (some (a0_0,a0_1,a0_2,a0_3,a0_4,a0_5,a0_6,a0_7,a0_8,t111,(y114 ++ l0_10))) else (none))) = some (r1,r2,r3,r4,r5,r6,r7,r8,r9,r10,r11):=H
 have A2:=Aside0.mk A20
 clear A20
 obtain ⟨y114,hy114⟩ : ∃ y_ : List Int,y_ = (([] : List Int)):=⟨_,rfl⟩
 replace H : (if y114.length + l0_10.length < 17592186044416 then (some (a0_0,a0_1,a0_2,a0_3,a0_4,a0_5,a0_6,a0_7,a0_8,t111,(y114 ++ l0_10))) else (none)) = some (r1,r2,r3,r4,r5,r6,r7,r8,r9,r10,r11):=by first|(rw [hy114];with_reducible exact H)|(have H2_:=(Option.bind_some _ _).symm.trans H;rw [hy114];with_reducible exact H2_)|(have H2_:=(Option.bind_some _ _).symm.trans H;with_reducible exact H2_)|with_reducible exact H|(rw [hy114];exact H)|exact H
 have Ny114:=Aside0.mk hy114
 clear hy114
 by_cases c3 : y114.length + l0_10.length < 17592186044416
 ·rw [if_pos c3] at H
  have LMc3:=Aside0.mk c3
  clear c3
  obtain ⟨y117,hy117⟩ : ∃ y_ : List Int,y_ = (y114 ++ l0_10):=⟨_,rfl⟩
  replace H : (some (a0_0,a0_1,a0_2,a0_3,a0_4,a0_5,a0_6,a0_7,a0_8,t111,y117)) = some (r1,r2,r3,r4,r5,r6,r7,r8,r9,r10,r11):=by first|(rw [hy117];with_reducible exact H)|(have H2_:=(Option.bind_some _ _).symm.trans H;rw [hy117];with_reducible exact H2_)|(have H2_:=(Option.bind_some _ _).symm.trans H;with_reducible exact H2_)|with_reducible exact H|(rw [hy117];exact H)|exact H
  have Ny117:=Aside0.mk hy117
  clear hy117
  simp only [Option.some.injEq,Prod.mk.injEq] at H
  obtain ⟨rfl,rfl,rfl,rfl,rfl,rfl,rfl,rfl,rfl,rfl,rfl⟩:=H
  go_enter Try.func14,Try.ntmps14
  try go_wp2_with (first|((with_reducible refine gate_dst (N:=1) rfl ?_);refine box_event ?hg (N:=1) ?hd (cs:=#[.int .i64 a0_0,.int .i64 a0_1,.int .i64 a0_2,.int .i64 a0_3,.int .i64 a0_4,.int .i64 a0_5,.int .i64 a0_6,.int .i64 a0_7,.int .i64 a0_8,.slice A0_9 l0_9.length c0_9,.slice A0_10 l0_10.length c0_10]) (t:=27) ?hr ?_;(case hd=>rfl);(case hg=>rfl);(case hr=>first|(go_simp;done)|(go_simp;rfl));intro gb109 hg w4 hbox hb;have n0_:=Aside0.mk (below_step (by repeat(first|(with_reducible first|exact HB.out|apply below_alloc|apply pw_below_drewN|apply below_drew1)|exact HB.out)) hb);have n1_:=Aside0.mk (hbox);have n2_:=Aside0.mk ((by rw [hg];exact (below_size (by repeat(first|(with_reducible first|exact HB.out|apply below_alloc|apply pw_below_drewN|apply below_drew1)|exact HB.out))) : w.heap.size ≤ gb109));have n3_:=Aside0.mk ((by rw [hg];exact (below_size (by repeat(first|(with_reducible first|exact HB.out|apply below_alloc|apply pw_below_drewN|apply below_drew1)|exact HB.out))) : w.heap.size ≤ gb109));clear HB;have HB:=n0_;have BK109:=n1_;have GW109:=n2_;have GE109:=n3_;clear n0_ n1_ n2_ n3_;clear hb hbox hg)|((with_reducible refine gate_dst (N:=2) rfl ?_);refine box_event ?hg (N:=2) ?hd (cs:=#[.int .i64 0,.int .i64 0,.int .i64 0,.int .i64 0,.int .i64 0,.int .i64 0,.int .i64 0,.int .i64 0,.int .i64 0,.slice none 0 0,.slice none 0 0]) (t:=32) ?hr ?_;(case hd=>rfl);(case hg=>rfl);(case hr=>first|(go_simp;done)|(go_simp;rfl));intro gb110 hg w5 hbox hb;have n0_:=Aside0.mk (blk_below (g:=gb109) (o:=.cells #[.int .i64 a0_0,.int .i64 a0_1,.int .i64 a0_2,.int .i64 a0_3,.int .i64 a0_4,.int .i64 a0_5,.int .i64 a0_6,.int .i64 a0_7,.int .i64 a0_8,.slice A0_9 l0_9.length c0_9,.slice A0_10 l0_10.length c0_10] 27 (0,0)) (by (with_reducible repeat(first|refine blk_drewN ?_ _|refine blk_drew ?_|refine blk_alloc ?_ _));exact BK109.out) hb);have n1_:=Aside0.mk (below_step (by repeat(first|(with_reducible first|exact HB.out|apply below_alloc|apply pw_below_drewN|apply below_drew1|refine below_set ?_ GE109.out)|exact HB.out)) hb);have n2_:=Aside0.mk (hbox);have n3_:=Aside0.mk ((by rw [hg];exact (below_size (by repeat(first|(with_reducible first|exact HB.out|apply below_alloc|apply pw_below_drewN|apply below_drew1|refine below_set ?_ GE109.out)|exact HB.out))) : w.heap.size ≤ gb110));have n4_:=Aside0.mk ((by rw [hg];exact (below_size (by repeat(first|(with_reducible first|exact HB.out|apply below_alloc|apply pw_below_drewN|apply below_drew1|refine below_set ?_ GE109.out)|exact HB.out))) : w.heap.size ≤ gb110));have n5_:=Aside0.mk ((by rw [hg];exact Nat.ne_of_lt (blk_lt (g:=gb109) (o:=.cells #[.int .i64 a0_0,.int .i64 a0_1,.int .i64 a0_2,.int .i64 a0_3,.int .i64 a0_4,.int .i64 a0_5,.int .i64 a0_6,.int .i64 a0_7,.int .i64 a0_8,.slice A0_9 l0_9.length c0_9,.slice A0_10 l0_10.length c0_10] 27 (0,0)) (by (with_reducible repeat(first|refine blk_drewN ?_ _|refine blk_drew ?_|refine blk_alloc ?_ _));exact BK109.out)) : gb109 ≠ gb110));have n6_:=Aside0.mk ((by rw [hg];exact Nat.ne_of_gt (blk_lt (g:=gb109) (o:=.cells #[.int .i64 a0_0,.int .i64 a0_1,.int .i64 a0_2,.int .i64 a0_3,.int .i64 a0_4,.int .i64 a0_5,.int .i64 a0_6,.int .i64 a0_7,.int .i64 a0_8,.slice A0_9 l0_9.length c0_9,.slice A0_10 l0_10.length c0_10] 27 (0,0)) (by (with_reducible repeat(first|refine blk_drewN ?_ _|refine blk_drew ?_|refine blk_alloc ?_ _));exact BK109.out)) : gb110 ≠ gb109));clear BK109;clear HB;have BK109:=n0_;have HB:=n1_;have BK110:=n2_;have GW110:=n3_;have GE110:=n4_;have NB109_110:=n5_;have NB110_109:=n6_;clear n0_ n1_ n2_ n3_ n4_ n5_ n6_;clear hb hbox hg))
  have n0_:=Aside0.mk (blk_drew BK109.out)
  have n1_:=Aside0.mk (blk_drew BK110.out)
  have n2_:=Aside0.mk (below_drew1 HB.out)
  clear BK109
  clear BK110
  clear HB
  have BK109:=n0_
  have BK110:=n1_
  have HB:=n2_
  clear n0_ n1_ n2_
  refine start_ (n:=15) (S:=fun w'=>w'.cell? ⟨gb109,0,none⟩ = some (.int .i64 a0_0) ∧ w'.cell? ⟨gb109,1,none⟩ = some (.int .i64 a0_1) ∧ w'.cell? ⟨gb109,2,none⟩ = some (.int .i64 a0_2) ∧ w'.cell? ⟨gb109,3,none⟩ = some (.int .i64 a0_3) ∧ w'.cell? ⟨gb109,4,none⟩ = some (.int .i64 a0_4) ∧ w'.cell? ⟨gb109,5,none⟩ = some (.int .i64 a0_5) ∧ w'.cell? ⟨gb109,6,none⟩ = some (.int .i64 a0_6) ∧ w'.cell? ⟨gb109,7,none⟩ = some (.int .i64 a0_7) ∧ w'.cell? ⟨gb109,8,none⟩ = some (.int .i64 a0_8) ∧ w'.cell? ⟨gb109,9,none⟩ = some (.slice A0_9 l0_9.length c0_9) ∧ w'.cell? ⟨gb109,10,none⟩ = some (.slice A0_10 l0_10.length c0_10)) (ds:=[]) #[false,false,false,false,false,false,false,false,false,false,false,false,false,false,false] (by kernel_rfl) rfl rfl ⟨(blk_cell BK109.out 0).trans rfl,(blk_cell BK109.out 1).trans rfl,(blk_cell BK109.out 2).trans rfl,(blk_cell BK109.out 3).trans rfl,(blk_cell BK109.out 4).trans rfl,(blk_cell BK109.out 5).trans rfl,(blk_cell BK109.out 6).trans rfl,(blk_cell BK109.out 7).trans rfl,(blk_cell BK109.out 8).trans rfl,(blk_cell BK109.out 9).trans rfl,(blk_cell BK109.out 10).trans rfl⟩ (fun hHeld=>?_);refine with_tabW hornbeamref09_Plain_Full.tab1 hornbeamref09_Plain_Full.bits1 (fun HT_ HW_=>?_)
  generalize w5.drew = w6 at BK109 BK110 HB hHeld ⊢
  refine pure_ (i:=0) (N:=some 3) (v:=?_) (a':=?_) #[true,false,false,false,false,false,false,false,false,false,false,false,false,false,false] rfl rfl (any_of HT_.out (by kernel_rfl)) (fun _ _ _ h=>h) (Or.inl ⟨by rfl,?_⟩) ?_ ?_
  rotate_left
  ·intro w'
   go_simp
   with_reducible rfl
  rotate_left
  ·simp only [Act.put,List.setIfInBounds_toArray,List.set_cons_zero,List.set_cons_succ,i64_w,i32_w]
   rfl
  refine pure_ (i:=2) (N:=some 5) (v:=?_) (a':=?_) #[true,false,true,false,false,false,false,false,false,false,false,false,false,false,false] rfl rfl (any_of HT_.out (by kernel_rfl)) (fun _ _ _ h=>h) (Or.inl ⟨by rfl,?_⟩) ?_ ?_
  rotate_left
  ·intro w'
   go_simp
   with_reducible rfl
  rotate_left
  ·simp only [Act.put,List.setIfInBounds_toArray,List.set_cons_zero,List.set_cons_succ,i64_w,i32_w]
   rfl
  refine pure_ (i:=4) (N:=some 7) (v:=?_) (a':=?_) #[true,false,true,false,true,false,false,false,false,false,false,false,false,false,false] rfl rfl (any_of HT_.out (by kernel_rfl)) (fun _ _ _ h=>h) (Or.inl ⟨by rfl,?_⟩) ?_ ?_
  rotate_left
  ·intro w'
   go_simp
   with_reducible rfl
  rotate_left
  ·simp only [Act.put,List.setIfInBounds_toArray,List.set_cons_zero,List.set_cons_succ,i64_w,i32_w]
   rfl
  refine pure_ (i:=6) (N:=some 9) (v:=?_) (a':=?_) #[true,false,true,false,true,false,true,false,false,false,false,false,false,false,false] rfl rfl (any_of HT_.out (by kernel_rfl)) (fun _ _ _ h=>h) (Or.inl ⟨by rfl,?_⟩) ?_ ?_
  rotate_left
  ·intro w'
   go_simp
   with_reducible rfl
  rotate_left
  ·simp only [Act.put,List.setIfInBounds_toArray,List.set_cons_zero,List.set_cons_succ,i64_w,i32_w]
   rfl
  refine pure_ (i:=10) (N:=some 13) (v:=?_) (a':=?_) #[true,false,true,false,true,false,true,false,false,false,true,false,false,false,false] rfl rfl (any_of HT_.out (by kernel_rfl)) (fun _ _ _ h=>h) (Or.inl ⟨by rfl,?_⟩) ?_ ?_
  rotate_left
  ·intro w'
   go_simp
   with_reducible rfl
  rotate_left
  ·simp only [Act.put,List.setIfInBounds_toArray,List.set_cons_zero,List.set_cons_succ,i64_w,i32_w]
   rfl
  refine take_ (i:=1) (N:=some 4) (v:=?_) (a':=?_) #[true,true,true,false,true,false,true,false,false,false,true,false,false,false,false] rfl rfl (take_ofW HT_.out HW_.out (by kernel_rfl)) (fun _ _ _ h=>h) (Or.inl ⟨by rfl,?_⟩) hHeld ?_ ?_
  rotate_left
  ·rintro w' ⟨s0,s1,s2,s3,s4,s5,s6,s7,s8,s9,s10⟩
   go_simp
   with_reducible rfl
  rotate_left
  ·simp only [Act.put,List.setIfInBounds_toArray,List.set_cons_zero,List.set_cons_succ,i64_w,i32_w]
   rfl
  refine take_ (i:=3) (N:=some 6) (v:=?_) (a':=?_) #[true,true,true,true,true,false,true,false,false,false,true,false,false,false,false] rfl rfl (take_ofW HT_.out HW_.out (by kernel_rfl)) (fun _ _ _ h=>h) (Or.inl ⟨by rfl,?_⟩) hHeld ?_ ?_
  rotate_left
  ·rintro w' ⟨s0,s1,s2,s3,s4,s5,s6,s7,s8,s9,s10⟩
   go_simp
   with_reducible rfl
  rotate_left
  ·simp only [Act.put,List.setIfInBounds_toArray,List.set_cons_zero,List.set_cons_succ,i64_w,i32_w]
   rfl
  refine take_ (i:=5) (N:=some 8) (v:=?_) (a':=?_) #[true,true,true,true,true,true,true,false,false,false,true,false,false,false,false] rfl rfl (take_ofW HT_.out HW_.out (by kernel_rfl)) (fun _ _ _ h=>h) (Or.inl ⟨by rfl,?_⟩) hHeld ?_ ?_
  rotate_left
  ·rintro w' ⟨s0,s1,s2,s3,s4,s5,s6,s7,s8,s9,s10⟩
   go_simp
   with_reducible rfl
  rotate_left
  ·simp only [Act.put,List.setIfInBounds_toArray,List.set_cons_zero,List.set_cons_succ,i64_w,i32_w]
   rfl
  refine take_ (i:=7) (N:=some 10) (v:=?_) (a':=?_) #[true,true,true,true,true,true,true,true,false,false,true,false,false,false,false] rfl rfl (take_ofW HT_.out HW_.out (by kernel_rfl)) (fun _ _ _ h=>h) (Or.inl ⟨by rfl,?_⟩) hHeld ?_ ?_
  rotate_left
  ·rintro w' ⟨s0,s1,s2,s3,s4,s5,s6,s7,s8,s9,s10⟩
   go_simp
   with_reducible rfl
  rotate_left
  ·simp only [Act.put,List.setIfInBounds_toArray,List.set_cons_zero,List.set_cons_succ,i64_w,i32_w]
   rfl
  refine take_ (i:=11) (N:=some 14) (v:=?_) (a':=?_) #[true,true,true,true,true,true,true,true,false,false,true,true,false,false,false] rfl rfl (take_ofW HT_.out HW_.out (by kernel_rfl)) (fun _ _ _ h=>h) (Or.inl ⟨by rfl,?_⟩) hHeld ?_ ?_
  rotate_left
  ·rintro w' ⟨s0,s1,s2,s3,s4,s5,s6,s7,s8,s9,s10⟩
   go_simp
   with_reducible rfl
  rotate_left
  ·simp only [Act.put,List.setIfInBounds_toArray,List.set_cons_zero,List.set_cons_succ,i64_w,i32_w]
   rfl
  refine join_ (σ:=Value × Value) 3 #[true,true,true,true,true,true,true,true,true,true,true,true,false,false,false] (fun s_=>[(11,s_.1),(12,s_.2)]) (fun s_ w'=>(w'.cell? ⟨gb109,0,none⟩ = some (.int .i64 a0_0) ∧ w'.cell? ⟨gb109,1,none⟩ = some (.int .i64 a0_1) ∧ w'.cell? ⟨gb109,2,none⟩ = some (.int .i64 a0_2) ∧ w'.cell? ⟨gb109,3,none⟩ = some (.int .i64 a0_3) ∧ w'.cell? ⟨gb109,4,none⟩ = some (.int .i64 a0_4) ∧ w'.cell? ⟨gb109,5,none⟩ = some (.int .i64 a0_5) ∧ w'.cell? ⟨gb109,6,none⟩ = some (.int .i64 a0_6) ∧ w'.cell? ⟨gb109,7,none⟩ = some (.int .i64 a0_7) ∧ w'.cell? ⟨gb109,8,none⟩ = some (.int .i64 a0_8) ∧ w'.cell? ⟨gb109,9,none⟩ = some (.slice A0_9 l0_9.length c0_9) ∧ w'.cell? ⟨gb109,10,none⟩ = some (.slice A0_10 l0_10.length c0_10)) ∧ (Kd.R Flt.kf 36 w' w.heap.size (fun _=>True) s_.1 t111) ∧ (Kd.R (Kd.int .i64) 2 w' w.heap.size (fun _=>True) s_.2 y114) ∧ (w'.heap[gb109]? = some (.cells #[.int .i64 a0_0,.int .i64 a0_1,.int .i64 a0_2,.int .i64 a0_3,.int .i64 a0_4,.int .i64 a0_5,.int .i64 a0_6,.int .i64 a0_7,.int .i64 a0_8,.slice A0_9 l0_9.length c0_9,.slice A0_10 l0_10.length c0_10] 27 (0,0))) ∧ (w'.heap[gb110]? = some (.cells #[.int .i64 0,.int .i64 0,.int .i64 0,.int .i64 0,.int .i64 0,.int .i64 0,.int .i64 0,.int .i64 0,.int .i64 0,.slice none 0 0,.slice none 0 0] 32 (0,0))) ∧ (Below w.heap.size w w')) ?_ ?_
  rotate_left
  ·intro hCont
   refine two_ (i:=8) (j:=9) (Ni:=some 11) (Nj:=some 12) #[true,true,true,true,true,true,true,true,true,false,true,true,false,false,false] #[true,true,true,true,true,true,true,true,false,true,true,true,false,false,false] rfl rfl rfl rfl (two_of HT_.out (by kernel_rfl)) (by decide) (by decide) (fun K hK=>?_) (fun K hK=>?_)
   ·skip
    refine goes_ Try.func28 (by kernel_rfl) rfl #[.slice A0_9 l0_9.length c0_9] (by rfl) rfl rfl (by (try simp only [List.map_toArray,List.map_cons,List.map_nil]);first|done|rfl|(simp only [List.length_drop,List.length_take];rfl)) ?_
    with_reducible refine (hornbeamref06_Of.calls k _ _ l0_9 t111 _ ?side1 ?side2 A2.out).mono ?_
    (case side1=>repeat(first|exact (Kd.C_below HR0_9.out HB.out)|(with_reducible refine Kd.C_alloc ?_ _)|(with_reducible refine Kd.C_drewN ?_ _)|(with_reducible refine Kd.C_drew ?_)))
    (case side2=>exact HC0_9.out)
    rintro e w7 ⟨v112,rfl,ho0,hb⟩
    refine ⟨_,rfl,?_⟩
    have n0_:=Aside0.mk (Kd.R_lower ho0 (below_size (by repeat(first|(with_reducible first|exact HB.out|apply below_alloc|apply pw_below_drewN|apply below_drew1|refine below_set ?_ GE109.out|refine below_set ?_ GE110.out)|exact HB.out))))
    have n1_:=Aside0.mk (blk_below (g:=gb109) (o:=.cells #[.int .i64 a0_0,.int .i64 a0_1,.int .i64 a0_2,.int .i64 a0_3,.int .i64 a0_4,.int .i64 a0_5,.int .i64 a0_6,.int .i64 a0_7,.int .i64 a0_8,.slice A0_9 l0_9.length c0_9,.slice A0_10 l0_10.length c0_10] 27 (0,0)) (by (with_reducible repeat(first|refine blk_drewN ?_ _|refine blk_drew ?_|refine blk_alloc ?_ _));exact BK109.out) hb)
    have n2_:=Aside0.mk (blk_below (g:=gb110) (o:=.cells #[.int .i64 0,.int .i64 0,.int .i64 0,.int .i64 0,.int .i64 0,.int .i64 0,.int .i64 0,.int .i64 0,.int .i64 0,.slice none 0 0,.slice none 0 0] 32 (0,0)) (by (with_reducible repeat(first|refine blk_drewN ?_ _|refine blk_drew ?_|refine blk_alloc ?_ _));exact BK110.out) hb)
    have n3_:=Aside0.mk (below_step (by repeat(first|(with_reducible first|exact HB.out|apply below_alloc|apply pw_below_drewN|apply below_drew1|refine below_set ?_ GE109.out|refine below_set ?_ GE110.out)|exact HB.out)) hb)
    clear BK109
    clear BK110
    clear HB
    have HO113:=n0_
    have BK109:=n1_
    have BK110:=n2_
    have HB:=n3_
    clear n0_ n1_ n2_ n3_
    (try clear hb)
    (try clear hb2)
    (try clear hk)
    (try clear hi)
    (try clear ho0)
    refine hK.out _ _ ⟨(blk_cell BK109.out 0).trans rfl,(blk_cell BK109.out 1).trans rfl,(blk_cell BK109.out 2).trans rfl,(blk_cell BK109.out 3).trans rfl,(blk_cell BK109.out 4).trans rfl,(blk_cell BK109.out 5).trans rfl,(blk_cell BK109.out 6).trans rfl,(blk_cell BK109.out 7).trans rfl,(blk_cell BK109.out 8).trans rfl,(blk_cell BK109.out 9).trans rfl,(blk_cell BK109.out 10).trans rfl⟩ (fun hHeld=>?_)
    clear hK K
    refine norm_ (a':=?_) ?_ ?_
    rotate_left
    ·show Act.put _ (some 11) _ = _
     simp only [Act.put,List.setIfInBounds_toArray,List.set_cons_zero,List.set_cons_succ,i64_w,i32_w]
     rfl
    refine one_ (i:=9) (N:=some 12) #[true,true,true,true,true,true,true,true,true,true,true,true,false,false,false] rfl rfl (one_of HT_.out (by kernel_rfl)) (by decide) (fun K hK=>?_)
    refine Kd.R_lit_step (Kd.int .i64) _ 2 ?hg (N:=12) ?hd (xs:=([] : List Int)) (inner:=[]) (ok:=fun _=>True) (okp:=fun _=>True) ?hr ?hp (fun _ hk=>hk) trivial (Below.refl _ _) (Nat.le_refl _) (by simp) ?_;(case hd=>rfl);(case hg=>rfl);(case hr=>first|(go_simp;done)|(go_simp;rfl));(case hp=>exact (Reps.none _ _))
    intro v115 w8 ho9 hb hg_ hnew_
    clear hg_ hnew_
    (first|rw [← Ny114.out] at ho9|(simp only [Int.reduceToNat] at ho9;rw [← Ny114.out] at ho9))
    have n0_:=Aside0.mk (Kd.R_below (by (with_reducible repeat(first|apply Kd.R_alloc|apply Kd.R_drewN|apply Kd.R_drew));exact HO113.out) hb)
    have n1_:=Aside0.mk (Kd.R_lower ho9 (below_size (by repeat(first|(with_reducible first|exact HB.out|apply below_alloc|apply pw_below_drewN|apply below_drew1|refine below_set ?_ GE109.out|refine below_set ?_ GE110.out)|exact HB.out))))
    have n2_:=Aside0.mk (blk_below (g:=gb109) (o:=.cells #[.int .i64 a0_0,.int .i64 a0_1,.int .i64 a0_2,.int .i64 a0_3,.int .i64 a0_4,.int .i64 a0_5,.int .i64 a0_6,.int .i64 a0_7,.int .i64 a0_8,.slice A0_9 l0_9.length c0_9,.slice A0_10 l0_10.length c0_10] 27 (0,0)) (by (with_reducible repeat(first|refine blk_drewN ?_ _|refine blk_drew ?_|refine blk_alloc ?_ _));exact BK109.out) hb)
    have n3_:=Aside0.mk (blk_below (g:=gb110) (o:=.cells #[.int .i64 0,.int .i64 0,.int .i64 0,.int .i64 0,.int .i64 0,.int .i64 0,.int .i64 0,.int .i64 0,.int .i64 0,.slice none 0 0,.slice none 0 0] 32 (0,0)) (by (with_reducible repeat(first|refine blk_drewN ?_ _|refine blk_drew ?_|refine blk_alloc ?_ _));exact BK110.out) hb)
    have n4_:=Aside0.mk (below_step (by repeat(first|(with_reducible first|exact HB.out|apply below_alloc|apply pw_below_drewN|apply below_drew1|refine below_set ?_ GE109.out|refine below_set ?_ GE110.out)|exact HB.out)) hb)
    clear HO113
    clear BK109
    clear BK110
    clear HB
    have HO113:=n0_
    have HO116:=n1_
    have BK109:=n2_
    have BK110:=n3_
    have HB:=n4_
    clear n0_ n1_ n2_ n3_ n4_
    clear hb ho9
    refine hK.out _ _ ⟨(blk_cell BK109.out 0).trans rfl,(blk_cell BK109.out 1).trans rfl,(blk_cell BK109.out 2).trans rfl,(blk_cell BK109.out 3).trans rfl,(blk_cell BK109.out 4).trans rfl,(blk_cell BK109.out 5).trans rfl,(blk_cell BK109.out 6).trans rfl,(blk_cell BK109.out 7).trans rfl,(blk_cell BK109.out 8).trans rfl,(blk_cell BK109.out 9).trans rfl,(blk_cell BK109.out 10).trans rfl⟩ (fun hHeld=>?_)
    clear hK K
    refine norm_ (a':=?_) ?_ ?_
    rotate_left
    ·show Act.put _ (some 12) _ = _
     simp only [Act.put,List.setIfInBounds_toArray,List.set_cons_zero,List.set_cons_succ,i64_w,i32_w]
     rfl
    exact norm_ (by simp only [putAll,Act.put,List.setIfInBounds_toArray,List.set_cons_zero,List.set_cons_succ]) (hCont (v112,v115) _ ⟨hHeld,(by (with_reducible repeat(first|apply Kd.R_alloc|apply Kd.R_drewN|apply Kd.R_drew));exact HO113.out),(by (with_reducible repeat(first|apply Kd.R_alloc|apply Kd.R_drewN|apply Kd.R_drew));exact HO116.out),(by (with_reducible repeat(first|refine blk_drewN ?_ _|refine blk_drew ?_|refine blk_alloc ?_ _));exact BK109.out),(by (with_reducible repeat(first|refine blk_drewN ?_ _|refine blk_drew ?_|refine blk_alloc ?_ _));exact BK110.out),(by repeat(first|(with_reducible first|exact HB.out|apply below_alloc|apply pw_below_drewN|apply below_drew1|refine below_set ?_ GE109.out|refine below_set ?_ GE110.out)|exact HB.out))⟩)
   ·skip
    refine Kd.R_lit_step (Kd.int .i64) _ 2 ?hg (N:=12) ?hd (xs:=([] : List Int)) (inner:=[]) (ok:=fun _=>True) (okp:=fun _=>True) ?hr ?hp (fun _ hk=>hk) trivial (Below.refl _ _) (Nat.le_refl _) (by simp) ?_;(case hd=>rfl);(case hg=>rfl);(case hr=>first|(go_simp;done)|(go_simp;rfl));(case hp=>exact (Reps.none _ _))
    intro v115 w7 ho8 hb hg_ hnew_
    clear hg_ hnew_
    (first|rw [← Ny114.out] at ho8|(simp only [Int.reduceToNat] at ho8;rw [← Ny114.out] at ho8))
    have n0_:=Aside0.mk (Kd.R_lower ho8 (below_size (by repeat(first|(with_reducible first|exact HB.out|apply below_alloc|apply pw_below_drewN|apply below_drew1|refine below_set ?_ GE109.out|refine below_set ?_ GE110.out)|exact HB.out))))
    have n1_:=Aside0.mk (blk_below (g:=gb109) (o:=.cells #[.int .i64 a0_0,.int .i64 a0_1,.int .i64 a0_2,.int .i64 a0_3,.int .i64 a0_4,.int .i64 a0_5,.int .i64 a0_6,.int .i64 a0_7,.int .i64 a0_8,.slice A0_9 l0_9.length c0_9,.slice A0_10 l0_10.length c0_10] 27 (0,0)) (by (with_reducible repeat(first|refine blk_drewN ?_ _|refine blk_drew ?_|refine blk_alloc ?_ _));exact BK109.out) hb)
    have n2_:=Aside0.mk (blk_below (g:=gb110) (o:=.cells #[.int .i64 0,.int .i64 0,.int .i64 0,.int .i64 0,.int .i64 0,.int .i64 0,.int .i64 0,.int .i64 0,.int .i64 0,.slice none 0 0,.slice none 0 0] 32 (0,0)) (by (with_reducible repeat(first|refine blk_drewN ?_ _|refine blk_drew ?_|refine blk_alloc ?_ _));exact BK110.out) hb)
    have n3_:=Aside0.mk (below_step (by repeat(first|(with_reducible first|exact HB.out|apply below_alloc|apply pw_below_drewN|apply below_drew1|refine below_set ?_ GE109.out|refine below_set ?_ GE110.out)|exact HB.out)) hb)
    clear BK109
    clear BK110
    clear HB
    have HO116:=n0_
    have BK109:=n1_
    have BK110:=n2_
    have HB:=n3_
    clear n0_ n1_ n2_ n3_
    clear hb ho8
    refine hK.out _ _ ⟨(blk_cell BK109.out 0).trans rfl,(blk_cell BK109.out 1).trans rfl,(blk_cell BK109.out 2).trans rfl,(blk_cell BK109.out 3).trans rfl,(blk_cell BK109.out 4).trans rfl,(blk_cell BK109.out 5).trans rfl,(blk_cell BK109.out 6).trans rfl,(blk_cell BK109.out 7).trans rfl,(blk_cell BK109.out 8).trans rfl,(blk_cell BK109.out 9).trans rfl,(blk_cell BK109.out 10).trans rfl⟩ (fun hHeld=>?_)
    clear hK K
    refine norm_ (a':=?_) ?_ ?_
    rotate_left
    ·show Act.put _ (some 12) _ = _
     simp only [Act.put,List.setIfInBounds_toArray,List.set_cons_zero,List.set_cons_succ,i64_w,i32_w]
     rfl
    refine one_ (i:=8) (N:=some 11) #[true,true,true,true,true,true,true,true,true,true,true,true,false,false,false] rfl rfl (one_of HT_.out (by kernel_rfl)) (by decide) (fun K hK=>?_)
    refine goes_ Try.func28 (by kernel_rfl) rfl #[.slice A0_9 l0_9.length c0_9] (by rfl) rfl rfl (by (try simp only [List.map_toArray,List.map_cons,List.map_nil]);first|done|rfl|(simp only [List.length_drop,List.length_take];rfl)) ?_
    with_reducible refine (hornbeamref06_Of.calls k _ _ l0_9 t111 _ ?side1 ?side2 A2.out).mono ?_
    (case side1=>repeat(first|exact (Kd.C_below HR0_9.out HB.out)|(with_reducible refine Kd.C_alloc ?_ _)|(with_reducible refine Kd.C_drewN ?_ _)|(with_reducible refine Kd.C_drew ?_)))
    (case side2=>exact HC0_9.out)
    rintro e w9 ⟨v112,rfl,ho0,hb⟩
    refine ⟨_,rfl,?_⟩
    have n0_:=Aside0.mk (Kd.R_below (by (with_reducible repeat(first|apply Kd.R_alloc|apply Kd.R_drewN|apply Kd.R_drew));exact HO116.out) hb)
    have n1_:=Aside0.mk (Kd.R_lower ho0 (below_size (by repeat(first|(with_reducible first|exact HB.out|apply below_alloc|apply pw_below_drewN|apply below_drew1|refine below_set ?_ GE109.out|refine below_set ?_ GE110.out)|exact HB.out))))
    have n2_:=Aside0.mk (blk_below (g:=gb109) (o:=.cells #[.int .i64 a0_0,.int .i64 a0_1,.int .i64 a0_2,.int .i64 a0_3,.int .i64 a0_4,.int .i64 a0_5,.int .i64 a0_6,.int .i64 a0_7,.int .i64 a0_8,.slice A0_9 l0_9.length c0_9,.slice A0_10 l0_10.length c0_10] 27 (0,0)) (by (with_reducible repeat(first|refine blk_drewN ?_ _|refine blk_drew ?_|refine blk_alloc ?_ _));exact BK109.out) hb)
    have n3_:=Aside0.mk (blk_below (g:=gb110) (o:=.cells #[.int .i64 0,.int .i64 0,.int .i64 0,.int .i64 0,.int .i64 0,.int .i64 0,.int .i64 0,.int .i64 0,.int .i64 0,.slice none 0 0,.slice none 0 0] 32 (0,0)) (by (with_reducible repeat(first|refine blk_drewN ?_ _|refine blk_drew ?_|refine blk_alloc ?_ _));exact BK110.out) hb)
    have n4_:=Aside0.mk (below_step (by repeat(first|(with_reducible first|exact HB.out|apply below_alloc|apply pw_below_drewN|apply below_drew1|refine below_set ?_ GE109.out|refine below_set ?_ GE110.out)|exact HB.out)) hb)
    clear HO116
    clear BK109
    clear BK110
    clear HB
    have HO116:=n0_
    have HO113:=n1_
    have BK109:=n2_
    have BK110:=n3_
    have HB:=n4_
    clear n0_ n1_ n2_ n3_ n4_
    (try clear hb)
    (try clear hb2)
    (try clear hk)
    (try clear hi)
    (try clear ho0)
    refine hK.out _ _ ⟨(blk_cell BK109.out 0).trans rfl,(blk_cell BK109.out 1).trans rfl,(blk_cell BK109.out 2).trans rfl,(blk_cell BK109.out 3).trans rfl,(blk_cell BK109.out 4).trans rfl,(blk_cell BK109.out 5).trans rfl,(blk_cell BK109.out 6).trans rfl,(blk_cell BK109.out 7).trans rfl,(blk_cell BK109.out 8).trans rfl,(blk_cell BK109.out 9).trans rfl,(blk_cell BK109.out 10).trans rfl⟩ (fun hHeld=>?_)
    clear hK K
    refine norm_ (a':=?_) ?_ ?_
    rotate_left
    ·show Act.put _ (some 11) _ = _
     simp only [Act.put,List.setIfInBounds_toArray,List.set_cons_zero,List.set_cons_succ,i64_w,i32_w]
     rfl
    exact norm_ (by simp only [putAll,Act.put,List.setIfInBounds_toArray,List.set_cons_zero,List.set_cons_succ]) (hCont (v112,v115) _ ⟨hHeld,(by (with_reducible repeat(first|apply Kd.R_alloc|apply Kd.R_drewN|apply Kd.R_drew));exact HO113.out),(by (with_reducible repeat(first|apply Kd.R_alloc|apply Kd.R_drewN|apply Kd.R_drew));exact HO116.out),(by (with_reducible repeat(first|refine blk_drewN ?_ _|refine blk_drew ?_|refine blk_alloc ?_ _));exact BK109.out),(by (with_reducible repeat(first|refine blk_drewN ?_ _|refine blk_drew ?_|refine blk_alloc ?_ _));exact BK110.out),(by repeat(first|(with_reducible first|exact HB.out|apply below_alloc|apply pw_below_drewN|apply below_drew1|refine below_set ?_ GE109.out|refine below_set ?_ GE110.out)|exact HB.out))⟩)
  rintro ⟨v112,v115⟩ w10 ⟨hS_,h0_,h1_,h2_,h3_,h4_⟩
  have n0_ : Aside0 (Kd.R Flt.kf 36 w10 w.heap.size (fun _=>True) v112 t111):=⟨h0_⟩
  have n1_ : Aside0 (Kd.R (Kd.int .i64) 2 w10 w.heap.size (fun _=>True) v115 y114):=⟨h1_⟩
  have n2_ : Aside0 (w10.heap[gb109]? = some (.cells #[.int .i64 a0_0,.int .i64 a0_1,.int .i64 a0_2,.int .i64 a0_3,.int .i64 a0_4,.int .i64 a0_5,.int .i64 a0_6,.int .i64 a0_7,.int .i64 a0_8,.slice A0_9 l0_9.length c0_9,.slice A0_10 l0_10.length c0_10] 27 (0,0))):=⟨h2_⟩
  have n3_ : Aside0 (w10.heap[gb110]? = some (.cells #[.int .i64 0,.int .i64 0,.int .i64 0,.int .i64 0,.int .i64 0,.int .i64 0,.int .i64 0,.int .i64 0,.int .i64 0,.slice none 0 0,.slice none 0 0] 32 (0,0))):=⟨h3_⟩
  have n4_ : Aside0 (Below w.heap.size w w10):=⟨h4_⟩
  clear BK109
  clear BK110
  clear HB
  clear h0_ h1_ h2_ h3_ h4_
  have HO113:=n0_
  have HO116:=n1_
  have BK109:=n2_
  have BK110:=n3_
  have HB:=n4_
  clear n0_ n1_ n2_ n3_ n4_
  have hHeld : w10.cell? ⟨gb109,0,none⟩ = some (.int .i64 a0_0) ∧ w10.cell? ⟨gb109,1,none⟩ = some (.int .i64 a0_1) ∧ w10.cell? ⟨gb109,2,none⟩ = some (.int .i64 a0_2) ∧ w10.cell? ⟨gb109,3,none⟩ = some (.int .i64 a0_3) ∧ w10.cell? ⟨gb109,4,none⟩ = some (.int .i64 a0_4) ∧ w10.cell? ⟨gb109,5,none⟩ = some (.int .i64 a0_5) ∧ w10.cell? ⟨gb109,6,none⟩ = some (.int .i64 a0_6) ∧ w10.cell? ⟨gb109,7,none⟩ = some (.int .i64 a0_7) ∧ w10.cell? ⟨gb109,8,none⟩ = some (.int .i64 a0_8) ∧ w10.cell? ⟨gb109,9,none⟩ = some (.slice A0_9 l0_9.length c0_9) ∧ w10.cell? ⟨gb109,10,none⟩ = some (.slice A0_10 l0_10.length c0_10):=hS_
  refine norm_ (a':=?_) ?_ ?_
  rotate_left
  ·simp only [putAll,Act.put,List.setIfInBounds_toArray,List.set_cons_zero,List.set_cons_succ]
   rfl
  refine one_ (i:=12) (N:=some 15) #[true,true,true,true,true,true,true,true,true,true,true,true,true,false,false] rfl rfl (one_of HT_.out (by kernel_rfl)) (by decide) (fun K hK=>?_)
  refine Kd.R_append_rows_step (Kd.int .i64) (w0:=w) w.heap.size (by rfl) (.tmp 12) (.tmp 14) 25 2 (.int .i64 0) 8 rfl Try.underlying25 info2 rfl (by decide) (by omega) v115 y114 l0_10 _ _ _ (fun _=>True) (fun _=>False) rfl rfl ?aO ?aR (fun _ _ h=>h) (fun _ h=>h.elim) ?aF ?aB ?aS ?aL ?_
  (case aR=>repeat(first|exact (Kd.C_below HR0_10.out HB.out)|(with_reducible refine Kd.C_alloc ?_ _)|(with_reducible refine Kd.C_drewN ?_ _)|(with_reducible refine Kd.C_drew ?_)))
  (case aB=>exact (by repeat(first|(with_reducible first|exact HB.out|apply below_alloc|apply pw_below_drewN|apply below_drew1|refine below_set ?_ GE109.out|refine below_set ?_ GE110.out)|exact HB.out)))
  (case aF=>exact (fun _ _=>trivial))
  (case aO=>exact (by (with_reducible repeat(first|apply Kd.R_alloc|apply Kd.R_drewN|apply Kd.R_drew));exact HO116.out))
  (case aS=>exact (below_size (by repeat(first|(with_reducible first|exact HB.out|apply below_alloc|apply pw_below_drewN|apply below_drew1|refine below_set ?_ GE109.out|refine below_set ?_ GE110.out)|exact HB.out))))
  (case aL=>have:=LMc3.out;omega)
  intro v118 w11 ho hb hg hat
  rw [← Ny117.out] at ho
  have n0_:=Aside0.mk (blk_grown (g:=gb109) (o:=.cells #[.int .i64 a0_0,.int .i64 a0_1,.int .i64 a0_2,.int .i64 a0_3,.int .i64 a0_4,.int .i64 a0_5,.int .i64 a0_6,.int .i64 a0_7,.int .i64 a0_8,.slice A0_9 l0_9.length c0_9,.slice A0_10 l0_10.length c0_10] 27 (0,0)) (by (with_reducible repeat(first|refine blk_drewN ?_ _|refine blk_drew ?_|refine blk_alloc ?_ _));exact BK109.out) hg (Kd.R_ne HO116.out BK109.out (by decide)))
  have n1_:=Aside0.mk (blk_grown (g:=gb110) (o:=.cells #[.int .i64 0,.int .i64 0,.int .i64 0,.int .i64 0,.int .i64 0,.int .i64 0,.int .i64 0,.int .i64 0,.int .i64 0,.slice none 0 0,.slice none 0 0] 32 (0,0)) (by (with_reducible repeat(first|refine blk_drewN ?_ _|refine blk_drew ?_|refine blk_alloc ?_ _));exact BK110.out) hg (Kd.R_ne HO116.out BK110.out (by decide)))
  have n2_:=Aside0.mk (Kd.R_over' (by (with_reducible repeat(first|apply Kd.R_alloc|apply Kd.R_drewN|apply Kd.R_drew));exact HO113.out) (Kd.R_typed (by (with_reducible repeat(first|apply Kd.R_alloc|apply Kd.R_drewN|apply Kd.R_drew));exact HO116.out)) (by decide) hg)
  have n3_:=Aside0.mk (hb)
  have n4_:=Aside0.mk (ho)
  clear BK109
  clear BK110
  clear HO113
  clear HB
  clear HO116
  have BK109:=n0_
  have BK110:=n1_
  have HO113:=n2_
  have HB:=n3_
  have HO119:=n4_
  clear n0_ n1_ n2_ n3_ n4_
  clear ho hb hg hat
  obtain ⟨Ao12,co12,eo12⟩:=Kd.R_slice HO119.out
  (first|subst eo12|(injection eo12 with f1_ f2_ f3_;have f4_:=f1_.symm;have f5_:=f3_.symm;clear f1_ f2_ f3_;subst f4_;subst f5_))
  obtain ⟨Ao13,co13,eo13⟩:=Kd.R_slice HO113.out
  (first|subst eo13|(injection eo13 with f1_ f2_ f3_;have f4_:=f1_.symm;have f5_:=f3_.symm;clear f1_ f2_ f3_;subst f4_;subst f5_))
  refine hK.out _ _ ⟨(blk_cell BK109.out 0).trans rfl,(blk_cell BK109.out 1).trans rfl,(blk_cell BK109.out 2).trans rfl,(blk_cell BK109.out 3).trans rfl,(blk_cell BK109.out 4).trans rfl,(blk_cell BK109.out 5).trans rfl,(blk_cell BK109.out 6).trans rfl,(blk_cell BK109.out 7).trans rfl,(blk_cell BK109.out 8).trans rfl,(blk_cell BK109.out 9).trans rfl,(blk_cell BK109.out 10).trans rfl⟩ (fun hHeld=>?_)
  clear hK K
  refine norm_ (a':=?_) ?_ ?_
  rotate_left
  ·show Act.put _ (some 15) _ = _
   simp only [Act.put,List.setIfInBounds_toArray,List.set_cons_zero,List.set_cons_succ,i64_w,i32_w]
   rfl
  refine pure_ (i:=13) (N:=some 16) (v:=?_) (a':=?_) #[true,true,true,true,true,true,true,true,true,true,true,true,true,true,false] rfl rfl (any_of HT_.out (by kernel_rfl)) (fun _ _ _ h=>h) (Or.inl ⟨by rfl,?_⟩) ?_ ?_
  rotate_left
  ·intro w'
   go_simp
   with_reducible rfl
  rotate_left
  ·simp only [Act.put,List.setIfInBounds_toArray,List.set_cons_zero,List.set_cons_succ,i64_w,i32_w]
   rfl
  refine one_ (i:=14) (N:=none) #[true,true,true,true,true,true,true,true,true,true,true,true,true,true,true] rfl rfl (one_of HT_.out (by kernel_rfl)) (by decide) (fun K hK=>?_)
  have hs14 : w11.cell? ⟨gb110,0,none⟩ = some (.int .i64 0):=(blk_cell BK110.out 0).trans rfl
  have hfs14:=blk_frozen BK110.out 0
  have hns14_0:=NB109_110.out
  have hms14_0:=NB110_109.out
  have hs15 : w11.cell? ⟨gb110,1,none⟩ = some (.int .i64 0):=(blk_cell BK110.out 1).trans rfl
  have hfs15:=blk_frozen BK110.out 1
  have hns15_0:=NB109_110.out
  have hms15_0:=NB110_109.out
  have hs16 : w11.cell? ⟨gb110,2,none⟩ = some (.int .i64 0):=(blk_cell BK110.out 2).trans rfl
  have hfs16:=blk_frozen BK110.out 2
  have hns16_0:=NB109_110.out
  have hms16_0:=NB110_109.out
  have hs17 : w11.cell? ⟨gb110,3,none⟩ = some (.int .i64 0):=(blk_cell BK110.out 3).trans rfl
  have hfs17:=blk_frozen BK110.out 3
  have hns17_0:=NB109_110.out
  have hms17_0:=NB110_109.out
  have hs18 : w11.cell? ⟨gb110,4,none⟩ = some (.int .i64 0):=(blk_cell BK110.out 4).trans rfl
  have hfs18:=blk_frozen BK110.out 4
  have hns18_0:=NB109_110.out
  have hms18_0:=NB110_109.out
  have hs19 : w11.cell? ⟨gb110,5,none⟩ = some (.int .i64 0):=(blk_cell BK110.out 5).trans rfl
  have hfs19:=blk_frozen BK110.out 5
  have hns19_0:=NB109_110.out
  have hms19_0:=NB110_109.out
  have hs20 : w11.cell? ⟨gb110,6,none⟩ = some (.int .i64 0):=(blk_cell BK110.out 6).trans rfl
  have hfs20:=blk_frozen BK110.out 6
  have hns20_0:=NB109_110.out
  have hms20_0:=NB110_109.out
  have hs21 : w11.cell? ⟨gb110,7,none⟩ = some (.int .i64 0):=(blk_cell BK110.out 7).trans rfl
  have hfs21:=blk_frozen BK110.out 7
  have hns21_0:=NB109_110.out
  have hms21_0:=NB110_109.out
  have hs22 : w11.cell? ⟨gb110,8,none⟩ = some (.int .i64 0):=(blk_cell BK110.out 8).trans rfl
  have hfs22:=blk_frozen BK110.out 8
  have hns22_0:=NB109_110.out
  have hms22_0:=NB110_109.out
  have hs23 : w11.cell? ⟨gb110,9,none⟩ = some (.slice none 0 0):=(blk_cell BK110.out 9).trans rfl
  have hfs23:=blk_frozen BK110.out 9
  have hns23_0:=NB109_110.out
  have hms23_0:=NB110_109.out
  have hs24 : w11.cell? ⟨gb110,10,none⟩ = some (.slice none 0 0):=(blk_cell BK110.out 10).trans rfl
  have hfs24:=blk_frozen BK110.out 10
  have hns24_0:=NB109_110.out
  have hms24_0:=NB110_109.out
  refine skip_ (w1:=?_) (by rfl) rfl ?_ ?_
  rotate_left
  ·go_simp
   rfl
  refine hK.out _ _ ⟨((FFar.far11 NB109_110.out).trans hHeld.1),((FFar.far11 NB109_110.out).trans hHeld.2.1),((FFar.far11 NB109_110.out).trans hHeld.2.2.1),((FFar.far11 NB109_110.out).trans hHeld.2.2.2.1),((FFar.far11 NB109_110.out).trans hHeld.2.2.2.2.1),((FFar.far11 NB109_110.out).trans hHeld.2.2.2.2.2.1),((FFar.far11 NB109_110.out).trans hHeld.2.2.2.2.2.2.1),((FFar.far11 NB109_110.out).trans hHeld.2.2.2.2.2.2.2.1),((FFar.far11 NB109_110.out).trans hHeld.2.2.2.2.2.2.2.2.1),((FFar.far11 NB109_110.out).trans hHeld.2.2.2.2.2.2.2.2.2.1),((FFar.far11 NB109_110.out).trans hHeld.2.2.2.2.2.2.2.2.2.2)⟩ (fun hHeld=>?_)
  clear hK K
  refine done_ (done_of HT_.out (by kernel_rfl)) ?_
  try go_wp2
  refine bodyPost_ret (results_cell_row rfl _ _ gb110 32 #[.int .i64 a0_0,.int .i64 a0_1,.int .i64 a0_2,.int .i64 a0_3,.int .i64 a0_4,.int .i64 a0_5,.int .i64 a0_6,.int .i64 a0_7,.int .i64 a0_8,.slice Ao13 t111.length co13,.slice Ao12 y117.length co12] (0,0) _ rfl (by (with_reducible repeat(first|refine blk_drewN ?_ _|refine blk_drew ?_|refine blk_alloc ?_ _));refine blk_put (cs:=#[.int .i64 a0_0,.int .i64 a0_1,.int .i64 a0_2,.int .i64 a0_3,.int .i64 a0_4,.int .i64 a0_5,.int .i64 a0_6,.int .i64 a0_7,.int .i64 a0_8,.slice Ao13 t111.length co13,.slice none 0 0]) ?_ 10 _ rfl;(with_reducible repeat(first|refine blk_drewN ?_ _|refine blk_drew ?_|refine blk_alloc ?_ _));refine blk_put (cs:=#[.int .i64 a0_0,.int .i64 a0_1,.int .i64 a0_2,.int .i64 a0_3,.int .i64 a0_4,.int .i64 a0_5,.int .i64 a0_6,.int .i64 a0_7,.int .i64 a0_8,.slice none 0 0,.slice none 0 0]) ?_ 9 _ rfl;(with_reducible repeat(first|refine blk_drewN ?_ _|refine blk_drew ?_|refine blk_alloc ?_ _));refine blk_put (cs:=#[.int .i64 a0_0,.int .i64 a0_1,.int .i64 a0_2,.int .i64 a0_3,.int .i64 a0_4,.int .i64 a0_5,.int .i64 a0_6,.int .i64 a0_7,.int .i64 0,.slice none 0 0,.slice none 0 0]) ?_ 8 _ rfl;(with_reducible repeat(first|refine blk_drewN ?_ _|refine blk_drew ?_|refine blk_alloc ?_ _));refine blk_put (cs:=#[.int .i64 a0_0,.int .i64 a0_1,.int .i64 a0_2,.int .i64 a0_3,.int .i64 a0_4,.int .i64 a0_5,.int .i64 a0_6,.int .i64 0,.int .i64 0,.slice none 0 0,.slice none 0 0]) ?_ 7 _ rfl;(with_reducible repeat(first|refine blk_drewN ?_ _|refine blk_drew ?_|refine blk_alloc ?_ _));refine blk_put (cs:=#[.int .i64 a0_0,.int .i64 a0_1,.int .i64 a0_2,.int .i64 a0_3,.int .i64 a0_4,.int .i64 a0_5,.int .i64 0,.int .i64 0,.int .i64 0,.slice none 0 0,.slice none 0 0]) ?_ 6 _ rfl;(with_reducible repeat(first|refine blk_drewN ?_ _|refine blk_drew ?_|refine blk_alloc ?_ _));refine blk_put (cs:=#[.int .i64 a0_0,.int .i64 a0_1,.int .i64 a0_2,.int .i64 a0_3,.int .i64 a0_4,.int .i64 0,.int .i64 0,.int .i64 0,.int .i64 0,.slice none 0 0,.slice none 0 0]) ?_ 5 _ rfl;(with_reducible repeat(first|refine blk_drewN ?_ _|refine blk_drew ?_|refine blk_alloc ?_ _));refine blk_put (cs:=#[.int .i64 a0_0,.int .i64 a0_1,.int .i64 a0_2,.int .i64 a0_3,.int .i64 0,.int .i64 0,.int .i64 0,.int .i64 0,.int .i64 0,.slice none 0 0,.slice none 0 0]) ?_ 4 _ rfl;(with_reducible repeat(first|refine blk_drewN ?_ _|refine blk_drew ?_|refine blk_alloc ?_ _));refine blk_put (cs:=#[.int .i64 a0_0,.int .i64 a0_1,.int .i64 a0_2,.int .i64 0,.int .i64 0,.int .i64 0,.int .i64 0,.int .i64 0,.int .i64 0,.slice none 0 0,.slice none 0 0]) ?_ 3 _ rfl;(with_reducible repeat(first|refine blk_drewN ?_ _|refine blk_drew ?_|refine blk_alloc ?_ _));refine blk_put (cs:=#[.int .i64 a0_0,.int .i64 a0_1,.int .i64 0,.int .i64 0,.int .i64 0,.int .i64 0,.int .i64 0,.int .i64 0,.int .i64 0,.slice none 0 0,.slice none 0 0]) ?_ 2 _ rfl;(with_reducible repeat(first|refine blk_drewN ?_ _|refine blk_drew ?_|refine blk_alloc ?_ _));refine blk_put (cs:=#[.int .i64 a0_0,.int .i64 0,.int .i64 0,.int .i64 0,.int .i64 0,.int .i64 0,.int .i64 0,.int .i64 0,.int .i64 0,.slice none 0 0,.slice none 0 0]) ?_ 1 _ rfl;(with_reducible repeat(first|refine blk_drewN ?_ _|refine blk_drew ?_|refine blk_alloc ?_ _));refine blk_put (cs:=#[.int .i64 0,.int .i64 0,.int .i64 0,.int .i64 0,.int .i64 0,.int .i64 0,.int .i64 0,.int .i64 0,.int .i64 0,.slice none 0 0,.slice none 0 0]) ?_ 0 _ rfl;(with_reducible repeat(first|refine blk_drewN ?_ _|refine blk_drew ?_|refine blk_alloc ?_ _));exact BK110.out) Try.underlying32 rfl (by kernel_rfl)) rfl ?_
  exact ⟨_,_,by first|rfl|(simp [errW_none,errW_some] <;> rfl)|(simp [*,errW_none,errW_some] <;> rfl),by (with_reducible repeat(first|apply Kd.R_alloc|apply Kd.R_drewN|apply Kd.R_drew));exact Kd.R_mono (Kd.R_far (p:=⟨gb110,10,none⟩) (Kd.R_far (p:=⟨gb110,9,none⟩) (Kd.R_far (p:=⟨gb110,8,none⟩) (Kd.R_far (p:=⟨gb110,7,none⟩) (Kd.R_far (p:=⟨gb110,6,none⟩) (Kd.R_far (p:=⟨gb110,5,none⟩) (Kd.R_far (p:=⟨gb110,4,none⟩) (Kd.R_far (p:=⟨gb110,3,none⟩) (Kd.R_far (p:=⟨gb110,2,none⟩) (Kd.R_far (p:=⟨gb110,1,none⟩) (Kd.R_far (p:=⟨gb110,0,none⟩) (Kd.R_types HO113.out BK110.out (by decide)) (fun _ hk=>hk.2) (.int .i64 a0_0)) (fun _ hk=>hk.2) (.int .i64 a0_1)) (fun _ hk=>hk.2) (.int .i64 a0_2)) (fun _ hk=>hk.2) (.int .i64 a0_3)) (fun _ hk=>hk.2) (.int .i64 a0_4)) (fun _ hk=>hk.2) (.int .i64 a0_5)) (fun _ hk=>hk.2) (.int .i64 a0_6)) (fun _ hk=>hk.2) (.int .i64 a0_7)) (fun _ hk=>hk.2) (.int .i64 a0_8)) (fun _ hk=>hk.2) (.slice Ao13 t111.length co13)) (fun _ hk=>hk.2) (.slice Ao12 y117.length co12)) (fun _ hk=>trivial),by (with_reducible repeat(first|apply Kd.R_alloc|apply Kd.R_drewN|apply Kd.R_drew));exact Kd.R_mono (Kd.R_far (p:=⟨gb110,10,none⟩) (Kd.R_far (p:=⟨gb110,9,none⟩) (Kd.R_far (p:=⟨gb110,8,none⟩) (Kd.R_far (p:=⟨gb110,7,none⟩) (Kd.R_far (p:=⟨gb110,6,none⟩) (Kd.R_far (p:=⟨gb110,5,none⟩) (Kd.R_far (p:=⟨gb110,4,none⟩) (Kd.R_far (p:=⟨gb110,3,none⟩) (Kd.R_far (p:=⟨gb110,2,none⟩) (Kd.R_far (p:=⟨gb110,1,none⟩) (Kd.R_far (p:=⟨gb110,0,none⟩) (Kd.R_types HO119.out BK110.out (by decide)) (fun _ hk=>hk.2) (.int .i64 a0_0)) (fun _ hk=>hk.2) (.int .i64 a0_1)) (fun _ hk=>hk.2) (.int .i64 a0_2)) (fun _ hk=>hk.2) (.int .i64 a0_3)) (fun _ hk=>hk.2) (.int .i64 a0_4)) (fun _ hk=>hk.2) (.int .i64 a0_5)) (fun _ hk=>hk.2) (.int .i64 a0_6)) (fun _ hk=>hk.2) (.int .i64 a0_7)) (fun _ hk=>hk.2) (.int .i64 a0_8)) (fun _ hk=>hk.2) (.slice Ao13 t111.length co13)) (fun _ hk=>hk.2) (.slice Ao12 y117.length co12)) (fun _ hk=>trivial),by repeat(first|(with_reducible first|exact HB.out|apply below_alloc|apply pw_below_drewN|apply below_drew1|refine below_set ?_ GE109.out|refine below_set ?_ GE110.out)|exact HB.out)⟩
 ·rw [if_neg c3] at H
  exact absurd H (by simp)

/-! ### dataset_shaped: function 45 -/
def dataset_shaped.f (a0_0 : Int) (a0_1 : Int) (a0_2 : Int) (a0_3 : Int) (a0_4 : Int) (a0_5 : Int) (a0_6 : Int) (a0_7 : Int) (a0_8 : Int) (l0_9 : List Nat) (l0_10 : List Int) : Option (Bool):=if a0_7 ≥ 0 then (if a0_7 ≤ 16777216 then (if a0_8 ≥ 0 then (if a0_8 ≤ 16777216 then (some ((l0_9.length : Int) == (wrap64 (a0_7 * a0_8)))) else (some false)) else (some false)) else (some false)) else (some false)
set_option maxHeartbeats 8000000 in
set_option maxRecDepth 100000 in
theorem dataset_shaped.calls (a0_0 : Int) (a0_1 : Int) (a0_2 : Int) (a0_3 : Int) (a0_4 : Int) (a0_5 : Int) (a0_6 : Int) (a0_7 : Int) (a0_8 : Int) (A0_9 : Option Addr) (c0_9 : Nat) (l0_9 : List Nat) (A0_10 : Option Addr) (c0_10 : Nat) (l0_10 : List Int) (r : Bool) (w : World) (hr0_9 : Kd.C Flt.kf w A0_9 l0_9.length l0_9) (hc0_9 : l0_9.length ≤ c0_9) (hr0_10 : Kd.C (Kd.int .i64) w A0_10 l0_10.length l0_10) (hc0_10 : l0_10.length ≤ c0_10) (h : dataset_shaped.f a0_0 a0_1 a0_2 a0_3 a0_4 a0_5 a0_6 a0_7 a0_8 l0_9 l0_10 = some r) :
  Calls Try.prog 45 #[.agg #[.int .i64 a0_0,.int .i64 a0_1,.int .i64 a0_2,.int .i64 a0_3,.int .i64 a0_4,.int .i64 a0_5,.int .i64 a0_6,.int .i64 a0_7,.int .i64 a0_8,.slice A0_9 l0_9.length c0_9,.slice A0_10 l0_10.length c0_10]] w fun e w'=>e = .returned (.bool r) ∧ Below w.heap.size w w':=by
 have hu32:=Try.underlying32
 have HR0_9:=Aside0.mk hr0_9
 have HC0_9:=Aside0.mk hc0_9
 clear hr0_9 hc0_9
 have HR0_10:=Aside0.mk hr0_10
 have HC0_10:=Aside0.mk hc0_10
 clear hr0_10 hc0_10
 have HB:=Aside0.mk (Below.refl w.heap.size w)
 have H : (if a0_7 ≥ 0 then (if a0_7 ≤ 16777216 then (if a0_8 ≥ 0 then (if a0_8 ≤ 16777216 then (some ((l0_9.length : Int) == (wrap64 (a0_7 * a0_8)))) else (some false)) else (some false)) else (some false)) else (some false)) = some r:=h
 clear h
 by_cases c2 : a0_7 ≥ 0
 ·rw [if_pos c2] at H
  have c2b0 : decide (0 ≤ a0_7) = true:=decide_eq_true c2
  clear c2
  by_cases c3 : a0_7 ≤ 16777216
  ·rw [if_pos c3] at H
   have c3b0 : decide (a0_7 ≤ 16777216) = true:=decide_eq_true c3
   clear c3
   by_cases c4 : a0_8 ≥ 0
   ·rw [if_pos c4] at H
    have c4b0 : decide (0 ≤ a0_8) = true:=decide_eq_true c4
    clear c4
    by_cases c5 : a0_8 ≤ 16777216
    ·rw [if_pos c5] at H
     have c5b0 : decide (a0_8 ≤ 16777216) = true:=decide_eq_true c5
     clear c5
     obtain rfl:=Option.some.inj H
     go_enter Try.func45,Try.ntmps45
     go_wp2_with (first|((with_reducible refine gate_dst (N:=1) rfl ?_);refine box_event ?hg (N:=1) ?hd (cs:=#[.int .i64 a0_0,.int .i64 a0_1,.int .i64 a0_2,.int .i64 a0_3,.int .i64 a0_4,.int .i64 a0_5,.int .i64 a0_6,.int .i64 a0_7,.int .i64 a0_8,.slice A0_9 l0_9.length c0_9,.slice A0_10 l0_10.length c0_10]) (t:=32) ?hr ?_;(case hd=>rfl);(case hg=>rfl);(case hr=>first|(go_simp;done)|(go_simp;rfl));intro gb120 hg w6 hbox hb;have n0_:=Aside0.mk (below_step (by repeat(first|(with_reducible first|exact HB.out|apply below_alloc|apply pw_below_drewN|apply below_drew1)|exact HB.out)) hb);have n1_:=Aside0.mk (hbox);have n2_:=Aside0.mk ((by rw [hg];exact (below_size (by repeat(first|(with_reducible first|exact HB.out|apply below_alloc|apply pw_below_drewN|apply below_drew1)|exact HB.out))) : w.heap.size ≤ gb120));have n3_:=Aside0.mk ((by rw [hg];exact (below_size (by repeat(first|(with_reducible first|exact HB.out|apply below_alloc|apply pw_below_drewN|apply below_drew1)|exact HB.out))) : w.heap.size ≤ gb120));clear HB;have HB:=n0_;have BK120:=n1_;have GW120:=n2_;have GE120:=n3_;clear n0_ n1_ n2_ n3_;clear hb hbox hg;have hcz7_0 : w6.cell? ⟨gb120,0,none⟩ = some (.int .i64 a0_0):=(blk_cell BK120.out 0).trans rfl;have hcz7_1 : w6.cell? ⟨gb120,1,none⟩ = some (.int .i64 a0_1):=(blk_cell BK120.out 1).trans rfl;have hcz7_2 : w6.cell? ⟨gb120,2,none⟩ = some (.int .i64 a0_2):=(blk_cell BK120.out 2).trans rfl;have hcz7_3 : w6.cell? ⟨gb120,3,none⟩ = some (.int .i64 a0_3):=(blk_cell BK120.out 3).trans rfl;have hcz7_4 : w6.cell? ⟨gb120,4,none⟩ = some (.int .i64 a0_4):=(blk_cell BK120.out 4).trans rfl;have hcz7_5 : w6.cell? ⟨gb120,5,none⟩ = some (.int .i64 a0_5):=(blk_cell BK120.out 5).trans rfl;have hcz7_6 : w6.cell? ⟨gb120,6,none⟩ = some (.int .i64 a0_6):=(blk_cell BK120.out 6).trans rfl;have hcz7_7 : w6.cell? ⟨gb120,7,none⟩ = some (.int .i64 a0_7):=(blk_cell BK120.out 7).trans rfl;have hcz7_8 : w6.cell? ⟨gb120,8,none⟩ = some (.int .i64 a0_8):=(blk_cell BK120.out 8).trans rfl;have hcz7_9 : w6.cell? ⟨gb120,9,none⟩ = some (.slice A0_9 l0_9.length c0_9):=(blk_cell BK120.out 9).trans rfl;have hcz7_10 : w6.cell? ⟨gb120,10,none⟩ = some (.slice A0_10 l0_10.length c0_10):=(blk_cell BK120.out 10).trans rfl;have hfz7_0:=blk_frozen BK120.out 0;have hfz7_1:=blk_frozen BK120.out 1;have hfz7_2:=blk_frozen BK120.out 2;have hfz7_3:=blk_frozen BK120.out 3;have hfz7_4:=blk_frozen BK120.out 4;have hfz7_5:=blk_frozen BK120.out 5;have hfz7_6:=blk_frozen BK120.out 6;have hfz7_7:=blk_frozen BK120.out 7;have hfz7_8:=blk_frozen BK120.out 8;have hfz7_9:=blk_frozen BK120.out 9;have hfz7_10:=blk_frozen BK120.out 10))
     go_ret
     exact ⟨by first|rfl|(simp [errW_none,errW_some] <;> rfl)|(simp [*,errW_none,errW_some] <;> rfl),by repeat(first|(with_reducible first|exact HB.out|apply below_alloc|apply pw_below_drewN|apply below_drew1|refine below_set ?_ GE120.out)|exact HB.out)⟩
    ·rw [if_neg c5] at H
     have c5b0 : decide (a0_8 ≤ 16777216) = false:=decide_eq_false c5
     clear c5
     obtain rfl:=Option.some.inj H
     go_enter Try.func45,Try.ntmps45
     go_wp2_with (first|((with_reducible refine gate_dst (N:=1) rfl ?_);refine box_event ?hg (N:=1) ?hd (cs:=#[.int .i64 a0_0,.int .i64 a0_1,.int .i64 a0_2,.int .i64 a0_3,.int .i64 a0_4,.int .i64 a0_5,.int .i64 a0_6,.int .i64 a0_7,.int .i64 a0_8,.slice A0_9 l0_9.length c0_9,.slice A0_10 l0_10.length c0_10]) (t:=32) ?hr ?_;(case hd=>rfl);(case hg=>rfl);(case hr=>first|(go_simp;done)|(go_simp;rfl));intro gb120 hg w8 hbox hb;have n0_:=Aside0.mk (below_step (by repeat(first|(with_reducible first|exact HB.out|apply below_alloc|apply pw_below_drewN|apply below_drew1)|exact HB.out)) hb);have n1_:=Aside0.mk (hbox);have n2_:=Aside0.mk ((by rw [hg];exact (below_size (by repeat(first|(with_reducible first|exact HB.out|apply below_alloc|apply pw_below_drewN|apply below_drew1)|exact HB.out))) : w.heap.size ≤ gb120));have n3_:=Aside0.mk ((by rw [hg];exact (below_size (by repeat(first|(with_reducible first|exact HB.out|apply below_alloc|apply pw_below_drewN|apply below_drew1)|exact HB.out))) : w.heap.size ≤ gb120));clear HB;have HB:=n0_;have BK120:=n1_;have GW120:=n2_;have GE120:=n3_;clear n0_ n1_ n2_ n3_;clear hb hbox hg;have hcz9_0 : w8.cell? ⟨gb120,0,none⟩ = some (.int .i64 a0_0):=(blk_cell BK120.out 0).trans rfl;have hcz9_1 : w8.cell? ⟨gb120,1,none⟩ = some (.int .i64 a0_1):=(blk_cell BK120.out 1).trans rfl;have hcz9_2 : w8.cell? ⟨gb120,2,none⟩ = some (.int .i64 a0_2):=(blk_cell BK120.out 2).trans rfl;have hcz9_3 : w8.cell? ⟨gb120,3,none⟩ = some (.int .i64 a0_3):=(blk_cell BK120.out 3).trans rfl;have hcz9_4 : w8.cell? ⟨gb120,4,none⟩ = some (.int .i64 a0_4):=(blk_cell BK120.out 4).trans rfl;have hcz9_5 : w8.cell? ⟨gb120,5,none⟩ = some (.int .i64 a0_5):=(blk_cell BK120.out 5).trans rfl;have hcz9_6 : w8.cell? ⟨gb120,6,none⟩ = some (.int .i64 a0_6):=(blk_cell BK120.out 6).trans rfl;have hcz9_7 : w8.cell? ⟨gb120,7,none⟩ = some (.int .i64 a0_7):=(blk_cell BK120.out 7).trans rfl;have hcz9_8 : w8.cell? ⟨gb120,8,none⟩ = some (.int .i64 a0_8):=(blk_cell BK120.out 8).trans rfl;have hcz9_9 : w8.cell? ⟨gb120,9,none⟩ = some (.slice A0_9 l0_9.length c0_9):=(blk_cell BK120.out 9).trans rfl;have hcz9_10 : w8.cell? ⟨gb120,10,none⟩ = some (.slice A0_10 l0_10.length c0_10):=(blk_cell BK120.out 10).trans rfl;have hfz9_0:=blk_frozen BK120.out 0;have hfz9_1:=blk_frozen BK120.out 1;have hfz9_2:=blk_frozen BK120.out 2;have hfz9_3:=blk_frozen BK120.out 3;have hfz9_4:=blk_frozen BK120.out 4;have hfz9_5:=blk_frozen BK120.out 5;have hfz9_6:=blk_frozen BK120.out 6;have hfz9_7:=blk_frozen BK120.out 7;have hfz9_8:=blk_frozen BK120.out 8;have hfz9_9:=blk_frozen BK120.out 9;have hfz9_10:=blk_frozen BK120.out 10))
     go_ret
     exact ⟨by first|rfl|(simp [errW_none,errW_some] <;> rfl)|(simp [*,errW_none,errW_some] <;> rfl),by repeat(first|(with_reducible first|exact HB.out|apply below_alloc|apply pw_below_drewN|apply below_drew1|refine below_set ?_ GE120.out)|exact HB.out)⟩
   ·rw [if_neg c4] at H
    have c4b0 : decide (0 ≤ a0_8) = false:=decide_eq_false c4
    clear c4
    obtain rfl:=Option.some.inj H
    go_enter Try.func45,Try.ntmps45
    go_wp2_with (first|((with_reducible refine gate_dst (N:=1) rfl ?_);refine box_event ?hg (N:=1) ?hd (cs:=#[.int .i64 a0_0,.int .i64 a0_1,.int .i64 a0_2,.int .i64 a0_3,.int .i64 a0_4,.int .i64 a0_5,.int .i64 a0_6,.int .i64 a0_7,.int .i64 a0_8,.slice A0_9 l0_9.length c0_9,.slice A0_10 l0_10.length c0_10]) (t:=32) ?hr ?_;(case hd=>rfl);(case hg=>rfl);(case hr=>first|(go_simp;done)|(go_simp;rfl));intro gb120 hg w10 hbox hb;have n0_:=Aside0.mk (below_step (by repeat(first|(with_reducible first|exact HB.out|apply below_alloc|apply pw_below_drewN|apply below_drew1)|exact HB.out)) hb);have n1_:=Aside0.mk (hbox);have n2_:=Aside0.mk ((by rw [hg];exact (below_size (by repeat(first|(with_reducible first|exact HB.out|apply below_alloc|apply pw_below_drewN|apply below_drew1)|exact HB.out))) : w.heap.size ≤ gb120));have n3_:=Aside0.mk ((by rw [hg];exact (below_size (by repeat(first|(with_reducible first|exact HB.out|apply below_alloc|apply pw_below_drewN|apply below_drew1)|exact HB.out))) : w.heap.size ≤ gb120));clear HB;have HB:=n0_;have BK120:=n1_;have GW120:=n2_;have GE120:=n3_;clear n0_ n1_ n2_ n3_;clear hb hbox hg;have hcz11_0 : w10.cell? ⟨gb120,0,none⟩ = some (.int .i64 a0_0):=(blk_cell BK120.out 0).trans rfl;have hcz11_1 : w10.cell? ⟨gb120,1,none⟩ = some (.int .i64 a0_1):=(blk_cell BK120.out 1).trans rfl;have hcz11_2 : w10.cell? ⟨gb120,2,none⟩ = some (.int .i64 a0_2):=(blk_cell BK120.out 2).trans rfl;have hcz11_3 : w10.cell? ⟨gb120,3,none⟩ = some (.int .i64 a0_3):=(blk_cell BK120.out 3).trans rfl;have hcz11_4 : w10.cell? ⟨gb120,4,none⟩ = some (.int .i64 a0_4):=(blk_cell BK120.out 4).trans rfl;have hcz11_5 : w10.cell? ⟨gb120,5,none⟩ = some (.int .i64 a0_5):=(blk_cell BK120.out 5).trans rfl;have hcz11_6 : w10.cell? ⟨gb120,6,none⟩ = some (.int .i64 a0_6):=(blk_cell BK120.out 6).trans rfl;have hcz11_7 : w10.cell? ⟨gb120,7,none⟩ = some (.int .i64 a0_7):=(blk_cell BK120.out 7).trans rfl;have hcz11_8 : w10.cell? ⟨gb120,8,none⟩ = some (.int .i64 a0_8):=(blk_cell BK120.out 8).trans rfl;have hcz11_9 : w10.cell? ⟨gb120,9,none⟩ = some (.slice A0_9 l0_9.length c0_9):=(blk_cell BK120.out 9).trans rfl;have hcz11_10 : w10.cell? ⟨gb120,10,none⟩ = some (.slice A0_10 l0_10.length c0_10):=(blk_cell BK120.out 10).trans rfl;have hfz11_0:=blk_frozen BK120.out 0;have hfz11_1:=blk_frozen BK120.out 1;have hfz11_2:=blk_frozen BK120.out 2;have hfz11_3:=blk_frozen BK120.out 3;have hfz11_4:=blk_frozen BK120.out 4;have hfz11_5:=blk_frozen BK120.out 5;have hfz11_6:=blk_frozen BK120.out 6;have hfz11_7:=blk_frozen BK120.out 7;have hfz11_8:=blk_frozen BK120.out 8;have hfz11_9:=blk_frozen BK120.out 9;have hfz11_10:=blk_frozen BK120.out 10))
    go_ret
    exact ⟨by first|rfl|(simp [errW_none,errW_some] <;> rfl)|(simp [*,errW_none,errW_some] <;> rfl),by repeat(first|(with_reducible first|exact HB.out|apply below_alloc|apply pw_below_drewN|apply below_drew1|refine below_set ?_ GE120.out)|exact HB.out)⟩
  ·rw [if_neg c3] at H
   have c3b0 : decide (a0_7 ≤ 16777216) = false:=decide_eq_false c3
   clear c3
   obtain rfl:=Option.some.inj H
   go_enter Try.func45,Try.ntmps45
   go_wp2_with (first|((with_reducible refine gate_dst (N:=1) rfl ?_);refine box_event ?hg (N:=1) ?hd (cs:=#[.int .i64 a0_0,.int .i64 a0_1,.int .i64 a0_2,.int .i64 a0_3,.int .i64 a0_4,.int .i64 a0_5,.int .i64 a0_6,.int .i64 a0_7,.int .i64 a0_8,.slice A0_9 l0_9.length c0_9,.slice A0_10 l0_10.length c0_10]) (t:=32) ?hr ?_;(case hd=>rfl);(case hg=>rfl);(case hr=>first|(go_simp;done)|(go_simp;rfl));intro gb120 hg w12 hbox hb;have n0_:=Aside0.mk (below_step (by repeat(first|(with_reducible first|exact HB.out|apply below_alloc|apply pw_below_drewN|apply below_drew1)|exact HB.out)) hb);have n1_:=Aside0.mk (hbox);have n2_:=Aside0.mk ((by rw [hg];exact (below_size (by repeat(first|(with_reducible first|exact HB.out|apply below_alloc|apply pw_below_drewN|apply below_drew1)|exact HB.out))) : w.heap.size ≤ gb120));have n3_:=Aside0.mk ((by rw [hg];exact (below_size (by repeat(first|(with_reducible first|exact HB.out|apply below_alloc|apply pw_below_drewN|apply below_drew1)|exact HB.out))) : w.heap.size ≤ gb120));clear HB;have HB:=n0_;have BK120:=n1_;have GW120:=n2_;have GE120:=n3_;clear n0_ n1_ n2_ n3_;clear hb hbox hg;have hcz13_0 : w12.cell? ⟨gb120,0,none⟩ = some (.int .i64 a0_0):=(blk_cell BK120.out 0).trans rfl;have hcz13_1 : w12.cell? ⟨gb120,1,none⟩ = some (.int .i64 a0_1):=(blk_cell BK120.out 1).trans rfl;have hcz13_2 : w12.cell? ⟨gb120,2,none⟩ = some (.int .i64 a0_2):=(blk_cell BK120.out 2).trans rfl;have hcz13_3 : w12.cell? ⟨gb120,3,none⟩ = some (.int .i64 a0_3):=(blk_cell BK120.out 3).trans rfl;have hcz13_4 : w12.cell? ⟨gb120,4,none⟩ = some (.int .i64 a0_4):=(blk_cell BK120.out 4).trans rfl;have hcz13_5 : w12.cell? ⟨gb120,5,none⟩ = some (.int .i64 a0_5):=(blk_cell BK120.out 5).trans rfl;have hcz13_6 : w12.cell? ⟨gb120,6,none⟩ = some (.int .i64 a0_6):=(blk_cell BK120.out 6).trans rfl;have hcz13_7 : w12.cell? ⟨gb120,7,none⟩ = some (.int .i64 a0_7):=(blk_cell BK120.out 7).trans rfl;have hcz13_8 : w12.cell? ⟨gb120,8,none⟩ = some (.int .i64 a0_8):=(blk_cell BK120.out 8).trans rfl;have hcz13_9 : w12.cell? ⟨gb120,9,none⟩ = some (.slice A0_9 l0_9.length c0_9):=(blk_cell BK120.out 9).trans rfl;have hcz13_10 : w12.cell? ⟨gb120,10,none⟩ = some (.slice A0_10 l0_10.length c0_10):=(blk_cell BK120.out 10).trans rfl;have hfz13_0:=blk_frozen BK120.out 0;have hfz13_1:=blk_frozen BK120.out 1;have hfz13_2:=blk_frozen BK120.out 2;have hfz13_3:=blk_frozen BK120.out 3;have hfz13_4:=blk_frozen BK120.out 4;have hfz13_5:=blk_frozen BK120.out 5;have hfz13_6:=blk_frozen BK120.out 6;have hfz13_7:=blk_frozen BK120.out 7;have hfz13_8:=blk_frozen BK120.out 8;have hfz13_9:=blk_frozen BK120.out 9;have hfz13_10:=blk_frozen BK120.out 10))
   go_ret
   exact ⟨by first|rfl|(simp [errW_none,errW_some] <;> rfl)|(simp [*,errW_none,errW_some] <;> rfl),by repeat(first|(with_reducible first|exact HB.out|apply below_alloc|apply pw_below_drewN|apply below_drew1|refine below_set ?_ GE120.out)|exact HB.out)⟩
 ·rw [if_neg c2] at H
  have c2b0 : decide (0 ≤ a0_7) = false:=decide_eq_false c2
  clear c2
  obtain rfl:=Option.some.inj H
  go_enter Try.func45,Try.ntmps45
  go_wp2_with (first|((with_reducible refine gate_dst (N:=1) rfl ?_);refine box_event ?hg (N:=1) ?hd (cs:=#[.int .i64 a0_0,.int .i64 a0_1,.int .i64 a0_2,.int .i64 a0_3,.int .i64 a0_4,.int .i64 a0_5,.int .i64 a0_6,.int .i64 a0_7,.int .i64 a0_8,.slice A0_9 l0_9.length c0_9,.slice A0_10 l0_10.length c0_10]) (t:=32) ?hr ?_;(case hd=>rfl);(case hg=>rfl);(case hr=>first|(go_simp;done)|(go_simp;rfl));intro gb120 hg w14 hbox hb;have n0_:=Aside0.mk (below_step (by repeat(first|(with_reducible first|exact HB.out|apply below_alloc|apply pw_below_drewN|apply below_drew1)|exact HB.out)) hb);have n1_:=Aside0.mk (hbox);have n2_:=Aside0.mk ((by rw [hg];exact (below_size (by repeat(first|(with_reducible first|exact HB.out|apply below_alloc|apply pw_below_drewN|apply below_drew1)|exact HB.out))) : w.heap.size ≤ gb120));have n3_:=Aside0.mk ((by rw [hg];exact (below_size (by repeat(first|(with_reducible first|exact HB.out|apply below_alloc|apply pw_below_drewN|apply below_drew1)|exact HB.out))) : w.heap.size ≤ gb120));clear HB;have HB:=n0_;have BK120:=n1_;have GW120:=n2_;have GE120:=n3_;clear n0_ n1_ n2_ n3_;clear hb hbox hg;have hcz15_0 : w14.cell? ⟨gb120,0,none⟩ = some (.int .i64 a0_0):=(blk_cell BK120.out 0).trans rfl;have hcz15_1 : w14.cell? ⟨gb120,1,none⟩ = some (.int .i64 a0_1):=(blk_cell BK120.out 1).trans rfl;have hcz15_2 : w14.cell? ⟨gb120,2,none⟩ = some (.int .i64 a0_2):=(blk_cell BK120.out 2).trans rfl;have hcz15_3 : w14.cell? ⟨gb120,3,none⟩ = some (.int .i64 a0_3):=(blk_cell BK120.out 3).trans rfl;have hcz15_4 : w14.cell? ⟨gb120,4,none⟩ = some (.int .i64 a0_4):=(blk_cell BK120.out 4).trans rfl;have hcz15_5 : w14.cell? ⟨gb120,5,none⟩ = some (.int .i64 a0_5):=(blk_cell BK120.out 5).trans rfl;have hcz15_6 : w14.cell? ⟨gb120,6,none⟩ = some (.int .i64 a0_6):=(blk_cell BK120.out 6).trans rfl;have hcz15_7 : w14.cell? ⟨gb120,7,none⟩ = some (.int .i64 a0_7):=(blk_cell BK120.out 7).trans rfl;have hcz15_8 : w14.cell? ⟨gb120,8,none⟩ = some (.int .i64 a0_8):=(blk_cell BK120.out 8).trans rfl;have hcz15_9 : w14.cell? ⟨gb120,9,none⟩ = some (.slice A0_9 l0_9.length c0_9):=(blk_cell BK120.out 9).trans rfl;have hcz15_10 : w14.cell? ⟨gb120,10,none⟩ = some (.slice A0_10 l0_10.length c0_10):=(blk_cell BK120.out 10).trans rfl;have hfz15_0:=blk_frozen BK120.out 0;have hfz15_1:=blk_frozen BK120.out 1;have hfz15_2:=blk_frozen BK120.out 2;have hfz15_3:=blk_frozen BK120.out 3;have hfz15_4:=blk_frozen BK120.out 4;have hfz15_5:=blk_frozen BK120.out 5;have hfz15_6:=blk_frozen BK120.out 6;have hfz15_7:=blk_frozen BK120.out 7;have hfz15_8:=blk_frozen BK120.out 8;have hfz15_9:=blk_frozen BK120.out 9;have hfz15_10:=blk_frozen BK120.out 10))
  go_ret
  exact ⟨by first|rfl|(simp [errW_none,errW_some] <;> rfl)|(simp [*,errW_none,errW_some] <;> rfl),by repeat(first|(with_reducible first|exact HB.out|apply below_alloc|apply pw_below_drewN|apply below_drew1|refine below_set ?_ GE120.out)|exact HB.out)⟩

/-! ### slices_Clone_float64_float64: function 46 -/
def slices_Clone_float64_float64.f (l0 : List Nat) : Option (List Nat):=(some (([] : List Nat) : List Nat)).bind fun y121=>(if y121.length + l0.length < 17592186044416 then (some (y121 ++ l0)) else (none))
set_option maxHeartbeats 8000000 in
set_option maxRecDepth 100000 in
theorem slices_Clone_float64_float64.calls (A0 : Option Addr) (c0 : Nat) (l0 : List Nat) (r : List Nat) (w : World) (hr0 : Kd.C Flt.kf w A0 l0.length l0) (hc0 : l0.length ≤ c0) (h : slices_Clone_float64_float64.f l0 = some r) :
  Calls Try.prog 46 #[.slice A0 l0.length c0] w fun e w'=>∃ v0_ : Value,e = .returned (v0_) ∧ Kd.R Flt.kf 36 w' w.heap.size (fun _=>True) v0_ r ∧ Below w.heap.size w w':=by
 cases A0 with
 | none =>
  have hl0 : l0.length = 0:=by
   rcases Nat.eq_zero_or_pos l0.length with h_|h_
   ·exact h_
   ·obtain ⟨_,e_,_⟩:=hr0.2.2 h_;cases e_
  obtain rfl:=List.eq_nil_of_length_eq_zero hl0
  have hr_ : r = []:=by
   have h_:=h
   simp [slices_Clone_float64_float64.f] at h_
   first|exact h_|exact h_.symm
  subst hr_
  clear h hr0 hc0 hl0
  have hnil : ∀ (n_ c_ : Nat) (W : World),(binOp .eql 30 (.slice none n_ c_) (.slice none 0 0)).run Try.prog W = .ok (.bool true) W:=fun n_ c_ W=>Go.Lib.run_eql_slice_nil W 30 36 none n_ c_ 0 0 Try.underlying30
  go_enter Try.func46,Try.ntmps46
  go_wp2
  go_ret
  exact ⟨_,by first|rfl|(simp;done),Kd.R_nil _ _ _ _ _,by repeat(first|exact Below.refl _ _|apply below_alloc|apply pw_below_drewN|apply below_drew1)⟩
 | some ad0 =>
  have hnil : ∀ (n_ c_ : Nat) (W : World),(binOp .eql 30 (.slice (some ad0) n_ c_) (.slice none 0 0)).run Try.prog W = .ok (.bool false) W:=fun n_ c_ W=>Go.Lib.run_eql_slice_nil W 30 36 (some ad0) n_ c_ 0 0 Try.underlying30
  have HR0:=Aside0.mk hr0
  have HC0:=Aside0.mk hc0
  clear hr0 hc0
  have HB:=Aside0.mk (Below.refl w.heap.size w)
  have H : ((some (([] : List Nat) : List Nat)).bind fun y121=>(if y121.length + l0.length < 17592186044416 then (some (y121 ++ l0)) else (none))) = some r:=h
  clear h
  obtain ⟨y121,hy121⟩ : ∃ y_ : List Nat,y_ = (([] : List Nat)):=⟨_,rfl⟩
  replace H : (if y121.length + l0.length < 17592186044416 then (some (y121 ++ l0)) else (none)) = some r:=by first|(rw [hy121];with_reducible exact H)|(have H2_:=(Option.bind_some _ _).symm.trans H;rw [hy121];with_reducible exact H2_)|(have H2_:=(Option.bind_some _ _).symm.trans H;with_reducible exact H2_)|with_reducible exact H|(rw [hy121];exact H)|exact H
  have Ny121:=Aside0.mk hy121
  clear hy121
  by_cases c2 : y121.length + l0.length < 17592186044416
  ·rw [if_pos c2] at H
   have LMc2:=Aside0.mk c2
   clear c2
   obtain ⟨y124,hy124⟩ : ∃ y_ : List Nat,y_ = (y121 ++ l0):=⟨_,rfl⟩
   replace H : (some y124) = some r:=by first|(rw [hy124];with_reducible exact H)|(have H2_:=(Option.bind_some _ _).symm.trans H;rw [hy124];with_reducible exact H2_)|(have H2_:=(Option.bind_some _ _).symm.trans H;with_reducible exact H2_)|with_reducible exact H|(rw [hy124];exact H)|exact H
   have Ny124:=Aside0.mk hy124
   clear hy124
   obtain rfl:=Option.some.inj H
   go_enter Try.func46,Try.ntmps46
   go_wp2_with (first|((with_reducible refine gate_dst (N:=5) rfl ?_);refine Kd.R_lit Flt.kf _ 36 ?hg (N:=5) ?hd (xs:=([] : List Nat)) (inner:=[]) (ok:=fun _=>True) (okp:=fun _=>True) ?hr ?hp (fun _ hk=>hk) trivial (Below.refl _ _) (Nat.le_refl _) (by simp) ?_;(case hd=>rfl);(case hg=>rfl);(case hr=>first|(go_simp;done)|(go_simp;rfl));(case hp=>exact (Reps.none _ _));intro v122 w3 ho4 hb hg_ hnew_;clear hg_ hnew_;(first|rw [← Ny121.out] at ho4|(simp only [Int.reduceToNat] at ho4;rw [← Ny121.out] at ho4));have n0_:=Aside0.mk (Kd.R_lower ho4 (below_size (by repeat(first|(with_reducible first|exact HB.out|apply below_alloc|apply pw_below_drewN|apply below_drew1)|exact HB.out))));have n1_:=Aside0.mk (below_step (by repeat(first|(with_reducible first|exact HB.out|apply below_alloc|apply pw_below_drewN|apply below_drew1)|exact HB.out)) hb);clear HB;have HO123:=n0_;have HB:=n1_;clear n0_ n1_;clear hb ho4)|((with_reducible refine gate_builtin (b:=.append) (xs:=#[.tmp 5,.tmp 6]) rfl ?_);at_builtin;refine Kd.R_append_rows Flt.kf (w0:=w) w.heap.size rfl (.tmp 5) (.tmp 6) 30 36 (.float .f64 0) 8 rfl Try.underlying30 info36 rfl (by decide) (by omega) v122 y121 l0 _ _ _ (fun _=>True) (fun _=>False) rfl rfl ?aO ?aR (fun _ _ h=>h) (fun _ h=>h.elim) ?aF ?aB ?aS ?aL ?_;(case aR=>repeat(first|exact (Kd.C_below HR0.out HB.out)|(with_reducible refine Kd.C_alloc ?_ _)|(with_reducible refine Kd.C_drewN ?_ _)|(with_reducible refine Kd.C_drew ?_)));(case aB=>exact (by repeat(first|(with_reducible first|exact HB.out|apply below_alloc|apply pw_below_drewN|apply below_drew1)|exact HB.out)));(case aF=>exact (fun _ _=>trivial));(case aO=>exact (by (with_reducible repeat(first|apply Kd.R_alloc|apply Kd.R_drewN|apply Kd.R_drew));exact HO123.out));(case aS=>exact (below_size (by repeat(first|(with_reducible first|exact HB.out|apply below_alloc|apply pw_below_drewN|apply below_drew1)|exact HB.out))));(case aL=>have:=LMc2.out;omega);intro v125 w5 ho hb hg hat;rw [← Ny124.out] at ho;have n0_:=Aside0.mk (hb);have n1_:=Aside0.mk (ho);clear HB;clear HO123;have HB:=n0_;have HO126:=n1_;clear n0_ n1_;clear ho hb hg hat))
   go_ret
   exact ⟨_,by first|rfl|(simp [errW_none,errW_some] <;> rfl)|(simp [*,errW_none,errW_some] <;> rfl),by (with_reducible repeat(first|apply Kd.R_alloc|apply Kd.R_drewN|apply Kd.R_drew));exact HO126.out,by repeat(first|(with_reducible first|exact HB.out|apply below_alloc|apply pw_below_drewN|apply below_drew1)|exact HB.out)⟩
  ·rw [if_neg c2] at H
   exact absurd H (by simp)

end Go.Proofs.Ytnagfbadjbkhmaa.PB
