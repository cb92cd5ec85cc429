import Derived.Test.YtnagfbadjbkhmaaPBx0
namespace Go.Proofs.Ytnagfbadjbkhmaa.PB
open Go.RowKit Go.Proofs.YtnagfbadjbkhmaaW.PrintWords Go.Proofs.YtnagfbadjbkhmaaW.PrintLast Go.Proofs.YtnagfbadjbkhmaaW.PrintMore
attribute [local go_sem] max2_int min2_int max_two min_two max_three min_three max_four min_four   -- for this text's walks alone
attribute [local go_sem high] Flt.fold_eq Flt.fold_ne Flt.fold_lt Flt.fold_gt Flt.fold_le Flt.fold_ge Flt.run_bits Flt.run_frombits
set_option linter.unusedVariables false
set_option linter.unusedSimpArgs false

/-! ### hornbeamlaw09_Great: function 12 -/
def hornbeamlaw09_Great.f (a0_0 : Int) (a0_1 : Int) (a0_2 : Int) (a0_3 : Int) (a0_4 : Int) (a0_5 : Int) (a0_6 : Int) (a0_7 : Int) (a0_8 : Int) (l0_9 : List Int) (l0_10 : List Int) : Option (Bool):=if (l0_9.length : Int) > 500 then (some true) else (some (decide ((l0_10.length : Int) > 200)))
set_option maxHeartbeats 8000000 in
set_option maxRecDepth 100000 in
theorem hornbeamlaw09_Great.calls (a0_0 : Int) (a0_1 : Int) (a0_2 : Int) (a0_3 : Int) (a0_4 : Int) (a0_5 : Int) (a0_6 : Int) (a0_7 : Int) (a0_8 : Int) (A0_9 : Option Addr) (c0_9 : Nat) (l0_9 : List Int) (A0_10 : Option Addr) (c0_10 : Nat) (l0_10 : List Int) (r : Bool) (w : World) (hr0_9 : Kd.C (Kd.int .u64) w A0_9 l0_9.length l0_9) (hc0_9 : l0_9.length ≤ c0_9) (hr0_10 : Kd.C (Kd.int .i64) w A0_10 l0_10.length l0_10) (hc0_10 : l0_10.length ≤ c0_10) (h : hornbeamlaw09_Great.f a0_0 a0_1 a0_2 a0_3 a0_4 a0_5 a0_6 a0_7 a0_8 l0_9 l0_10 = some r) :
  Calls Try.prog 12 #[.agg #[.int .i64 a0_0,.int .i64 a0_1,.int .i64 a0_2,.int .i64 a0_3,.int .i64 a0_4,.int .i64 a0_5,.int .i64 a0_6,.int .i64 a0_7,.int .i64 a0_8,.slice A0_9 l0_9.length c0_9,.slice A0_10 l0_10.length c0_10]] w fun e w'=>e = .returned (.bool r) ∧ Below w.heap.size w w':=by
 have hu27:=Try.underlying27
 have HR0_9:=Aside0.mk hr0_9
 have HC0_9:=Aside0.mk hc0_9
 clear hr0_9 hc0_9
 have HR0_10:=Aside0.mk hr0_10
 have HC0_10:=Aside0.mk hc0_10
 clear hr0_10 hc0_10
 have HB:=Aside0.mk (Below.refl w.heap.size w)
 have H : (if (l0_9.length : Int) > 500 then (some true) else (some (decide ((l0_10.length : Int) > 200)))) = some r:=h
 clear h
 by_cases c2 : (l0_9.length : Int) > 500
 ·rw [if_pos c2] at H
  have c2b0 : decide (500 < (l0_9.length : Int)) = true:=decide_eq_true c2
  have c2b1 : decide (500 < l0_9.length) = true:=decide_eq_true (by omega)
  clear c2
  obtain rfl:=Option.some.inj H
  go_enter Try.func12,Try.ntmps12
  go_wp2_with (first|((with_reducible refine gate_dst (N:=1) rfl ?_);(try (refine gate_guard (by rfl) ?_;dsimp only));refine box_event ?hg (N:=1) ?hd (cs:=#[.int .i64 a0_0,.int .i64 a0_1,.int .i64 a0_2,.int .i64 a0_3,.int .i64 a0_4,.int .i64 a0_5,.int .i64 a0_6,.int .i64 a0_7,.int .i64 a0_8,.slice A0_9 l0_9.length c0_9,.slice A0_10 l0_10.length c0_10]) (t:=27) ?hr ?_;(case hd=>rfl);(case hg=>rfl);(case hr=>first|(go_simp;done)|(go_simp;rfl));intro gb101 hg w3 hbox hb;have n0_:=Aside0.mk (below_step (by repeat(first|(with_reducible first|exact HB.out|apply below_alloc|apply pw_below_drewN|apply below_drew1)|exact HB.out)) hb);have n1_:=Aside0.mk (hbox);have n2_:=Aside0.mk ((by rw [hg];exact (below_size (by repeat(first|(with_reducible first|exact HB.out|apply below_alloc|apply pw_below_drewN|apply below_drew1)|exact HB.out))) : w.heap.size ≤ gb101));have n3_:=Aside0.mk ((by rw [hg];exact (below_size (by repeat(first|(with_reducible first|exact HB.out|apply below_alloc|apply pw_below_drewN|apply below_drew1)|exact HB.out))) : w.heap.size ≤ gb101));clear HB;have HB:=n0_;have BK101:=n1_;have GW101:=n2_;have GE101:=n3_;clear n0_ n1_ n2_ n3_;clear hb hbox hg;have hcz4_0 : w3.cell? ⟨gb101,0,none⟩ = some (.int .i64 a0_0):=(blk_cell BK101.out 0).trans rfl;have hcz4_1 : w3.cell? ⟨gb101,1,none⟩ = some (.int .i64 a0_1):=(blk_cell BK101.out 1).trans rfl;have hcz4_2 : w3.cell? ⟨gb101,2,none⟩ = some (.int .i64 a0_2):=(blk_cell BK101.out 2).trans rfl;have hcz4_3 : w3.cell? ⟨gb101,3,none⟩ = some (.int .i64 a0_3):=(blk_cell BK101.out 3).trans rfl;have hcz4_4 : w3.cell? ⟨gb101,4,none⟩ = some (.int .i64 a0_4):=(blk_cell BK101.out 4).trans rfl;have hcz4_5 : w3.cell? ⟨gb101,5,none⟩ = some (.int .i64 a0_5):=(blk_cell BK101.out 5).trans rfl;have hcz4_6 : w3.cell? ⟨gb101,6,none⟩ = some (.int .i64 a0_6):=(blk_cell BK101.out 6).trans rfl;have hcz4_7 : w3.cell? ⟨gb101,7,none⟩ = some (.int .i64 a0_7):=(blk_cell BK101.out 7).trans rfl;have hcz4_8 : w3.cell? ⟨gb101,8,none⟩ = some (.int .i64 a0_8):=(blk_cell BK101.out 8).trans rfl;have hcz4_9 : w3.cell? ⟨gb101,9,none⟩ = some (.slice A0_9 l0_9.length c0_9):=(blk_cell BK101.out 9).trans rfl;have hcz4_10 : w3.cell? ⟨gb101,10,none⟩ = some (.slice A0_10 l0_10.length c0_10):=(blk_cell BK101.out 10).trans rfl;have hfz4_0:=blk_frozen BK101.out 0;have hfz4_1:=blk_frozen BK101.out 1;have hfz4_2:=blk_frozen BK101.out 2;have hfz4_3:=blk_frozen BK101.out 3;have hfz4_4:=blk_frozen BK101.out 4;have hfz4_5:=blk_frozen BK101.out 5;have hfz4_6:=blk_frozen BK101.out 6;have hfz4_7:=blk_frozen BK101.out 7;have hfz4_8:=blk_frozen BK101.out 8;have hfz4_9:=blk_frozen BK101.out 9;have hfz4_10:=blk_frozen BK101.out 10))
  go_ret
  exact ⟨by first|rfl|(simp [errW_none,errW_some] <;> rfl)|(simp [*,errW_none,errW_some] <;> rfl),by repeat(first|(with_reducible first|exact HB.out|apply below_alloc|apply pw_below_drewN|apply below_drew1|refine below_set ?_ GE101.out)|exact HB.out)⟩
 ·rw [if_neg c2] at H
  have c2b0 : decide (500 < (l0_9.length : Int)) = false:=decide_eq_false c2
  have c2b1 : decide (500 < l0_9.length) = false:=decide_eq_false (by omega)
  clear c2
  obtain rfl:=Option.some.inj H
  go_enter Try.func12,Try.ntmps12
  go_wp2_with (first|((with_reducible refine gate_dst (N:=1) rfl ?_);(try (refine gate_guard (by rfl) ?_;dsimp only));refine box_event ?hg (N:=1) ?hd (cs:=#[.int .i64 a0_0,.int .i64 a0_1,.int .i64 a0_2,.int .i64 a0_3,.int .i64 a0_4,.int .i64 a0_5,.int .i64 a0_6,.int .i64 a0_7,.int .i64 a0_8,.slice A0_9 l0_9.length c0_9,.slice A0_10 l0_10.length c0_10]) (t:=27) ?hr ?_;(case hd=>rfl);(case hg=>rfl);(case hr=>first|(go_simp;done)|(go_simp;rfl));intro gb101 hg w5 hbox hb;have n0_:=Aside0.mk (below_step (by repeat(first|(with_reducible first|exact HB.out|apply below_alloc|apply pw_below_drewN|apply below_drew1)|exact HB.out)) hb);have n1_:=Aside0.mk (hbox);have n2_:=Aside0.mk ((by rw [hg];exact (below_size (by repeat(first|(with_reducible first|exact HB.out|apply below_alloc|apply pw_below_drewN|apply below_drew1)|exact HB.out))) : w.heap.size ≤ gb101));have n3_:=Aside0.mk ((by rw [hg];exact (below_size (by repeat(first|(with_reducible first|exact HB.out|apply below_alloc|apply pw_below_drewN|apply below_drew1)|exact HB.out))) : w.heap.size ≤ gb101));clear HB;have HB:=n0_;have BK101:=n1_;have GW101:=n2_;have GE101:=n3_;clear n0_ n1_ n2_ n3_;clear hb hbox hg;have hcz6_0 : w5.cell? ⟨gb101,0,none⟩ = some (.int .i64 a0_0):=(blk_cell BK101.out 0).trans rfl;have hcz6_1 : w5.cell? ⟨gb101,1,none⟩ = some (.int .i64 a0_1):=(blk_cell BK101.out 1).trans rfl;have hcz6_2 : w5.cell? ⟨gb101,2,none⟩ = some (.int .i64 a0_2):=(blk_cell BK101.out 2).trans rfl;have hcz6_3 : w5.cell? ⟨gb101,3,none⟩ = some (.int .i64 a0_3):=(blk_cell BK101.out 3).trans rfl;have hcz6_4 : w5.cell? ⟨gb101,4,none⟩ = some (.int .i64 a0_4):=(blk_cell BK101.out 4).trans rfl;have hcz6_5 : w5.cell? ⟨gb101,5,none⟩ = some (.int .i64 a0_5):=(blk_cell BK101.out 5).trans rfl;have hcz6_6 : w5.cell? ⟨gb101,6,none⟩ = some (.int .i64 a0_6):=(blk_cell BK101.out 6).trans rfl;have hcz6_7 : w5.cell? ⟨gb101,7,none⟩ = some (.int .i64 a0_7):=(blk_cell BK101.out 7).trans rfl;have hcz6_8 : w5.cell? ⟨gb101,8,none⟩ = some (.int .i64 a0_8):=(blk_cell BK101.out 8).trans rfl;have hcz6_9 : w5.cell? ⟨gb101,9,none⟩ = some (.slice A0_9 l0_9.length c0_9):=(blk_cell BK101.out 9).trans rfl;have hcz6_10 : w5.cell? ⟨gb101,10,none⟩ = some (.slice A0_10 l0_10.length c0_10):=(blk_cell BK101.out 10).trans rfl;have hfz6_0:=blk_frozen BK101.out 0;have hfz6_1:=blk_frozen BK101.out 1;have hfz6_2:=blk_frozen BK101.out 2;have hfz6_3:=blk_frozen BK101.out 3;have hfz6_4:=blk_frozen BK101.out 4;have hfz6_5:=blk_frozen BK101.out 5;have hfz6_6:=blk_frozen BK101.out 6;have hfz6_7:=blk_frozen BK101.out 7;have hfz6_8:=blk_frozen BK101.out 8;have hfz6_9:=blk_frozen BK101.out 9;have hfz6_10:=blk_frozen BK101.out 10))
  go_ret
  exact ⟨by first|rfl|(simp [errW_none,errW_some] <;> rfl)|(simp [*,errW_none,errW_some] <;> rfl),by repeat(first|(with_reducible first|exact HB.out|apply below_alloc|apply pw_below_drewN|apply below_drew1|refine below_set ?_ GE101.out)|exact HB.out)⟩

/-- What is left to prove of hornbeamlaw09_Great. -/
def hornbeamlaw09_Great.Pure : Prop:=∀ (a0_0 : Int) (a0_1 : Int) (a0_2 : Int) (a0_3 : Int) (a0_4 : Int) (a0_5 : Int) (a0_6 : Int) (a0_7 : Int) (a0_8 : Int) (l0_9 : List Int) (l0_10 : List Int),((((((Lit.int .i64 a0_0).wf = true) ∧ (((Lit.int .i64 a0_1).wf = true) ∧ (((Lit.int .i64 a0_2).wf = true) ∧ (((Lit.int .i64 a0_3).wf = true) ∧ (((Lit.int .i64 a0_4).wf = true) ∧ (((Lit.int .i64 a0_5).wf = true) ∧ ((Lit.int .i64 a0_6).wf = true)))))))) ∧ (((Lit.int .i64 a0_7).wf = true) ∧ (((Lit.int .i64 a0_8).wf = true) ∧ (((l0_9.length ≤ 9223372036854775807 ∧ l0_9.length * 8 ≤ 140737488351232 ∧ ∀ x ∈ l0_9,(Lit.int .u64 x).wf = true)) ∧ ((l0_10.length ≤ 9223372036854775807 ∧ l0_10.length * 8 ≤ 140737488351232 ∧ ∀ x ∈ l0_10,(Lit.int .i64 x).wf = true))))))) → hornbeamlaw09_Great.f a0_0 a0_1 a0_2 a0_3 a0_4 a0_5 a0_6 a0_7 a0_8 l0_9 l0_10 = some true


/-! ### hornbeamref06_Of: function 28 -/
def hornbeamref06_Of.l0 : Nat → List Int → List Nat → Int → Option (List Nat)
 | 0,_,_,_=>none
 | k + 1,x0,x3,x4=>if x4 < (x0.length : Int) then (if 0 ≤ x4 then (if x3.length < 17592186044416 then (hornbeamref06_Of.l0 k x0 (x3 ++ [Flt.fbits (rd x0 x4)]) (wrap64 (x4 + 1))) else (none)) else (none)) else (some x3)
def hornbeamref06_Of.f (k : Nat) (l0 : List Int) : Option (List Nat):=hornbeamref06_Of.l0 k l0 (([] : List Nat)) 0
theorem hornbeamref06_Of.mono_l : ∀ k,(∀ y0 y1 y2,LeO (hornbeamref06_Of.l0 k y0 y1 y2) (hornbeamref06_Of.l0 (k + 1) y0 y1 y2))
 | 0=>fun _ _ _ r h=>by simp [hornbeamref06_Of.l0] at h
 | k + 1=>by
  have ih0:=hornbeamref06_Of.mono_l k
  ·intro y0 y1 y2
   unfold hornbeamref06_Of.l0
   repeat' first
   | (with_reducible exact ih0 _ _ _)
   | (with_reducible exact LeO.refl _)
   | (with_reducible exact LeO.none _)
   | (with_reducible refine LeO.ite ?_ ?_)
   | (with_reducible refine LeO.bind ?_ (fun _=>?_))
   | exact ih0 _ _ _
   | exact LeO.none _
   | refine LeO.ite ?_ ?_
   | refine LeO.bind ?_ (fun _=>?_)
theorem hornbeamref06_Of.mono : ∀ a0 k,LeO (hornbeamref06_Of.f k a0) (hornbeamref06_Of.f (k + 1) a0):=by
 intro a0 k
 have ih0:=hornbeamref06_Of.mono_l k
 unfold hornbeamref06_Of.f
 repeat' first
   | (with_reducible exact ih0 _ _ _)
   | (with_reducible exact LeO.refl _)
   | (with_reducible exact LeO.none _)
   | (with_reducible refine LeO.ite ?_ ?_)
   | (with_reducible refine LeO.bind ?_ (fun _=>?_))
   | exact ih0 _ _ _
   | exact LeO.none _
   | refine LeO.ite ?_ ?_
   | refine LeO.bind ?_ (fun _=>?_)
set_option maxHeartbeats 8000000 in
set_option maxRecDepth 100000 in
theorem hornbeamref06_Of.calls (k : Nat) (A0 : Option Addr) (c0 : Nat) (l0 : List Int) (r : List Nat) (w : World) (hr0 : Kd.C (Kd.int .u64) w A0 l0.length l0) (hc0 : l0.length ≤ c0) (h : hornbeamref06_Of.f k l0 = some r) :
  Calls Try.prog 28 #[.slice A0 l0.length c0] w fun e w'=>∃ v0_ : Value,e = .returned (v0_) ∧ Kd.R Flt.kf 36 w' w.heap.size (fun _=>True) v0_ r ∧ Below w.heap.size w w':=by
 have HR0:=Aside0.mk hr0
 have HC0:=Aside0.mk hc0
 clear hr0 hc0
 have HB:=Aside0.mk (Below.refl w.heap.size w)
 have H : (hornbeamref06_Of.l0 k l0 (([] : List Nat)) 0) = some r:=h
 clear h
 obtain ⟨y102,hy102⟩ : ∃ y_ : List Nat,y_ = (([] : List Nat)):=⟨_,rfl⟩
 replace H : (hornbeamref06_Of.l0 k l0 y102 0) = some r:=by first|(rw [hy102];with_reducible exact H)|(have H2_:=(Option.bind_some _ _).symm.trans H;rw [hy102];with_reducible exact H2_)|(have H2_:=(Option.bind_some _ _).symm.trans H;with_reducible exact H2_)|with_reducible exact H|(rw [hy102];exact H)|exact H
 have Ny102:=Aside0.mk hy102
 clear hy102
 have H':=Aside0.mk H
 clear H
 go_enter Try.func28,Try.ntmps28
 go_wp2_with (first|((with_reducible refine gate_dst (N:=5) rfl ?_);refine Kd.R_lit Flt.kf _ 36 ?hg (N:=5) ?hd (xs:=([] : List Nat)) (inner:=[]) (ok:=fun _=>True) (okp:=fun _=>True) ?hr ?hp (fun _ hk=>hk) trivial (Below.refl _ _) (Nat.le_refl _) (by simp) ?_;(case hd=>rfl);(case hg=>rfl);(case hr=>first|(go_simp;done)|(go_simp;rfl));(case hp=>exact (Reps.none _ _));intro v103 w2 ho3 hb hg_ hnew_;clear hg_ hnew_;(first|rw [← Ny102.out] at ho3|(simp only [Int.reduceToNat] at ho3;rw [← Ny102.out] at ho3));have n0_:=Aside0.mk (Kd.R_lower ho3 (below_size (by repeat(first|(with_reducible first|exact HB.out|apply below_alloc|apply pw_below_drewN|apply below_drew1)|exact HB.out))));have n1_:=Aside0.mk (below_step (by repeat(first|(with_reducible first|exact HB.out|apply below_alloc|apply pw_below_drewN|apply below_drew1)|exact HB.out)) hb);clear HB;have HO104:=n0_;have HB:=n1_;clear n0_ n1_;clear hb ho3))
 go_loopg [3,4] k (fun kq v3 v4 w'=>∃ (x3_1 : List Nat) (x4_1 : Int),v4 = .int .i64 x4_1 ∧ Aside0 (hornbeamref06_Of.l0 kq l0 x3_1 x4_1 = some r) ∧ Aside0 (kq ≤ k) ∧ Aside0 (Kd.R Flt.kf 36 w' w.heap.size (fun _=>True) v3 x3_1) ∧ Aside0 (Below w.heap.size w w'))
 case atStart=>exact ⟨(y102),(0),(by first|rfl|(simp;done)|(simp [*];done)),H',⟨Nat.le_refl _⟩,⟨by (with_reducible repeat(first|apply Kd.R_alloc|apply Kd.R_drewN|apply Kd.R_drew));exact HO104.out⟩,⟨by repeat(first|(with_reducible first|exact HB.out|apply below_alloc|apply pw_below_drewN|apply below_drew1)|exact HB.out)⟩⟩
 case round =>
  clear H'
  try clear c2
  try clear p2
  obtain ⟨x3_1,x4_1,rfl,HA,HK1,HO_3,HB⟩:=hrel
  cases gk with
  | zero=>exact absurd HA.out (by simp [hornbeamref06_Of.l0])
  | succ k1 =>
   have H:=HA.out
   clear HA
   simp only [hornbeamref06_Of.l0] at H
   by_cases c4 : x4_1 < (l0.length : Int)
   ·rw [if_pos c4] at H
    have c4b0 : decide (x4_1 < (l0.length : Int)) = true:=decide_eq_true c4
    clear c4
    by_cases c5 : 0 ≤ x4_1
    ·rw [if_pos c5] at H
     have c5b0 : decide (0 ≤ x4_1) = true:=decide_eq_true c5
     clear c5
     by_cases c6 : x3_1.length < 17592186044416
     ·rw [if_pos c6] at H
      have LMc6:=Aside0.mk c6
      clear c6
      obtain ⟨y106,hy106⟩ : ∃ y_ : List Nat,y_ = (x3_1 ++ [Flt.fbits (rd l0 x4_1)]):=⟨_,rfl⟩
      replace H : (hornbeamref06_Of.l0 k1 l0 y106 (wrap64 (x4_1 + 1))) = some r:=by first|(rw [hy106];with_reducible exact H)|(have H2_:=(Option.bind_some _ _).symm.trans H;rw [hy106];with_reducible exact H2_)|(have H2_:=(Option.bind_some _ _).symm.trans H;with_reducible exact H2_)|with_reducible exact H|(rw [hy106];exact H)|exact H
      have Ny106:=Aside0.mk hy106
      clear hy106
      have H':=Aside0.mk H
      clear H
      have p105 : 0 ≤ (x4_1 : Int):=of_decide_eq_true (by first|(with_reducible assumption)|assumption)
      have q105 : x4_1 < (l0.length : Int):=of_decide_eq_true (by first|(with_reducible assumption)|assumption)
      obtain ⟨ad105,e105,hx105_0⟩:=Kd.at_int HR0.out x4_1 p105 q105
      cases e105
      replace hx105_0:=(HB.out.cell (World.block_lt_of_cell? w _ hx105_0)).trans hx105_0
      replace p105:=eq_true p105
      replace q105:=eq_true q105
      go_wp2_with (first|((with_reducible refine gate_builtin (b:=.append) (xs:=#[.tmp 12,.tmp 18]) rfl ?_);at_builtin;refine Kd.R_append Flt.kf (w0:=w) w.heap.size rfl (.tmp 12) (.tmp 18) 30 36 (.float .f64 0) 8 rfl Try.underlying30 info36 rfl (by decide) (by omega) u3 x3_1 (Flt.fbits (rd l0 x4_1)) [.float .f64 (Flt.fbits (rd l0 x4_1))] (fun _=>True) (fun _=>False) rfl rfl ?aP (fun _ hk=>hk.elim) ?aF ?aO ?aB ?aS ?aL ?_;(case aP=>exact rfl);(case aB=>exact (by repeat(first|(with_reducible first|exact HB.out|apply below_alloc|apply pw_below_drewN|apply below_drew1)|exact HB.out)));(case aF=>exact (fun _ _=>trivial));(case aO=>exact (by (with_reducible repeat(first|apply Kd.R_alloc|apply Kd.R_drewN|apply Kd.R_drew));exact HO_3.out));(case aS=>exact (below_size (by repeat(first|(with_reducible first|exact HB.out|apply below_alloc|apply pw_below_drewN|apply below_drew1)|exact HB.out))));(case aL=>have:=LMc6.out;omega);intro v107 w7 ho hb hg hat;rw [← Ny106.out] at ho;have n0_:=Aside0.mk (hb);have n1_:=Aside0.mk (ho);clear HB;clear HO_3;have HB:=n0_;have HO108:=n1_;clear n0_ n1_;clear ho hb hg hat))
      go_roundg k1
      case measure=>have:=HK1.out;omega
      case rel=>exact ⟨(y106),(wrap64 (x4_1 + 1)),(by first|rfl|(simp;done)|(simp [*];done)),H',⟨by have:=HK1.out;omega⟩,⟨by (with_reducible repeat(first|apply Kd.R_alloc|apply Kd.R_drewN|apply Kd.R_drew));exact HO108.out⟩,⟨by repeat(first|(with_reducible first|exact HB.out|apply below_alloc|apply pw_below_drewN|apply below_drew1)|exact HB.out)⟩⟩
     ·rw [if_neg c6] at H
      exact absurd H (by simp)
    ·rw [if_neg c5] at H
     exact absurd H (by simp)
   ·rw [if_neg c4] at H
    have c4b0 : decide (x4_1 < (l0.length : Int)) = false:=decide_eq_false c4
    clear c4
    obtain rfl:=Option.some.inj H
    go_wp2
    go_ret
    exact ⟨_,by first|rfl|(simp [errW_none,errW_some] <;> rfl)|(simp [*,errW_none,errW_some] <;> rfl),by (with_reducible repeat(first|apply Kd.R_alloc|apply Kd.R_drewN|apply Kd.R_drew));exact HO_3.out,by repeat(first|(with_reducible first|exact HB.out|apply below_alloc|apply pw_below_drewN|apply below_drew1)|exact HB.out)⟩

end Go.Proofs.Ytnagfbadjbkhmaa.PB
