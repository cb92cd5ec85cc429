import Derived.Test.YtnagfbadjbkhmaaPAx0
import Derived.Test.YtnagfbadjbkhmaaPAx42
namespace Go.Proofs.Ytnagfbadjbkhmaa.PA
open Go.RowKit Go.Proofs.YtnagfbadjbkhmaaW.PrintWords Go.Proofs.YtnagfbadjbkhmaaW.PrintLast Go.Proofs.YtnagfbadjbkhmaaW.PrintMore
attribute [local go_sem] max2_int min2_int max_two min_two max_three min_three max_four min_four   -- for this text's walks alone
attribute [local go_sem high] Flt.fold_eq Flt.fold_ne Flt.fold_lt Flt.fold_gt Flt.fold_le Flt.fold_ge Flt.run_bits Flt.run_frombits
set_option linter.unusedVariables false
set_option linter.unusedSimpArgs false

/-! ### bins_Row: function 41 -/
def bins_Row.l0 : Nat → Int → List Int → Int → Int → Int → List Int → Option (List Int)
 | 0,_,_,_,_,_,_=>none
 | k + 1,x1,x5,x6,x781000,x781001,x781002=>if x6 < x781001 then ((bins_Cell.f x781000 x781001 x781002 x1 x6).bind fun bt781=>(if bt781.2 = true then (if x5.length < 17592186044416 then (bins_Row.l0 k x1 (x5 ++ [bt781.1]) (wrap64 (x6 + 1)) x781000 x781001 x781002) else (none)) else (some ([] : List Int)))) else (some x5)
def bins_Row.f (k : Nat) (a0_0 : Int) (a0_1 : Int) (l0_2 : List Int) (a1 : Int) : Option (List Int):=bins_Row.l0 k a1 ([] : List Int) 0 a0_0 a0_1 l0_2
theorem bins_Row.mono_l : ∀ k,(∀ y0 y1 y2 y3 y4 y5,LeO (bins_Row.l0 k y0 y1 y2 y3 y4 y5) (bins_Row.l0 (k + 1) y0 y1 y2 y3 y4 y5))
 | 0=>fun _ _ _ _ _ _ r h=>by simp [bins_Row.l0] at h
 | k + 1=>by
  have ih0:=bins_Row.mono_l k
  ·intro y0 y1 y2 y3 y4 y5
   unfold bins_Row.l0
   repeat' first
   | (with_reducible exact ih0 _ _ _ _ _ _)
   | (with_reducible exact LeO.refl _)
   | (with_reducible exact LeO.none _)
   | (with_reducible refine LeO.ite ?_ ?_)
   | (with_reducible refine LeO.bind ?_ (fun _=>?_))
   | exact ih0 _ _ _ _ _ _
   | exact LeO.none _
   | refine LeO.ite ?_ ?_
   | refine LeO.bind ?_ (fun _=>?_)
theorem bins_Row.mono : ∀ a0 a1 a2 a3 k,LeO (bins_Row.f k a0 a1 a2 a3) (bins_Row.f (k + 1) a0 a1 a2 a3):=by
 intro a0 a1 a2 a3 k
 have ih0:=bins_Row.mono_l k
 unfold bins_Row.f
 repeat' first
   | (with_reducible exact ih0 _ _ _ _ _ _)
   | (with_reducible exact LeO.refl _)
   | (with_reducible exact LeO.none _)
   | (with_reducible refine LeO.ite ?_ ?_)
   | (with_reducible refine LeO.bind ?_ (fun _=>?_))
   | exact ih0 _ _ _ _ _ _
   | exact LeO.none _
   | refine LeO.ite ?_ ?_
   | refine LeO.bind ?_ (fun _=>?_)
set_option maxHeartbeats 8000000 in
set_option maxRecDepth 100000 in
theorem bins_Row.calls (k : Nat) (a0_0 : Int) (a0_1 : Int) (A0_2 : Option Addr) (c0_2 : Nat) (l0_2 : List Int) (a1 : Int) (r : List Int) (w : World) (hr0_2 : Kd.C (Kd.int .u16) w A0_2 l0_2.length l0_2) (hc0_2 : l0_2.length ≤ c0_2) (h : bins_Row.f k a0_0 a0_1 l0_2 a1 = some r) :
  Calls Try.prog 41 #[.agg #[.int .i64 a0_0,.int .i64 a0_1,.slice A0_2 l0_2.length c0_2],.int .i64 a1] w fun e w'=>∃ v0_ : Value,e = .returned (v0_) ∧ Kd.R (Kd.int .i64) 3 w' w.heap.size (fun _=>True) v0_ r ∧ Below w.heap.size w w':=by
 have hu62:=Try.underlying62
 have HR0_2:=Aside0.mk hr0_2
 have HC0_2:=Aside0.mk hc0_2
 clear hr0_2 hc0_2
 have HB:=Aside0.mk (Below.refl w.heap.size w)
 have H : (bins_Row.l0 k a1 ([] : List Int) 0 a0_0 a0_1 l0_2) = some r:=h
 clear h
 have H':=Aside0.mk H
 clear H
 go_enter Try.func41,Try.ntmps41
 go_wp2_with (first|((with_reducible refine gate_dst (N:=2) rfl ?_);refine box_event ?hg (N:=2) ?hd (cs:=#[.int .i64 a0_0,.int .i64 a0_1,.slice A0_2 l0_2.length c0_2]) (t:=62) ?hr ?_;(case hd=>rfl);(case hg=>rfl);(case hr=>first|(go_simp;done)|(go_simp;rfl));intro gb780 hg w3 hbox hb;have n0_:=Aside0.mk (below_step (by repeat(first|(with_reducible first|exact HB.out|apply below_alloc|apply pw_below_drewN|apply below_drew1)|exact HB.out)) hb);have n1_:=Aside0.mk (hbox);have n2_:=Aside0.mk ((by rw [hg];exact (below_size (by repeat(first|(with_reducible first|exact HB.out|apply below_alloc|apply pw_below_drewN|apply below_drew1)|exact HB.out))) : w.heap.size ≤ gb780));have n3_:=Aside0.mk ((by rw [hg];exact (below_size (by repeat(first|(with_reducible first|exact HB.out|apply below_alloc|apply pw_below_drewN|apply below_drew1)|exact HB.out))) : w.heap.size ≤ gb780));clear HB;have HB:=n0_;have BK780:=n1_;have GW780:=n2_;have GE780:=n3_;clear n0_ n1_ n2_ n3_;clear hb hbox hg))
 go_loopg [5,6] k (fun kq v5 v6 w'=>∃ (x5_1 : List Int) (x6_1 : Int),v6 = .int .i64 x6_1 ∧ Aside0 (bins_Row.l0 kq a1 x5_1 x6_1 a0_0 a0_1 l0_2 = some r) ∧ Aside0 (kq ≤ k) ∧ Aside0 (Kd.R (Kd.int .i64) 3 w' w.heap.size (fun _=>True) v5 x5_1) ∧ Aside0 (w'.heap[gb780]? = some (.cells #[.int .i64 a0_0,.int .i64 a0_1,(.slice A0_2 l0_2.length c0_2)] 62 (0,0))) ∧ Aside0 (Below w.heap.size w w'))
 case atStart=>exact ⟨(([] : List Int)),(0),(by first|rfl|(simp;done)|(simp [*];done)),H',⟨Nat.le_refl _⟩,⟨by first|exact Kd.R_nil _ _ _ _ _|exact Kd.N_nil _ _ _ _ _|exact Kd.V_nil _ _ _ _ _|exact Kd.Q_nil _ _ _ _ _|exact Kd.S_nil _ _ _ _ _⟩,⟨by (with_reducible repeat(first|refine blk_drewN ?_ _|refine blk_drew ?_|refine blk_alloc ?_ _));exact BK780.out⟩,⟨by repeat(first|(with_reducible first|exact HB.out|apply below_alloc|apply pw_below_drewN|apply below_drew1|refine below_set ?_ GE780.out)|exact HB.out)⟩⟩
 case round =>
  clear H'
  try clear p2
  obtain ⟨x5_1,x6_1,rfl,HA,HK1,HO_5,BK780,HB⟩:=hrel
  cases gk with
  | zero=>exact absurd HA.out (by simp [bins_Row.l0])
  | succ k1 =>
   have H:=HA.out
   clear HA
   simp only [bins_Row.l0] at H
   by_cases c4 : x6_1 < a0_1
   ·rw [if_pos c4] at H
    have c4b0 : decide (x6_1 < a0_1) = true:=decide_eq_true c4
    clear c4
    replace H:=Option.bind_eq_some_iff.mp H
    obtain ⟨⟨t781,t782⟩,A50,H⟩:=H
    replace H : (if t782 = true then (if x5_1.length < 17592186044416 then (bins_Row.l0 k1 a1 (x5_1 ++ [t781]) (wrap64 (x6_1 + 1)) a0_0 a0_1 l0_2) else (none)) else (some ([] : List Int))) = some r:=H
    have A5:=Aside0.mk A50
    clear A50
    by_cases c6 : t782 = true
    ·subst c6
     have H1 : (if x5_1.length < 17592186044416 then (bins_Row.l0 k1 a1 (x5_1 ++ [t781]) (wrap64 (x6_1 + 1)) a0_0 a0_1 l0_2) else (none)) = some r:=by rw [if_pos rfl] at H;exact H
     clear H
     have H:=H1
     clear H1
     by_cases c7 : x5_1.length < 17592186044416
     ·rw [if_pos c7] at H
      have LMc7:=Aside0.mk c7
      clear c7
      obtain ⟨y783,hy783⟩ : ∃ y_ : List Int,y_ = (x5_1 ++ [t781]):=⟨_,rfl⟩
      replace H : (bins_Row.l0 k1 a1 y783 (wrap64 (x6_1 + 1)) a0_0 a0_1 l0_2) = some r:=by first|(rw [hy783];with_reducible exact H)|(have H2_:=(Option.bind_some _ _).symm.trans H;rw [hy783];with_reducible exact H2_)|(have H2_:=(Option.bind_some _ _).symm.trans H;with_reducible exact H2_)|with_reducible exact H|(rw [hy783];exact H)|exact H
      have Ny783:=Aside0.mk hy783
      clear hy783
      have H':=Aside0.mk H
      clear H
      have hcz8_0 : wr.cell? ⟨gb780,0,none⟩ = some (.int .i64 a0_0):=(blk_cell BK780.out 0).trans rfl
      have hcz8_1 : wr.cell? ⟨gb780,1,none⟩ = some (.int .i64 a0_1):=(blk_cell BK780.out 1).trans rfl
      have hcz8_2 : wr.cell? ⟨gb780,2,none⟩ = some (.slice A0_2 l0_2.length c0_2):=(blk_cell BK780.out 2).trans rfl
      have hfz8_0:=blk_frozen BK780.out 0
      have hfz8_1:=blk_frozen BK780.out 1
      have hfz8_2:=blk_frozen BK780.out 2
      go_wp2_with (first|((with_reducible refine gate_callee (f:=37) rfl ?_);refine goesL_ (some 19) rfl rfl Try.func37 (by kernel_rfl) rfl #[.agg #[.int .i64 a0_0,.int .i64 a0_1,.slice A0_2 l0_2.length c0_2],.int .i64 a1,.int .i64 x6_1] rfl (by (try simp only [List.map_toArray,List.map_cons,List.map_nil]);first|done|rfl|(simp only [List.length_drop,List.length_take];rfl)) ?_;(with_reducible refine (bins_Cell.calls a0_0 a0_1 _ _ l0_2 a1 x6_1 t781 true _ ?side1 ?side2 A5.out).mono ?_);(case side1=>repeat(first|exact (Kd.C_below HR0_2.out HB.out)|(with_reducible refine Kd.C_alloc ?_ _)|(with_reducible refine Kd.C_drewN ?_ _)|(with_reducible refine Kd.C_drew ?_)));(case side2=>exact HC0_2.out);rintro e w9 ⟨rfl,hb⟩;refine ⟨_,rfl,?_⟩;have n0_:=Aside0.mk (Kd.R_below (by (with_reducible repeat(first|apply Kd.R_alloc|apply Kd.R_drewN|apply Kd.R_drew));exact HO_5.out) hb);have n1_:=Aside0.mk (blk_below (g:=gb780) (o:=.cells #[.int .i64 a0_0,.int .i64 a0_1,.slice A0_2 l0_2.length c0_2] 62 (0,0)) (by (with_reducible repeat(first|refine blk_drewN ?_ _|refine blk_drew ?_|refine blk_alloc ?_ _));exact BK780.out) hb);have n2_:=Aside0.mk (below_step (by repeat(first|(with_reducible first|exact HB.out|apply below_alloc|apply pw_below_drewN|apply below_drew1|refine below_set ?_ GE780.out)|exact HB.out)) hb);clear HO_5;clear BK780;clear HB;have HO_5:=n0_;have BK780:=n1_;have HB:=n2_;clear n0_ n1_ n2_;(try clear hb);(try clear hb2);(try clear hk);(try clear hi))|((with_reducible refine gate_builtin (b:=.append) (xs:=#[.tmp 24,.tmp 26]) rfl ?_);at_builtin;refine Kd.R_append (Kd.int .i64) (w0:=w) w.heap.size rfl (.tmp 24) (.tmp 26) 69 3 (.int .i64 0) 8 rfl Try.underlying69 info3 rfl (by decide) (by omega) u5 x5_1 t781 [.int .i64 t781] (fun _=>True) (fun _=>False) rfl rfl ?aP (fun _ hk=>hk.elim) ?aF ?aO ?aB ?aS ?aL ?_;(case aP=>exact rfl);(case aB=>exact (by repeat(first|(with_reducible first|exact HB.out|apply below_alloc|apply pw_below_drewN|apply below_drew1|refine below_set ?_ GE780.out)|exact HB.out)));(case aF=>exact (fun _ _=>trivial));(case aO=>exact (by (with_reducible repeat(first|apply Kd.R_alloc|apply Kd.R_drewN|apply Kd.R_drew));exact HO_5.out));(case aS=>exact (below_size (by repeat(first|(with_reducible first|exact HB.out|apply below_alloc|apply pw_below_drewN|apply below_drew1|refine below_set ?_ GE780.out)|exact HB.out))));(case aL=>have:=LMc7.out;omega);intro v784 w10 ho hb hg hat;rw [← Ny783.out] at ho;have n0_:=Aside0.mk (blk_grown (g:=gb780) (o:=.cells #[.int .i64 a0_0,.int .i64 a0_1,.slice A0_2 l0_2.length c0_2] 62 (0,0)) (by (with_reducible repeat(first|refine blk_drewN ?_ _|refine blk_drew ?_|refine blk_alloc ?_ _));exact BK780.out) hg (Kd.R_ne HO_5.out BK780.out (by decide)));have n1_:=Aside0.mk (hb);have n2_:=Aside0.mk (ho);clear BK780;clear HB;clear HO_5;have BK780:=n0_;have HB:=n1_;have HO785:=n2_;clear n0_ n1_ n2_;clear ho hb hg hat))
      go_roundg k1
      case measure=>have:=HK1.out;omega
      case rel=>exact ⟨(y783),(wrap64 (x6_1 + 1)),(by first|rfl|(simp;done)|(simp [*];done)),H',⟨by have:=HK1.out;omega⟩,⟨by (with_reducible repeat(first|apply Kd.R_alloc|apply Kd.R_drewN|apply Kd.R_drew));exact HO785.out⟩,⟨by (with_reducible repeat(first|refine blk_drewN ?_ _|refine blk_drew ?_|refine blk_alloc ?_ _));exact BK780.out⟩,⟨by repeat(first|(with_reducible first|exact HB.out|apply below_alloc|apply pw_below_drewN|apply below_drew1|refine below_set ?_ GE780.out)|exact HB.out)⟩⟩
     ·rw [if_neg c7] at H
      exact absurd H (by simp)
    ·replace c6:=Bool.eq_false_iff.mpr c6
     subst c6
     have H1 : (some ([] : List Int)) = some r:=by rw [if_neg (show ¬ (false = true) by decide)] at H;exact H
     clear H
     have H:=H1
     clear H1
     obtain rfl:=Option.some.inj H
     have hcz11_0 : wr.cell? ⟨gb780,0,none⟩ = some (.int .i64 a0_0):=(blk_cell BK780.out 0).trans rfl
     have hcz11_1 : wr.cell? ⟨gb780,1,none⟩ = some (.int .i64 a0_1):=(blk_cell BK780.out 1).trans rfl
     have hcz11_2 : wr.cell? ⟨gb780,2,none⟩ = some (.slice A0_2 l0_2.length c0_2):=(blk_cell BK780.out 2).trans rfl
     have hfz11_0:=blk_frozen BK780.out 0
     have hfz11_1:=blk_frozen BK780.out 1
     have hfz11_2:=blk_frozen BK780.out 2
     go_wp2_with (first|((with_reducible refine gate_callee (f:=37) rfl ?_);refine goesL_ (some 19) rfl rfl Try.func37 (by kernel_rfl) rfl #[.agg #[.int .i64 a0_0,.int .i64 a0_1,.slice A0_2 l0_2.length c0_2],.int .i64 a1,.int .i64 x6_1] rfl (by (try simp only [List.map_toArray,List.map_cons,List.map_nil]);first|done|rfl|(simp only [List.length_drop,List.length_take];rfl)) ?_;(with_reducible refine (bins_Cell.calls a0_0 a0_1 _ _ l0_2 a1 x6_1 t781 false _ ?side1 ?side2 A5.out).mono ?_);(case side1=>repeat(first|exact (Kd.C_below HR0_2.out HB.out)|(with_reducible refine Kd.C_alloc ?_ _)|(with_reducible refine Kd.C_drewN ?_ _)|(with_reducible refine Kd.C_drew ?_)));(case side2=>exact HC0_2.out);rintro e w12 ⟨rfl,hb⟩;refine ⟨_,rfl,?_⟩;have n0_:=Aside0.mk (Kd.R_below (by (with_reducible repeat(first|apply Kd.R_alloc|apply Kd.R_drewN|apply Kd.R_drew));exact HO_5.out) hb);have n1_:=Aside0.mk (blk_below (g:=gb780) (o:=.cells #[.int .i64 a0_0,.int .i64 a0_1,.slice A0_2 l0_2.length c0_2] 62 (0,0)) (by (with_reducible repeat(first|refine blk_drewN ?_ _|refine blk_drew ?_|refine blk_alloc ?_ _));exact BK780.out) hb);have n2_:=Aside0.mk (below_step (by repeat(first|(with_reducible first|exact HB.out|apply below_alloc|apply pw_below_drewN|apply below_drew1|refine below_set ?_ GE780.out)|exact HB.out)) hb);clear HO_5;clear BK780;clear HB;have HO_5:=n0_;have BK780:=n1_;have HB:=n2_;clear n0_ n1_ n2_;(try clear hb);(try clear hb2);(try clear hk);(try clear hi)))
     go_ret
     exact ⟨_,by first|rfl|(simp [errW_none,errW_some] <;> rfl)|(simp [*,errW_none,errW_some] <;> rfl),by first|exact Kd.R_nil _ _ _ _ _|exact Kd.N_nil _ _ _ _ _|exact Kd.V_nil _ _ _ _ _|exact Kd.Q_nil _ _ _ _ _|exact Kd.S_nil _ _ _ _ _,by repeat(first|(with_reducible first|exact HB.out|apply below_alloc|apply pw_below_drewN|apply below_drew1|refine below_set ?_ GE780.out)|exact HB.out)⟩
   ·rw [if_neg c4] at H
    have c4b0 : decide (x6_1 < a0_1) = false:=decide_eq_false c4
    clear c4
    obtain rfl:=Option.some.inj H
    have hcz13_0 : wr.cell? ⟨gb780,0,none⟩ = some (.int .i64 a0_0):=(blk_cell BK780.out 0).trans rfl
    have hcz13_1 : wr.cell? ⟨gb780,1,none⟩ = some (.int .i64 a0_1):=(blk_cell BK780.out 1).trans rfl
    have hcz13_2 : wr.cell? ⟨gb780,2,none⟩ = some (.slice A0_2 l0_2.length c0_2):=(blk_cell BK780.out 2).trans rfl
    have hfz13_0:=blk_frozen BK780.out 0
    have hfz13_1:=blk_frozen BK780.out 1
    have hfz13_2:=blk_frozen BK780.out 2
    go_wp2
    go_ret
    exact ⟨_,by first|rfl|(simp [errW_none,errW_some] <;> rfl)|(simp [*,errW_none,errW_some] <;> rfl),by (with_reducible repeat(first|apply Kd.R_alloc|apply Kd.R_drewN|apply Kd.R_drew));exact HO_5.out,by repeat(first|(with_reducible first|exact HB.out|apply below_alloc|apply pw_below_drewN|apply below_drew1|refine below_set ?_ GE780.out)|exact HB.out)⟩

end Go.Proofs.Ytnagfbadjbkhmaa.PA
