import Derived.Test.YtnagfbadjbkhmaaPBx0
import Derived.Test.YtnagfbadjbkhmaaPBx6
import Derived.Test.YtnagfbadjbkhmaaPBx10
namespace Go.Proofs.Ytnagfbadjbkhmaa.PB
open Go.RowKit Go.Proofs.YtnagfbadjbkhmaaW.PrintWords Go.Proofs.YtnagfbadjbkhmaaW.PrintLast Go.Proofs.YtnagfbadjbkhmaaW.PrintMore
attribute [local go_sem] max2_int min2_int max_two min_two max_three min_three max_four min_four   -- for this text's walks alone
attribute [local go_sem high] Flt.fold_eq Flt.fold_ne Flt.fold_lt Flt.fold_gt Flt.fold_le Flt.fold_ge Flt.run_bits Flt.run_frombits
set_option linter.unusedVariables false
set_option linter.unusedSimpArgs false

/-! ### hornbeamref10_There: function 96 -/
def hornbeamref10_There.l0 : Nat → List Nat → List Nat → Int → Option (List Nat)
 | 0,_,_,_=>none
 | k + 1,x3,x4,x5=>if x5 < (x4.length : Int) then (if 0 ≤ x5 then ((hornbeamref06_Missing.f (rdOf (0 : Nat) x4 x5)).bind fun t264=>(if t264 = true then (hornbeamref10_There.l0 k x3 x4 (wrap64 (x5 + 1))) else (if x3.length < 17592186044416 then (hornbeamref10_There.l0 k (x3 ++ [rdOf (0 : Nat) x4 x5]) x4 (wrap64 (x5 + 1))) else (none)))) else (none)) else (some x3)
def hornbeamref10_There.f (k : Nat) (l0 : List Nat) : Option (List Nat):=(hornbeamref06_Sort.f k l0).bind fun t260=>(hornbeamref10_There.l0 k (([] : List Nat)) t260 0)
theorem hornbeamref10_There.mono_l : ∀ k,(∀ y0 y1 y2,LeO (hornbeamref10_There.l0 k y0 y1 y2) (hornbeamref10_There.l0 (k + 1) y0 y1 y2))
 | 0=>fun _ _ _ r h=>by simp [hornbeamref10_There.l0] at h
 | k + 1=>by
  have ih0:=hornbeamref10_There.mono_l k
  ·intro y0 y1 y2
   unfold hornbeamref10_There.l0
   repeat' first
   | (with_reducible exact ih0 _ _ _)
   | (with_reducible exact hornbeamref06_Sort.mono _ _)
   | (with_reducible exact LeO.refl _)
   | (with_reducible exact LeO.none _)
   | (with_reducible refine LeO.ite ?_ ?_)
   | (with_reducible refine LeO.bind ?_ (fun _=>?_))
   | exact ih0 _ _ _
   | exact hornbeamref06_Sort.mono _ _
   | exact LeO.none _
   | refine LeO.ite ?_ ?_
   | refine LeO.bind ?_ (fun _=>?_)
theorem hornbeamref10_There.mono : ∀ a0 k,LeO (hornbeamref10_There.f k a0) (hornbeamref10_There.f (k + 1) a0):=by
 intro a0 k
 have ih0:=hornbeamref10_There.mono_l k
 unfold hornbeamref10_There.f
 repeat' first
   | (with_reducible exact ih0 _ _ _)
   | (with_reducible exact hornbeamref06_Sort.mono _ _)
   | (with_reducible exact LeO.refl _)
   | (with_reducible exact LeO.none _)
   | (with_reducible refine LeO.ite ?_ ?_)
   | (with_reducible refine LeO.bind ?_ (fun _=>?_))
   | exact ih0 _ _ _
   | exact hornbeamref06_Sort.mono _ _
   | exact LeO.none _
   | refine LeO.ite ?_ ?_
   | refine LeO.bind ?_ (fun _=>?_)
set_option maxHeartbeats 8000000 in
set_option maxRecDepth 100000 in
theorem hornbeamref10_There.calls (k : Nat) (A0 : Option Addr) (c0 : Nat) (l0 : List Nat) (r : List Nat) (w : World) (hr0 : Kd.C Flt.kf w A0 l0.length l0) (hc0 : l0.length ≤ c0) (h : hornbeamref10_There.f k l0 = some r) :
  Calls Try.prog 96 #[.slice A0 l0.length c0] w fun e w'=>∃ v0_ : Value,e = .returned (v0_) ∧ Kd.R Flt.kf 36 w' w.heap.size (fun _=>True) v0_ r ∧ Below w.heap.size w w':=by
 have HR0:=Aside0.mk hr0
 have HC0:=Aside0.mk hc0
 clear hr0 hc0
 have HB:=Aside0.mk (Below.refl w.heap.size w)
 have H : ((hornbeamref06_Sort.f k l0).bind fun t260=>(hornbeamref10_There.l0 k (([] : List Nat)) t260 0)) = some r:=h
 clear h
 obtain ⟨y257,hy257⟩ : ∃ y_ : List Nat,y_ = (([] : List Nat)):=⟨_,rfl⟩
 replace H : ((hornbeamref06_Sort.f k l0).bind fun t260=>(hornbeamref10_There.l0 k y257 t260 0)) = some r:=by first|(rw [hy257];with_reducible exact H)|(have H2_:=(Option.bind_some _ _).symm.trans H;rw [hy257];with_reducible exact H2_)|(have H2_:=(Option.bind_some _ _).symm.trans H;with_reducible exact H2_)|with_reducible exact H|(rw [hy257];exact H)|exact H
 have Ny257:=Aside0.mk hy257
 clear hy257
 replace H:=Option.bind_eq_some_iff.mp H
 obtain ⟨t260,A20,H⟩:=H
 replace H : (hornbeamref10_There.l0 k y257 t260 0) = some r:=H
 have A2:=Aside0.mk A20
 clear A20
 have H':=Aside0.mk H
 clear H
 go_enter Try.func96,Try.ntmps96
 go_wp2_with (first|((with_reducible refine gate_dst (N:=6) rfl ?_);refine Kd.R_lit Flt.kf _ 36 ?hg (N:=6) ?hd (xs:=([] : List Nat)) (inner:=[]) (ok:=fun _=>True) (okp:=fun _=>True) ?hr ?hp (fun _ hk=>hk) trivial (Below.refl _ _) (Nat.le_refl _) (by simp) ?_;(case hd=>rfl);(case hg=>rfl);(case hr=>first|(go_simp;done)|(go_simp;rfl));(case hp=>exact (Reps.none _ _));intro v258 w3 ho4 hb hg_ hnew_;clear hg_ hnew_;(first|rw [← Ny257.out] at ho4|(simp only [Int.reduceToNat] at ho4;rw [← Ny257.out] at ho4));have n0_:=Aside0.mk (Kd.R_lower ho4 (below_size (by repeat(first|(with_reducible first|exact HB.out|apply below_alloc|apply pw_below_drewN|apply below_drew1)|exact HB.out))));have n1_:=Aside0.mk (below_step (by repeat(first|(with_reducible first|exact HB.out|apply below_alloc|apply pw_below_drewN|apply below_drew1)|exact HB.out)) hb);clear HB;have HO259:=n0_;have HB:=n1_;clear n0_ n1_;clear hb ho4)|((with_reducible refine gate_callee (f:=102) rfl ?_);refine goesL_ (some 8) rfl rfl Try.func102 (by kernel_rfl) rfl #[.slice A0 l0.length c0] rfl (by (try simp only [List.map_toArray,List.map_cons,List.map_nil]);first|done|rfl|(simp only [List.length_drop,List.length_take];rfl)) ?_;(with_reducible refine (hornbeamref06_Sort.calls k _ _ l0 t260 _ ?side1 ?side2 A2.out).mono ?_);(case side1=>repeat(first|exact (Kd.C_below HR0.out HB.out)|(with_reducible refine Kd.C_alloc ?_ _)|(with_reducible refine Kd.C_drewN ?_ _)|(with_reducible refine Kd.C_drew ?_)));(case side2=>exact HC0.out);rintro e w5 ⟨v261,rfl,ho0,hb⟩;refine ⟨_,rfl,?_⟩;have n0_:=Aside0.mk (Kd.R_elder' (by (with_reducible repeat(first|apply Kd.R_alloc|apply Kd.R_drewN|apply Kd.R_drew));exact HO259.out) (Kd.R_base ho0) hb);have n1_:=Aside0.mk (Kd.R_lower (Kd.R_new' ho0 (Kd.R_lt (by (with_reducible repeat(first|apply Kd.R_alloc|apply Kd.R_drewN|apply Kd.R_drew));exact HO259.out))) (below_size (by repeat(first|(with_reducible first|exact HB.out|apply below_alloc|apply pw_below_drewN|apply below_drew1)|exact HB.out))));have n2_:=Aside0.mk (below_step (by repeat(first|(with_reducible first|exact HB.out|apply below_alloc|apply pw_below_drewN|apply below_drew1)|exact HB.out)) hb);clear HO259;clear HB;have HO259:=n0_;have HO262:=n1_;have HB:=n2_;clear n0_ n1_ n2_;(try clear hb);(try clear hb2);(try clear hk);(try clear hi);(try clear ho0)))
 go_loopg [3,5] k (fun kq v3 v5 w'=>∃ (x3_1 : List Nat) (x5_1 : Int),v5 = .int .i64 x5_1 ∧ Aside0 (hornbeamref10_There.l0 kq x3_1 t260 x5_1 = some r) ∧ Aside0 (kq ≤ k) ∧ Aside0 (Kd.R Flt.kf 36 w' w.heap.size (fun k_=>some k_ ≠ (v261 : Value).ownBlock) v3 x3_1) ∧ Aside0 (Kd.R Flt.kf 36 w' w.heap.size (fun k_=>some k_ ≠ (v3 : Value).ownBlock) v261 t260) ∧ Aside0 (Below w.heap.size w w'))
 case atStart=>exact ⟨(y257),(0),(by first|rfl|(simp;done)|(simp [*];done)),H',⟨Nat.le_refl _⟩,⟨by (with_reducible repeat(first|apply Kd.R_alloc|apply Kd.R_drewN|apply Kd.R_drew));exact Kd.R_mono HO259.out (fun _ hk=>hk.2)⟩,⟨by (with_reducible repeat(first|apply Kd.R_alloc|apply Kd.R_drewN|apply Kd.R_drew));exact Kd.R_mono HO262.out (fun _ hk=>hk.2)⟩,⟨by repeat(first|(with_reducible first|exact HB.out|apply below_alloc|apply pw_below_drewN|apply below_drew1)|exact HB.out)⟩⟩
 case round =>
  clear H'
  try clear c1
  try clear p2
  obtain ⟨x3_1,x5_1,rfl,HA,HK1,HO_3,HO_4,HB⟩:=hrel
  cases gk with
  | zero=>exact absurd HA.out (by simp [hornbeamref10_There.l0])
  | succ k1 =>
   have H:=HA.out
   clear HA
   simp only [hornbeamref10_There.l0] at H
   by_cases c6 : x5_1 < (t260.length : Int)
   ·rw [if_pos c6] at H
    have c6b0 : decide (x5_1 < (t260.length : Int)) = true:=decide_eq_true c6
    clear c6
    by_cases c7 : 0 ≤ x5_1
    ·rw [if_pos c7] at H
     have c7b0 : decide (0 ≤ x5_1) = true:=decide_eq_true c7
     clear c7
     replace H:=Option.bind_eq_some_iff.mp H
     obtain ⟨t264,A80,H⟩:=H
     replace H : (if t264 = true then (hornbeamref10_There.l0 k1 x3_1 t260 (wrap64 (x5_1 + 1))) else (if x3_1.length < 17592186044416 then (hornbeamref10_There.l0 k1 (x3_1 ++ [rdOf (0 : Nat) t260 x5_1]) t260 (wrap64 (x5_1 + 1))) else (none))) = some r:=H
     have A8:=Aside0.mk A80
     clear A80
     by_cases c9 : t264 = true
     ·subst c9
      have H1 : (hornbeamref10_There.l0 k1 x3_1 t260 (wrap64 (x5_1 + 1))) = some r:=by rw [if_pos rfl] at H;exact H
      clear H
      have H:=H1
      clear H1
      have H':=Aside0.mk H
      clear H
      obtain ⟨Ao10,co10,eo10⟩:=Kd.R_slice HO_4.out
      subst eo10
      have p263 : 0 ≤ (x5_1 : Int):=of_decide_eq_true (by first|(with_reducible assumption)|assumption)
      have q263 : x5_1 < (t260.length : Int):=of_decide_eq_true (by first|(with_reducible assumption)|assumption)
      obtain ⟨ad263,e263,hx263_0⟩:=Flt.at_kf (Kd.R_reads' HO_4.out).2.2 x5_1 p263 q263
      cases e263
      replace p263:=eq_true p263
      replace q263:=eq_true q263
      go_wp2_with (first|((with_reducible refine gate_callee (f:=38) rfl ?_);refine goesL_ (some 19) rfl rfl Try.func38 (by kernel_rfl) rfl #[.float .f64 (rdOf (0 : Nat) t260 x5_1)] rfl (by (try simp only [List.map_toArray,List.map_cons,List.map_nil]);first|done|rfl|(simp only [List.length_drop,List.length_take];rfl)) ?_;(with_reducible refine (hornbeamref06_Missing.calls (rdOf (0 : Nat) t260 x5_1) true _ A8.out).mono ?_);rintro e w' ⟨rfl,⟨nd,rfl⟩⟩;refine ⟨_,rfl,?_⟩))
      go_roundg k1
      case measure=>have:=HK1.out;omega
      case rel=>exact ⟨(x3_1),(wrap64 (x5_1 + 1)),(by first|rfl|(simp;done)|(simp [*];done)),H',⟨by have:=HK1.out;omega⟩,⟨by (with_reducible repeat(first|apply Kd.R_alloc|apply Kd.R_drewN|apply Kd.R_drew));exact HO_3.out⟩,⟨by (with_reducible repeat(first|apply Kd.R_alloc|apply Kd.R_drewN|apply Kd.R_drew));exact HO_4.out⟩,⟨by repeat(first|(with_reducible first|exact HB.out|apply below_alloc|apply pw_below_drewN|apply below_drew1)|exact HB.out)⟩⟩
     ·replace c9:=Bool.eq_false_iff.mpr c9
      subst c9
      have H1 : (if x3_1.length < 17592186044416 then (hornbeamref10_There.l0 k1 (x3_1 ++ [rdOf (0 : Nat) t260 x5_1]) t260 (wrap64 (x5_1 + 1))) else (none)) = some r:=by rw [if_neg (show ¬ (false = true) by decide)] at H;exact H
      clear H
      have H:=H1
      clear H1
      by_cases c11 : x3_1.length < 17592186044416
      ·rw [if_pos c11] at H
       have LMc11:=Aside0.mk c11
       clear c11
       obtain ⟨y266,hy266⟩ : ∃ y_ : List Nat,y_ = (x3_1 ++ [rdOf (0 : Nat) t260 x5_1]):=⟨_,rfl⟩
       replace H : (hornbeamref10_There.l0 k1 y266 t260 (wrap64 (x5_1 + 1))) = some r:=by first|(rw [hy266];with_reducible exact H)|(have H2_:=(Option.bind_some _ _).symm.trans H;rw [hy266];with_reducible exact H2_)|(have H2_:=(Option.bind_some _ _).symm.trans H;with_reducible exact H2_)|with_reducible exact H|(rw [hy266];exact H)|exact H
       have Ny266:=Aside0.mk hy266
       clear hy266
       have H':=Aside0.mk H
       clear H
       obtain ⟨Ao12,co12,eo12⟩:=Kd.R_slice HO_4.out
       subst eo12
       have p263 : 0 ≤ (x5_1 : Int):=of_decide_eq_true (by first|(with_reducible assumption)|assumption)
       have q263 : x5_1 < (t260.length : Int):=of_decide_eq_true (by first|(with_reducible assumption)|assumption)
       obtain ⟨ad263,e263,hx263_0⟩:=Flt.at_kf (Kd.R_reads' HO_4.out).2.2 x5_1 p263 q263
       cases e263
       replace p263:=eq_true p263
       replace q263:=eq_true q263
       go_wp2_with (first|((with_reducible refine gate_callee (f:=38) rfl ?_);refine goesL_ (some 19) rfl rfl Try.func38 (by kernel_rfl) rfl #[.float .f64 (rdOf (0 : Nat) t260 x5_1)] rfl (by (try simp only [List.map_toArray,List.map_cons,List.map_nil]);first|done|rfl|(simp only [List.length_drop,List.length_take];rfl)) ?_;(with_reducible refine (hornbeamref06_Missing.calls (rdOf (0 : Nat) t260 x5_1) false _ A8.out).mono ?_);rintro e w' ⟨rfl,⟨nd,rfl⟩⟩;refine ⟨_,rfl,?_⟩;have p265 : 0 ≤ (x5_1 : Int):=of_decide_eq_true (by first|(with_reducible assumption)|assumption);have q265 : x5_1 < (t260.length : Int):=of_decide_eq_true (by first|(with_reducible assumption)|assumption);obtain ⟨ad265,e265,hx265_0⟩:=Flt.at_kf (Kd.R_reads' HO_4.out).2.2 x5_1 p265 q265;obtain rfl : ad263 = ad265:=(by injection e265);replace p265:=eq_true p265;replace q265:=eq_true q265)|((with_reducible refine gate_builtin (b:=.append) (xs:=#[.tmp 21,.tmp 26]) rfl ?_);at_builtin;refine Kd.R_append Flt.kf (w0:=w) w.heap.size rfl (.tmp 21) (.tmp 26) 30 36 (.float .f64 0) 8 rfl Try.underlying30 info36 rfl (by decide) (by omega) u3 x3_1 (rdOf (0 : Nat) t260 x5_1) [.float .f64 (rdOf (0 : Nat) t260 x5_1)] (fun k_=>some k_ ≠ (.slice (some ad263) t260.length co12 : Value).ownBlock) (fun _=>False) rfl rfl ?aP (fun _ hk=>hk.elim) ?aF ?aO ?aB ?aS ?aL ?_;(case aP=>exact rfl);(case aB=>exact (by repeat(first|(with_reducible first|exact HB.out|apply below_alloc|apply pw_below_drewN|apply below_drew1)|exact HB.out)));(case aF=>exact (fun k_ hk=>Kd.fresh' (Kd.R_lt (by (with_reducible repeat(first|apply Kd.R_alloc|apply Kd.R_drewN|apply Kd.R_drew));exact HO_4.out)) k_ hk));(case aO=>exact (by (with_reducible repeat(first|apply Kd.R_alloc|apply Kd.R_drewN|apply Kd.R_drew));exact HO_3.out));(case aS=>exact (below_size (by repeat(first|(with_reducible first|exact HB.out|apply below_alloc|apply pw_below_drewN|apply below_drew1)|exact HB.out))));(case aL=>have:=LMc11.out;omega);intro v267 w13 ho hb hg hat;rw [← Ny266.out] at ho;have n0_:=Aside0.mk (Kd.R_after (ok:=(fun _=>True)) (by (with_reducible repeat(first|apply Kd.R_alloc|apply Kd.R_drewN|apply Kd.R_drew));exact Kd.R_mono HO_4.out (fun _ hk=>⟨trivial,hk⟩)) hg hat);have n1_:=Aside0.mk (hb);have n2_:=Aside0.mk (ho);clear HO_4;clear HB;clear HO_3;have HO_4:=n0_;have HB:=n1_;have HO268:=n2_;clear n0_ n1_ n2_;clear ho hb hg hat))
       go_roundg k1
       case measure=>have:=HK1.out;omega
       case rel=>exact ⟨(y266),(wrap64 (x5_1 + 1)),(by first|rfl|(simp;done)|(simp [*];done)),H',⟨by have:=HK1.out;omega⟩,⟨by (with_reducible repeat(first|apply Kd.R_alloc|apply Kd.R_drewN|apply Kd.R_drew));exact HO268.out⟩,⟨by (with_reducible repeat(first|apply Kd.R_alloc|apply Kd.R_drewN|apply Kd.R_drew));exact Kd.R_mono HO_4.out (fun _ hk=>hk.2)⟩,⟨by repeat(first|(with_reducible first|exact HB.out|apply below_alloc|apply pw_below_drewN|apply below_drew1)|exact HB.out)⟩⟩
      ·rw [if_neg c11] at H
       exact absurd H (by simp)
    ·rw [if_neg c7] at H
     exact absurd H (by simp)
   ·rw [if_neg c6] at H
    have c6b0 : decide (x5_1 < (t260.length : Int)) = false:=decide_eq_false c6
    clear c6
    obtain rfl:=Option.some.inj H
    obtain ⟨Ao14,co14,eo14⟩:=Kd.R_slice HO_4.out
    subst eo14
    go_wp2
    go_ret
    exact ⟨_,by first|rfl|(simp [errW_none,errW_some] <;> rfl)|(simp [*,errW_none,errW_some] <;> rfl),by (with_reducible repeat(first|apply Kd.R_alloc|apply Kd.R_drewN|apply Kd.R_drew));exact Kd.R_mono HO_3.out (fun _ hk=>trivial),by repeat(first|(with_reducible first|exact HB.out|apply below_alloc|apply pw_below_drewN|apply below_drew1)|exact HB.out)⟩

/-! ### hornbeamref10_Of: function 70 -/
mutual
def hornbeamref10_Of.j0 : Nat → List Nat → Int → List Nat → Bool → Option (List Nat)
 | 0,_,_,_,_=>none
 | k + 1,x0,x1,x5,x17=>if x17 = true then (some x5) else ((hornbeamref10_There.f k x0).bind fun t272=>(hornbeamref10_Of.l0 k x1 x5 t272 (t272.length : Int) 1))
def hornbeamref10_Of.l0 : Nat → Int → List Nat → List Nat → Int → Int → Option (List Nat)
 | 0,_,_,_,_,_=>none
 | k + 1,x1,x5,x6,x7,x8=>if x8 < x1 then (hornbeamref10_Of.j2 k x1 x5 x6 x7 x8 (decide (x7 > 0))) else (hornbeamref10_Of.j2 k x1 x5 x6 x7 x8 false)
def hornbeamref10_Of.j2 : Nat → Int → List Nat → List Nat → Int → Int → Bool → Option (List Nat)
 | 0,_,_,_,_,_,_=>none
 | k + 1,x1,x5,x6,x7,x8,x29=>if x29 = true then (hornbeamref10_Of.l1 k x1 x5 x6 x7 x8 0) else (some x5)
def hornbeamref10_Of.l1 : Nat → Int → List Nat → List Nat → Int → Int → Int → Option (List Nat)
 | 0,_,_,_,_,_,_=>none
 | k + 1,x1,x5,x6,x7,x8,x9=>if (wrap64 ((wrap64 (x9 + 1)) * x1)) ≤ (wrap64 (x8 * x7)) then (hornbeamref10_Of.l1 k x1 x5 x6 x7 x8 (wrap64 (x9 + 1))) else (if 0 ≤ x9 then (if x9 < (x6.length : Int) then (if 0 < (x6.length : Int) then ((hornbeamref06_Cmp.f k (rdOf (0 : Nat) x6 x9) (rdOf (0 : Nat) x6 0)).bind fun t277=>(if t277 > 0 then (if (x5.length : Int) = 0 then (if x5.length < 17592186044416 then (hornbeamref10_Of.l0 k x1 (x5 ++ [rdOf (0 : Nat) x6 x9]) x6 x7 (wrap64 (x8 + 1))) else (none)) else (if 0 ≤ (wrap64 ((x5.length : Int) - 1)) then (if (wrap64 ((x5.length : Int) - 1)) < (x5.length : Int) then ((hornbeamref06_Cmp.f k (rdOf (0 : Nat) x6 x9) (rdOf (0 : Nat) x5 (wrap64 ((x5.length : Int) - 1)))).bind fun t282=>(if t282 > 0 then (if x5.length < 17592186044416 then (hornbeamref10_Of.l0 k x1 (x5 ++ [rdOf (0 : Nat) x6 x9]) x6 x7 (wrap64 (x8 + 1))) else (none)) else (hornbeamref10_Of.l0 k x1 x5 x6 x7 (wrap64 (x8 + 1))))) else (none)) else (none))) else (hornbeamref10_Of.l0 k x1 x5 x6 x7 (wrap64 (x8 + 1))))) else (none)) else (none)) else (none))
end
def hornbeamref10_Of.f (k : Nat) (l0 : List Nat) (a1 : Int) : Option (List Nat):=(some (([] : List Nat) : List Nat)).bind fun y269=>(if a1 < 2 then (hornbeamref10_Of.j0 k l0 a1 y269 true) else (hornbeamref10_Of.j0 k l0 a1 y269 (decide (a1 > 256))))
theorem hornbeamref10_Of.mono_l : ∀ k,(∀ y0 y1 y2 y3,LeO (hornbeamref10_Of.j0 k y0 y1 y2 y3) (hornbeamref10_Of.j0 (k + 1) y0 y1 y2 y3)) ∧ (∀ y0 y1 y2 y3 y4,LeO (hornbeamref10_Of.l0 k y0 y1 y2 y3 y4) (hornbeamref10_Of.l0 (k + 1) y0 y1 y2 y3 y4)) ∧ (∀ y0 y1 y2 y3 y4 y5,LeO (hornbeamref10_Of.j2 k y0 y1 y2 y3 y4 y5) (hornbeamref10_Of.j2 (k + 1) y0 y1 y2 y3 y4 y5)) ∧ (∀ y0 y1 y2 y3 y4 y5,LeO (hornbeamref10_Of.l1 k y0 y1 y2 y3 y4 y5) (hornbeamref10_Of.l1 (k + 1) y0 y1 y2 y3 y4 y5))
 | 0=>⟨fun _ _ _ _ r h=>by simp [hornbeamref10_Of.j0] at h,fun _ _ _ _ _ r h=>by simp [hornbeamref10_Of.l0] at h,fun _ _ _ _ _ _ r h=>by simp [hornbeamref10_Of.j2] at h,fun _ _ _ _ _ _ r h=>by simp [hornbeamref10_Of.l1] at h⟩
 | k + 1=>by
  obtain ⟨ih0,ih1,ih2,ih3⟩:=hornbeamref10_Of.mono_l k
  refine ⟨?_,?_,?_,?_⟩
  ·intro y0 y1 y2 y3
   unfold hornbeamref10_Of.j0
   repeat' first
   | (with_reducible exact ih0 _ _ _ _)
   | (with_reducible exact ih1 _ _ _ _ _)
   | (with_reducible exact ih2 _ _ _ _ _ _)
   | (with_reducible exact ih3 _ _ _ _ _ _)
   | (with_reducible exact hornbeamref06_Cmp.mono _ _ _)
   | (with_reducible exact hornbeamref10_There.mono _ _)
   | (with_reducible exact LeO.refl _)
   | (with_reducible exact LeO.none _)
   | (with_reducible refine LeO.ite ?_ ?_)
   | (with_reducible refine LeO.bind ?_ (fun _=>?_))
   | exact ih0 _ _ _ _
   | exact ih1 _ _ _ _ _
   | exact ih2 _ _ _ _ _ _
   | exact ih3 _ _ _ _ _ _
   | exact hornbeamref06_Cmp.mono _ _ _
   | exact hornbeamref10_There.mono _ _
   | exact LeO.none _
   | refine LeO.ite ?_ ?_
   | refine LeO.bind ?_ (fun _=>?_)
  ·intro y0 y1 y2 y3 y4
   unfold hornbeamref10_Of.l0
   repeat' first
   | (with_reducible exact ih0 _ _ _ _)
   | (with_reducible exact ih1 _ _ _ _ _)
   | (with_reducible exact ih2 _ _ _ _ _ _)
   | (with_reducible exact ih3 _ _ _ _ _ _)
   | (with_reducible exact hornbeamref06_Cmp.mono _ _ _)
   | (with_reducible exact hornbeamref10_There.mono _ _)
   | (with_reducible exact LeO.refl _)
   | (with_reducible exact LeO.none _)
   | (with_reducible refine LeO.ite ?_ ?_)
   | (with_reducible refine LeO.bind ?_ (fun _=>?_))
   | exact ih0 _ _ _ _
   | exact ih1 _ _ _ _ _
   | exact ih2 _ _ _ _ _ _
   | exact ih3 _ _ _ _ _ _
   | exact hornbeamref06_Cmp.mono _ _ _
   | exact hornbeamref10_There.mono _ _
   | exact LeO.none _
   | refine LeO.ite ?_ ?_
   | refine LeO.bind ?_ (fun _=>?_)
  ·intro y0 y1 y2 y3 y4 y5
   unfold hornbeamref10_Of.j2
   repeat' first
   | (with_reducible exact ih0 _ _ _ _)
   | (with_reducible exact ih1 _ _ _ _ _)
   | (with_reducible exact ih2 _ _ _ _ _ _)
   | (with_reducible exact ih3 _ _ _ _ _ _)
   | (with_reducible exact hornbeamref06_Cmp.mono _ _ _)
   | (with_reducible exact hornbeamref10_There.mono _ _)
   | (with_reducible exact LeO.refl _)
   | (with_reducible exact LeO.none _)
   | (with_reducible refine LeO.ite ?_ ?_)
   | (with_reducible refine LeO.bind ?_ (fun _=>?_))
   | exact ih0 _ _ _ _
   | exact ih1 _ _ _ _ _
   | exact ih2 _ _ _ _ _ _
   | exact ih3 _ _ _ _ _ _
   | exact hornbeamref06_Cmp.mono _ _ _
   | exact hornbeamref10_There.mono _ _
   | exact LeO.none _
   | refine LeO.ite ?_ ?_
   | refine LeO.bind ?_ (fun _=>?_)
  ·intro y0 y1 y2 y3 y4 y5
   unfold hornbeamref10_Of.l1
   repeat' first
   | (with_reducible exact ih0 _ _ _ _)
   | (with_reducible exact ih1 _ _ _ _ _)
   | (with_reducible exact ih2 _ _ _ _ _ _)
   | (with_reducible exact ih3 _ _ _ _ _ _)
   | (with_reducible exact hornbeamref06_Cmp.mono _ _ _)
   | (with_reducible exact hornbeamref10_There.mono _ _)
   | (with_reducible exact LeO.refl _)
   | (with_reducible exact LeO.none _)
   | (with_reducible refine LeO.ite ?_ ?_)
   | (with_reducible refine LeO.bind ?_ (fun _=>?_))
   | exact ih0 _ _ _ _
   | exact ih1 _ _ _ _ _
   | exact ih2 _ _ _ _ _ _
   | exact ih3 _ _ _ _ _ _
   | exact hornbeamref06_Cmp.mono _ _ _
   | exact hornbeamref10_There.mono _ _
   | exact LeO.none _
   | refine LeO.ite ?_ ?_
   | refine LeO.bind ?_ (fun _=>?_)
theorem hornbeamref10_Of.mono : ∀ a0 a1 k,LeO (hornbeamref10_Of.f k a0 a1) (hornbeamref10_Of.f (k + 1) a0 a1):=by
 intro a0 a1 k
 obtain ⟨ih0,ih1,ih2,ih3⟩:=hornbeamref10_Of.mono_l k
 unfold hornbeamref10_Of.f
 repeat' first
   | (with_reducible exact ih0 _ _ _ _)
   | (with_reducible exact ih1 _ _ _ _ _)
   | (with_reducible exact ih2 _ _ _ _ _ _)
   | (with_reducible exact ih3 _ _ _ _ _ _)
   | (with_reducible exact hornbeamref06_Cmp.mono _ _ _)
   | (with_reducible exact hornbeamref10_There.mono _ _)
   | (with_reducible exact LeO.refl _)
   | (with_reducible exact LeO.none _)
   | (with_reducible refine LeO.ite ?_ ?_)
   | (with_reducible refine LeO.bind ?_ (fun _=>?_))
   | exact ih0 _ _ _ _
   | exact ih1 _ _ _ _ _
   | exact ih2 _ _ _ _ _ _
   | exact ih3 _ _ _ _ _ _
   | exact hornbeamref06_Cmp.mono _ _ _
   | exact hornbeamref10_There.mono _ _
   | exact LeO.none _
   | refine LeO.ite ?_ ?_
   | refine LeO.bind ?_ (fun _=>?_)
set_option maxHeartbeats 8000000 in
set_option maxRecDepth 100000 in
theorem hornbeamref10_Of.calls (k : Nat) (A0 : Option Addr) (c0 : Nat) (l0 : List Nat) (a1 : Int) (r : List Nat) (w : World) (hr0 : Kd.C Flt.kf w A0 l0.length l0) (hc0 : l0.length ≤ c0) (h : hornbeamref10_Of.f k l0 a1 = some r) :
  Calls Try.prog 70 #[.slice A0 l0.length c0,.int .i64 a1] w fun e w'=>∃ v0_ : Value,e = .returned (v0_) ∧ Kd.R Flt.kf 36 w' w.heap.size (fun _=>True) v0_ r ∧ Below w.heap.size w w':=by
 have HR0:=Aside0.mk hr0
 have HC0:=Aside0.mk hc0
 clear hr0 hc0
 have HB:=Aside0.mk (Below.refl w.heap.size w)
 have H : ((some (([] : List Nat) : List Nat)).bind fun y269=>(if a1 < 2 then (hornbeamref10_Of.j0 k l0 a1 y269 true) else (hornbeamref10_Of.j0 k l0 a1 y269 (decide (a1 > 256))))) = some r:=h
 clear h
 obtain ⟨y269,hy269⟩ : ∃ y_ : List Nat,y_ = (([] : List Nat)):=⟨_,rfl⟩
 replace H : (if a1 < 2 then (hornbeamref10_Of.j0 k l0 a1 y269 true) else (hornbeamref10_Of.j0 k l0 a1 y269 (decide (a1 > 256)))) = some r:=by first|(rw [hy269];with_reducible exact H)|(have H2_:=(Option.bind_some _ _).symm.trans H;rw [hy269];with_reducible exact H2_)|(have H2_:=(Option.bind_some _ _).symm.trans H;with_reducible exact H2_)|with_reducible exact H|(rw [hy269];exact H)|exact H
 have Ny269:=Aside0.mk hy269
 clear hy269
 have HC3:=Aside0.mk H
 clear H
 go_enter Try.func70,Try.ntmps70
 go_upto_region 2 with (first|((with_reducible refine gate_dst (N:=11) rfl ?_);refine Kd.R_lit Flt.kf _ 36 ?hg (N:=11) ?hd (xs:=([] : List Nat)) (inner:=[]) (ok:=fun _=>True) (okp:=fun _=>True) ?hr ?hp (fun _ hk=>hk) trivial (Below.refl _ _) (Nat.le_refl _) (by simp) ?_;(case hd=>rfl);(case hg=>rfl);(case hr=>first|(go_simp;done)|(go_simp;rfl));(case hp=>exact (Reps.none _ _));intro v270 w4 ho5 hb hg_ hnew_;clear hg_ hnew_;(first|rw [← Ny269.out] at ho5|(simp only [Int.reduceToNat] at ho5;rw [← Ny269.out] at ho5));have n0_:=Aside0.mk (Kd.R_lower ho5 (below_size (by repeat(first|(with_reducible first|exact HB.out|apply below_alloc|apply pw_below_drewN|apply below_drew1)|exact HB.out))));have n1_:=Aside0.mk (below_step (by repeat(first|(with_reducible first|exact HB.out|apply below_alloc|apply pw_below_drewN|apply below_drew1)|exact HB.out)) hb);clear HB;have HO271:=n0_;have HB:=n1_;clear n0_ n1_;clear hb ho5))
 (try simp only [Act.put,List.setIfInBounds_toArray,List.set_cons_zero,List.set_cons_succ])
 go_cut [17] (fun v17 wc=>∃ (kq : Nat) (x17_2 : Bool),v17 = .bool x17_2 ∧ Aside0 (hornbeamref10_Of.j0 kq l0 a1 y269 x17_2 = some r) ∧ Aside0 (kq ≤ k) ∧ Aside0 (Kd.R Flt.kf 36 wc w.heap.size (fun _=>True) v270 y269) ∧ Aside0 (Below w.heap.size w wc))
 case first =>
  have H:=HC3.out
  clear HC3
  by_cases c6 : a1 < 2
  ·rw [if_pos c6] at H
   have c6b0 : decide (a1 < 2) = true:=decide_eq_true c6
   clear c6
   (first|rw [c6b0]|(simp only [i64_w,i32_w];rw [c6b0])|skip)
   have H':=Aside0.mk H
   clear H
   go_wp2
   go_meet
   case rel=>exact ⟨_,(true),(by first|rfl|(simp;done)|(simp [*];done)),H',⟨by first|omega|exact Nat.le_refl _⟩,⟨by (with_reducible repeat(first|apply Kd.R_alloc|apply Kd.R_drewN|apply Kd.R_drew));exact HO271.out⟩,⟨by repeat(first|(with_reducible first|exact HB.out|apply below_alloc|apply pw_below_drewN|apply below_drew1)|exact HB.out)⟩⟩
  ·rw [if_neg c6] at H
   have c6b0 : decide (a1 < 2) = false:=decide_eq_false c6
   clear c6
   (first|rw [c6b0]|(simp only [i64_w,i32_w];rw [c6b0])|skip)
   have H':=Aside0.mk H
   clear H
   go_wp2
   go_meet
   case rel=>exact ⟨_,(decide (a1 > 256)),(by first|rfl|(simp;done)|(simp [*];done)),H',⟨by first|omega|exact Nat.le_refl _⟩,⟨by (with_reducible repeat(first|apply Kd.R_alloc|apply Kd.R_drewN|apply Kd.R_drew));exact HO271.out⟩,⟨by repeat(first|(with_reducible first|exact HB.out|apply below_alloc|apply pw_below_drewN|apply below_drew1)|exact HB.out)⟩⟩
 case rest =>
  clear HC3
  try clear p2
  try clear c6
  try clear c6b0
  obtain ⟨kq,x17_2,rfl,HA,HJ2,HO_5,HB⟩:=hcut
  cases kq with
  | zero=>exact absurd HA.out (by simp [hornbeamref10_Of.j0])
  | succ kj2 =>
   have H:=HA.out
   clear HA
   simp only [hornbeamref10_Of.j0] at H
   by_cases c7 : x17_2 = true
   ·subst c7
    have H1 : (some y269) = some r:=by rw [if_pos rfl] at H;exact H
    clear H
    have H:=H1
    clear H1
    obtain rfl:=Option.some.inj H
    go_wp2
    go_ret
    exact ⟨_,by first|rfl|(simp [errW_none,errW_some] <;> rfl)|(simp [*,errW_none,errW_some] <;> rfl),by (with_reducible repeat(first|apply Kd.R_alloc|apply Kd.R_drewN|apply Kd.R_drew));exact HO_5.out,by repeat(first|(with_reducible first|exact HB.out|apply below_alloc|apply pw_below_drewN|apply below_drew1)|exact HB.out)⟩
   ·replace c7:=Bool.eq_false_iff.mpr c7
    subst c7
    have H1 : ((hornbeamref10_There.f kj2 l0).bind fun t272=>(hornbeamref10_Of.l0 kj2 a1 y269 t272 (t272.length : Int) 1)) = some r:=by rw [if_neg (show ¬ (false = true) by decide)] at H;exact H
    clear H
    have H:=H1
    clear H1
    replace H:=Option.bind_eq_some_iff.mp H
    obtain ⟨t272,A80,H⟩:=H
    replace H : (hornbeamref10_Of.l0 kj2 a1 y269 t272 (t272.length : Int) 1) = some r:=H
    have A8:=Aside0.mk A80
    clear A80
    have H':=Aside0.mk H
    clear H
    go_wp2_with (first|((with_reducible refine gate_callee (f:=96) rfl ?_);refine goesL_ (some 20) rfl rfl Try.func96 (by kernel_rfl) rfl #[.slice A0 l0.length c0] rfl (by (try simp only [List.map_toArray,List.map_cons,List.map_nil]);first|done|rfl|(simp only [List.length_drop,List.length_take];rfl)) ?_;(with_reducible refine (hornbeamref10_There.calls kj2 _ _ l0 t272 _ ?side1 ?side2 A8.out).mono ?_);(case side1=>repeat(first|exact (Kd.C_below HR0.out HB.out)|(with_reducible refine Kd.C_alloc ?_ _)|(with_reducible refine Kd.C_drewN ?_ _)|(with_reducible refine Kd.C_drew ?_)));(case side2=>exact HC0.out);rintro e w9 ⟨v273,rfl,ho0,hb⟩;refine ⟨_,rfl,?_⟩;have n0_:=Aside0.mk (Kd.R_elder' (by (with_reducible repeat(first|apply Kd.R_alloc|apply Kd.R_drewN|apply Kd.R_drew));exact HO_5.out) (Kd.R_base ho0) hb);have n1_:=Aside0.mk (Kd.R_lower (Kd.R_new' ho0 (Kd.R_lt (by (with_reducible repeat(first|apply Kd.R_alloc|apply Kd.R_drewN|apply Kd.R_drew));exact HO_5.out))) (below_size (by repeat(first|(with_reducible first|exact HB.out|apply below_alloc|apply pw_below_drewN|apply below_drew1)|exact HB.out))));have n2_:=Aside0.mk (below_step (by repeat(first|(with_reducible first|exact HB.out|apply below_alloc|apply pw_below_drewN|apply below_drew1)|exact HB.out)) hb);clear HO_5;clear HB;have HO_5:=n0_;have HO274:=n1_;have HB:=n2_;clear n0_ n1_ n2_;(try clear hb);(try clear hb2);(try clear hk);(try clear hi);(try clear ho0);obtain ⟨Ao10,co10,eo10⟩:=Kd.R_slice HO274.out;subst eo10))
    go_loopg [5,8] kj2 (fun kq v5 v8 w'=>∃ (x5_2 : List Nat) (x8_2 : Int),v8 = .int .i64 x8_2 ∧ Aside0 (hornbeamref10_Of.l0 kq a1 x5_2 t272 (t272.length : Int) x8_2 = some r) ∧ Aside0 (kq ≤ kj2) ∧ Aside0 (Kd.R Flt.kf 36 w' w.heap.size (fun k_=>some k_ ≠ ((.slice Ao10 t272.length co10) : Value).ownBlock) v5 x5_2) ∧ Aside0 (Kd.R Flt.kf 36 w' w.heap.size (fun k_=>some k_ ≠ (v5 : Value).ownBlock) (.slice Ao10 t272.length co10) t272) ∧ Aside0 (Below w.heap.size w w'))
    case atStart=>exact ⟨(y269),(1),(by first|rfl|(simp;done)|(simp [*];done)),H',⟨Nat.le_refl _⟩,⟨by (with_reducible repeat(first|apply Kd.R_alloc|apply Kd.R_drewN|apply Kd.R_drew));exact Kd.R_mono HO_5.out (fun _ hk=>hk.2)⟩,⟨by (with_reducible repeat(first|apply Kd.R_alloc|apply Kd.R_drewN|apply Kd.R_drew));exact Kd.R_mono HO274.out (fun _ hk=>hk.2)⟩,⟨by repeat(first|(with_reducible first|exact HB.out|apply below_alloc|apply pw_below_drewN|apply below_drew1)|exact HB.out)⟩⟩
    case round =>
     clear H'
     try clear p2
     try clear c6
     try clear c6b0
     try clear c7
     try clear c9
     try clear p2
     obtain ⟨x5_2,x8_2,rfl,HA,HK2,HO_5,HO_6,HB⟩:=hrel
     cases gk with
     | zero=>exact absurd HA.out (by simp [hornbeamref10_Of.l0])
     | succ k2 =>
      have H:=HA.out
      clear HA
      simp only [hornbeamref10_Of.l0] at H
      have HC11:=Aside0.mk H
      clear H
      go_upto_region 7 with (fail)
      go_cut [29] (fun v29 wc=>∃ (kq : Nat) (x29_10 : Bool),v29 = .bool x29_10 ∧ Aside0 (hornbeamref10_Of.j2 kq a1 x5_2 t272 (t272.length : Int) x8_2 x29_10 = some r) ∧ Aside0 (kq ≤ k2) ∧ Aside0 (Kd.R Flt.kf 36 wc w.heap.size (fun k_=>some k_ ≠ ((.slice Ao10 t272.length co10) : Value).ownBlock) u5 x5_2) ∧ Aside0 (Kd.R Flt.kf 36 wc w.heap.size (fun k_=>some k_ ≠ (u5 : Value).ownBlock) (.slice Ao10 t272.length co10) t272) ∧ Aside0 (Below w.heap.size w wc))
      case first =>
       have H:=HC11.out
       clear HC11
       by_cases c12 : x8_2 < a1
       ·rw [if_pos c12] at H
        have c12b0 : decide (x8_2 < a1) = true:=decide_eq_true c12
        clear c12
        (first|rw [c12b0]|(simp only [i64_w,i32_w];rw [c12b0])|skip)
        have H':=Aside0.mk H
        clear H
        go_wp2
        go_meet
        case rel=>exact ⟨_,(decide ((t272.length : Int) > 0)),(by first|rfl|(simp;done)|(simp [*];done)),H',⟨by have:=HJ2.out;have:=HK2.out;first|omega|exact Nat.le_refl _⟩,⟨by (with_reducible repeat(first|apply Kd.R_alloc|apply Kd.R_drewN|apply Kd.R_drew));exact HO_5.out⟩,⟨by (with_reducible repeat(first|apply Kd.R_alloc|apply Kd.R_drewN|apply Kd.R_drew));exact HO_6.out⟩,⟨by repeat(first|(with_reducible first|exact HB.out|apply below_alloc|apply pw_below_drewN|apply below_drew1)|exact HB.out)⟩⟩
       ·rw [if_neg c12] at H
        have c12b0 : decide (x8_2 < a1) = false:=decide_eq_false c12
        clear c12
        (first|rw [c12b0]|(simp only [i64_w,i32_w];rw [c12b0])|skip)
        have H':=Aside0.mk H
        clear H
        go_wp2
        go_meet
        case rel=>exact ⟨_,(false),(by first|rfl|(simp;done)|(simp [*];done)),H',⟨by have:=HJ2.out;have:=HK2.out;first|omega|exact Nat.le_refl _⟩,⟨by (with_reducible repeat(first|apply Kd.R_alloc|apply Kd.R_drewN|apply Kd.R_drew));exact HO_5.out⟩,⟨by (with_reducible repeat(first|apply Kd.R_alloc|apply Kd.R_drewN|apply Kd.R_drew));exact HO_6.out⟩,⟨by repeat(first|(with_reducible first|exact HB.out|apply below_alloc|apply pw_below_drewN|apply below_drew1)|exact HB.out)⟩⟩
      case rest =>
       clear HC11
       try clear c1
       try clear p2
       try clear c6
       try clear c6b0
       try clear c7
       try clear c9
       try clear c12
       try clear c12b0
       try clear p2
       obtain ⟨kq,x29_10,rfl,HA,HJ10,HO_5,HO_6,HB⟩:=hcut
       cases kq with
       | zero=>exact absurd HA.out (by simp [hornbeamref10_Of.j2])
       | succ kj10 =>
        have H:=HA.out
        clear HA
        simp only [hornbeamref10_Of.j2] at H
        by_cases c13 : x29_10 = true
        ·subst c13
         have H1 : (hornbeamref10_Of.l1 kj10 a1 x5_2 t272 (t272.length : Int) x8_2 0) = some r:=by rw [if_pos rfl] at H;exact H
         clear H
         have H:=H1
         clear H1
         have H':=Aside0.mk H
         clear H
         go_wp2
         go_loopg [9] kj10 (fun kq v9 w'=>∃ (x9_4 : Int),v9 = .int .i64 x9_4 ∧ Aside0 (hornbeamref10_Of.l1 kq a1 x5_2 t272 (t272.length : Int) x8_2 x9_4 = some r) ∧ Aside0 (kq ≤ kj10) ∧ Aside0 (Kd.R Flt.kf 36 w' w.heap.size (fun k_=>some k_ ≠ ((.slice Ao10 t272.length co10) : Value).ownBlock) u5 x5_2) ∧ Aside0 (Kd.R Flt.kf 36 w' w.heap.size (fun k_=>some k_ ≠ (u5 : Value).ownBlock) (.slice Ao10 t272.length co10) t272) ∧ Aside0 (Below w.heap.size w w'))
         case atStart=>exact ⟨(0),(by first|rfl|(simp;done)|(simp [*];done)),H',⟨Nat.le_refl _⟩,⟨by (with_reducible repeat(first|apply Kd.R_alloc|apply Kd.R_drewN|apply Kd.R_drew));exact HO_5.out⟩,⟨by (with_reducible repeat(first|apply Kd.R_alloc|apply Kd.R_drewN|apply Kd.R_drew));exact HO_6.out⟩,⟨by repeat(first|(with_reducible first|exact HB.out|apply below_alloc|apply pw_below_drewN|apply below_drew1)|exact HB.out)⟩⟩
         case round =>
          clear H'
          try clear c1
          try clear p2
          try clear c6
          try clear c6b0
          try clear c7
          try clear c9
          try clear c12
          try clear c12b0
          try clear c13
          try clear p2
          obtain ⟨x9_4,rfl,HA,HK4,HO_5,HO_6,HB⟩:=hrel
          cases gk with
          | zero=>exact absurd HA.out (by simp [hornbeamref10_Of.l1])
          | succ k4 =>
           have H:=HA.out
           clear HA
           simp only [hornbeamref10_Of.l1] at H
           by_cases c14 : (wrap64 ((wrap64 (x9_4 + 1)) * a1)) ≤ (wrap64 (x8_2 * (t272.length : Int)))
           ·rw [if_pos c14] at H
            have c14b0 : decide ((wrap64 ((wrap64 (x9_4 + 1)) * a1)) ≤ (wrap64 (x8_2 * (t272.length : Int)))) = true:=decide_eq_true c14
            clear c14
            have H':=Aside0.mk H
            clear H
            go_wp2
            go_roundg k4
            case measure=>have:=HJ2.out;have:=HK2.out;have:=HJ10.out;have:=HK4.out;omega
            case rel=>exact ⟨(wrap64 (x9_4 + 1)),(by first|rfl|(simp;done)|(simp [*];done)),H',⟨by have:=HJ2.out;have:=HK2.out;have:=HJ10.out;have:=HK4.out;omega⟩,⟨by (with_reducible repeat(first|apply Kd.R_alloc|apply Kd.R_drewN|apply Kd.R_drew));exact HO_5.out⟩,⟨by (with_reducible repeat(first|apply Kd.R_alloc|apply Kd.R_drewN|apply Kd.R_drew));exact HO_6.out⟩,⟨by repeat(first|(with_reducible first|exact HB.out|apply below_alloc|apply pw_below_drewN|apply below_drew1)|exact HB.out)⟩⟩
           ·rw [if_neg c14] at H
            have c14b0 : decide ((wrap64 ((wrap64 (x9_4 + 1)) * a1)) ≤ (wrap64 (x8_2 * (t272.length : Int)))) = false:=decide_eq_false c14
            clear c14
            by_cases c15 : 0 ≤ x9_4
            ·rw [if_pos c15] at H
             have c15b0 : decide (0 ≤ x9_4) = true:=decide_eq_true c15
             clear c15
             by_cases c16 : x9_4 < (t272.length : Int)
             ·rw [if_pos c16] at H
              have c16b0 : decide (x9_4 < (t272.length : Int)) = true:=decide_eq_true c16
              clear c16
              by_cases c17 : 0 < (t272.length : Int)
              ·rw [if_pos c17] at H
               have c17b0 : decide (0 < (t272.length : Int)) = true:=decide_eq_true c17
               have c17b1 : decide (0 < t272.length) = true:=decide_eq_true (by omega)
               clear c17
               replace H:=Option.bind_eq_some_iff.mp H
               obtain ⟨t277,A180,H⟩:=H
               replace H : (if t277 > 0 then (if (x5_2.length : Int) = 0 then (if x5_2.length < 17592186044416 then (hornbeamref10_Of.l0 k4 a1 (x5_2 ++ [rdOf (0 : Nat) t272 x9_4]) t272 (t272.length : Int) (wrap64 (x8_2 + 1))) else (none)) else (if 0 ≤ (wrap64 ((x5_2.length : Int) - 1)) then (if (wrap64 ((x5_2.length : Int) - 1)) < (x5_2.length : Int) then ((hornbeamref06_Cmp.f k4 (rdOf (0 : Nat) t272 x9_4) (rdOf (0 : Nat) x5_2 (wrap64 ((x5_2.length : Int) - 1)))).bind fun t282=>(if t282 > 0 then (if x5_2.length < 17592186044416 then (hornbeamref10_Of.l0 k4 a1 (x5_2 ++ [rdOf (0 : Nat) t272 x9_4]) t272 (t272.length : Int) (wrap64 (x8_2 + 1))) else (none)) else (hornbeamref10_Of.l0 k4 a1 x5_2 t272 (t272.length : Int) (wrap64 (x8_2 + 1))))) else (none)) else (none))) else (hornbeamref10_Of.l0 k4 a1 x5_2 t272 (t272.length : Int) (wrap64 (x8_2 + 1)))) = some r:=H
               have A18:=Aside0.mk A180
               clear A180
               by_cases c19 : t277 > 0
               ·rw [if_pos c19] at H
                have c19b0 : decide (0 < t277) = true:=decide_eq_true c19
                clear c19
                by_cases c20 : (x5_2.length : Int) = 0
                ·rw [if_pos c20] at H
                 have c20b0 : ((x5_2.length : Int) == 0) = true:=beq_iff_eq.mpr c20
                 have c20b1 : ((x5_2.length : Int) != 0) = false:=bne_eq_false_iff_eq.mpr c20
                 clear c20
                 by_cases c21 : x5_2.length < 17592186044416
                 ·rw [if_pos c21] at H
                  have LMc21:=Aside0.mk c21
                  clear c21
                  obtain ⟨y278,hy278⟩ : ∃ y_ : List Nat,y_ = (x5_2 ++ [rdOf (0 : Nat) t272 x9_4]):=⟨_,rfl⟩
                  replace H : (hornbeamref10_Of.l0 k4 a1 y278 t272 (t272.length : Int) (wrap64 (x8_2 + 1))) = some r:=by first|(rw [hy278];with_reducible exact H)|(have H2_:=(Option.bind_some _ _).symm.trans H;rw [hy278];with_reducible exact H2_)|(have H2_:=(Option.bind_some _ _).symm.trans H;with_reducible exact H2_)|with_reducible exact H|(rw [hy278];exact H)|exact H
                  have Ny278:=Aside0.mk hy278
                  clear hy278
                  have H':=Aside0.mk H
                  clear H
                  have p275 : 0 ≤ (x9_4 : Int):=of_decide_eq_true (by first|(with_reducible assumption)|assumption)
                  have q275 : x9_4 < (t272.length : Int):=of_decide_eq_true (by first|(with_reducible assumption)|assumption)
                  obtain ⟨ad275,e275,hx275_0⟩:=Flt.at_kf (Kd.R_reads' HO_6.out).2.2 x9_4 p275 q275
                  cases e275
                  replace p275:=eq_true p275
                  replace q275:=eq_true q275
                  have p276 : 0 ≤ (0 : Int):=(by omega)
                  have q276 : 0 < (t272.length : Int):=of_decide_eq_true (by first|(with_reducible assumption)|assumption)
                  obtain ⟨ad276,e276,hx276_0⟩:=Flt.at_kf (Kd.R_reads' HO_6.out).2.2 0 p276 q276
                  obtain rfl : ad275 = ad276:=(by injection e276)
                  have qi276 : (0 < t272.length) = True:=eq_true (by omega)
                  (try rw [show ((0 : Int)).toNat = 0 from rfl] at hx276_0)
                  (try rw [Addr.add_zero'] at hx276_0)
                  replace p276:=eq_true p276
                  replace q276:=eq_true q276
                  go_wp2_with (first|((with_reducible refine gate_callee (f:=39) rfl ?_);refine goesL_ (some 50) rfl rfl Try.func39 (by kernel_rfl) rfl #[.float .f64 (rdOf (0 : Nat) t272 x9_4),.float .f64 (rdOf (0 : Nat) t272 0)] rfl (by (try simp only [List.map_toArray,List.map_cons,List.map_nil]);first|done|rfl|(simp only [List.length_drop,List.length_take];rfl)) ?_;(with_reducible refine (hornbeamref06_Cmp.calls k4 (rdOf (0 : Nat) t272 x9_4) (rdOf (0 : Nat) t272 0) t277 _ A18.out).mono ?_);rintro e w' ⟨rfl,⟨nd,rfl⟩⟩;refine ⟨_,rfl,?_⟩;obtain ⟨Ao22,co22,eo22⟩:=Kd.R_slice HO_5.out;subst eo22)|((with_reducible refine gate_builtin (b:=.append) (xs:=#[.tmp 68,.tmp 70]) rfl ?_);at_builtin;refine Kd.R_append Flt.kf (w0:=w) w.heap.size rfl (.tmp 68) (.tmp 70) 30 36 (.float .f64 0) 8 rfl Try.underlying30 info36 rfl (by decide) (by omega) (.slice Ao22 x5_2.length co22) x5_2 (rdOf (0 : Nat) t272 x9_4) [.float .f64 (rdOf (0 : Nat) t272 x9_4)] (fun k_=>some k_ ≠ (.slice (some ad275) t272.length co10 : Value).ownBlock) (fun _=>False) rfl rfl ?aP (fun _ hk=>hk.elim) ?aF ?aO ?aB ?aS ?aL ?_;(case aP=>exact rfl);(case aB=>exact (by repeat(first|(with_reducible first|exact HB.out|apply below_alloc|apply pw_below_drewN|apply below_drew1)|exact HB.out)));(case aF=>exact (fun k_ hk=>Kd.fresh' (Kd.R_lt (by (with_reducible repeat(first|apply Kd.R_alloc|apply Kd.R_drewN|apply Kd.R_drew));exact HO_6.out)) k_ hk));(case aO=>exact (by (with_reducible repeat(first|apply Kd.R_alloc|apply Kd.R_drewN|apply Kd.R_drew));exact HO_5.out));(case aS=>exact (below_size (by repeat(first|(with_reducible first|exact HB.out|apply below_alloc|apply pw_below_drewN|apply below_drew1)|exact HB.out))));(case aL=>have:=LMc21.out;omega);intro v279 w23 ho hb hg hat;rw [← Ny278.out] at ho;have n0_:=Aside0.mk (Kd.R_after (ok:=(fun _=>True)) (by (with_reducible repeat(first|apply Kd.R_alloc|apply Kd.R_drewN|apply Kd.R_drew));exact Kd.R_mono HO_6.out (fun _ hk=>⟨trivial,hk⟩)) hg hat);have n1_:=Aside0.mk (hb);have n2_:=Aside0.mk (ho);clear HO_6;clear HB;clear HO_5;have HO_6:=n0_;have HB:=n1_;have HO280:=n2_;clear n0_ n1_ n2_;clear ho hb hg hat))
                  go_roundg k4
                  case measure=>have:=HJ2.out;have:=HK2.out;have:=HJ10.out;have:=HK4.out;omega
                  case rel=>exact ⟨(y278),(wrap64 (x8_2 + 1)),(by first|rfl|(simp;done)|(simp [*];done)),H',⟨by have:=HJ2.out;have:=HK2.out;have:=HJ10.out;have:=HK4.out;omega⟩,⟨by (with_reducible repeat(first|apply Kd.R_alloc|apply Kd.R_drewN|apply Kd.R_drew));exact HO280.out⟩,⟨by (with_reducible repeat(first|apply Kd.R_alloc|apply Kd.R_drewN|apply Kd.R_drew));exact Kd.R_mono HO_6.out (fun _ hk=>hk.2)⟩,⟨by repeat(first|(with_reducible first|exact HB.out|apply below_alloc|apply pw_below_drewN|apply below_drew1)|exact HB.out)⟩⟩
                 ·rw [if_neg c21] at H
                  exact absurd H (by simp)
                ·rw [if_neg c20] at H
                 have c20b0 : ((x5_2.length : Int) == 0) = false:=beq_eq_false_iff_ne.mpr c20
                 have c20b1 : ((x5_2.length : Int) != 0) = true:=bne_iff_ne.mpr c20
                 have c20b2 : ¬ (x5_2 = []):=fun h_=>c20 (by rw [h_];rfl)
                 obtain ⟨ji24,hji24⟩ : ∃ j_ : Int,(wrap64 ((x5_2.length : Int) - 1)) = j_:=⟨_,rfl⟩
                 replace H : (if 0 ≤ (ji24) then (if (ji24) < (x5_2.length : Int) then ((hornbeamref06_Cmp.f k4 (rdOf (0 : Nat) t272 x9_4) (rdOf (0 : Nat) x5_2 (ji24))).bind fun t282=>(if t282 > 0 then (if x5_2.length < 17592186044416 then (hornbeamref10_Of.l0 k4 a1 (x5_2 ++ [rdOf (0 : Nat) t272 x9_4]) t272 (t272.length : Int) (wrap64 (x8_2 + 1))) else (none)) else (hornbeamref10_Of.l0 k4 a1 x5_2 t272 (t272.length : Int) (wrap64 (x8_2 + 1))))) else (none)) else (none)) = some r:=by first|(rw [hji24] at H;exact H)|(simp only [hji24] at H ⊢;exact H)
                 (try rw [hji24] at A18)
                 have hji24w : (IntKind.i64.wrap ((x5_2.length : Int) - 1)) = ji24:=(i64_w _).trans hji24
                 by_cases c25 : 0 ≤ (ji24)
                 ·rw [if_pos c25] at H
                  have c25b0 : decide (0 ≤ (ji24)) = true:=decide_eq_true c25
                  clear c25
                  by_cases c26 : (ji24) < (x5_2.length : Int)
                  ·rw [if_pos c26] at H
                   have c26b0 : decide ((ji24) < (x5_2.length : Int)) = true:=decide_eq_true c26
                   clear c26
                   replace H:=Option.bind_eq_some_iff.mp H
                   obtain ⟨t282,A270,H⟩:=H
                   replace H : (if t282 > 0 then (if x5_2.length < 17592186044416 then (hornbeamref10_Of.l0 k4 a1 (x5_2 ++ [rdOf (0 : Nat) t272 x9_4]) t272 (t272.length : Int) (wrap64 (x8_2 + 1))) else (none)) else (hornbeamref10_Of.l0 k4 a1 x5_2 t272 (t272.length : Int) (wrap64 (x8_2 + 1)))) = some r:=H
                   have A27:=Aside0.mk A270
                   clear A270
                   by_cases c28 : t282 > 0
                   ·rw [if_pos c28] at H
                    have c28b0 : decide (0 < t282) = true:=decide_eq_true c28
                    clear c28
                    by_cases c29 : x5_2.length < 17592186044416
                    ·rw [if_pos c29] at H
                     have LMc29:=Aside0.mk c29
                     clear c29
                     obtain ⟨y283,hy283⟩ : ∃ y_ : List Nat,y_ = (x5_2 ++ [rdOf (0 : Nat) t272 x9_4]):=⟨_,rfl⟩
                     replace H : (hornbeamref10_Of.l0 k4 a1 y283 t272 (t272.length : Int) (wrap64 (x8_2 + 1))) = some r:=by first|(rw [hy283];with_reducible exact H)|(have H2_:=(Option.bind_some _ _).symm.trans H;rw [hy283];with_reducible exact H2_)|(have H2_:=(Option.bind_some _ _).symm.trans H;with_reducible exact H2_)|with_reducible exact H|(rw [hy283];exact H)|exact H
                     have Ny283:=Aside0.mk hy283
                     clear hy283
                     have H':=Aside0.mk H
                     clear H
                     have p275 : 0 ≤ (x9_4 : Int):=of_decide_eq_true (by first|(with_reducible assumption)|assumption)
                     have q275 : x9_4 < (t272.length : Int):=of_decide_eq_true (by first|(with_reducible assumption)|assumption)
                     obtain ⟨ad275,e275,hx275_0⟩:=Flt.at_kf (Kd.R_reads' HO_6.out).2.2 x9_4 p275 q275
                     cases e275
                     replace p275:=eq_true p275
                     replace q275:=eq_true q275
                     have p276 : 0 ≤ (0 : Int):=(by omega)
                     have q276 : 0 < (t272.length : Int):=of_decide_eq_true (by first|(with_reducible assumption)|assumption)
                     obtain ⟨ad276,e276,hx276_0⟩:=Flt.at_kf (Kd.R_reads' HO_6.out).2.2 0 p276 q276
                     obtain rfl : ad275 = ad276:=(by injection e276)
                     have qi276 : (0 < t272.length) = True:=eq_true (by omega)
                     (try rw [show ((0 : Int)).toNat = 0 from rfl] at hx276_0)
                     (try rw [Addr.add_zero'] at hx276_0)
                     replace p276:=eq_true p276
                     replace q276:=eq_true q276
                     go_wp2_with (first|((with_reducible refine gate_callee (f:=39) rfl ?_);refine goesL_ (some 50) rfl rfl Try.func39 (by kernel_rfl) rfl #[.float .f64 (rdOf (0 : Nat) t272 x9_4),.float .f64 (rdOf (0 : Nat) t272 0)] rfl (by (try simp only [List.map_toArray,List.map_cons,List.map_nil]);first|done|rfl|(simp only [List.length_drop,List.length_take];rfl)) ?_;(with_reducible refine (hornbeamref06_Cmp.calls k4 (rdOf (0 : Nat) t272 x9_4) (rdOf (0 : Nat) t272 0) t277 _ A18.out).mono ?_);rintro e w' ⟨rfl,⟨nd,rfl⟩⟩;refine ⟨_,rfl,?_⟩;obtain ⟨Ao30,co30,eo30⟩:=Kd.R_slice HO_5.out;subst eo30;have p281 : 0 ≤ ((ji24) : Int):=of_decide_eq_true (by first|(with_reducible assumption)|assumption);have q281 : (ji24) < (x5_2.length : Int):=of_decide_eq_true (by first|(with_reducible assumption)|assumption);obtain ⟨ad281,e281,hx281_0⟩:=Flt.at_kf (Kd.R_reads' HO_5.out).2.2 (ji24) p281 q281;cases e281;replace p281:=eq_true p281;replace q281:=eq_true q281)|(go_at_call 39;(with_reducible refine (hornbeamref06_Cmp.calls k4 (rdOf (0 : Nat) t272 x9_4) (rdOf (0 : Nat) x5_2 (ji24)) t282 _ A27.out).mono ?_);rintro e w' ⟨rfl,⟨nd,rfl⟩⟩)|((with_reducible refine gate_builtin (b:=.append) (xs:=#[.tmp 68,.tmp 70]) rfl ?_);at_builtin;refine Kd.R_append Flt.kf (w0:=w) w.heap.size rfl (.tmp 68) (.tmp 70) 30 36 (.float .f64 0) 8 rfl Try.underlying30 info36 rfl (by decide) (by omega) (.slice (some ad281) x5_2.length co30) x5_2 (rdOf (0 : Nat) t272 x9_4) [.float .f64 (rdOf (0 : Nat) t272 x9_4)] (fun k_=>some k_ ≠ (.slice (some ad275) t272.length co10 : Value).ownBlock) (fun _=>False) rfl rfl ?aP (fun _ hk=>hk.elim) ?aF ?aO ?aB ?aS ?aL ?_;(case aP=>exact rfl);(case aB=>exact (by repeat(first|(with_reducible first|exact HB.out|apply below_alloc|apply pw_below_drewN|apply below_drew1)|exact HB.out)));(case aF=>exact (fun k_ hk=>Kd.fresh' (Kd.R_lt (by (with_reducible repeat(first|apply Kd.R_alloc|apply Kd.R_drewN|apply Kd.R_drew));exact HO_6.out)) k_ hk));(case aO=>exact (by (with_reducible repeat(first|apply Kd.R_alloc|apply Kd.R_drewN|apply Kd.R_drew));exact HO_5.out));(case aS=>exact (below_size (by repeat(first|(with_reducible first|exact HB.out|apply below_alloc|apply pw_below_drewN|apply below_drew1)|exact HB.out))));(case aL=>have:=LMc29.out;omega);intro v284 w31 ho hb hg hat;rw [← Ny283.out] at ho;have n0_:=Aside0.mk (Kd.R_after (ok:=(fun _=>True)) (by (with_reducible repeat(first|apply Kd.R_alloc|apply Kd.R_drewN|apply Kd.R_drew));exact Kd.R_mono HO_6.out (fun _ hk=>⟨trivial,hk⟩)) hg hat);have n1_:=Aside0.mk (hb);have n2_:=Aside0.mk (ho);clear HO_6;clear HB;clear HO_5;have HO_6:=n0_;have HB:=n1_;have HO285:=n2_;clear n0_ n1_ n2_;clear ho hb hg hat))
                     go_roundg k4
                     case measure=>have:=HJ2.out;have:=HK2.out;have:=HJ10.out;have:=HK4.out;omega
                     case rel=>exact ⟨(y283),(wrap64 (x8_2 + 1)),(by first|rfl|(simp;done)|(simp [*];done)),H',⟨by have:=HJ2.out;have:=HK2.out;have:=HJ10.out;have:=HK4.out;omega⟩,⟨by (with_reducible repeat(first|apply Kd.R_alloc|apply Kd.R_drewN|apply Kd.R_drew));exact HO285.out⟩,⟨by (with_reducible repeat(first|apply Kd.R_alloc|apply Kd.R_drewN|apply Kd.R_drew));exact Kd.R_mono HO_6.out (fun _ hk=>hk.2)⟩,⟨by repeat(first|(with_reducible first|exact HB.out|apply below_alloc|apply pw_below_drewN|apply below_drew1)|exact HB.out)⟩⟩
                    ·rw [if_neg c29] at H
                     exact absurd H (by simp)
                   ·rw [if_neg c28] at H
                    have c28b0 : decide (0 < t282) = false:=decide_eq_false c28
                    clear c28
                    have H':=Aside0.mk H
                    clear H
                    have p275 : 0 ≤ (x9_4 : Int):=of_decide_eq_true (by first|(with_reducible assumption)|assumption)
                    have q275 : x9_4 < (t272.length : Int):=of_decide_eq_true (by first|(with_reducible assumption)|assumption)
                    obtain ⟨ad275,e275,hx275_0⟩:=Flt.at_kf (Kd.R_reads' HO_6.out).2.2 x9_4 p275 q275
                    cases e275
                    replace p275:=eq_true p275
                    replace q275:=eq_true q275
                    have p276 : 0 ≤ (0 : Int):=(by omega)
                    have q276 : 0 < (t272.length : Int):=of_decide_eq_true (by first|(with_reducible assumption)|assumption)
                    obtain ⟨ad276,e276,hx276_0⟩:=Flt.at_kf (Kd.R_reads' HO_6.out).2.2 0 p276 q276
                    obtain rfl : ad275 = ad276:=(by injection e276)
                    have qi276 : (0 < t272.length) = True:=eq_true (by omega)
                    (try rw [show ((0 : Int)).toNat = 0 from rfl] at hx276_0)
                    (try rw [Addr.add_zero'] at hx276_0)
                    replace p276:=eq_true p276
                    replace q276:=eq_true q276
                    go_wp2_with (first|((with_reducible refine gate_callee (f:=39) rfl ?_);refine goesL_ (some 50) rfl rfl Try.func39 (by kernel_rfl) rfl #[.float .f64 (rdOf (0 : Nat) t272 x9_4),.float .f64 (rdOf (0 : Nat) t272 0)] rfl (by (try simp only [List.map_toArray,List.map_cons,List.map_nil]);first|done|rfl|(simp only [List.length_drop,List.length_take];rfl)) ?_;(with_reducible refine (hornbeamref06_Cmp.calls k4 (rdOf (0 : Nat) t272 x9_4) (rdOf (0 : Nat) t272 0) t277 _ A18.out).mono ?_);rintro e w' ⟨rfl,⟨nd,rfl⟩⟩;refine ⟨_,rfl,?_⟩;obtain ⟨Ao32,co32,eo32⟩:=Kd.R_slice HO_5.out;subst eo32;have p281 : 0 ≤ ((ji24) : Int):=of_decide_eq_true (by first|(with_reducible assumption)|assumption);have q281 : (ji24) < (x5_2.length : Int):=of_decide_eq_true (by first|(with_reducible assumption)|assumption);obtain ⟨ad281,e281,hx281_0⟩:=Flt.at_kf (Kd.R_reads' HO_5.out).2.2 (ji24) p281 q281;cases e281;replace p281:=eq_true p281;replace q281:=eq_true q281)|(go_at_call 39;(with_reducible refine (hornbeamref06_Cmp.calls k4 (rdOf (0 : Nat) t272 x9_4) (rdOf (0 : Nat) x5_2 (ji24)) t282 _ A27.out).mono ?_);rintro e w' ⟨rfl,⟨nd,rfl⟩⟩))
                    go_roundg k4
                    case measure=>have:=HJ2.out;have:=HK2.out;have:=HJ10.out;have:=HK4.out;omega
                    case rel=>exact ⟨(x5_2),(wrap64 (x8_2 + 1)),(by first|rfl|(simp;done)|(simp [*];done)),H',⟨by have:=HJ2.out;have:=HK2.out;have:=HJ10.out;have:=HK4.out;omega⟩,⟨by (with_reducible repeat(first|apply Kd.R_alloc|apply Kd.R_drewN|apply Kd.R_drew));exact HO_5.out⟩,⟨by (with_reducible repeat(first|apply Kd.R_alloc|apply Kd.R_drewN|apply Kd.R_drew));exact HO_6.out⟩,⟨by repeat(first|(with_reducible first|exact HB.out|apply below_alloc|apply pw_below_drewN|apply below_drew1)|exact HB.out)⟩⟩
                  ·rw [if_neg c26] at H
                   exact absurd H (by simp)
                 ·rw [if_neg c25] at H
                  exact absurd H (by simp)
               ·rw [if_neg c19] at H
                have c19b0 : decide (0 < t277) = false:=decide_eq_false c19
                clear c19
                have H':=Aside0.mk H
                clear H
                have p275 : 0 ≤ (x9_4 : Int):=of_decide_eq_true (by first|(with_reducible assumption)|assumption)
                have q275 : x9_4 < (t272.length : Int):=of_decide_eq_true (by first|(with_reducible assumption)|assumption)
                obtain ⟨ad275,e275,hx275_0⟩:=Flt.at_kf (Kd.R_reads' HO_6.out).2.2 x9_4 p275 q275
                cases e275
                replace p275:=eq_true p275
                replace q275:=eq_true q275
                have p276 : 0 ≤ (0 : Int):=(by omega)
                have q276 : 0 < (t272.length : Int):=of_decide_eq_true (by first|(with_reducible assumption)|assumption)
                obtain ⟨ad276,e276,hx276_0⟩:=Flt.at_kf (Kd.R_reads' HO_6.out).2.2 0 p276 q276
                obtain rfl : ad275 = ad276:=(by injection e276)
                have qi276 : (0 < t272.length) = True:=eq_true (by omega)
                (try rw [show ((0 : Int)).toNat = 0 from rfl] at hx276_0)
                (try rw [Addr.add_zero'] at hx276_0)
                replace p276:=eq_true p276
                replace q276:=eq_true q276
                go_wp2_with (first|((with_reducible refine gate_callee (f:=39) rfl ?_);refine goesL_ (some 50) rfl rfl Try.func39 (by kernel_rfl) rfl #[.float .f64 (rdOf (0 : Nat) t272 x9_4),.float .f64 (rdOf (0 : Nat) t272 0)] rfl (by (try simp only [List.map_toArray,List.map_cons,List.map_nil]);first|done|rfl|(simp only [List.length_drop,List.length_take];rfl)) ?_;(with_reducible refine (hornbeamref06_Cmp.calls k4 (rdOf (0 : Nat) t272 x9_4) (rdOf (0 : Nat) t272 0) t277 _ A18.out).mono ?_);rintro e w' ⟨rfl,⟨nd,rfl⟩⟩;refine ⟨_,rfl,?_⟩))
                go_roundg k4
                case measure=>have:=HJ2.out;have:=HK2.out;have:=HJ10.out;have:=HK4.out;omega
                case rel=>exact ⟨(x5_2),(wrap64 (x8_2 + 1)),(by first|rfl|(simp;done)|(simp [*];done)),H',⟨by have:=HJ2.out;have:=HK2.out;have:=HJ10.out;have:=HK4.out;omega⟩,⟨by (with_reducible repeat(first|apply Kd.R_alloc|apply Kd.R_drewN|apply Kd.R_drew));exact HO_5.out⟩,⟨by (with_reducible repeat(first|apply Kd.R_alloc|apply Kd.R_drewN|apply Kd.R_drew));exact HO_6.out⟩,⟨by repeat(first|(with_reducible first|exact HB.out|apply below_alloc|apply pw_below_drewN|apply below_drew1)|exact HB.out)⟩⟩
              ·rw [if_neg c17] at H
               exact absurd H (by simp)
             ·rw [if_neg c16] at H
              exact absurd H (by simp)
            ·rw [if_neg c15] at H
             exact absurd H (by simp)
        ·replace c13:=Bool.eq_false_iff.mpr c13
         subst c13
         have H1 : (some x5_2) = some r:=by rw [if_neg (show ¬ (false = true) by decide)] at H;exact H
         clear H
         have H:=H1
         clear H1
         obtain rfl:=Option.some.inj H
         go_wp2
         go_ret
         exact ⟨_,by first|rfl|(simp [errW_none,errW_some] <;> rfl)|(simp [*,errW_none,errW_some] <;> rfl),by (with_reducible repeat(first|apply Kd.R_alloc|apply Kd.R_drewN|apply Kd.R_drew));exact Kd.R_mono HO_5.out (fun _ hk=>trivial),by repeat(first|(with_reducible first|exact HB.out|apply below_alloc|apply pw_below_drewN|apply below_drew1)|exact HB.out)⟩

end Go.Proofs.Ytnagfbadjbkhmaa.PB
