import Derived.Test.YtnagfbadjbkhmaaPAx0
import Derived.Test.YtnagfbadjbkhmaaPAx1
namespace Go.Proofs.Ytnagfbadjbkhmaa.PA
open Go.RowKit Go.Proofs.YtnagfbadjbkhmaaW.PrintWords Go.Proofs.YtnagfbadjbkhmaaW.PrintLast Go.Proofs.YtnagfbadjbkhmaaW.PrintMore
attribute [local go_sem] max2_int min2_int max_two min_two max_three min_three max_four min_four   -- for this text's walks alone
attribute [local go_sem high] Flt.fold_eq Flt.fold_ne Flt.fold_lt Flt.fold_gt Flt.fold_le Flt.fold_ge Flt.run_bits Flt.run_frombits
set_option linter.unusedVariables false
set_option linter.unusedSimpArgs false

attribute [local go_sem high] eqA23
/-! ### hornbeamref09_Same: function 19 -/
mutual
def hornbeamref09_Same.j0 : Nat → Bool → Int → Int → Int → Int → Int → Int → Int → Int → Int → List Int → List Int → Int → Int → Int → Int → Int → Int → Int → Int → Int → List Int → List Int → Option (Bool)
 | 0,_,_,_,_,_,_,_,_,_,_,_,_,_,_,_,_,_,_,_,_,_,_,_=>none
 | k + 1,x43,x290000,x290001,x290002,x290003,x290004,x290005,x290006,x290007,x290008,x290009,x290010,x291000,x291001,x291002,x291003,x291004,x291005,x291006,x291007,x291008,x291009,x291010=>if x43 = true then (some false) else (hornbeamref09_Same.l0 k 0 x290000 x290001 x290002 x290003 x290004 x290005 x290006 x290007 x290008 x290009 x290010 x291000 x291001 x291002 x291003 x291004 x291005 x291006 x291007 x291008 x291009 x291010)
def hornbeamref09_Same.l0 : Nat → Int → Int → Int → Int → Int → Int → Int → Int → Int → Int → List Int → List Int → Int → Int → Int → Int → Int → Int → Int → Int → Int → List Int → List Int → Option (Bool)
 | 0,_,_,_,_,_,_,_,_,_,_,_,_,_,_,_,_,_,_,_,_,_,_,_=>none
 | k + 1,x5,x290000,x290001,x290002,x290003,x290004,x290005,x290006,x290007,x290008,x290009,x290010,x291000,x291001,x291002,x291003,x291004,x291005,x291006,x291007,x291008,x291009,x291010=>if x5 < (x290009.length : Int) then (if 0 ≤ x5 then (if x5 < (x291009.length : Int) then (if (rd x290009 x5) = (rd x291009 x5) then (hornbeamref09_Same.l0 k (wrap64 (x5 + 1)) x290000 x290001 x290002 x290003 x290004 x290005 x290006 x290007 x290008 x290009 x290010 x291000 x291001 x291002 x291003 x291004 x291005 x291006 x291007 x291008 x291009 x291010) else (some false)) else (none)) else (none)) else (hornbeamref09_Same.l1 k 0 x290000 x290001 x290002 x290003 x290004 x290005 x290006 x290007 x290008 x290009 x290010 x291000 x291001 x291002 x291003 x291004 x291005 x291006 x291007 x291008 x291009 x291010)
def hornbeamref09_Same.l1 : Nat → Int → Int → Int → Int → Int → Int → Int → Int → Int → Int → List Int → List Int → Int → Int → Int → Int → Int → Int → Int → Int → Int → List Int → List Int → Option (Bool)
 | 0,_,_,_,_,_,_,_,_,_,_,_,_,_,_,_,_,_,_,_,_,_,_,_=>none
 | k + 1,x6,x290000,x290001,x290002,x290003,x290004,x290005,x290006,x290007,x290008,x290009,x290010,x291000,x291001,x291002,x291003,x291004,x291005,x291006,x291007,x291008,x291009,x291010=>if x6 < (x290010.length : Int) then (if 0 ≤ x6 then (if x6 < (x291010.length : Int) then (if (rd x290010 x6) = (rd x291010 x6) then (hornbeamref09_Same.l1 k (wrap64 (x6 + 1)) x290000 x290001 x290002 x290003 x290004 x290005 x290006 x290007 x290008 x290009 x290010 x291000 x291001 x291002 x291003 x291004 x291005 x291006 x291007 x291008 x291009 x291010) else (some false)) else (none)) else (none)) else (some true)
end
def hornbeamref09_Same.f (k : Nat) (a0_0 : Int) (a0_1 : Int) (a0_2 : Int) (a0_3 : Int) (a0_4 : Int) (a0_5 : Int) (a0_6 : Int) (a0_7 : Int) (a0_8 : Int) (l0_9 : List Int) (l0_10 : List Int) (a1_0 : Int) (a1_1 : Int) (a1_2 : Int) (a1_3 : Int) (a1_4 : Int) (a1_5 : Int) (a1_6 : Int) (a1_7 : Int) (a1_8 : Int) (l1_9 : List Int) (l1_10 : List Int) : Option (Bool):=if (!(a0_0 == a1_0) || (!(a0_1 == a1_1) || (!(a0_2 == a1_2) || (!(a0_3 == a1_3) || (!(a0_4 == a1_4) || (!(a0_5 == a1_5) || (!(a0_6 == a1_6)))))))) = true then (hornbeamref09_Same.j0 k true a0_0 a0_1 a0_2 a0_3 a0_4 a0_5 a0_6 a0_7 a0_8 l0_9 l0_10 a1_0 a1_1 a1_2 a1_3 a1_4 a1_5 a1_6 a1_7 a1_8 l1_9 l1_10) else (if a0_7 = a1_7 then (if a0_8 = a1_8 then (if (l0_9.length : Int) = (l1_9.length : Int) then (hornbeamref09_Same.j0 k ((l0_10.length : Int) != (l1_10.length : Int)) a0_0 a0_1 a0_2 a0_3 a0_4 a0_5 a0_6 a0_7 a0_8 l0_9 l0_10 a1_0 a1_1 a1_2 a1_3 a1_4 a1_5 a1_6 a1_7 a1_8 l1_9 l1_10) else (hornbeamref09_Same.j0 k true a0_0 a0_1 a0_2 a0_3 a0_4 a0_5 a0_6 a0_7 a0_8 l0_9 l0_10 a1_0 a1_1 a1_2 a1_3 a1_4 a1_5 a1_6 a1_7 a1_8 l1_9 l1_10)) else (hornbeamref09_Same.j0 k true a0_0 a0_1 a0_2 a0_3 a0_4 a0_5 a0_6 a0_7 a0_8 l0_9 l0_10 a1_0 a1_1 a1_2 a1_3 a1_4 a1_5 a1_6 a1_7 a1_8 l1_9 l1_10)) else (hornbeamref09_Same.j0 k true a0_0 a0_1 a0_2 a0_3 a0_4 a0_5 a0_6 a0_7 a0_8 l0_9 l0_10 a1_0 a1_1 a1_2 a1_3 a1_4 a1_5 a1_6 a1_7 a1_8 l1_9 l1_10))
theorem hornbeamref09_Same.mono_l : ∀ k,(∀ y0 y1 y2 y3 y4 y5 y6 y7 y8 y9 y10 y11 y12 y13 y14 y15 y16 y17 y18 y19 y20 y21 y22,LeO (hornbeamref09_Same.j0 k y0 y1 y2 y3 y4 y5 y6 y7 y8 y9 y10 y11 y12 y13 y14 y15 y16 y17 y18 y19 y20 y21 y22) (hornbeamref09_Same.j0 (k + 1) y0 y1 y2 y3 y4 y5 y6 y7 y8 y9 y10 y11 y12 y13 y14 y15 y16 y17 y18 y19 y20 y21 y22)) ∧ (∀ y0 y1 y2 y3 y4 y5 y6 y7 y8 y9 y10 y11 y12 y13 y14 y15 y16 y17 y18 y19 y20 y21 y22,LeO (hornbeamref09_Same.l0 k y0 y1 y2 y3 y4 y5 y6 y7 y8 y9 y10 y11 y12 y13 y14 y15 y16 y17 y18 y19 y20 y21 y22) (hornbeamref09_Same.l0 (k + 1) y0 y1 y2 y3 y4 y5 y6 y7 y8 y9 y10 y11 y12 y13 y14 y15 y16 y17 y18 y19 y20 y21 y22)) ∧ (∀ y0 y1 y2 y3 y4 y5 y6 y7 y8 y9 y10 y11 y12 y13 y14 y15 y16 y17 y18 y19 y20 y21 y22,LeO (hornbeamref09_Same.l1 k y0 y1 y2 y3 y4 y5 y6 y7 y8 y9 y10 y11 y12 y13 y14 y15 y16 y17 y18 y19 y20 y21 y22) (hornbeamref09_Same.l1 (k + 1) y0 y1 y2 y3 y4 y5 y6 y7 y8 y9 y10 y11 y12 y13 y14 y15 y16 y17 y18 y19 y20 y21 y22))
 | 0=>⟨fun _ _ _ _ _ _ _ _ _ _ _ _ _ _ _ _ _ _ _ _ _ _ _ r h=>by simp [hornbeamref09_Same.j0] at h,fun _ _ _ _ _ _ _ _ _ _ _ _ _ _ _ _ _ _ _ _ _ _ _ r h=>by simp [hornbeamref09_Same.l0] at h,fun _ _ _ _ _ _ _ _ _ _ _ _ _ _ _ _ _ _ _ _ _ _ _ r h=>by simp [hornbeamref09_Same.l1] at h⟩
 | k + 1=>by
  obtain ⟨ih0,ih1,ih2⟩:=hornbeamref09_Same.mono_l k
  refine ⟨?_,?_,?_⟩
  ·intro y0 y1 y2 y3 y4 y5 y6 y7 y8 y9 y10 y11 y12 y13 y14 y15 y16 y17 y18 y19 y20 y21 y22
   unfold hornbeamref09_Same.j0
   repeat' first
   | (with_reducible exact ih0 _ _ _ _ _ _ _ _ _ _ _ _ _ _ _ _ _ _ _ _ _ _ _)
   | (with_reducible exact ih1 _ _ _ _ _ _ _ _ _ _ _ _ _ _ _ _ _ _ _ _ _ _ _)
   | (with_reducible exact ih2 _ _ _ _ _ _ _ _ _ _ _ _ _ _ _ _ _ _ _ _ _ _ _)
   | (with_reducible exact LeO.refl _)
   | (with_reducible exact LeO.none _)
   | (with_reducible refine LeO.ite ?_ ?_)
   | (with_reducible refine LeO.bind ?_ (fun _=>?_))
   | exact ih0 _ _ _ _ _ _ _ _ _ _ _ _ _ _ _ _ _ _ _ _ _ _ _
   | exact ih1 _ _ _ _ _ _ _ _ _ _ _ _ _ _ _ _ _ _ _ _ _ _ _
   | exact ih2 _ _ _ _ _ _ _ _ _ _ _ _ _ _ _ _ _ _ _ _ _ _ _
   | exact LeO.none _
   | refine LeO.ite ?_ ?_
   | refine LeO.bind ?_ (fun _=>?_)
  ·intro y0 y1 y2 y3 y4 y5 y6 y7 y8 y9 y10 y11 y12 y13 y14 y15 y16 y17 y18 y19 y20 y21 y22
   unfold hornbeamref09_Same.l0
   repeat' first
   | (with_reducible exact ih0 _ _ _ _ _ _ _ _ _ _ _ _ _ _ _ _ _ _ _ _ _ _ _)
   | (with_reducible exact ih1 _ _ _ _ _ _ _ _ _ _ _ _ _ _ _ _ _ _ _ _ _ _ _)
   | (with_reducible exact ih2 _ _ _ _ _ _ _ _ _ _ _ _ _ _ _ _ _ _ _ _ _ _ _)
   | (with_reducible exact LeO.refl _)
   | (with_reducible exact LeO.none _)
   | (with_reducible refine LeO.ite ?_ ?_)
   | (with_reducible refine LeO.bind ?_ (fun _=>?_))
   | exact ih0 _ _ _ _ _ _ _ _ _ _ _ _ _ _ _ _ _ _ _ _ _ _ _
   | exact ih1 _ _ _ _ _ _ _ _ _ _ _ _ _ _ _ _ _ _ _ _ _ _ _
   | exact ih2 _ _ _ _ _ _ _ _ _ _ _ _ _ _ _ _ _ _ _ _ _ _ _
   | exact LeO.none _
   | refine LeO.ite ?_ ?_
   | refine LeO.bind ?_ (fun _=>?_)
  ·intro y0 y1 y2 y3 y4 y5 y6 y7 y8 y9 y10 y11 y12 y13 y14 y15 y16 y17 y18 y19 y20 y21 y22
   unfold hornbeamref09_Same.l1
   repeat' first
   | (with_reducible exact ih0 _ _ _ _ _ _ _ _ _ _ _ _ _ _ _ _ _ _ _ _ _ _ _)
   | (with_reducible exact ih1 _ _ _ _ _ _ _ _ _ _ _ _ _ _ _ _ _ _ _ _ _ _ _)
   | (with_reducible exact ih2 _ _ _ _ _ _ _ _ _ _ _ _ _ _ _ _ _ _ _ _ _ _ _)
   | (with_reducible exact LeO.refl _)
   | (with_reducible exact LeO.none _)
   | (with_reducible refine LeO.ite ?_ ?_)
   | (with_reducible refine LeO.bind ?_ (fun _=>?_))
   | exact ih0 _ _ _ _ _ _ _ _ _ _ _ _ _ _ _ _ _ _ _ _ _ _ _
   | exact ih1 _ _ _ _ _ _ _ _ _ _ _ _ _ _ _ _ _ _ _ _ _ _ _
   | exact ih2 _ _ _ _ _ _ _ _ _ _ _ _ _ _ _ _ _ _ _ _ _ _ _
   | exact LeO.none _
   | refine LeO.ite ?_ ?_
   | refine LeO.bind ?_ (fun _=>?_)
theorem hornbeamref09_Same.mono : ∀ a0 a1 a2 a3 a4 a5 a6 a7 a8 a9 a10 a11 a12 a13 a14 a15 a16 a17 a18 a19 a20 a21 k,LeO (hornbeamref09_Same.f k a0 a1 a2 a3 a4 a5 a6 a7 a8 a9 a10 a11 a12 a13 a14 a15 a16 a17 a18 a19 a20 a21) (hornbeamref09_Same.f (k + 1) a0 a1 a2 a3 a4 a5 a6 a7 a8 a9 a10 a11 a12 a13 a14 a15 a16 a17 a18 a19 a20 a21):=by
 intro a0 a1 a2 a3 a4 a5 a6 a7 a8 a9 a10 a11 a12 a13 a14 a15 a16 a17 a18 a19 a20 a21 k
 obtain ⟨ih0,ih1,ih2⟩:=hornbeamref09_Same.mono_l k
 unfold hornbeamref09_Same.f
 repeat' first
   | (with_reducible exact ih0 _ _ _ _ _ _ _ _ _ _ _ _ _ _ _ _ _ _ _ _ _ _ _)
   | (with_reducible exact ih1 _ _ _ _ _ _ _ _ _ _ _ _ _ _ _ _ _ _ _ _ _ _ _)
   | (with_reducible exact ih2 _ _ _ _ _ _ _ _ _ _ _ _ _ _ _ _ _ _ _ _ _ _ _)
   | (with_reducible exact LeO.refl _)
   | (with_reducible exact LeO.none _)
   | (with_reducible refine LeO.ite ?_ ?_)
   | (with_reducible refine LeO.bind ?_ (fun _=>?_))
   | exact ih0 _ _ _ _ _ _ _ _ _ _ _ _ _ _ _ _ _ _ _ _ _ _ _
   | exact ih1 _ _ _ _ _ _ _ _ _ _ _ _ _ _ _ _ _ _ _ _ _ _ _
   | exact ih2 _ _ _ _ _ _ _ _ _ _ _ _ _ _ _ _ _ _ _ _ _ _ _
   | exact LeO.none _
   | refine LeO.ite ?_ ?_
   | refine LeO.bind ?_ (fun _=>?_)
set_option maxHeartbeats 8000000 in
set_option maxRecDepth 100000 in
theorem hornbeamref09_Same.calls (k : Nat) (a0_0 : Int) (a0_1 : Int) (a0_2 : Int) (a0_3 : Int) (a0_4 : Int) (a0_5 : Int) (a0_6 : Int) (a0_7 : Int) (a0_8 : Int) (A0_9 : Option Addr) (c0_9 : Nat) (l0_9 : List Int) (A0_10 : Option Addr) (c0_10 : Nat) (l0_10 : List Int) (a1_0 : Int) (a1_1 : Int) (a1_2 : Int) (a1_3 : Int) (a1_4 : Int) (a1_5 : Int) (a1_6 : Int) (a1_7 : Int) (a1_8 : Int) (A1_9 : Option Addr) (c1_9 : Nat) (l1_9 : List Int) (A1_10 : Option Addr) (c1_10 : Nat) (l1_10 : List Int) (r : Bool) (w : World) (hr0_9 : Kd.C (Kd.int .u64) w A0_9 l0_9.length l0_9) (hc0_9 : l0_9.length ≤ c0_9) (hr0_10 : Kd.C (Kd.int .i64) w A0_10 l0_10.length l0_10) (hc0_10 : l0_10.length ≤ c0_10) (hr1_9 : Kd.C (Kd.int .u64) w A1_9 l1_9.length l1_9) (hc1_9 : l1_9.length ≤ c1_9) (hr1_10 : Kd.C (Kd.int .i64) w A1_10 l1_10.length l1_10) (hc1_10 : l1_10.length ≤ c1_10) (h : hornbeamref09_Same.f k a0_0 a0_1 a0_2 a0_3 a0_4 a0_5 a0_6 a0_7 a0_8 l0_9 l0_10 a1_0 a1_1 a1_2 a1_3 a1_4 a1_5 a1_6 a1_7 a1_8 l1_9 l1_10 = some r) :
  Calls Try.prog 19 #[.agg #[.int .i64 a0_0,.int .i64 a0_1,.int .i64 a0_2,.int .i64 a0_3,.int .i64 a0_4,.int .i64 a0_5,.int .i64 a0_6,.int .i64 a0_7,.int .i64 a0_8,.slice A0_9 l0_9.length c0_9,.slice A0_10 l0_10.length c0_10],.agg #[.int .i64 a1_0,.int .i64 a1_1,.int .i64 a1_2,.int .i64 a1_3,.int .i64 a1_4,.int .i64 a1_5,.int .i64 a1_6,.int .i64 a1_7,.int .i64 a1_8,.slice A1_9 l1_9.length c1_9,.slice A1_10 l1_10.length c1_10]] w fun e w'=>e = .returned (.bool r) ∧ Below w.heap.size w w':=by
 have hu27:=Try.underlying27
 have hu23:=Try.underlying23
 have HR0_9:=Aside0.mk hr0_9
 have HC0_9:=Aside0.mk hc0_9
 clear hr0_9 hc0_9
 have HR0_10:=Aside0.mk hr0_10
 have HC0_10:=Aside0.mk hc0_10
 clear hr0_10 hc0_10
 have HR1_9:=Aside0.mk hr1_9
 have HC1_9:=Aside0.mk hc1_9
 clear hr1_9 hc1_9
 have HR1_10:=Aside0.mk hr1_10
 have HC1_10:=Aside0.mk hc1_10
 clear hr1_10 hc1_10
 have HB:=Aside0.mk (Below.refl w.heap.size w)
 have H : (if (!(a0_0 == a1_0) || (!(a0_1 == a1_1) || (!(a0_2 == a1_2) || (!(a0_3 == a1_3) || (!(a0_4 == a1_4) || (!(a0_5 == a1_5) || (!(a0_6 == a1_6)))))))) = true then (hornbeamref09_Same.j0 k true a0_0 a0_1 a0_2 a0_3 a0_4 a0_5 a0_6 a0_7 a0_8 l0_9 l0_10 a1_0 a1_1 a1_2 a1_3 a1_4 a1_5 a1_6 a1_7 a1_8 l1_9 l1_10) else (if a0_7 = a1_7 then (if a0_8 = a1_8 then (if (l0_9.length : Int) = (l1_9.length : Int) then (hornbeamref09_Same.j0 k ((l0_10.length : Int) != (l1_10.length : Int)) a0_0 a0_1 a0_2 a0_3 a0_4 a0_5 a0_6 a0_7 a0_8 l0_9 l0_10 a1_0 a1_1 a1_2 a1_3 a1_4 a1_5 a1_6 a1_7 a1_8 l1_9 l1_10) else (hornbeamref09_Same.j0 k true a0_0 a0_1 a0_2 a0_3 a0_4 a0_5 a0_6 a0_7 a0_8 l0_9 l0_10 a1_0 a1_1 a1_2 a1_3 a1_4 a1_5 a1_6 a1_7 a1_8 l1_9 l1_10)) else (hornbeamref09_Same.j0 k true a0_0 a0_1 a0_2 a0_3 a0_4 a0_5 a0_6 a0_7 a0_8 l0_9 l0_10 a1_0 a1_1 a1_2 a1_3 a1_4 a1_5 a1_6 a1_7 a1_8 l1_9 l1_10)) else (hornbeamref09_Same.j0 k true a0_0 a0_1 a0_2 a0_3 a0_4 a0_5 a0_6 a0_7 a0_8 l0_9 l0_10 a1_0 a1_1 a1_2 a1_3 a1_4 a1_5 a1_6 a1_7 a1_8 l1_9 l1_10))) = some r:=h
 clear h
 have HC3:=Aside0.mk H
 clear H
 go_enter Try.func19,Try.ntmps19
 go_upto_region 1 with (first|((with_reducible refine gate_dst (N:=2) rfl ?_);(try (refine gate_guard (by rfl) ?_;dsimp only));refine box_event ?hg (N:=2) ?hd (cs:=#[.int .i64 a0_0,.int .i64 a0_1,.int .i64 a0_2,.int .i64 a0_3,.int .i64 a0_4,.int .i64 a0_5,.int .i64 a0_6,.int .i64 a0_7,.int .i64 a0_8,.slice A0_9 l0_9.length c0_9,.slice A0_10 l0_10.length c0_10]) (t:=27) ?hr ?_;(case hd=>rfl);(case hg=>rfl);(case hr=>first|(go_simp;done)|(go_simp;rfl));intro gb289 hg w4 hbox hb;have n0_:=Aside0.mk (below_step (by repeat(first|(with_reducible first|exact HB.out|apply below_alloc|apply pw_below_drewN|apply below_drew1)|exact HB.out)) hb);have n1_:=Aside0.mk (hbox);have n2_:=Aside0.mk ((by rw [hg];exact (below_size (by repeat(first|(with_reducible first|exact HB.out|apply below_alloc|apply pw_below_drewN|apply below_drew1)|exact HB.out))) : w.heap.size ≤ gb289));have n3_:=Aside0.mk ((by rw [hg];exact (below_size (by repeat(first|(with_reducible first|exact HB.out|apply below_alloc|apply pw_below_drewN|apply below_drew1)|exact HB.out))) : w.heap.size ≤ gb289));clear HB;have HB:=n0_;have BK289:=n1_;have GW289:=n2_;have GE289:=n3_;clear n0_ n1_ n2_ n3_;clear hb hbox hg)|((with_reducible refine gate_dst (N:=3) rfl ?_);(try (refine gate_guard (by rfl) ?_;dsimp only));refine box_event ?hg (N:=3) ?hd (cs:=#[.int .i64 a1_0,.int .i64 a1_1,.int .i64 a1_2,.int .i64 a1_3,.int .i64 a1_4,.int .i64 a1_5,.int .i64 a1_6,.int .i64 a1_7,.int .i64 a1_8,.slice A1_9 l1_9.length c1_9,.slice A1_10 l1_10.length c1_10]) (t:=27) ?hr ?_;(case hd=>rfl);(case hg=>rfl);(case hr=>first|(go_simp;done)|(go_simp;rfl));intro gb290 hg w5 hbox hb;have n0_:=Aside0.mk (blk_below (g:=gb289) (o:=.cells #[.int .i64 a0_0,.int .i64 a0_1,.int .i64 a0_2,.int .i64 a0_3,.int .i64 a0_4,.int .i64 a0_5,.int .i64 a0_6,.int .i64 a0_7,.int .i64 a0_8,.slice A0_9 l0_9.length c0_9,.slice A0_10 l0_10.length c0_10] 27 (0,0)) (by (with_reducible repeat(first|refine blk_drewN ?_ _|refine blk_drew ?_|refine blk_alloc ?_ _));exact BK289.out) hb);have n1_:=Aside0.mk (below_step (by repeat(first|(with_reducible first|exact HB.out|apply below_alloc|apply pw_below_drewN|apply below_drew1|refine below_set ?_ GE289.out)|exact HB.out)) hb);have n2_:=Aside0.mk (hbox);have n3_:=Aside0.mk ((by rw [hg];exact (below_size (by repeat(first|(with_reducible first|exact HB.out|apply below_alloc|apply pw_below_drewN|apply below_drew1|refine below_set ?_ GE289.out)|exact HB.out))) : w.heap.size ≤ gb290));have n4_:=Aside0.mk ((by rw [hg];exact (below_size (by repeat(first|(with_reducible first|exact HB.out|apply below_alloc|apply pw_below_drewN|apply below_drew1|refine below_set ?_ GE289.out)|exact HB.out))) : w.heap.size ≤ gb290));have n5_:=Aside0.mk ((by rw [hg];exact Nat.ne_of_lt (blk_lt (g:=gb289) (o:=.cells #[.int .i64 a0_0,.int .i64 a0_1,.int .i64 a0_2,.int .i64 a0_3,.int .i64 a0_4,.int .i64 a0_5,.int .i64 a0_6,.int .i64 a0_7,.int .i64 a0_8,.slice A0_9 l0_9.length c0_9,.slice A0_10 l0_10.length c0_10] 27 (0,0)) (by (with_reducible repeat(first|refine blk_drewN ?_ _|refine blk_drew ?_|refine blk_alloc ?_ _));exact BK289.out)) : gb289 ≠ gb290));have n6_:=Aside0.mk ((by rw [hg];exact Nat.ne_of_gt (blk_lt (g:=gb289) (o:=.cells #[.int .i64 a0_0,.int .i64 a0_1,.int .i64 a0_2,.int .i64 a0_3,.int .i64 a0_4,.int .i64 a0_5,.int .i64 a0_6,.int .i64 a0_7,.int .i64 a0_8,.slice A0_9 l0_9.length c0_9,.slice A0_10 l0_10.length c0_10] 27 (0,0)) (by (with_reducible repeat(first|refine blk_drewN ?_ _|refine blk_drew ?_|refine blk_alloc ?_ _));exact BK289.out)) : gb290 ≠ gb289));clear BK289;clear HB;have BK289:=n0_;have HB:=n1_;have BK290:=n2_;have GW290:=n3_;have GE290:=n4_;have NB289_290:=n5_;have NB290_289:=n6_;clear n0_ n1_ n2_ n3_ n4_ n5_ n6_;clear hb hbox hg))
 repeat (go_quiet (first|((with_reducible refine gate_dst (N:=2) rfl ?_);(try (refine gate_guard (by rfl) ?_;dsimp only));refine box_event ?hg (N:=2) ?hd (cs:=#[.int .i64 a0_0,.int .i64 a0_1,.int .i64 a0_2,.int .i64 a0_3,.int .i64 a0_4,.int .i64 a0_5,.int .i64 a0_6,.int .i64 a0_7,.int .i64 a0_8,.slice A0_9 l0_9.length c0_9,.slice A0_10 l0_10.length c0_10]) (t:=27) ?hr ?_;(case hd=>rfl);(case hg=>rfl);(case hr=>first|(go_simp;done)|(go_simp;rfl));intro gb289 hg w4 hbox hb;have n0_:=Aside0.mk (below_step (by repeat(first|(with_reducible first|exact HB.out|apply below_alloc|apply pw_below_drewN|apply below_drew1)|exact HB.out)) hb);have n1_:=Aside0.mk (hbox);have n2_:=Aside0.mk ((by rw [hg];exact (below_size (by repeat(first|(with_reducible first|exact HB.out|apply below_alloc|apply pw_below_drewN|apply below_drew1)|exact HB.out))) : w.heap.size ≤ gb289));have n3_:=Aside0.mk ((by rw [hg];exact (below_size (by repeat(first|(with_reducible first|exact HB.out|apply below_alloc|apply pw_below_drewN|apply below_drew1)|exact HB.out))) : w.heap.size ≤ gb289));clear HB;have HB:=n0_;have BK289:=n1_;have GW289:=n2_;have GE289:=n3_;clear n0_ n1_ n2_ n3_;clear hb hbox hg)|((with_reducible refine gate_dst (N:=3) rfl ?_);(try (refine gate_guard (by rfl) ?_;dsimp only));refine box_event ?hg (N:=3) ?hd (cs:=#[.int .i64 a1_0,.int .i64 a1_1,.int .i64 a1_2,.int .i64 a1_3,.int .i64 a1_4,.int .i64 a1_5,.int .i64 a1_6,.int .i64 a1_7,.int .i64 a1_8,.slice A1_9 l1_9.length c1_9,.slice A1_10 l1_10.length c1_10]) (t:=27) ?hr ?_;(case hd=>rfl);(case hg=>rfl);(case hr=>first|(go_simp;done)|(go_simp;rfl));intro gb290 hg w5 hbox hb;have n0_:=Aside0.mk (blk_below (g:=gb289) (o:=.cells #[.int .i64 a0_0,.int .i64 a0_1,.int .i64 a0_2,.int .i64 a0_3,.int .i64 a0_4,.int .i64 a0_5,.int .i64 a0_6,.int .i64 a0_7,.int .i64 a0_8,.slice A0_9 l0_9.length c0_9,.slice A0_10 l0_10.length c0_10] 27 (0,0)) (by (with_reducible repeat(first|refine blk_drewN ?_ _|refine blk_drew ?_|refine blk_alloc ?_ _));exact BK289.out) hb);have n1_:=Aside0.mk (below_step (by repeat(first|(with_reducible first|exact HB.out|apply below_alloc|apply pw_below_drewN|apply below_drew1|refine below_set ?_ GE289.out)|exact HB.out)) hb);have n2_:=Aside0.mk (hbox);have n3_:=Aside0.mk ((by rw [hg];exact (below_size (by repeat(first|(with_reducible first|exact HB.out|apply below_alloc|apply pw_below_drewN|apply below_drew1|refine below_set ?_ GE289.out)|exact HB.out))) : w.heap.size ≤ gb290));have n4_:=Aside0.mk ((by rw [hg];exact (below_size (by repeat(first|(with_reducible first|exact HB.out|apply below_alloc|apply pw_below_drewN|apply below_drew1|refine below_set ?_ GE289.out)|exact HB.out))) : w.heap.size ≤ gb290));have n5_:=Aside0.mk ((by rw [hg];exact Nat.ne_of_lt (blk_lt (g:=gb289) (o:=.cells #[.int .i64 a0_0,.int .i64 a0_1,.int .i64 a0_2,.int .i64 a0_3,.int .i64 a0_4,.int .i64 a0_5,.int .i64 a0_6,.int .i64 a0_7,.int .i64 a0_8,.slice A0_9 l0_9.length c0_9,.slice A0_10 l0_10.length c0_10] 27 (0,0)) (by (with_reducible repeat(first|refine blk_drewN ?_ _|refine blk_drew ?_|refine blk_alloc ?_ _));exact BK289.out)) : gb289 ≠ gb290));have n6_:=Aside0.mk ((by rw [hg];exact Nat.ne_of_gt (blk_lt (g:=gb289) (o:=.cells #[.int .i64 a0_0,.int .i64 a0_1,.int .i64 a0_2,.int .i64 a0_3,.int .i64 a0_4,.int .i64 a0_5,.int .i64 a0_6,.int .i64 a0_7,.int .i64 a0_8,.slice A0_9 l0_9.length c0_9,.slice A0_10 l0_10.length c0_10] 27 (0,0)) (by (with_reducible repeat(first|refine blk_drewN ?_ _|refine blk_drew ?_|refine blk_alloc ?_ _));exact BK289.out)) : gb290 ≠ gb289));clear BK289;clear HB;have BK289:=n0_;have HB:=n1_;have BK290:=n2_;have GW290:=n3_;have GE290:=n4_;have NB289_290:=n5_;have NB290_289:=n6_;clear n0_ n1_ n2_ n3_ n4_ n5_ n6_;clear hb hbox hg));go_upto_region 1 with (first|((with_reducible refine gate_dst (N:=2) rfl ?_);(try (refine gate_guard (by rfl) ?_;dsimp only));refine box_event ?hg (N:=2) ?hd (cs:=#[.int .i64 a0_0,.int .i64 a0_1,.int .i64 a0_2,.int .i64 a0_3,.int .i64 a0_4,.int .i64 a0_5,.int .i64 a0_6,.int .i64 a0_7,.int .i64 a0_8,.slice A0_9 l0_9.length c0_9,.slice A0_10 l0_10.length c0_10]) (t:=27) ?hr ?_;(case hd=>rfl);(case hg=>rfl);(case hr=>first|(go_simp;done)|(go_simp;rfl));intro gb289 hg w4 hbox hb;have n0_:=Aside0.mk (below_step (by repeat(first|(with_reducible first|exact HB.out|apply below_alloc|apply pw_below_drewN|apply below_drew1)|exact HB.out)) hb);have n1_:=Aside0.mk (hbox);have n2_:=Aside0.mk ((by rw [hg];exact (below_size (by repeat(first|(with_reducible first|exact HB.out|apply below_alloc|apply pw_below_drewN|apply below_drew1)|exact HB.out))) : w.heap.size ≤ gb289));have n3_:=Aside0.mk ((by rw [hg];exact (below_size (by repeat(first|(with_reducible first|exact HB.out|apply below_alloc|apply pw_below_drewN|apply below_drew1)|exact HB.out))) : w.heap.size ≤ gb289));clear HB;have HB:=n0_;have BK289:=n1_;have GW289:=n2_;have GE289:=n3_;clear n0_ n1_ n2_ n3_;clear hb hbox hg)|((with_reducible refine gate_dst (N:=3) rfl ?_);(try (refine gate_guard (by rfl) ?_;dsimp only));refine box_event ?hg (N:=3) ?hd (cs:=#[.int .i64 a1_0,.int .i64 a1_1,.int .i64 a1_2,.int .i64 a1_3,.int .i64 a1_4,.int .i64 a1_5,.int .i64 a1_6,.int .i64 a1_7,.int .i64 a1_8,.slice A1_9 l1_9.length c1_9,.slice A1_10 l1_10.length c1_10]) (t:=27) ?hr ?_;(case hd=>rfl);(case hg=>rfl);(case hr=>first|(go_simp;done)|(go_simp;rfl));intro gb290 hg w5 hbox hb;have n0_:=Aside0.mk (blk_below (g:=gb289) (o:=.cells #[.int .i64 a0_0,.int .i64 a0_1,.int .i64 a0_2,.int .i64 a0_3,.int .i64 a0_4,.int .i64 a0_5,.int .i64 a0_6,.int .i64 a0_7,.int .i64 a0_8,.slice A0_9 l0_9.length c0_9,.slice A0_10 l0_10.length c0_10] 27 (0,0)) (by (with_reducible repeat(first|refine blk_drewN ?_ _|refine blk_drew ?_|refine blk_alloc ?_ _));exact BK289.out) hb);have n1_:=Aside0.mk (below_step (by repeat(first|(with_reducible first|exact HB.out|apply below_alloc|apply pw_below_drewN|apply below_drew1|refine below_set ?_ GE289.out)|exact HB.out)) hb);have n2_:=Aside0.mk (hbox);have n3_:=Aside0.mk ((by rw [hg];exact (below_size (by repeat(first|(with_reducible first|exact HB.out|apply below_alloc|apply pw_below_drewN|apply below_drew1|refine below_set ?_ GE289.out)|exact HB.out))) : w.heap.size ≤ gb290));have n4_:=Aside0.mk ((by rw [hg];exact (below_size (by repeat(first|(with_reducible first|exact HB.out|apply below_alloc|apply pw_below_drewN|apply below_drew1|refine below_set ?_ GE289.out)|exact HB.out))) : w.heap.size ≤ gb290));have n5_:=Aside0.mk ((by rw [hg];exact Nat.ne_of_lt (blk_lt (g:=gb289) (o:=.cells #[.int .i64 a0_0,.int .i64 a0_1,.int .i64 a0_2,.int .i64 a0_3,.int .i64 a0_4,.int .i64 a0_5,.int .i64 a0_6,.int .i64 a0_7,.int .i64 a0_8,.slice A0_9 l0_9.length c0_9,.slice A0_10 l0_10.length c0_10] 27 (0,0)) (by (with_reducible repeat(first|refine blk_drewN ?_ _|refine blk_drew ?_|refine blk_alloc ?_ _));exact BK289.out)) : gb289 ≠ gb290));have n6_:=Aside0.mk ((by rw [hg];exact Nat.ne_of_gt (blk_lt (g:=gb289) (o:=.cells #[.int .i64 a0_0,.int .i64 a0_1,.int .i64 a0_2,.int .i64 a0_3,.int .i64 a0_4,.int .i64 a0_5,.int .i64 a0_6,.int .i64 a0_7,.int .i64 a0_8,.slice A0_9 l0_9.length c0_9,.slice A0_10 l0_10.length c0_10] 27 (0,0)) (by (with_reducible repeat(first|refine blk_drewN ?_ _|refine blk_drew ?_|refine blk_alloc ?_ _));exact BK289.out)) : gb290 ≠ gb289));clear BK289;clear HB;have BK289:=n0_;have HB:=n1_;have BK290:=n2_;have GW290:=n3_;have GE290:=n4_;have NB289_290:=n5_;have NB290_289:=n6_;clear n0_ n1_ n2_ n3_ n4_ n5_ n6_;clear hb hbox hg)))
 (try simp only [Act.put,List.setIfInBounds_toArray,List.set_cons_zero,List.set_cons_succ])
 go_cut [43] (fun v43 wc=>∃ (kq : Nat) (x43_2 : Bool),v43 = .bool x43_2 ∧ Aside0 (hornbeamref09_Same.j0 kq x43_2 a0_0 a0_1 a0_2 a0_3 a0_4 a0_5 a0_6 a0_7 a0_8 l0_9 l0_10 a1_0 a1_1 a1_2 a1_3 a1_4 a1_5 a1_6 a1_7 a1_8 l1_9 l1_10 = some r) ∧ Aside0 (kq ≤ k) ∧ Aside0 (wc.heap[gb289]? = some (.cells #[.int .i64 a0_0,.int .i64 a0_1,.int .i64 a0_2,.int .i64 a0_3,.int .i64 a0_4,.int .i64 a0_5,.int .i64 a0_6,.int .i64 a0_7,.int .i64 a0_8,(.slice A0_9 l0_9.length c0_9),(.slice A0_10 l0_10.length c0_10)] 27 (0,0))) ∧ Aside0 (wc.heap[gb290]? = some (.cells #[.int .i64 a1_0,.int .i64 a1_1,.int .i64 a1_2,.int .i64 a1_3,.int .i64 a1_4,.int .i64 a1_5,.int .i64 a1_6,.int .i64 a1_7,.int .i64 a1_8,(.slice A1_9 l1_9.length c1_9),(.slice A1_10 l1_10.length c1_10)] 27 (0,0))) ∧ Aside0 (Below w.heap.size w wc))
 case first =>
  have H:=HC3.out
  clear HC3
  by_cases c6 : (!(a0_0 == a1_0) || (!(a0_1 == a1_1) || (!(a0_2 == a1_2) || (!(a0_3 == a1_3) || (!(a0_4 == a1_4) || (!(a0_5 == a1_5) || (!(a0_6 == a1_6)))))))) = true
  ·rw [if_pos c6] at H
   have c6b0 : (!(a0_0 == a1_0) || (!(a0_1 == a1_1) || (!(a0_2 == a1_2) || (!(a0_3 == a1_3) || (!(a0_4 == a1_4) || (!(a0_5 == a1_5) || (!(a0_6 == a1_6)))))))) = true:=c6
   clear c6
   (first|rw [c6b0]|(simp only [i64_w,i32_w];rw [c6b0])|skip)
   have H':=Aside0.mk H
   clear H
   have hnb7:=NB289_290.out
   have hnc7:=NB290_289.out
   have hcz8_0 : w5.cell? ⟨gb289,0,none⟩ = some (.int .i64 a0_0):=(blk_cell BK289.out 0).trans rfl
   have hcz8_1 : w5.cell? ⟨gb289,1,none⟩ = some (.int .i64 a0_1):=(blk_cell BK289.out 1).trans rfl
   have hcz8_2 : w5.cell? ⟨gb289,2,none⟩ = some (.int .i64 a0_2):=(blk_cell BK289.out 2).trans rfl
   have hcz8_3 : w5.cell? ⟨gb289,3,none⟩ = some (.int .i64 a0_3):=(blk_cell BK289.out 3).trans rfl
   have hcz8_4 : w5.cell? ⟨gb289,4,none⟩ = some (.int .i64 a0_4):=(blk_cell BK289.out 4).trans rfl
   have hcz8_5 : w5.cell? ⟨gb289,5,none⟩ = some (.int .i64 a0_5):=(blk_cell BK289.out 5).trans rfl
   have hcz8_6 : w5.cell? ⟨gb289,6,none⟩ = some (.int .i64 a0_6):=(blk_cell BK289.out 6).trans rfl
   have hcz8_7 : w5.cell? ⟨gb289,7,none⟩ = some (.int .i64 a0_7):=(blk_cell BK289.out 7).trans rfl
   have hcz8_8 : w5.cell? ⟨gb289,8,none⟩ = some (.int .i64 a0_8):=(blk_cell BK289.out 8).trans rfl
   have hcz8_9 : w5.cell? ⟨gb289,9,none⟩ = some (.slice A0_9 l0_9.length c0_9):=(blk_cell BK289.out 9).trans rfl
   have hcz8_10 : w5.cell? ⟨gb289,10,none⟩ = some (.slice A0_10 l0_10.length c0_10):=(blk_cell BK289.out 10).trans rfl
   have hfz8_0:=blk_frozen BK289.out 0
   have hfz8_1:=blk_frozen BK289.out 1
   have hfz8_2:=blk_frozen BK289.out 2
   have hfz8_3:=blk_frozen BK289.out 3
   have hfz8_4:=blk_frozen BK289.out 4
   have hfz8_5:=blk_frozen BK289.out 5
   have hfz8_6:=blk_frozen BK289.out 6
   have hfz8_7:=blk_frozen BK289.out 7
   have hfz8_8:=blk_frozen BK289.out 8
   have hfz8_9:=blk_frozen BK289.out 9
   have hfz8_10:=blk_frozen BK289.out 10
   have hcz9_0 : w5.cell? ⟨gb290,0,none⟩ = some (.int .i64 a1_0):=(blk_cell BK290.out 0).trans rfl
   have hcz9_1 : w5.cell? ⟨gb290,1,none⟩ = some (.int .i64 a1_1):=(blk_cell BK290.out 1).trans rfl
   have hcz9_2 : w5.cell? ⟨gb290,2,none⟩ = some (.int .i64 a1_2):=(blk_cell BK290.out 2).trans rfl
   have hcz9_3 : w5.cell? ⟨gb290,3,none⟩ = some (.int .i64 a1_3):=(blk_cell BK290.out 3).trans rfl
   have hcz9_4 : w5.cell? ⟨gb290,4,none⟩ = some (.int .i64 a1_4):=(blk_cell BK290.out 4).trans rfl
   have hcz9_5 : w5.cell? ⟨gb290,5,none⟩ = some (.int .i64 a1_5):=(blk_cell BK290.out 5).trans rfl
   have hcz9_6 : w5.cell? ⟨gb290,6,none⟩ = some (.int .i64 a1_6):=(blk_cell BK290.out 6).trans rfl
   have hcz9_7 : w5.cell? ⟨gb290,7,none⟩ = some (.int .i64 a1_7):=(blk_cell BK290.out 7).trans rfl
   have hcz9_8 : w5.cell? ⟨gb290,8,none⟩ = some (.int .i64 a1_8):=(blk_cell BK290.out 8).trans rfl
   have hcz9_9 : w5.cell? ⟨gb290,9,none⟩ = some (.slice A1_9 l1_9.length c1_9):=(blk_cell BK290.out 9).trans rfl
   have hcz9_10 : w5.cell? ⟨gb290,10,none⟩ = some (.slice A1_10 l1_10.length c1_10):=(blk_cell BK290.out 10).trans rfl
   have hfz9_0:=blk_frozen BK290.out 0
   have hfz9_1:=blk_frozen BK290.out 1
   have hfz9_2:=blk_frozen BK290.out 2
   have hfz9_3:=blk_frozen BK290.out 3
   have hfz9_4:=blk_frozen BK290.out 4
   have hfz9_5:=blk_frozen BK290.out 5
   have hfz9_6:=blk_frozen BK290.out 6
   have hfz9_7:=blk_frozen BK290.out 7
   have hfz9_8:=blk_frozen BK290.out 8
   have hfz9_9:=blk_frozen BK290.out 9
   have hfz9_10:=blk_frozen BK290.out 10
   go_wp2
   repeat (go_quiet (fail);try go_wp2)
   go_meet
   case rel=>exact ⟨_,(true),(by first|rfl|(simp;done)|(simp [*];done)),H',⟨by first|omega|exact Nat.le_refl _⟩,⟨by (with_reducible repeat(first|refine blk_drewN ?_ _|refine blk_drew ?_|refine blk_alloc ?_ _));exact BK289.out⟩,⟨by (with_reducible repeat(first|refine blk_drewN ?_ _|refine blk_drew ?_|refine blk_alloc ?_ _));exact BK290.out⟩,⟨by repeat(first|(with_reducible first|exact HB.out|apply below_alloc|apply pw_below_drewN|apply below_drew1|refine below_set ?_ GE289.out|refine below_set ?_ GE290.out)|exact HB.out)⟩⟩
  ·rw [if_neg c6] at H
   have c6b0 : (!(a0_0 == a1_0) || (!(a0_1 == a1_1) || (!(a0_2 == a1_2) || (!(a0_3 == a1_3) || (!(a0_4 == a1_4) || (!(a0_5 == a1_5) || (!(a0_6 == a1_6)))))))) = false:=by simpa using c6
   clear c6
   (first|rw [c6b0]|(simp only [i64_w,i32_w];rw [c6b0])|skip)
   by_cases c10 : a0_7 = a1_7
   ·rw [if_pos c10] at H
    have c10b0 : (a0_7 == a1_7) = true:=beq_iff_eq.mpr c10
    have c10b1 : (a0_7 != a1_7) = false:=bne_eq_false_iff_eq.mpr c10
    clear c10
    by_cases c11 : a0_8 = a1_8
    ·rw [if_pos c11] at H
     have c11b0 : (a0_8 == a1_8) = true:=beq_iff_eq.mpr c11
     have c11b1 : (a0_8 != a1_8) = false:=bne_eq_false_iff_eq.mpr c11
     clear c11
     by_cases c12 : (l0_9.length : Int) = (l1_9.length : Int)
     ·rw [if_pos c12] at H
      have c12b0 : ((l0_9.length : Int) == (l1_9.length : Int)) = true:=beq_iff_eq.mpr c12
      have c12b1 : ((l0_9.length : Int) != (l1_9.length : Int)) = false:=bne_eq_false_iff_eq.mpr c12
      have c12b2 : (l0_9.length == l1_9.length) = true:=by first|simpa using c12|(simp at c12 ⊢;omega)
      clear c12
      have H':=Aside0.mk H
      clear H
      have hnb13:=NB289_290.out
      have hnc13:=NB290_289.out
      have hcz14_0 : w5.cell? ⟨gb289,0,none⟩ = some (.int .i64 a0_0):=(blk_cell BK289.out 0).trans rfl
      have hcz14_1 : w5.cell? ⟨gb289,1,none⟩ = some (.int .i64 a0_1):=(blk_cell BK289.out 1).trans rfl
      have hcz14_2 : w5.cell? ⟨gb289,2,none⟩ = some (.int .i64 a0_2):=(blk_cell BK289.out 2).trans rfl
      have hcz14_3 : w5.cell? ⟨gb289,3,none⟩ = some (.int .i64 a0_3):=(blk_cell BK289.out 3).trans rfl
      have hcz14_4 : w5.cell? ⟨gb289,4,none⟩ = some (.int .i64 a0_4):=(blk_cell BK289.out 4).trans rfl
      have hcz14_5 : w5.cell? ⟨gb289,5,none⟩ = some (.int .i64 a0_5):=(blk_cell BK289.out 5).trans rfl
      have hcz14_6 : w5.cell? ⟨gb289,6,none⟩ = some (.int .i64 a0_6):=(blk_cell BK289.out 6).trans rfl
      have hcz14_7 : w5.cell? ⟨gb289,7,none⟩ = some (.int .i64 a0_7):=(blk_cell BK289.out 7).trans rfl
      have hcz14_8 : w5.cell? ⟨gb289,8,none⟩ = some (.int .i64 a0_8):=(blk_cell BK289.out 8).trans rfl
      have hcz14_9 : w5.cell? ⟨gb289,9,none⟩ = some (.slice A0_9 l0_9.length c0_9):=(blk_cell BK289.out 9).trans rfl
      have hcz14_10 : w5.cell? ⟨gb289,10,none⟩ = some (.slice A0_10 l0_10.length c0_10):=(blk_cell BK289.out 10).trans rfl
      have hfz14_0:=blk_frozen BK289.out 0
      have hfz14_1:=blk_frozen BK289.out 1
      have hfz14_2:=blk_frozen BK289.out 2
      have hfz14_3:=blk_frozen BK289.out 3
      have hfz14_4:=blk_frozen BK289.out 4
      have hfz14_5:=blk_frozen BK289.out 5
      have hfz14_6:=blk_frozen BK289.out 6
      have hfz14_7:=blk_frozen BK289.out 7
      have hfz14_8:=blk_frozen BK289.out 8
      have hfz14_9:=blk_frozen BK289.out 9
      have hfz14_10:=blk_frozen BK289.out 10
      have hcz15_0 : w5.cell? ⟨gb290,0,none⟩ = some (.int .i64 a1_0):=(blk_cell BK290.out 0).trans rfl
      have hcz15_1 : w5.cell? ⟨gb290,1,none⟩ = some (.int .i64 a1_1):=(blk_cell BK290.out 1).trans rfl
      have hcz15_2 : w5.cell? ⟨gb290,2,none⟩ = some (.int .i64 a1_2):=(blk_cell BK290.out 2).trans rfl
      have hcz15_3 : w5.cell? ⟨gb290,3,none⟩ = some (.int .i64 a1_3):=(blk_cell BK290.out 3).trans rfl
      have hcz15_4 : w5.cell? ⟨gb290,4,none⟩ = some (.int .i64 a1_4):=(blk_cell BK290.out 4).trans rfl
      have hcz15_5 : w5.cell? ⟨gb290,5,none⟩ = some (.int .i64 a1_5):=(blk_cell BK290.out 5).trans rfl
      have hcz15_6 : w5.cell? ⟨gb290,6,none⟩ = some (.int .i64 a1_6):=(blk_cell BK290.out 6).trans rfl
      have hcz15_7 : w5.cell? ⟨gb290,7,none⟩ = some (.int .i64 a1_7):=(blk_cell BK290.out 7).trans rfl
      have hcz15_8 : w5.cell? ⟨gb290,8,none⟩ = some (.int .i64 a1_8):=(blk_cell BK290.out 8).trans rfl
      have hcz15_9 : w5.cell? ⟨gb290,9,none⟩ = some (.slice A1_9 l1_9.length c1_9):=(blk_cell BK290.out 9).trans rfl
      have hcz15_10 : w5.cell? ⟨gb290,10,none⟩ = some (.slice A1_10 l1_10.length c1_10):=(blk_cell BK290.out 10).trans rfl
      have hfz15_0:=blk_frozen BK290.out 0
      have hfz15_1:=blk_frozen BK290.out 1
      have hfz15_2:=blk_frozen BK290.out 2
      have hfz15_3:=blk_frozen BK290.out 3
      have hfz15_4:=blk_frozen BK290.out 4
      have hfz15_5:=blk_frozen BK290.out 5
      have hfz15_6:=blk_frozen BK290.out 6
      have hfz15_7:=blk_frozen BK290.out 7
      have hfz15_8:=blk_frozen BK290.out 8
      have hfz15_9:=blk_frozen BK290.out 9
      have hfz15_10:=blk_frozen BK290.out 10
      go_wp2
      repeat (go_quiet (fail);try go_wp2)
      go_meet
      case rel=>exact ⟨_,(((l0_10.length : Int) != (l1_10.length : Int))),(by first|rfl|(simp;done)|(simp [*];done)),H',⟨by first|omega|exact Nat.le_refl _⟩,⟨by (with_reducible repeat(first|refine blk_drewN ?_ _|refine blk_drew ?_|refine blk_alloc ?_ _));exact BK289.out⟩,⟨by (with_reducible repeat(first|refine blk_drewN ?_ _|refine blk_drew ?_|refine blk_alloc ?_ _));exact BK290.out⟩,⟨by repeat(first|(with_reducible first|exact HB.out|apply below_alloc|apply pw_below_drewN|apply below_drew1|refine below_set ?_ GE289.out|refine below_set ?_ GE290.out)|exact HB.out)⟩⟩
     ·rw [if_neg c12] at H
      have c12b0 : ((l0_9.length : Int) == (l1_9.length : Int)) = false:=beq_eq_false_iff_ne.mpr c12
      have c12b1 : ((l0_9.length : Int) != (l1_9.length : Int)) = true:=bne_iff_ne.mpr c12
      have c12b2 : (l0_9.length == l1_9.length) = false:=by first|simpa using c12|(simp at c12 ⊢;omega)
      have H':=Aside0.mk H
      clear H
      have hnb16:=NB289_290.out
      have hnc16:=NB290_289.out
      have hcz17_0 : w5.cell? ⟨gb289,0,none⟩ = some (.int .i64 a0_0):=(blk_cell BK289.out 0).trans rfl
      have hcz17_1 : w5.cell? ⟨gb289,1,none⟩ = some (.int .i64 a0_1):=(blk_cell BK289.out 1).trans rfl
      have hcz17_2 : w5.cell? ⟨gb289,2,none⟩ = some (.int .i64 a0_2):=(blk_cell BK289.out 2).trans rfl
      have hcz17_3 : w5.cell? ⟨gb289,3,none⟩ = some (.int .i64 a0_3):=(blk_cell BK289.out 3).trans rfl
      have hcz17_4 : w5.cell? ⟨gb289,4,none⟩ = some (.int .i64 a0_4):=(blk_cell BK289.out 4).trans rfl
      have hcz17_5 : w5.cell? ⟨gb289,5,none⟩ = some (.int .i64 a0_5):=(blk_cell BK289.out 5).trans rfl
      have hcz17_6 : w5.cell? ⟨gb289,6,none⟩ = some (.int .i64 a0_6):=(blk_cell BK289.out 6).trans rfl
      have hcz17_7 : w5.cell? ⟨gb289,7,none⟩ = some (.int .i64 a0_7):=(blk_cell BK289.out 7).trans rfl
      have hcz17_8 : w5.cell? ⟨gb289,8,none⟩ = some (.int .i64 a0_8):=(blk_cell BK289.out 8).trans rfl
      have hcz17_9 : w5.cell? ⟨gb289,9,none⟩ = some (.slice A0_9 l0_9.length c0_9):=(blk_cell BK289.out 9).trans rfl
      have hcz17_10 : w5.cell? ⟨gb289,10,none⟩ = some (.slice A0_10 l0_10.length c0_10):=(blk_cell BK289.out 10).trans rfl
      have hfz17_0:=blk_frozen BK289.out 0
      have hfz17_1:=blk_frozen BK289.out 1
      have hfz17_2:=blk_frozen BK289.out 2
      have hfz17_3:=blk_frozen BK289.out 3
      have hfz17_4:=blk_frozen BK289.out 4
      have hfz17_5:=blk_frozen BK289.out 5
      have hfz17_6:=blk_frozen BK289.out 6
      have hfz17_7:=blk_frozen BK289.out 7
      have hfz17_8:=blk_frozen BK289.out 8
      have hfz17_9:=blk_frozen BK289.out 9
      have hfz17_10:=blk_frozen BK289.out 10
      have hcz18_0 : w5.cell? ⟨gb290,0,none⟩ = some (.int .i64 a1_0):=(blk_cell BK290.out 0).trans rfl
      have hcz18_1 : w5.cell? ⟨gb290,1,none⟩ = some (.int .i64 a1_1):=(blk_cell BK290.out 1).trans rfl
      have hcz18_2 : w5.cell? ⟨gb290,2,none⟩ = some (.int .i64 a1_2):=(blk_cell BK290.out 2).trans rfl
      have hcz18_3 : w5.cell? ⟨gb290,3,none⟩ = some (.int .i64 a1_3):=(blk_cell BK290.out 3).trans rfl
      have hcz18_4 : w5.cell? ⟨gb290,4,none⟩ = some (.int .i64 a1_4):=(blk_cell BK290.out 4).trans rfl
      have hcz18_5 : w5.cell? ⟨gb290,5,none⟩ = some (.int .i64 a1_5):=(blk_cell BK290.out 5).trans rfl
      have hcz18_6 : w5.cell? ⟨gb290,6,none⟩ = some (.int .i64 a1_6):=(blk_cell BK290.out 6).trans rfl
      have hcz18_7 : w5.cell? ⟨gb290,7,none⟩ = some (.int .i64 a1_7):=(blk_cell BK290.out 7).trans rfl
      have hcz18_8 : w5.cell? ⟨gb290,8,none⟩ = some (.int .i64 a1_8):=(blk_cell BK290.out 8).trans rfl
      have hcz18_9 : w5.cell? ⟨gb290,9,none⟩ = some (.slice A1_9 l1_9.length c1_9):=(blk_cell BK290.out 9).trans rfl
      have hcz18_10 : w5.cell? ⟨gb290,10,none⟩ = some (.slice A1_10 l1_10.length c1_10):=(blk_cell BK290.out 10).trans rfl
      have hfz18_0:=blk_frozen BK290.out 0
      have hfz18_1:=blk_frozen BK290.out 1
      have hfz18_2:=blk_frozen BK290.out 2
      have hfz18_3:=blk_frozen BK290.out 3
      have hfz18_4:=blk_frozen BK290.out 4
      have hfz18_5:=blk_frozen BK290.out 5
      have hfz18_6:=blk_frozen BK290.out 6
      have hfz18_7:=blk_frozen BK290.out 7
      have hfz18_8:=blk_frozen BK290.out 8
      have hfz18_9:=blk_frozen BK290.out 9
      have hfz18_10:=blk_frozen BK290.out 10
      go_wp2
      repeat (go_quiet (fail);try go_wp2)
      go_meet
      case rel=>exact ⟨_,(true),(by first|rfl|(simp;done)|(simp [*];done)),H',⟨by first|omega|exact Nat.le_refl _⟩,⟨by (with_reducible repeat(first|refine blk_drewN ?_ _|refine blk_drew ?_|refine blk_alloc ?_ _));exact BK289.out⟩,⟨by (with_reducible repeat(first|refine blk_drewN ?_ _|refine blk_drew ?_|refine blk_alloc ?_ _));exact BK290.out⟩,⟨by repeat(first|(with_reducible first|exact HB.out|apply below_alloc|apply pw_below_drewN|apply below_drew1|refine below_set ?_ GE289.out|refine below_set ?_ GE290.out)|exact HB.out)⟩⟩
    ·rw [if_neg c11] at H
     have c11b0 : (a0_8 == a1_8) = false:=beq_eq_false_iff_ne.mpr c11
     have c11b1 : (a0_8 != a1_8) = true:=bne_iff_ne.mpr c11
     have H':=Aside0.mk H
     clear H
     have hnb19:=NB289_290.out
     have hnc19:=NB290_289.out
     have hcz20_0 : w5.cell? ⟨gb289,0,none⟩ = some (.int .i64 a0_0):=(blk_cell BK289.out 0).trans rfl
     have hcz20_1 : w5.cell? ⟨gb289,1,none⟩ = some (.int .i64 a0_1):=(blk_cell BK289.out 1).trans rfl
     have hcz20_2 : w5.cell? ⟨gb289,2,none⟩ = some (.int .i64 a0_2):=(blk_cell BK289.out 2).trans rfl
     have hcz20_3 : w5.cell? ⟨gb289,3,none⟩ = some (.int .i64 a0_3):=(blk_cell BK289.out 3).trans rfl
     have hcz20_4 : w5.cell? ⟨gb289,4,none⟩ = some (.int .i64 a0_4):=(blk_cell BK289.out 4).trans rfl
     have hcz20_5 : w5.cell? ⟨gb289,5,none⟩ = some (.int .i64 a0_5):=(blk_cell BK289.out 5).trans rfl
     have hcz20_6 : w5.cell? ⟨gb289,6,none⟩ = some (.int .i64 a0_6):=(blk_cell BK289.out 6).trans rfl
     have hcz20_7 : w5.cell? ⟨gb289,7,none⟩ = some (.int .i64 a0_7):=(blk_cell BK289.out 7).trans rfl
     have hcz20_8 : w5.cell? ⟨gb289,8,none⟩ = some (.int .i64 a0_8):=(blk_cell BK289.out 8).trans rfl
     have hcz20_9 : w5.cell? ⟨gb289,9,none⟩ = some (.slice A0_9 l0_9.length c0_9):=(blk_cell BK289.out 9).trans rfl
     have hcz20_10 : w5.cell? ⟨gb289,10,none⟩ = some (.slice A0_10 l0_10.length c0_10):=(blk_cell BK289.out 10).trans rfl
     have hfz20_0:=blk_frozen BK289.out 0
     have hfz20_1:=blk_frozen BK289.out 1
     have hfz20_2:=blk_frozen BK289.out 2
     have hfz20_3:=blk_frozen BK289.out 3
     have hfz20_4:=blk_frozen BK289.out 4
     have hfz20_5:=blk_frozen BK289.out 5
     have hfz20_6:=blk_frozen BK289.out 6
     have hfz20_7:=blk_frozen BK289.out 7
     have hfz20_8:=blk_frozen BK289.out 8
     have hfz20_9:=blk_frozen BK289.out 9
     have hfz20_10:=blk_frozen BK289.out 10
     have hcz21_0 : w5.cell? ⟨gb290,0,none⟩ = some (.int .i64 a1_0):=(blk_cell BK290.out 0).trans rfl
     have hcz21_1 : w5.cell? ⟨gb290,1,none⟩ = some (.int .i64 a1_1):=(blk_cell BK290.out 1).trans rfl
     have hcz21_2 : w5.cell? ⟨gb290,2,none⟩ = some (.int .i64 a1_2):=(blk_cell BK290.out 2).trans rfl
     have hcz21_3 : w5.cell? ⟨gb290,3,none⟩ = some (.int .i64 a1_3):=(blk_cell BK290.out 3).trans rfl
     have hcz21_4 : w5.cell? ⟨gb290,4,none⟩ = some (.int .i64 a1_4):=(blk_cell BK290.out 4).trans rfl
     have hcz21_5 : w5.cell? ⟨gb290,5,none⟩ = some (.int .i64 a1_5):=(blk_cell BK290.out 5).trans rfl
     have hcz21_6 : w5.cell? ⟨gb290,6,none⟩ = some (.int .i64 a1_6):=(blk_cell BK290.out 6).trans rfl
     have hcz21_7 : w5.cell? ⟨gb290,7,none⟩ = some (.int .i64 a1_7):=(blk_cell BK290.out 7).trans rfl
     have hcz21_8 : w5.cell? ⟨gb290,8,none⟩ = some (.int .i64 a1_8):=(blk_cell BK290.out 8).trans rfl
     have hcz21_9 : w5.cell? ⟨gb290,9,none⟩ = some (.slice A1_9 l1_9.length c1_9):=(blk_cell BK290.out 9).trans rfl
     have hcz21_10 : w5.cell? ⟨gb290,10,none⟩ = some (.slice A1_10 l1_10.length c1_10):=(blk_cell BK290.out 10).trans rfl
     have hfz21_0:=blk_frozen BK290.out 0
     have hfz21_1:=blk_frozen BK290.out 1
     have hfz21_2:=blk_frozen BK290.out 2
     have hfz21_3:=blk_frozen BK290.out 3
     have hfz21_4:=blk_frozen BK290.out 4
     have hfz21_5:=blk_frozen BK290.out 5
     have hfz21_6:=blk_frozen BK290.out 6
     have hfz21_7:=blk_frozen BK290.out 7
     have hfz21_8:=blk_frozen BK290.out 8
     have hfz21_9:=blk_frozen BK290.out 9
     have hfz21_10:=blk_frozen BK290.out 10
     go_wp2
     repeat (go_quiet (fail);try go_wp2)
     go_meet
     case rel=>exact ⟨_,(true),(by first|rfl|(simp;done)|(simp [*];done)),H',⟨by first|omega|exact Nat.le_refl _⟩,⟨by (with_reducible repeat(first|refine blk_drewN ?_ _|refine blk_drew ?_|refine blk_alloc ?_ _));exact BK289.out⟩,⟨by (with_reducible repeat(first|refine blk_drewN ?_ _|refine blk_drew ?_|refine blk_alloc ?_ _));exact BK290.out⟩,⟨by repeat(first|(with_reducible first|exact HB.out|apply below_alloc|apply pw_below_drewN|apply below_drew1|refine below_set ?_ GE289.out|refine below_set ?_ GE290.out)|exact HB.out)⟩⟩
   ·rw [if_neg c10] at H
    have c10b0 : (a0_7 == a1_7) = false:=beq_eq_false_iff_ne.mpr c10
    have c10b1 : (a0_7 != a1_7) = true:=bne_iff_ne.mpr c10
    have H':=Aside0.mk H
    clear H
    have hnb22:=NB289_290.out
    have hnc22:=NB290_289.out
    have hcz23_0 : w5.cell? ⟨gb289,0,none⟩ = some (.int .i64 a0_0):=(blk_cell BK289.out 0).trans rfl
    have hcz23_1 : w5.cell? ⟨gb289,1,none⟩ = some (.int .i64 a0_1):=(blk_cell BK289.out 1).trans rfl
    have hcz23_2 : w5.cell? ⟨gb289,2,none⟩ = some (.int .i64 a0_2):=(blk_cell BK289.out 2).trans rfl
    have hcz23_3 : w5.cell? ⟨gb289,3,none⟩ = some (.int .i64 a0_3):=(blk_cell BK289.out 3).trans rfl
    have hcz23_4 : w5.cell? ⟨gb289,4,none⟩ = some (.int .i64 a0_4):=(blk_cell BK289.out 4).trans rfl
    have hcz23_5 : w5.cell? ⟨gb289,5,none⟩ = some (.int .i64 a0_5):=(blk_cell BK289.out 5).trans rfl
    have hcz23_6 : w5.cell? ⟨gb289,6,none⟩ = some (.int .i64 a0_6):=(blk_cell BK289.out 6).trans rfl
    have hcz23_7 : w5.cell? ⟨gb289,7,none⟩ = some (.int .i64 a0_7):=(blk_cell BK289.out 7).trans rfl
    have hcz23_8 : w5.cell? ⟨gb289,8,none⟩ = some (.int .i64 a0_8):=(blk_cell BK289.out 8).trans rfl
    have hcz23_9 : w5.cell? ⟨gb289,9,none⟩ = some (.slice A0_9 l0_9.length c0_9):=(blk_cell BK289.out 9).trans rfl
    have hcz23_10 : w5.cell? ⟨gb289,10,none⟩ = some (.slice A0_10 l0_10.length c0_10):=(blk_cell BK289.out 10).trans rfl
    have hfz23_0:=blk_frozen BK289.out 0
    have hfz23_1:=blk_frozen BK289.out 1
    have hfz23_2:=blk_frozen BK289.out 2
    have hfz23_3:=blk_frozen BK289.out 3
    have hfz23_4:=blk_frozen BK289.out 4
    have hfz23_5:=blk_frozen BK289.out 5
    have hfz23_6:=blk_frozen BK289.out 6
    have hfz23_7:=blk_frozen BK289.out 7
    have hfz23_8:=blk_frozen BK289.out 8
    have hfz23_9:=blk_frozen BK289.out 9
    have hfz23_10:=blk_frozen BK289.out 10
    have hcz24_0 : w5.cell? ⟨gb290,0,none⟩ = some (.int .i64 a1_0):=(blk_cell BK290.out 0).trans rfl
    have hcz24_1 : w5.cell? ⟨gb290,1,none⟩ = some (.int .i64 a1_1):=(blk_cell BK290.out 1).trans rfl
    have hcz24_2 : w5.cell? ⟨gb290,2,none⟩ = some (.int .i64 a1_2):=(blk_cell BK290.out 2).trans rfl
    have hcz24_3 : w5.cell? ⟨gb290,3,none⟩ = some (.int .i64 a1_3):=(blk_cell BK290.out 3).trans rfl
    have hcz24_4 : w5.cell? ⟨gb290,4,none⟩ = some (.int .i64 a1_4):=(blk_cell BK290.out 4).trans rfl
    have hcz24_5 : w5.cell? ⟨gb290,5,none⟩ = some (.int .i64 a1_5):=(blk_cell BK290.out 5).trans rfl
    have hcz24_6 : w5.cell? ⟨gb290,6,none⟩ = some (.int .i64 a1_6):=(blk_cell BK290.out 6).trans rfl
    have hcz24_7 : w5.cell? ⟨gb290,7,none⟩ = some (.int .i64 a1_7):=(blk_cell BK290.out 7).trans rfl
    have hcz24_8 : w5.cell? ⟨gb290,8,none⟩ = some (.int .i64 a1_8):=(blk_cell BK290.out 8).trans rfl
    have hcz24_9 : w5.cell? ⟨gb290,9,none⟩ = some (.slice A1_9 l1_9.length c1_9):=(blk_cell BK290.out 9).trans rfl
    have hcz24_10 : w5.cell? ⟨gb290,10,none⟩ = some (.slice A1_10 l1_10.length c1_10):=(blk_cell BK290.out 10).trans rfl
    have hfz24_0:=blk_frozen BK290.out 0
    have hfz24_1:=blk_frozen BK290.out 1
    have hfz24_2:=blk_frozen BK290.out 2
    have hfz24_3:=blk_frozen BK290.out 3
    have hfz24_4:=blk_frozen BK290.out 4
    have hfz24_5:=blk_frozen BK290.out 5
    have hfz24_6:=blk_frozen BK290.out 6
    have hfz24_7:=blk_frozen BK290.out 7
    have hfz24_8:=blk_frozen BK290.out 8
    have hfz24_9:=blk_frozen BK290.out 9
    have hfz24_10:=blk_frozen BK290.out 10
    go_wp2
    repeat (go_quiet (fail);try go_wp2)
    go_meet
    case rel=>exact ⟨_,(true),(by first|rfl|(simp;done)|(simp [*];done)),H',⟨by first|omega|exact Nat.le_refl _⟩,⟨by (with_reducible repeat(first|refine blk_drewN ?_ _|refine blk_drew ?_|refine blk_alloc ?_ _));exact BK289.out⟩,⟨by (with_reducible repeat(first|refine blk_drewN ?_ _|refine blk_drew ?_|refine blk_alloc ?_ _));exact BK290.out⟩,⟨by repeat(first|(with_reducible first|exact HB.out|apply below_alloc|apply pw_below_drewN|apply below_drew1|refine below_set ?_ GE289.out|refine below_set ?_ GE290.out)|exact HB.out)⟩⟩
 case rest =>
  clear HC3
  try clear c1
  try clear c2
  try clear p2
  try clear c6
  try clear c6b0
  try clear c7
  try clear c10
  try clear c10b0
  try clear c10b1
  try clear c11
  try clear c11b0
  try clear c11b1
  try clear c12
  try clear c12b0
  try clear c12b1
  try clear c12b2
  try clear c13
  try clear c16
  try clear c19
  try clear c22
  try clear hcz14_0
  try clear hcz14_1
  try clear hcz14_10
  try clear hcz14_2
  try clear hcz14_3
  try clear hcz14_4
  try clear hcz14_5
  try clear hcz14_6
  try clear hcz14_7
  try clear hcz14_8
  try clear hcz14_9
  try clear hcz15_0
  try clear hcz15_1
  try clear hcz15_10
  try clear hcz15_2
  try clear hcz15_3
  try clear hcz15_4
  try clear hcz15_5
  try clear hcz15_6
  try clear hcz15_7
  try clear hcz15_8
  try clear hcz15_9
  try clear hcz17_0
  try clear hcz17_1
  try clear hcz17_10
  try clear hcz17_2
  try clear hcz17_3
  try clear hcz17_4
  try clear hcz17_5
  try clear hcz17_6
  try clear hcz17_7
  try clear hcz17_8
  try clear hcz17_9
  try clear hcz18_0
  try clear hcz18_1
  try clear hcz18_10
  try clear hcz18_2
  try clear hcz18_3
  try clear hcz18_4
  try clear hcz18_5
  try clear hcz18_6
  try clear hcz18_7
  try clear hcz18_8
  try clear hcz18_9
  try clear hcz20_0
  try clear hcz20_1
  try clear hcz20_10
  try clear hcz20_2
  try clear hcz20_3
  try clear hcz20_4
  try clear hcz20_5
  try clear hcz20_6
  try clear hcz20_7
  try clear hcz20_8
  try clear hcz20_9
  try clear hcz21_0
  try clear hcz21_1
  try clear hcz21_10
  try clear hcz21_2
  try clear hcz21_3
  try clear hcz21_4
  try clear hcz21_5
  try clear hcz21_6
  try clear hcz21_7
  try clear hcz21_8
  try clear hcz21_9
  try clear hcz23_0
  try clear hcz23_1
  try clear hcz23_10
  try clear hcz23_2
  try clear hcz23_3
  try clear hcz23_4
  try clear hcz23_5
  try clear hcz23_6
  try clear hcz23_7
  try clear hcz23_8
  try clear hcz23_9
  try clear hcz24_0
  try clear hcz24_1
  try clear hcz24_10
  try clear hcz24_2
  try clear hcz24_3
  try clear hcz24_4
  try clear hcz24_5
  try clear hcz24_6
  try clear hcz24_7
  try clear hcz24_8
  try clear hcz24_9
  try clear hcz8_0
  try clear hcz8_1
  try clear hcz8_10
  try clear hcz8_2
  try clear hcz8_3
  try clear hcz8_4
  try clear hcz8_5
  try clear hcz8_6
  try clear hcz8_7
  try clear hcz8_8
  try clear hcz8_9
  try clear hcz9_0
  try clear hcz9_1
  try clear hcz9_10
  try clear hcz9_2
  try clear hcz9_3
  try clear hcz9_4
  try clear hcz9_5
  try clear hcz9_6
  try clear hcz9_7
  try clear hcz9_8
  try clear hcz9_9
  try clear hfz14_0
  try clear hfz14_1
  try clear hfz14_10
  try clear hfz14_2
  try clear hfz14_3
  try clear hfz14_4
  try clear hfz14_5
  try clear hfz14_6
  try clear hfz14_7
  try clear hfz14_8
  try clear hfz14_9
  try clear hfz15_0
  try clear hfz15_1
  try clear hfz15_10
  try clear hfz15_2
  try clear hfz15_3
  try clear hfz15_4
  try clear hfz15_5
  try clear hfz15_6
  try clear hfz15_7
  try clear hfz15_8
  try clear hfz15_9
  try clear hfz17_0
  try clear hfz17_1
  try clear hfz17_10
  try clear hfz17_2
  try clear hfz17_3
  try clear hfz17_4
  try clear hfz17_5
  try clear hfz17_6
  try clear hfz17_7
  try clear hfz17_8
  try clear hfz17_9
  try clear hfz18_0
  try clear hfz18_1
  try clear hfz18_10
  try clear hfz18_2
  try clear hfz18_3
  try clear hfz18_4
  try clear hfz18_5
  try clear hfz18_6
  try clear hfz18_7
  try clear hfz18_8
  try clear hfz18_9
  try clear hfz20_0
  try clear hfz20_1
  try clear hfz20_10
  try clear hfz20_2
  try clear hfz20_3
  try clear hfz20_4
  try clear hfz20_5
  try clear hfz20_6
  try clear hfz20_7
  try clear hfz20_8
  try clear hfz20_9
  try clear hfz21_0
  try clear hfz21_1
  try clear hfz21_10
  try clear hfz21_2
  try clear hfz21_3
  try clear hfz21_4
  try clear hfz21_5
  try clear hfz21_6
  try clear hfz21_7
  try clear hfz21_8
  try clear hfz21_9
  try clear hfz23_0
  try clear hfz23_1
  try clear hfz23_10
  try clear hfz23_2
  try clear hfz23_3
  try clear hfz23_4
  try clear hfz23_5
  try clear hfz23_6
  try clear hfz23_7
  try clear hfz23_8
  try clear hfz23_9
  try clear hfz24_0
  try clear hfz24_1
  try clear hfz24_10
  try clear hfz24_2
  try clear hfz24_3
  try clear hfz24_4
  try clear hfz24_5
  try clear hfz24_6
  try clear hfz24_7
  try clear hfz24_8
  try clear hfz24_9
  try clear hfz8_0
  try clear hfz8_1
  try clear hfz8_10
  try clear hfz8_2
  try clear hfz8_3
  try clear hfz8_4
  try clear hfz8_5
  try clear hfz8_6
  try clear hfz8_7
  try clear hfz8_8
  try clear hfz8_9
  try clear hfz9_0
  try clear hfz9_1
  try clear hfz9_10
  try clear hfz9_2
  try clear hfz9_3
  try clear hfz9_4
  try clear hfz9_5
  try clear hfz9_6
  try clear hfz9_7
  try clear hfz9_8
  try clear hfz9_9
  obtain ⟨kq,x43_2,rfl,HA,HJ2,BK289,BK290,HB⟩:=hcut
  cases kq with
  | zero=>exact absurd HA.out (by simp [hornbeamref09_Same.j0])
  | succ kj2 =>
   have H:=HA.out
   clear HA
   simp only [hornbeamref09_Same.j0] at H
   by_cases c25 : x43_2 = true
   ·subst c25
    have H1 : (some false) = some r:=by rw [if_pos rfl] at H;exact H
    clear H
    have H:=H1
    clear H1
    obtain rfl:=Option.some.inj H
    go_wp2
    repeat (go_quiet (fail);try go_wp2)
    go_ret
    exact ⟨by first|rfl|(simp [errW_none,errW_some] <;> rfl)|(simp [*,errW_none,errW_some] <;> rfl),by repeat(first|(with_reducible first|exact HB.out|apply below_alloc|apply pw_below_drewN|apply below_drew1|refine below_set ?_ GE289.out|refine below_set ?_ GE290.out)|exact HB.out)⟩
   ·replace c25:=Bool.eq_false_iff.mpr c25
    subst c25
    have H1 : (hornbeamref09_Same.l0 kj2 0 a0_0 a0_1 a0_2 a0_3 a0_4 a0_5 a0_6 a0_7 a0_8 l0_9 l0_10 a1_0 a1_1 a1_2 a1_3 a1_4 a1_5 a1_6 a1_7 a1_8 l1_9 l1_10) = some r:=by rw [if_neg (show ¬ (false = true) by decide)] at H;exact H
    clear H
    have H:=H1
    clear H1
    have H':=Aside0.mk H
    clear H
    go_wp2
    repeat (go_quiet (fail);try go_wp2)
    go_loopg [5] kj2 (fun kq v5 w'=>∃ (x5_2 : Int),v5 = .int .i64 x5_2 ∧ Aside0 (hornbeamref09_Same.l0 kq x5_2 a0_0 a0_1 a0_2 a0_3 a0_4 a0_5 a0_6 a0_7 a0_8 l0_9 l0_10 a1_0 a1_1 a1_2 a1_3 a1_4 a1_5 a1_6 a1_7 a1_8 l1_9 l1_10 = some r) ∧ Aside0 (kq ≤ kj2) ∧ Aside0 (w'.heap[gb289]? = some (.cells #[.int .i64 a0_0,.int .i64 a0_1,.int .i64 a0_2,.int .i64 a0_3,.int .i64 a0_4,.int .i64 a0_5,.int .i64 a0_6,.int .i64 a0_7,.int .i64 a0_8,(.slice A0_9 l0_9.length c0_9),(.slice A0_10 l0_10.length c0_10)] 27 (0,0))) ∧ Aside0 (w'.heap[gb290]? = some (.cells #[.int .i64 a1_0,.int .i64 a1_1,.int .i64 a1_2,.int .i64 a1_3,.int .i64 a1_4,.int .i64 a1_5,.int .i64 a1_6,.int .i64 a1_7,.int .i64 a1_8,(.slice A1_9 l1_9.length c1_9),(.slice A1_10 l1_10.length c1_10)] 27 (0,0))) ∧ Aside0 (Below w.heap.size w w'))
    case atStart=>exact ⟨(0),(by first|rfl|(simp;done)|(simp [*];done)),H',⟨Nat.le_refl _⟩,⟨by (with_reducible repeat(first|refine blk_drewN ?_ _|refine blk_drew ?_|refine blk_alloc ?_ _));exact BK289.out⟩,⟨by (with_reducible repeat(first|refine blk_drewN ?_ _|refine blk_drew ?_|refine blk_alloc ?_ _));exact BK290.out⟩,⟨by repeat(first|(with_reducible first|exact HB.out|apply below_alloc|apply pw_below_drewN|apply below_drew1|refine below_set ?_ GE289.out|refine below_set ?_ GE290.out)|exact HB.out)⟩⟩
    case round =>
     clear H'
     try clear c1
     try clear c2
     try clear p2
     try clear c6
     try clear c6b0
     try clear c7
     try clear c10
     try clear c10b0
     try clear c10b1
     try clear c11
     try clear c11b0
     try clear c11b1
     try clear c12
     try clear c12b0
     try clear c12b1
     try clear c12b2
     try clear c13
     try clear c16
     try clear c19
     try clear c22
     try clear c25
     try clear hcz14_0
     try clear hcz14_1
     try clear hcz14_10
     try clear hcz14_2
     try clear hcz14_3
     try clear hcz14_4
     try clear hcz14_5
     try clear hcz14_6
     try clear hcz14_7
     try clear hcz14_8
     try clear hcz14_9
     try clear hcz15_0
     try clear hcz15_1
     try clear hcz15_10
     try clear hcz15_2
     try clear hcz15_3
     try clear hcz15_4
     try clear hcz15_5
     try clear hcz15_6
     try clear hcz15_7
     try clear hcz15_8
     try clear hcz15_9
     try clear hcz17_0
     try clear hcz17_1
     try clear hcz17_10
     try clear hcz17_2
     try clear hcz17_3
     try clear hcz17_4
     try clear hcz17_5
     try clear hcz17_6
     try clear hcz17_7
     try clear hcz17_8
     try clear hcz17_9
     try clear hcz18_0
     try clear hcz18_1
     try clear hcz18_10
     try clear hcz18_2
     try clear hcz18_3
     try clear hcz18_4
     try clear hcz18_5
     try clear hcz18_6
     try clear hcz18_7
     try clear hcz18_8
     try clear hcz18_9
     try clear hcz20_0
     try clear hcz20_1
     try clear hcz20_10
     try clear hcz20_2
     try clear hcz20_3
     try clear hcz20_4
     try clear hcz20_5
     try clear hcz20_6
     try clear hcz20_7
     try clear hcz20_8
     try clear hcz20_9
     try clear hcz21_0
     try clear hcz21_1
     try clear hcz21_10
     try clear hcz21_2
     try clear hcz21_3
     try clear hcz21_4
     try clear hcz21_5
     try clear hcz21_6
     try clear hcz21_7
     try clear hcz21_8
     try clear hcz21_9
     try clear hcz23_0
     try clear hcz23_1
     try clear hcz23_10
     try clear hcz23_2
     try clear hcz23_3
     try clear hcz23_4
     try clear hcz23_5
     try clear hcz23_6
     try clear hcz23_7
     try clear hcz23_8
     try clear hcz23_9
     try clear hcz24_0
     try clear hcz24_1
     try clear hcz24_10
     try clear hcz24_2
     try clear hcz24_3
     try clear hcz24_4
     try clear hcz24_5
     try clear hcz24_6
     try clear hcz24_7
     try clear hcz24_8
     try clear hcz24_9
     try clear hcz8_0
     try clear hcz8_1
     try clear hcz8_10
     try clear hcz8_2
     try clear hcz8_3
     try clear hcz8_4
     try clear hcz8_5
     try clear hcz8_6
     try clear hcz8_7
     try clear hcz8_8
     try clear hcz8_9
     try clear hcz9_0
     try clear hcz9_1
     try clear hcz9_10
     try clear hcz9_2
     try clear hcz9_3
     try clear hcz9_4
     try clear hcz9_5
     try clear hcz9_6
     try clear hcz9_7
     try clear hcz9_8
     try clear hcz9_9
     try clear hfz14_0
     try clear hfz14_1
     try clear hfz14_10
     try clear hfz14_2
     try clear hfz14_3
     try clear hfz14_4
     try clear hfz14_5
     try clear hfz14_6
     try clear hfz14_7
     try clear hfz14_8
     try clear hfz14_9
     try clear hfz15_0
     try clear hfz15_1
     try clear hfz15_10
     try clear hfz15_2
     try clear hfz15_3
     try clear hfz15_4
     try clear hfz15_5
     try clear hfz15_6
     try clear hfz15_7
     try clear hfz15_8
     try clear hfz15_9
     try clear hfz17_0
     try clear hfz17_1
     try clear hfz17_10
     try clear hfz17_2
     try clear hfz17_3
     try clear hfz17_4
     try clear hfz17_5
     try clear hfz17_6
     try clear hfz17_7
     try clear hfz17_8
     try clear hfz17_9
     try clear hfz18_0
     try clear hfz18_1
     try clear hfz18_10
     try clear hfz18_2
     try clear hfz18_3
     try clear hfz18_4
     try clear hfz18_5
     try clear hfz18_6
     try clear hfz18_7
     try clear hfz18_8
     try clear hfz18_9
     try clear hfz20_0
     try clear hfz20_1
     try clear hfz20_10
     try clear hfz20_2
     try clear hfz20_3
     try clear hfz20_4
     try clear hfz20_5
     try clear hfz20_6
     try clear hfz20_7
     try clear hfz20_8
     try clear hfz20_9
     try clear hfz21_0
     try clear hfz21_1
     try clear hfz21_10
     try clear hfz21_2
     try clear hfz21_3
     try clear hfz21_4
     try clear hfz21_5
     try clear hfz21_6
     try clear hfz21_7
     try clear hfz21_8
     try clear hfz21_9
     try clear hfz23_0
     try clear hfz23_1
     try clear hfz23_10
     try clear hfz23_2
     try clear hfz23_3
     try clear hfz23_4
     try clear hfz23_5
     try clear hfz23_6
     try clear hfz23_7
     try clear hfz23_8
     try clear hfz23_9
     try clear hfz24_0
     try clear hfz24_1
     try clear hfz24_10
     try clear hfz24_2
     try clear hfz24_3
     try clear hfz24_4
     try clear hfz24_5
     try clear hfz24_6
     try clear hfz24_7
     try clear hfz24_8
     try clear hfz24_9
     try clear hfz8_0
     try clear hfz8_1
     try clear hfz8_10
     try clear hfz8_2
     try clear hfz8_3
     try clear hfz8_4
     try clear hfz8_5
     try clear hfz8_6
     try clear hfz8_7
     try clear hfz8_8
     try clear hfz8_9
     try clear hfz9_0
     try clear hfz9_1
     try clear hfz9_10
     try clear hfz9_2
     try clear hfz9_3
     try clear hfz9_4
     try clear hfz9_5
     try clear hfz9_6
     try clear hfz9_7
     try clear hfz9_8
     try clear hfz9_9
     try clear p2
     obtain ⟨x5_2,rfl,HA,HK2,BK289,BK290,HB⟩:=hrel
     cases gk with
     | zero=>exact absurd HA.out (by simp [hornbeamref09_Same.l0])
     | succ k2 =>
      have H:=HA.out
      clear HA
      simp only [hornbeamref09_Same.l0] at H
      by_cases c26 : x5_2 < (l0_9.length : Int)
      ·rw [if_pos c26] at H
       have c26b0 : decide (x5_2 < (l0_9.length : Int)) = true:=decide_eq_true c26
       clear c26
       by_cases c27 : 0 ≤ x5_2
       ·rw [if_pos c27] at H
        have c27b0 : decide (0 ≤ x5_2) = true:=decide_eq_true c27
        clear c27
        by_cases c28 : x5_2 < (l1_9.length : Int)
        ·rw [if_pos c28] at H
         have c28b0 : decide (x5_2 < (l1_9.length : Int)) = true:=decide_eq_true c28
         clear c28
         by_cases c29 : (rd l0_9 x5_2) = (rd l1_9 x5_2)
         ·rw [if_pos c29] at H
          have c29b0 : ((rd l0_9 x5_2) == (rd l1_9 x5_2)) = true:=beq_iff_eq.mpr c29
          have c29b1 : ((rd l0_9 x5_2) != (rd l1_9 x5_2)) = false:=bne_eq_false_iff_eq.mpr c29
          clear c29
          have H':=Aside0.mk H
          clear H
          have hnb30:=NB289_290.out
          have hnc30:=NB290_289.out
          have hcz31_0 : wr.cell? ⟨gb289,0,none⟩ = some (.int .i64 a0_0):=(blk_cell BK289.out 0).trans rfl
          have hcz31_1 : wr.cell? ⟨gb289,1,none⟩ = some (.int .i64 a0_1):=(blk_cell BK289.out 1).trans rfl
          have hcz31_2 : wr.cell? ⟨gb289,2,none⟩ = some (.int .i64 a0_2):=(blk_cell BK289.out 2).trans rfl
          have hcz31_3 : wr.cell? ⟨gb289,3,none⟩ = some (.int .i64 a0_3):=(blk_cell BK289.out 3).trans rfl
          have hcz31_4 : wr.cell? ⟨gb289,4,none⟩ = some (.int .i64 a0_4):=(blk_cell BK289.out 4).trans rfl
          have hcz31_5 : wr.cell? ⟨gb289,5,none⟩ = some (.int .i64 a0_5):=(blk_cell BK289.out 5).trans rfl
          have hcz31_6 : wr.cell? ⟨gb289,6,none⟩ = some (.int .i64 a0_6):=(blk_cell BK289.out 6).trans rfl
          have hcz31_7 : wr.cell? ⟨gb289,7,none⟩ = some (.int .i64 a0_7):=(blk_cell BK289.out 7).trans rfl
          have hcz31_8 : wr.cell? ⟨gb289,8,none⟩ = some (.int .i64 a0_8):=(blk_cell BK289.out 8).trans rfl
          have hcz31_9 : wr.cell? ⟨gb289,9,none⟩ = some (.slice A0_9 l0_9.length c0_9):=(blk_cell BK289.out 9).trans rfl
          have hcz31_10 : wr.cell? ⟨gb289,10,none⟩ = some (.slice A0_10 l0_10.length c0_10):=(blk_cell BK289.out 10).trans rfl
          have hfz31_0:=blk_frozen BK289.out 0
          have hfz31_1:=blk_frozen BK289.out 1
          have hfz31_2:=blk_frozen BK289.out 2
          have hfz31_3:=blk_frozen BK289.out 3
          have hfz31_4:=blk_frozen BK289.out 4
          have hfz31_5:=blk_frozen BK289.out 5
          have hfz31_6:=blk_frozen BK289.out 6
          have hfz31_7:=blk_frozen BK289.out 7
          have hfz31_8:=blk_frozen BK289.out 8
          have hfz31_9:=blk_frozen BK289.out 9
          have hfz31_10:=blk_frozen BK289.out 10
          have p291 : 0 ≤ (x5_2 : Int):=of_decide_eq_true (by first|(with_reducible assumption)|assumption)
          have q291 : x5_2 < (l0_9.length : Int):=of_decide_eq_true (by first|(with_reducible assumption)|assumption)
          obtain ⟨ad291,e291,hx291_0⟩:=Kd.at_int HR0_9.out x5_2 p291 q291
          cases e291
          replace hx291_0:=(HB.out.cell (World.block_lt_of_cell? w _ hx291_0)).trans hx291_0
          replace p291:=eq_true p291
          replace q291:=eq_true q291
          have hcz32_0 : wr.cell? ⟨gb290,0,none⟩ = some (.int .i64 a1_0):=(blk_cell BK290.out 0).trans rfl
          have hcz32_1 : wr.cell? ⟨gb290,1,none⟩ = some (.int .i64 a1_1):=(blk_cell BK290.out 1).trans rfl
          have hcz32_2 : wr.cell? ⟨gb290,2,none⟩ = some (.int .i64 a1_2):=(blk_cell BK290.out 2).trans rfl
          have hcz32_3 : wr.cell? ⟨gb290,3,none⟩ = some (.int .i64 a1_3):=(blk_cell BK290.out 3).trans rfl
          have hcz32_4 : wr.cell? ⟨gb290,4,none⟩ = some (.int .i64 a1_4):=(blk_cell BK290.out 4).trans rfl
          have hcz32_5 : wr.cell? ⟨gb290,5,none⟩ = some (.int .i64 a1_5):=(blk_cell BK290.out 5).trans rfl
          have hcz32_6 : wr.cell? ⟨gb290,6,none⟩ = some (.int .i64 a1_6):=(blk_cell BK290.out 6).trans rfl
          have hcz32_7 : wr.cell? ⟨gb290,7,none⟩ = some (.int .i64 a1_7):=(blk_cell BK290.out 7).trans rfl
          have hcz32_8 : wr.cell? ⟨gb290,8,none⟩ = some (.int .i64 a1_8):=(blk_cell BK290.out 8).trans rfl
          have hcz32_9 : wr.cell? ⟨gb290,9,none⟩ = some (.slice A1_9 l1_9.length c1_9):=(blk_cell BK290.out 9).trans rfl
          have hcz32_10 : wr.cell? ⟨gb290,10,none⟩ = some (.slice A1_10 l1_10.length c1_10):=(blk_cell BK290.out 10).trans rfl
          have hfz32_0:=blk_frozen BK290.out 0
          have hfz32_1:=blk_frozen BK290.out 1
          have hfz32_2:=blk_frozen BK290.out 2
          have hfz32_3:=blk_frozen BK290.out 3
          have hfz32_4:=blk_frozen BK290.out 4
          have hfz32_5:=blk_frozen BK290.out 5
          have hfz32_6:=blk_frozen BK290.out 6
          have hfz32_7:=blk_frozen BK290.out 7
          have hfz32_8:=blk_frozen BK290.out 8
          have hfz32_9:=blk_frozen BK290.out 9
          have hfz32_10:=blk_frozen BK290.out 10
          have p292 : 0 ≤ (x5_2 : Int):=of_decide_eq_true (by first|(with_reducible assumption)|assumption)
          have q292 : x5_2 < (l1_9.length : Int):=of_decide_eq_true (by first|(with_reducible assumption)|assumption)
          obtain ⟨ad292,e292,hx292_0⟩:=Kd.at_int HR1_9.out x5_2 p292 q292
          cases e292
          replace hx292_0:=(HB.out.cell (World.block_lt_of_cell? w _ hx292_0)).trans hx292_0
          replace p292:=eq_true p292
          replace q292:=eq_true q292
          go_wp2
          repeat (go_quiet (fail);try go_wp2)
          go_roundg k2
          case measure=>have:=HJ2.out;have:=HK2.out;omega
          case rel=>exact ⟨(wrap64 (x5_2 + 1)),(by first|rfl|(simp;done)|(simp [*];done)),H',⟨by have:=HJ2.out;have:=HK2.out;omega⟩,⟨by (with_reducible repeat(first|refine blk_drewN ?_ _|refine blk_drew ?_|refine blk_alloc ?_ _));exact BK289.out⟩,⟨by (with_reducible repeat(first|refine blk_drewN ?_ _|refine blk_drew ?_|refine blk_alloc ?_ _));exact BK290.out⟩,⟨by repeat(first|(with_reducible first|exact HB.out|apply below_alloc|apply pw_below_drewN|apply below_drew1|refine below_set ?_ GE289.out|refine below_set ?_ GE290.out)|exact HB.out)⟩⟩
         ·rw [if_neg c29] at H
          have c29b0 : ((rd l0_9 x5_2) == (rd l1_9 x5_2)) = false:=beq_eq_false_iff_ne.mpr c29
          have c29b1 : ((rd l0_9 x5_2) != (rd l1_9 x5_2)) = true:=bne_iff_ne.mpr c29
          obtain rfl:=Option.some.inj H
          have hnb33:=NB289_290.out
          have hnc33:=NB290_289.out
          have hcz34_0 : wr.cell? ⟨gb289,0,none⟩ = some (.int .i64 a0_0):=(blk_cell BK289.out 0).trans rfl
          have hcz34_1 : wr.cell? ⟨gb289,1,none⟩ = some (.int .i64 a0_1):=(blk_cell BK289.out 1).trans rfl
          have hcz34_2 : wr.cell? ⟨gb289,2,none⟩ = some (.int .i64 a0_2):=(blk_cell BK289.out 2).trans rfl
          have hcz34_3 : wr.cell? ⟨gb289,3,none⟩ = some (.int .i64 a0_3):=(blk_cell BK289.out 3).trans rfl
          have hcz34_4 : wr.cell? ⟨gb289,4,none⟩ = some (.int .i64 a0_4):=(blk_cell BK289.out 4).trans rfl
          have hcz34_5 : wr.cell? ⟨gb289,5,none⟩ = some (.int .i64 a0_5):=(blk_cell BK289.out 5).trans rfl
          have hcz34_6 : wr.cell? ⟨gb289,6,none⟩ = some (.int .i64 a0_6):=(blk_cell BK289.out 6).trans rfl
          have hcz34_7 : wr.cell? ⟨gb289,7,none⟩ = some (.int .i64 a0_7):=(blk_cell BK289.out 7).trans rfl
          have hcz34_8 : wr.cell? ⟨gb289,8,none⟩ = some (.int .i64 a0_8):=(blk_cell BK289.out 8).trans rfl
          have hcz34_9 : wr.cell? ⟨gb289,9,none⟩ = some (.slice A0_9 l0_9.length c0_9):=(blk_cell BK289.out 9).trans rfl
          have hcz34_10 : wr.cell? ⟨gb289,10,none⟩ = some (.slice A0_10 l0_10.length c0_10):=(blk_cell BK289.out 10).trans rfl
          have hfz34_0:=blk_frozen BK289.out 0
          have hfz34_1:=blk_frozen BK289.out 1
          have hfz34_2:=blk_frozen BK289.out 2
          have hfz34_3:=blk_frozen BK289.out 3
          have hfz34_4:=blk_frozen BK289.out 4
          have hfz34_5:=blk_frozen BK289.out 5
          have hfz34_6:=blk_frozen BK289.out 6
          have hfz34_7:=blk_frozen BK289.out 7
          have hfz34_8:=blk_frozen BK289.out 8
          have hfz34_9:=blk_frozen BK289.out 9
          have hfz34_10:=blk_frozen BK289.out 10
          have p291 : 0 ≤ (x5_2 : Int):=of_decide_eq_true (by first|(with_reducible assumption)|assumption)
          have q291 : x5_2 < (l0_9.length : Int):=of_decide_eq_true (by first|(with_reducible assumption)|assumption)
          obtain ⟨ad291,e291,hx291_0⟩:=Kd.at_int HR0_9.out x5_2 p291 q291
          cases e291
          replace hx291_0:=(HB.out.cell (World.block_lt_of_cell? w _ hx291_0)).trans hx291_0
          replace p291:=eq_true p291
          replace q291:=eq_true q291
          have hcz35_0 : wr.cell? ⟨gb290,0,none⟩ = some (.int .i64 a1_0):=(blk_cell BK290.out 0).trans rfl
          have hcz35_1 : wr.cell? ⟨gb290,1,none⟩ = some (.int .i64 a1_1):=(blk_cell BK290.out 1).trans rfl
          have hcz35_2 : wr.cell? ⟨gb290,2,none⟩ = some (.int .i64 a1_2):=(blk_cell BK290.out 2).trans rfl
          have hcz35_3 : wr.cell? ⟨gb290,3,none⟩ = some (.int .i64 a1_3):=(blk_cell BK290.out 3).trans rfl
          have hcz35_4 : wr.cell? ⟨gb290,4,none⟩ = some (.int .i64 a1_4):=(blk_cell BK290.out 4).trans rfl
          have hcz35_5 : wr.cell? ⟨gb290,5,none⟩ = some (.int .i64 a1_5):=(blk_cell BK290.out 5).trans rfl
          have hcz35_6 : wr.cell? ⟨gb290,6,none⟩ = some (.int .i64 a1_6):=(blk_cell BK290.out 6).trans rfl
          have hcz35_7 : wr.cell? ⟨gb290,7,none⟩ = some (.int .i64 a1_7):=(blk_cell BK290.out 7).trans rfl
          have hcz35_8 : wr.cell? ⟨gb290,8,none⟩ = some (.int .i64 a1_8):=(blk_cell BK290.out 8).trans rfl
          have hcz35_9 : wr.cell? ⟨gb290,9,none⟩ = some (.slice A1_9 l1_9.length c1_9):=(blk_cell BK290.out 9).trans rfl
          have hcz35_10 : wr.cell? ⟨gb290,10,none⟩ = some (.slice A1_10 l1_10.length c1_10):=(blk_cell BK290.out 10).trans rfl
          have hfz35_0:=blk_frozen BK290.out 0
          have hfz35_1:=blk_frozen BK290.out 1
          have hfz35_2:=blk_frozen BK290.out 2
          have hfz35_3:=blk_frozen BK290.out 3
          have hfz35_4:=blk_frozen BK290.out 4
          have hfz35_5:=blk_frozen BK290.out 5
          have hfz35_6:=blk_frozen BK290.out 6
          have hfz35_7:=blk_frozen BK290.out 7
          have hfz35_8:=blk_frozen BK290.out 8
          have hfz35_9:=blk_frozen BK290.out 9
          have hfz35_10:=blk_frozen BK290.out 10
          have p292 : 0 ≤ (x5_2 : Int):=of_decide_eq_true (by first|(with_reducible assumption)|assumption)
          have q292 : x5_2 < (l1_9.length : Int):=of_decide_eq_true (by first|(with_reducible assumption)|assumption)
          obtain ⟨ad292,e292,hx292_0⟩:=Kd.at_int HR1_9.out x5_2 p292 q292
          cases e292
          replace hx292_0:=(HB.out.cell (World.block_lt_of_cell? w _ hx292_0)).trans hx292_0
          replace p292:=eq_true p292
          replace q292:=eq_true q292
          go_wp2
          repeat (go_quiet (fail);try go_wp2)
          go_ret
          exact ⟨by first|rfl|(simp [errW_none,errW_some] <;> rfl)|(simp [*,errW_none,errW_some] <;> rfl),by repeat(first|(with_reducible first|exact HB.out|apply below_alloc|apply pw_below_drewN|apply below_drew1|refine below_set ?_ GE289.out|refine below_set ?_ GE290.out)|exact HB.out)⟩
        ·rw [if_neg c28] at H
         exact absurd H (by simp)
       ·rw [if_neg c27] at H
        exact absurd H (by simp)
      ·rw [if_neg c26] at H
       have c26b0 : decide (x5_2 < (l0_9.length : Int)) = false:=decide_eq_false c26
       clear c26
       have H':=Aside0.mk H
       clear H
       have hnb36:=NB289_290.out
       have hnc36:=NB290_289.out
       have hcz37_0 : wr.cell? ⟨gb289,0,none⟩ = some (.int .i64 a0_0):=(blk_cell BK289.out 0).trans rfl
       have hcz37_1 : wr.cell? ⟨gb289,1,none⟩ = some (.int .i64 a0_1):=(blk_cell BK289.out 1).trans rfl
       have hcz37_2 : wr.cell? ⟨gb289,2,none⟩ = some (.int .i64 a0_2):=(blk_cell BK289.out 2).trans rfl
       have hcz37_3 : wr.cell? ⟨gb289,3,none⟩ = some (.int .i64 a0_3):=(blk_cell BK289.out 3).trans rfl
       have hcz37_4 : wr.cell? ⟨gb289,4,none⟩ = some (.int .i64 a0_4):=(blk_cell BK289.out 4).trans rfl
       have hcz37_5 : wr.cell? ⟨gb289,5,none⟩ = some (.int .i64 a0_5):=(blk_cell BK289.out 5).trans rfl
       have hcz37_6 : wr.cell? ⟨gb289,6,none⟩ = some (.int .i64 a0_6):=(blk_cell BK289.out 6).trans rfl
       have hcz37_7 : wr.cell? ⟨gb289,7,none⟩ = some (.int .i64 a0_7):=(blk_cell BK289.out 7).trans rfl
       have hcz37_8 : wr.cell? ⟨gb289,8,none⟩ = some (.int .i64 a0_8):=(blk_cell BK289.out 8).trans rfl
       have hcz37_9 : wr.cell? ⟨gb289,9,none⟩ = some (.slice A0_9 l0_9.length c0_9):=(blk_cell BK289.out 9).trans rfl
       have hcz37_10 : wr.cell? ⟨gb289,10,none⟩ = some (.slice A0_10 l0_10.length c0_10):=(blk_cell BK289.out 10).trans rfl
       have hfz37_0:=blk_frozen BK289.out 0
       have hfz37_1:=blk_frozen BK289.out 1
       have hfz37_2:=blk_frozen BK289.out 2
       have hfz37_3:=blk_frozen BK289.out 3
       have hfz37_4:=blk_frozen BK289.out 4
       have hfz37_5:=blk_frozen BK289.out 5
       have hfz37_6:=blk_frozen BK289.out 6
       have hfz37_7:=blk_frozen BK289.out 7
       have hfz37_8:=blk_frozen BK289.out 8
       have hfz37_9:=blk_frozen BK289.out 9
       have hfz37_10:=blk_frozen BK289.out 10
       go_wp2
       repeat (go_quiet (fail);try go_wp2)
       go_loopg [6] k2 (fun kq v6 w'=>∃ (x6_3 : Int),v6 = .int .i64 x6_3 ∧ Aside0 (hornbeamref09_Same.l1 kq x6_3 a0_0 a0_1 a0_2 a0_3 a0_4 a0_5 a0_6 a0_7 a0_8 l0_9 l0_10 a1_0 a1_1 a1_2 a1_3 a1_4 a1_5 a1_6 a1_7 a1_8 l1_9 l1_10 = some r) ∧ Aside0 (kq ≤ k2) ∧ Aside0 (w'.heap[gb289]? = some (.cells #[.int .i64 a0_0,.int .i64 a0_1,.int .i64 a0_2,.int .i64 a0_3,.int .i64 a0_4,.int .i64 a0_5,.int .i64 a0_6,.int .i64 a0_7,.int .i64 a0_8,(.slice A0_9 l0_9.length c0_9),(.slice A0_10 l0_10.length c0_10)] 27 (0,0))) ∧ Aside0 (w'.heap[gb290]? = some (.cells #[.int .i64 a1_0,.int .i64 a1_1,.int .i64 a1_2,.int .i64 a1_3,.int .i64 a1_4,.int .i64 a1_5,.int .i64 a1_6,.int .i64 a1_7,.int .i64 a1_8,(.slice A1_9 l1_9.length c1_9),(.slice A1_10 l1_10.length c1_10)] 27 (0,0))) ∧ Aside0 (Below w.heap.size w w'))
       case atStart=>exact ⟨(0),(by first|rfl|(simp;done)|(simp [*];done)),H',⟨Nat.le_refl _⟩,⟨by (with_reducible repeat(first|refine blk_drewN ?_ _|refine blk_drew ?_|refine blk_alloc ?_ _));exact BK289.out⟩,⟨by (with_reducible repeat(first|refine blk_drewN ?_ _|refine blk_drew ?_|refine blk_alloc ?_ _));exact BK290.out⟩,⟨by repeat(first|(with_reducible first|exact HB.out|apply below_alloc|apply pw_below_drewN|apply below_drew1|refine below_set ?_ GE289.out|refine below_set ?_ GE290.out)|exact HB.out)⟩⟩
       case round =>
        clear H'
        try clear c1
        try clear c2
        try clear p2
        try clear q2
        try clear hx2
        try clear c3
        try clear c6
        try clear c6b0
        try clear p6
        try clear c7
        try clear c10
        try clear c10b0
        try clear c10b1
        try clear c11
        try clear c11b0
        try clear c11b1
        try clear c12
        try clear c12b0
        try clear c12b1
        try clear c12b2
        try clear c13
        try clear c16
        try clear c19
        try clear c22
        try clear c25
        try clear c26
        try clear c26b0
        try clear c27
        try clear c27b0
        try clear c28
        try clear c28b0
        try clear c29
        try clear c29b0
        try clear c29b1
        try clear p29
        try clear q29
        try clear hx29
        try clear c30
        try clear c33
        try clear c36
        try clear hcz14_0
        try clear hcz14_1
        try clear hcz14_10
        try clear hcz14_2
        try clear hcz14_3
        try clear hcz14_4
        try clear hcz14_5
        try clear hcz14_6
        try clear hcz14_7
        try clear hcz14_8
        try clear hcz14_9
        try clear hcz15_0
        try clear hcz15_1
        try clear hcz15_10
        try clear hcz15_2
        try clear hcz15_3
        try clear hcz15_4
        try clear hcz15_5
        try clear hcz15_6
        try clear hcz15_7
        try clear hcz15_8
        try clear hcz15_9
        try clear hcz17_0
        try clear hcz17_1
        try clear hcz17_10
        try clear hcz17_2
        try clear hcz17_3
        try clear hcz17_4
        try clear hcz17_5
        try clear hcz17_6
        try clear hcz17_7
        try clear hcz17_8
        try clear hcz17_9
        try clear hcz18_0
        try clear hcz18_1
        try clear hcz18_10
        try clear hcz18_2
        try clear hcz18_3
        try clear hcz18_4
        try clear hcz18_5
        try clear hcz18_6
        try clear hcz18_7
        try clear hcz18_8
        try clear hcz18_9
        try clear hcz20_0
        try clear hcz20_1
        try clear hcz20_10
        try clear hcz20_2
        try clear hcz20_3
        try clear hcz20_4
        try clear hcz20_5
        try clear hcz20_6
        try clear hcz20_7
        try clear hcz20_8
        try clear hcz20_9
        try clear hcz21_0
        try clear hcz21_1
        try clear hcz21_10
        try clear hcz21_2
        try clear hcz21_3
        try clear hcz21_4
        try clear hcz21_5
        try clear hcz21_6
        try clear hcz21_7
        try clear hcz21_8
        try clear hcz21_9
        try clear hcz23_0
        try clear hcz23_1
        try clear hcz23_10
        try clear hcz23_2
        try clear hcz23_3
        try clear hcz23_4
        try clear hcz23_5
        try clear hcz23_6
        try clear hcz23_7
        try clear hcz23_8
        try clear hcz23_9
        try clear hcz24_0
        try clear hcz24_1
        try clear hcz24_10
        try clear hcz24_2
        try clear hcz24_3
        try clear hcz24_4
        try clear hcz24_5
        try clear hcz24_6
        try clear hcz24_7
        try clear hcz24_8
        try clear hcz24_9
        try clear hcz31_0
        try clear hcz31_1
        try clear hcz31_10
        try clear hcz31_2
        try clear hcz31_3
        try clear hcz31_4
        try clear hcz31_5
        try clear hcz31_6
        try clear hcz31_7
        try clear hcz31_8
        try clear hcz31_9
        try clear hcz32_0
        try clear hcz32_1
        try clear hcz32_10
        try clear hcz32_2
        try clear hcz32_3
        try clear hcz32_4
        try clear hcz32_5
        try clear hcz32_6
        try clear hcz32_7
        try clear hcz32_8
        try clear hcz32_9
        try clear hcz34_0
        try clear hcz34_1
        try clear hcz34_10
        try clear hcz34_2
        try clear hcz34_3
        try clear hcz34_4
        try clear hcz34_5
        try clear hcz34_6
        try clear hcz34_7
        try clear hcz34_8
        try clear hcz34_9
        try clear hcz35_0
        try clear hcz35_1
        try clear hcz35_10
        try clear hcz35_2
        try clear hcz35_3
        try clear hcz35_4
        try clear hcz35_5
        try clear hcz35_6
        try clear hcz35_7
        try clear hcz35_8
        try clear hcz35_9
        try clear hcz37_0
        try clear hcz37_1
        try clear hcz37_10
        try clear hcz37_2
        try clear hcz37_3
        try clear hcz37_4
        try clear hcz37_5
        try clear hcz37_6
        try clear hcz37_7
        try clear hcz37_8
        try clear hcz37_9
        try clear hcz8_0
        try clear hcz8_1
        try clear hcz8_10
        try clear hcz8_2
        try clear hcz8_3
        try clear hcz8_4
        try clear hcz8_5
        try clear hcz8_6
        try clear hcz8_7
        try clear hcz8_8
        try clear hcz8_9
        try clear hcz9_0
        try clear hcz9_1
        try clear hcz9_10
        try clear hcz9_2
        try clear hcz9_3
        try clear hcz9_4
        try clear hcz9_5
        try clear hcz9_6
        try clear hcz9_7
        try clear hcz9_8
        try clear hcz9_9
        try clear hfz14_0
        try clear hfz14_1
        try clear hfz14_10
        try clear hfz14_2
        try clear hfz14_3
        try clear hfz14_4
        try clear hfz14_5
        try clear hfz14_6
        try clear hfz14_7
        try clear hfz14_8
        try clear hfz14_9
        try clear hfz15_0
        try clear hfz15_1
        try clear hfz15_10
        try clear hfz15_2
        try clear hfz15_3
        try clear hfz15_4
        try clear hfz15_5
        try clear hfz15_6
        try clear hfz15_7
        try clear hfz15_8
        try clear hfz15_9
        try clear hfz17_0
        try clear hfz17_1
        try clear hfz17_10
        try clear hfz17_2
        try clear hfz17_3
        try clear hfz17_4
        try clear hfz17_5
        try clear hfz17_6
        try clear hfz17_7
        try clear hfz17_8
        try clear hfz17_9
        try clear hfz18_0
        try clear hfz18_1
        try clear hfz18_10
        try clear hfz18_2
        try clear hfz18_3
        try clear hfz18_4
        try clear hfz18_5
        try clear hfz18_6
        try clear hfz18_7
        try clear hfz18_8
        try clear hfz18_9
        try clear hfz20_0
        try clear hfz20_1
        try clear hfz20_10
        try clear hfz20_2
        try clear hfz20_3
        try clear hfz20_4
        try clear hfz20_5
        try clear hfz20_6
        try clear hfz20_7
        try clear hfz20_8
        try clear hfz20_9
        try clear hfz21_0
        try clear hfz21_1
        try clear hfz21_10
        try clear hfz21_2
        try clear hfz21_3
        try clear hfz21_4
        try clear hfz21_5
        try clear hfz21_6
        try clear hfz21_7
        try clear hfz21_8
        try clear hfz21_9
        try clear hfz23_0
        try clear hfz23_1
        try clear hfz23_10
        try clear hfz23_2
        try clear hfz23_3
        try clear hfz23_4
        try clear hfz23_5
        try clear hfz23_6
        try clear hfz23_7
        try clear hfz23_8
        try clear hfz23_9
        try clear hfz24_0
        try clear hfz24_1
        try clear hfz24_10
        try clear hfz24_2
        try clear hfz24_3
        try clear hfz24_4
        try clear hfz24_5
        try clear hfz24_6
        try clear hfz24_7
        try clear hfz24_8
        try clear hfz24_9
        try clear hfz31_0
        try clear hfz31_1
        try clear hfz31_10
        try clear hfz31_2
        try clear hfz31_3
        try clear hfz31_4
        try clear hfz31_5
        try clear hfz31_6
        try clear hfz31_7
        try clear hfz31_8
        try clear hfz31_9
        try clear hfz32_0
        try clear hfz32_1
        try clear hfz32_10
        try clear hfz32_2
        try clear hfz32_3
        try clear hfz32_4
        try clear hfz32_5
        try clear hfz32_6
        try clear hfz32_7
        try clear hfz32_8
        try clear hfz32_9
        try clear hfz34_0
        try clear hfz34_1
        try clear hfz34_10
        try clear hfz34_2
        try clear hfz34_3
        try clear hfz34_4
        try clear hfz34_5
        try clear hfz34_6
        try clear hfz34_7
        try clear hfz34_8
        try clear hfz34_9
        try clear hfz35_0
        try clear hfz35_1
        try clear hfz35_10
        try clear hfz35_2
        try clear hfz35_3
        try clear hfz35_4
        try clear hfz35_5
        try clear hfz35_6
        try clear hfz35_7
        try clear hfz35_8
        try clear hfz35_9
        try clear hfz37_0
        try clear hfz37_1
        try clear hfz37_10
        try clear hfz37_2
        try clear hfz37_3
        try clear hfz37_4
        try clear hfz37_5
        try clear hfz37_6
        try clear hfz37_7
        try clear hfz37_8
        try clear hfz37_9
        try clear hfz8_0
        try clear hfz8_1
        try clear hfz8_10
        try clear hfz8_2
        try clear hfz8_3
        try clear hfz8_4
        try clear hfz8_5
        try clear hfz8_6
        try clear hfz8_7
        try clear hfz8_8
        try clear hfz8_9
        try clear hfz9_0
        try clear hfz9_1
        try clear hfz9_10
        try clear hfz9_2
        try clear hfz9_3
        try clear hfz9_4
        try clear hfz9_5
        try clear hfz9_6
        try clear hfz9_7
        try clear hfz9_8
        try clear hfz9_9
        try clear hx291_0
        try clear hx292_0
        try clear p2
        try clear p291
        try clear p292
        try clear q291
        try clear q292
        obtain ⟨x6_3,rfl,HA,HK3,BK289,BK290,HB⟩:=hrel
        cases gk with
        | zero=>exact absurd HA.out (by simp [hornbeamref09_Same.l1])
        | succ k3 =>
         have H:=HA.out
         clear HA
         simp only [hornbeamref09_Same.l1] at H
         by_cases c38 : x6_3 < (l0_10.length : Int)
         ·rw [if_pos c38] at H
          have c38b0 : decide (x6_3 < (l0_10.length : Int)) = true:=decide_eq_true c38
          clear c38
          by_cases c39 : 0 ≤ x6_3
          ·rw [if_pos c39] at H
           have c39b0 : decide (0 ≤ x6_3) = true:=decide_eq_true c39
           clear c39
           by_cases c40 : x6_3 < (l1_10.length : Int)
           ·rw [if_pos c40] at H
            have c40b0 : decide (x6_3 < (l1_10.length : Int)) = true:=decide_eq_true c40
            clear c40
            by_cases c41 : (rd l0_10 x6_3) = (rd l1_10 x6_3)
            ·rw [if_pos c41] at H
             have c41b0 : ((rd l0_10 x6_3) == (rd l1_10 x6_3)) = true:=beq_iff_eq.mpr c41
             have c41b1 : ((rd l0_10 x6_3) != (rd l1_10 x6_3)) = false:=bne_eq_false_iff_eq.mpr c41
             clear c41
             have H':=Aside0.mk H
             clear H
             have hnb42:=NB289_290.out
             have hnc42:=NB290_289.out
             have hcz43_0 : wr.cell? ⟨gb289,0,none⟩ = some (.int .i64 a0_0):=(blk_cell BK289.out 0).trans rfl
             have hcz43_1 : wr.cell? ⟨gb289,1,none⟩ = some (.int .i64 a0_1):=(blk_cell BK289.out 1).trans rfl
             have hcz43_2 : wr.cell? ⟨gb289,2,none⟩ = some (.int .i64 a0_2):=(blk_cell BK289.out 2).trans rfl
             have hcz43_3 : wr.cell? ⟨gb289,3,none⟩ = some (.int .i64 a0_3):=(blk_cell BK289.out 3).trans rfl
             have hcz43_4 : wr.cell? ⟨gb289,4,none⟩ = some (.int .i64 a0_4):=(blk_cell BK289.out 4).trans rfl
             have hcz43_5 : wr.cell? ⟨gb289,5,none⟩ = some (.int .i64 a0_5):=(blk_cell BK289.out 5).trans rfl
             have hcz43_6 : wr.cell? ⟨gb289,6,none⟩ = some (.int .i64 a0_6):=(blk_cell BK289.out 6).trans rfl
             have hcz43_7 : wr.cell? ⟨gb289,7,none⟩ = some (.int .i64 a0_7):=(blk_cell BK289.out 7).trans rfl
             have hcz43_8 : wr.cell? ⟨gb289,8,none⟩ = some (.int .i64 a0_8):=(blk_cell BK289.out 8).trans rfl
             have hcz43_9 : wr.cell? ⟨gb289,9,none⟩ = some (.slice A0_9 l0_9.length c0_9):=(blk_cell BK289.out 9).trans rfl
             have hcz43_10 : wr.cell? ⟨gb289,10,none⟩ = some (.slice A0_10 l0_10.length c0_10):=(blk_cell BK289.out 10).trans rfl
             have hfz43_0:=blk_frozen BK289.out 0
             have hfz43_1:=blk_frozen BK289.out 1
             have hfz43_2:=blk_frozen BK289.out 2
             have hfz43_3:=blk_frozen BK289.out 3
             have hfz43_4:=blk_frozen BK289.out 4
             have hfz43_5:=blk_frozen BK289.out 5
             have hfz43_6:=blk_frozen BK289.out 6
             have hfz43_7:=blk_frozen BK289.out 7
             have hfz43_8:=blk_frozen BK289.out 8
             have hfz43_9:=blk_frozen BK289.out 9
             have hfz43_10:=blk_frozen BK289.out 10
             have p293 : 0 ≤ (x6_3 : Int):=of_decide_eq_true (by first|(with_reducible assumption)|assumption)
             have q293 : x6_3 < (l0_10.length : Int):=of_decide_eq_true (by first|(with_reducible assumption)|assumption)
             obtain ⟨ad293,e293,hx293_0⟩:=Kd.at_int HR0_10.out x6_3 p293 q293
             cases e293
             replace hx293_0:=(HB.out.cell (World.block_lt_of_cell? w _ hx293_0)).trans hx293_0
             replace p293:=eq_true p293
             replace q293:=eq_true q293
             have hcz44_0 : wr.cell? ⟨gb290,0,none⟩ = some (.int .i64 a1_0):=(blk_cell BK290.out 0).trans rfl
             have hcz44_1 : wr.cell? ⟨gb290,1,none⟩ = some (.int .i64 a1_1):=(blk_cell BK290.out 1).trans rfl
             have hcz44_2 : wr.cell? ⟨gb290,2,none⟩ = some (.int .i64 a1_2):=(blk_cell BK290.out 2).trans rfl
             have hcz44_3 : wr.cell? ⟨gb290,3,none⟩ = some (.int .i64 a1_3):=(blk_cell BK290.out 3).trans rfl
             have hcz44_4 : wr.cell? ⟨gb290,4,none⟩ = some (.int .i64 a1_4):=(blk_cell BK290.out 4).trans rfl
             have hcz44_5 : wr.cell? ⟨gb290,5,none⟩ = some (.int .i64 a1_5):=(blk_cell BK290.out 5).trans rfl
             have hcz44_6 : wr.cell? ⟨gb290,6,none⟩ = some (.int .i64 a1_6):=(blk_cell BK290.out 6).trans rfl
             have hcz44_7 : wr.cell? ⟨gb290,7,none⟩ = some (.int .i64 a1_7):=(blk_cell BK290.out 7).trans rfl
             have hcz44_8 : wr.cell? ⟨gb290,8,none⟩ = some (.int .i64 a1_8):=(blk_cell BK290.out 8).trans rfl
             have hcz44_9 : wr.cell? ⟨gb290,9,none⟩ = some (.slice A1_9 l1_9.length c1_9):=(blk_cell BK290.out 9).trans rfl
             have hcz44_10 : wr.cell? ⟨gb290,10,none⟩ = some (.slice A1_10 l1_10.length c1_10):=(blk_cell BK290.out 10).trans rfl
             have hfz44_0:=blk_frozen BK290.out 0
             have hfz44_1:=blk_frozen BK290.out 1
             have hfz44_2:=blk_frozen BK290.out 2
             have hfz44_3:=blk_frozen BK290.out 3
             have hfz44_4:=blk_frozen BK290.out 4
             have hfz44_5:=blk_frozen BK290.out 5
             have hfz44_6:=blk_frozen BK290.out 6
             have hfz44_7:=blk_frozen BK290.out 7
             have hfz44_8:=blk_frozen BK290.out 8
             have hfz44_9:=blk_frozen BK290.out 9
             have hfz44_10:=blk_frozen BK290.out 10
             have p294 : 0 ≤ (x6_3 : Int):=of_decide_eq_true (by first|(with_reducible assumption)|assumption)
             have q294 : x6_3 < (l1_10.length : Int):=of_decide_eq_true (by first|(with_reducible assumption)|assumption)
             obtain ⟨ad294,e294,hx294_0⟩:=Kd.at_int HR1_10.out x6_3 p294 q294
             cases e294
             replace hx294_0:=(HB.out.cell (World.block_lt_of_cell? w _ hx294_0)).trans hx294_0
             replace p294:=eq_true p294
             replace q294:=eq_true q294
             go_wp2
             repeat (go_quiet (fail);try go_wp2)
             go_roundg k3
             case measure=>have:=HJ2.out;have:=HK2.out;have:=HK3.out;omega
             case rel=>exact ⟨(wrap64 (x6_3 + 1)),(by first|rfl|(simp;done)|(simp [*];done)),H',⟨by have:=HJ2.out;have:=HK2.out;have:=HK3.out;omega⟩,⟨by (with_reducible repeat(first|refine blk_drewN ?_ _|refine blk_drew ?_|refine blk_alloc ?_ _));exact BK289.out⟩,⟨by (with_reducible repeat(first|refine blk_drewN ?_ _|refine blk_drew ?_|refine blk_alloc ?_ _));exact BK290.out⟩,⟨by repeat(first|(with_reducible first|exact HB.out|apply below_alloc|apply pw_below_drewN|apply below_drew1|refine below_set ?_ GE289.out|refine below_set ?_ GE290.out)|exact HB.out)⟩⟩
            ·rw [if_neg c41] at H
             have c41b0 : ((rd l0_10 x6_3) == (rd l1_10 x6_3)) = false:=beq_eq_false_iff_ne.mpr c41
             have c41b1 : ((rd l0_10 x6_3) != (rd l1_10 x6_3)) = true:=bne_iff_ne.mpr c41
             obtain rfl:=Option.some.inj H
             have hnb45:=NB289_290.out
             have hnc45:=NB290_289.out
             have hcz46_0 : wr.cell? ⟨gb289,0,none⟩ = some (.int .i64 a0_0):=(blk_cell BK289.out 0).trans rfl
             have hcz46_1 : wr.cell? ⟨gb289,1,none⟩ = some (.int .i64 a0_1):=(blk_cell BK289.out 1).trans rfl
             have hcz46_2 : wr.cell? ⟨gb289,2,none⟩ = some (.int .i64 a0_2):=(blk_cell BK289.out 2).trans rfl
             have hcz46_3 : wr.cell? ⟨gb289,3,none⟩ = some (.int .i64 a0_3):=(blk_cell BK289.out 3).trans rfl
             have hcz46_4 : wr.cell? ⟨gb289,4,none⟩ = some (.int .i64 a0_4):=(blk_cell BK289.out 4).trans rfl
             have hcz46_5 : wr.cell? ⟨gb289,5,none⟩ = some (.int .i64 a0_5):=(blk_cell BK289.out 5).trans rfl
             have hcz46_6 : wr.cell? ⟨gb289,6,none⟩ = some (.int .i64 a0_6):=(blk_cell BK289.out 6).trans rfl
             have hcz46_7 : wr.cell? ⟨gb289,7,none⟩ = some (.int .i64 a0_7):=(blk_cell BK289.out 7).trans rfl
             have hcz46_8 : wr.cell? ⟨gb289,8,none⟩ = some (.int .i64 a0_8):=(blk_cell BK289.out 8).trans rfl
             have hcz46_9 : wr.cell? ⟨gb289,9,none⟩ = some (.slice A0_9 l0_9.length c0_9):=(blk_cell BK289.out 9).trans rfl
             have hcz46_10 : wr.cell? ⟨gb289,10,none⟩ = some (.slice A0_10 l0_10.length c0_10):=(blk_cell BK289.out 10).trans rfl
             have hfz46_0:=blk_frozen BK289.out 0
             have hfz46_1:=blk_frozen BK289.out 1
             have hfz46_2:=blk_frozen BK289.out 2
             have hfz46_3:=blk_frozen BK289.out 3
             have hfz46_4:=blk_frozen BK289.out 4
             have hfz46_5:=blk_frozen BK289.out 5
             have hfz46_6:=blk_frozen BK289.out 6
             have hfz46_7:=blk_frozen BK289.out 7
             have hfz46_8:=blk_frozen BK289.out 8
             have hfz46_9:=blk_frozen BK289.out 9
             have hfz46_10:=blk_frozen BK289.out 10
             have p293 : 0 ≤ (x6_3 : Int):=of_decide_eq_true (by first|(with_reducible assumption)|assumption)
             have q293 : x6_3 < (l0_10.length : Int):=of_decide_eq_true (by first|(with_reducible assumption)|assumption)
             obtain ⟨ad293,e293,hx293_0⟩:=Kd.at_int HR0_10.out x6_3 p293 q293
             cases e293
             replace hx293_0:=(HB.out.cell (World.block_lt_of_cell? w _ hx293_0)).trans hx293_0
             replace p293:=eq_true p293
             replace q293:=eq_true q293
             have hcz47_0 : wr.cell? ⟨gb290,0,none⟩ = some (.int .i64 a1_0):=(blk_cell BK290.out 0).trans rfl
             have hcz47_1 : wr.cell? ⟨gb290,1,none⟩ = some (.int .i64 a1_1):=(blk_cell BK290.out 1).trans rfl
             have hcz47_2 : wr.cell? ⟨gb290,2,none⟩ = some (.int .i64 a1_2):=(blk_cell BK290.out 2).trans rfl
             have hcz47_3 : wr.cell? ⟨gb290,3,none⟩ = some (.int .i64 a1_3):=(blk_cell BK290.out 3).trans rfl
             have hcz47_4 : wr.cell? ⟨gb290,4,none⟩ = some (.int .i64 a1_4):=(blk_cell BK290.out 4).trans rfl
             have hcz47_5 : wr.cell? ⟨gb290,5,none⟩ = some (.int .i64 a1_5):=(blk_cell BK290.out 5).trans rfl
             have hcz47_6 : wr.cell? ⟨gb290,6,none⟩ = some (.int .i64 a1_6):=(blk_cell BK290.out 6).trans rfl
             have hcz47_7 : wr.cell? ⟨gb290,7,none⟩ = some (.int .i64 a1_7):=(blk_cell BK290.out 7).trans rfl
             have hcz47_8 : wr.cell? ⟨gb290,8,none⟩ = some (.int .i64 a1_8):=(blk_cell BK290.out 8).trans rfl
             have hcz47_9 : wr.cell? ⟨gb290,9,none⟩ = some (.slice A1_9 l1_9.length c1_9):=(blk_cell BK290.out 9).trans rfl
             have hcz47_10 : wr.cell? ⟨gb290,10,none⟩ = some (.slice A1_10 l1_10.length c1_10):=(blk_cell BK290.out 10).trans rfl
             have hfz47_0:=blk_frozen BK290.out 0
             have hfz47_1:=blk_frozen BK290.out 1
             have hfz47_2:=blk_frozen BK290.out 2
             have hfz47_3:=blk_frozen BK290.out 3
             have hfz47_4:=blk_frozen BK290.out 4
             have hfz47_5:=blk_frozen BK290.out 5
             have hfz47_6:=blk_frozen BK290.out 6
             have hfz47_7:=blk_frozen BK290.out 7
             have hfz47_8:=blk_frozen BK290.out 8
             have hfz47_9:=blk_frozen BK290.out 9
             have hfz47_10:=blk_frozen BK290.out 10
             have p294 : 0 ≤ (x6_3 : Int):=of_decide_eq_true (by first|(with_reducible assumption)|assumption)
             have q294 : x6_3 < (l1_10.length : Int):=of_decide_eq_true (by first|(with_reducible assumption)|assumption)
             obtain ⟨ad294,e294,hx294_0⟩:=Kd.at_int HR1_10.out x6_3 p294 q294
             cases e294
             replace hx294_0:=(HB.out.cell (World.block_lt_of_cell? w _ hx294_0)).trans hx294_0
             replace p294:=eq_true p294
             replace q294:=eq_true q294
             go_wp2
             repeat (go_quiet (fail);try go_wp2)
             go_ret
             exact ⟨by first|rfl|(simp [errW_none,errW_some] <;> rfl)|(simp [*,errW_none,errW_some] <;> rfl),by repeat(first|(with_reducible first|exact HB.out|apply below_alloc|apply pw_below_drewN|apply below_drew1|refine below_set ?_ GE289.out|refine below_set ?_ GE290.out)|exact HB.out)⟩
           ·rw [if_neg c40] at H
            exact absurd H (by simp)
          ·rw [if_neg c39] at H
           exact absurd H (by simp)
         ·rw [if_neg c38] at H
          have c38b0 : decide (x6_3 < (l0_10.length : Int)) = false:=decide_eq_false c38
          clear c38
          obtain rfl:=Option.some.inj H
          have hnb48:=NB289_290.out
          have hnc48:=NB290_289.out
          have hcz49_0 : wr.cell? ⟨gb289,0,none⟩ = some (.int .i64 a0_0):=(blk_cell BK289.out 0).trans rfl
          have hcz49_1 : wr.cell? ⟨gb289,1,none⟩ = some (.int .i64 a0_1):=(blk_cell BK289.out 1).trans rfl
          have hcz49_2 : wr.cell? ⟨gb289,2,none⟩ = some (.int .i64 a0_2):=(blk_cell BK289.out 2).trans rfl
          have hcz49_3 : wr.cell? ⟨gb289,3,none⟩ = some (.int .i64 a0_3):=(blk_cell BK289.out 3).trans rfl
          have hcz49_4 : wr.cell? ⟨gb289,4,none⟩ = some (.int .i64 a0_4):=(blk_cell BK289.out 4).trans rfl
          have hcz49_5 : wr.cell? ⟨gb289,5,none⟩ = some (.int .i64 a0_5):=(blk_cell BK289.out 5).trans rfl
          have hcz49_6 : wr.cell? ⟨gb289,6,none⟩ = some (.int .i64 a0_6):=(blk_cell BK289.out 6).trans rfl
          have hcz49_7 : wr.cell? ⟨gb289,7,none⟩ = some (.int .i64 a0_7):=(blk_cell BK289.out 7).trans rfl
          have hcz49_8 : wr.cell? ⟨gb289,8,none⟩ = some (.int .i64 a0_8):=(blk_cell BK289.out 8).trans rfl
          have hcz49_9 : wr.cell? ⟨gb289,9,none⟩ = some (.slice A0_9 l0_9.length c0_9):=(blk_cell BK289.out 9).trans rfl
          have hcz49_10 : wr.cell? ⟨gb289,10,none⟩ = some (.slice A0_10 l0_10.length c0_10):=(blk_cell BK289.out 10).trans rfl
          have hfz49_0:=blk_frozen BK289.out 0
          have hfz49_1:=blk_frozen BK289.out 1
          have hfz49_2:=blk_frozen BK289.out 2
          have hfz49_3:=blk_frozen BK289.out 3
          have hfz49_4:=blk_frozen BK289.out 4
          have hfz49_5:=blk_frozen BK289.out 5
          have hfz49_6:=blk_frozen BK289.out 6
          have hfz49_7:=blk_frozen BK289.out 7
          have hfz49_8:=blk_frozen BK289.out 8
          have hfz49_9:=blk_frozen BK289.out 9
          have hfz49_10:=blk_frozen BK289.out 10
          go_wp2
          repeat (go_quiet (fail);try go_wp2)
          go_ret
          exact ⟨by first|rfl|(simp [errW_none,errW_some] <;> rfl)|(simp [*,errW_none,errW_some] <;> rfl),by repeat(first|(with_reducible first|exact HB.out|apply below_alloc|apply pw_below_drewN|apply below_drew1|refine below_set ?_ GE289.out|refine below_set ?_ GE290.out)|exact HB.out)⟩

end Go.Proofs.Ytnagfbadjbkhmaa.PA
