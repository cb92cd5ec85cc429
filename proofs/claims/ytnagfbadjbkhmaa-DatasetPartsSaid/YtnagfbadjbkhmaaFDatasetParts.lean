/- The law DatasetParts by a walk: the columns and rows of a dataset are its values. -/
import Derived.Test.YtnagfbadjbkhmaaFData09
import Derived.Test.YtnagfbadjbkhmaaFDataOf
import Derived.Test.YtnagfbadjbkhmaaPureDataParts
namespace Go.Proofs.Ytnagfbadjbkhmaa.FDatasetParts
open Go.RowKit Go.Shelf Go.Proofs.YtnagfbadjbkhmaaW.PrintWords Go.Proofs.YtnagfbadjbkhmaaW.PrintLast Go.Proofs.YtnagfbadjbkhmaaW.PrintMore Go.Proofs.Ytnagfbadjbkhmaa.Pure Go.Proofs.Ytnagfbadjbkhmaa.PA Go.Proofs.Ytnagfbadjbkhmaa.FDataPut Go.Proofs.Ytnagfbadjbkhmaa.FDataOf Go.Proofs.Ytnagfbadjbkhmaa.PureDataParts
attribute [local go_sem high] Flt.run_bits Flt.run_frombits
set_option linter.unusedVariables false
set_option linter.unusedSimpArgs false
theorem run_store_flt {P : Program} (w : World) (a : Addr) (m : Mode) (k : FloatKind) (b : Nat) : (store a (.float k b) m).run P w = stored P w a (.float k b) m:=run_store P w a _ m rfl
attribute [local go_sem] run_store_flt
/-- The plain dataset that came in, and the dataset of it. -/
structure St (w W : World) (g : Nat) (k0 k1 k2 k3 k4 k5 k6 r c : Int) (A9 A10 Av At : Option Addr) (c9 c10 cv ct : Nat) (v t : List Int) (vs : List Nat) : Prop where
 p : Pl W w.heap.size k0 k1 k2 k3 k4 k5 k6 r c (.slice A9 v.length c9) A10 t.length c10
 d : Dat W g k0 k1 k2 k3 k4 k5 k6 r c Av At vs.length cv t.length ct
 fv : Kd.C Flt.kf W Av vs.length vs
 ft : Kd.C (Kd.int .i64) W At t.length t
 hcv : vs.length ≤ cv
 hct : t.length ≤ ct
 b : Below w.heap.size w W
theorem St.step {w W W' : World} {g : Nat} {k0 k1 k2 k3 k4 k5 k6 r c : Int} {A9 A10 Av At : Option Addr} {c9 c10 cv ct : Nat} {v t : List Int} {vs : List Nat} (h : St w W g k0 k1 k2 k3 k4 k5 k6 r c A9 A10 Av At c9 c10 cv ct v t vs) (hb : Below W.heap.size W W') : St w W' g k0 k1 k2 k3 k4 k5 k6 r c A9 A10 Av At c9 c10 cv ct v t vs :=
 ⟨blk_below h.p hb,blk_below h.d hb,Kd.C_below h.fv hb,Kd.C_below h.ft hb,h.hcv,h.hct,below_step h.b hb⟩
theorem info_f64 : (Try.prog.info? 36).map (fun i=>(i.zero,i.size,i.bytes)) = some (some (.float .f64 0),1,8):=by kernel_rfl
/-- A cut of a row of floats. -/
theorem cut_f {W0 : World} {A : Option Addr} {c : Nat} {l : List Nat} (lo hi : Nat) (h1 : lo ≤ hi) (h2 : hi ≤ l.length) (hc : l.length ≤ c) (hC : Kd.C Flt.kf W0 A l.length l) :
  ∃ (A2 : Option Addr) (c2 : Nat),(∀ W : World,(Instr.slice 30 (.slice A l.length c) (some (.int .i64 (lo : Int))) (some (.int .i64 (hi : Int))) none).run Try.prog W = .ok (.slice A2 ((l.take hi).drop lo).length c2) W) ∧ ((l.take hi).drop lo).length ≤ c2 ∧ Kd.C Flt.kf W0 A2 ((l.take hi).drop lo).length ((l.take hi).drop lo):=by
 obtain ⟨i,hi',_,hsz,_⟩:=info_parts info_f64
 have hlen : ((l.take hi).drop lo).length = hi - lo:=by rw [List.length_drop,List.length_take];omega
 have hcut:=cut_mid (P:=Try.prog) 30 36 .i64 .i64 Try.underlying30 hi' 1 hsz A l.length c (lo : Int) (hi : Int) (by omega) (by omega) (by omega) hc
 have hr:=Kd.C_mid (lo:=lo) (hi:=hi) (c:=c) hC (by omega) (by omega) hc
 simp only [Int.toNat_natCast] at hcut
 rw [← hlen] at hcut
 exact ⟨_,_,hcut,by rw [hlen];omega,hr⟩
def y0 : Array Bool:=#[true,false,false,false,false,false,false,false,false,false,false,false,false,false,false,false,false,false,false,false,false,false,false,false,false,false,false,false,false,false,false,false,false,false,false,false,false,false,false,false,false,false]
def y1 : Array Bool:=#[true,true,false,false,false,false,false,false,false,false,false,false,false,false,false,false,false,false,false,false,false,false,false,false,false,false,false,false,false,false,false,false,false,false,false,false,false,false,false,false,false,false]
def y2 : Array Bool:=#[true,true,true,false,false,false,false,false,false,false,false,false,false,false,false,false,false,false,false,false,false,false,false,false,false,false,false,false,false,false,false,false,false,false,false,false,false,false,false,false,false,false]
def y3 : Array Bool:=#[true,true,true,true,false,false,false,false,false,false,false,false,false,false,false,false,false,false,false,false,false,false,false,false,false,false,false,false,false,false,false,false,false,false,false,false,false,false,false,false,false,false]
def y4 : Array Bool:=#[true,true,true,true,true,false,false,false,false,false,false,false,false,false,false,false,false,false,false,false,false,false,false,false,false,false,false,false,false,false,false,false,false,false,false,false,false,false,false,false,false,false]
def y5 : Array Bool:=#[true,true,true,true,true,true,false,false,false,false,false,false,false,false,false,false,false,false,false,false,false,false,false,false,false,false,false,false,false,false,false,false,false,false,false,false,false,false,false,false,false,false]
def y6 : Array Bool:=#[true,true,true,true,true,true,true,false,false,false,false,false,false,false,false,false,false,false,false,false,false,false,false,false,false,false,false,false,false,false,false,false,false,false,false,false,false,false,false,false,false,false]
def y7 : Array Bool:=#[true,true,true,true,true,true,true,true,false,false,false,false,false,false,false,false,false,false,false,false,false,false,false,false,false,false,false,false,false,false,false,false,false,false,false,false,false,false,false,false,false,false]
def y8 : Array Bool:=#[true,true,true,true,true,true,true,true,true,false,false,false,false,false,false,false,false,false,false,false,false,false,false,false,false,false,false,false,false,false,false,false,false,false,false,false,false,false,false,false,false,false]
def y9 : Array Bool:=#[true,true,true,true,true,true,true,true,true,true,false,false,false,false,false,false,false,false,false,false,false,false,false,false,false,false,false,false,false,false,false,false,false,false,false,false,false,false,false,false,false,false]
def y10 : Array Bool:=#[true,true,true,true,true,true,true,true,true,true,true,false,false,false,false,false,false,false,false,false,false,false,false,false,false,false,false,false,false,false,false,false,false,false,false,false,false,false,false,false,false,false]
def y11 : Array Bool:=#[true,true,true,true,true,true,true,true,true,true,true,true,false,false,false,false,false,false,false,false,false,false,false,false,false,false,false,false,false,false,false,false,false,false,false,false,false,false,false,false,false,false]
def y12 : Array Bool:=#[true,true,true,true,true,true,true,true,true,true,true,true,true,false,false,false,false,false,false,false,false,false,false,false,false,false,false,false,false,false,false,false,false,false,false,false,false,false,false,false,false,false]
def y13 : Array Bool:=#[true,true,true,true,true,true,true,true,true,true,true,true,true,true,false,false,false,false,false,false,false,false,false,false,false,false,false,false,false,false,false,false,false,false,false,false,false,false,false,false,false,false]
def y14 : Array Bool:=#[true,true,true,true,true,true,true,true,true,true,true,true,true,true,true,false,false,false,false,false,false,false,false,false,false,false,false,false,false,false,false,false,false,false,false,false,false,false,false,false,false,false]
def y15 : Array Bool:=#[true,true,true,true,true,true,true,true,true,true,true,true,true,true,true,true,false,false,false,false,false,false,false,false,false,false,false,false,false,false,false,false,false,false,false,false,false,false,false,false,false,false]
def y16 : Array Bool:=#[true,true,true,true,true,true,true,true,true,true,true,true,true,true,true,true,true,false,false,false,false,false,false,false,false,false,false,false,false,false,false,false,false,false,false,false,false,false,false,false,false,false]
def y17 : Array Bool:=#[true,true,true,true,true,true,true,true,true,true,true,true,true,true,true,true,true,true,false,false,false,false,false,false,false,false,false,false,false,false,false,false,false,false,false,false,false,false,false,false,false,false]
def y18 : Array Bool:=#[true,true,true,true,true,true,true,true,true,true,true,true,true,true,true,true,true,true,true,false,false,false,false,false,false,false,false,false,false,false,false,false,false,false,false,false,false,false,false,false,false,false]
def y19 : Array Bool:=#[true,true,true,true,true,true,true,true,true,true,true,true,true,true,true,true,true,true,true,true,false,false,false,false,false,false,false,false,false,false,false,false,false,false,false,false,false,false,false,false,false,false]
def y20 : Array Bool:=#[true,true,true,true,true,true,true,true,true,true,true,true,true,true,true,true,true,true,true,true,true,false,false,false,false,false,false,false,false,false,false,false,false,false,false,false,false,false,false,false,false,false]
def y21 : Array Bool:=#[true,true,true,true,true,true,true,true,true,true,true,true,true,true,true,true,true,true,true,true,true,true,false,false,false,false,false,false,false,false,false,false,false,false,false,false,false,false,false,false,false,false]
def y22 : Array Bool:=#[true,true,true,true,true,true,true,true,true,true,true,true,true,true,true,true,true,true,true,true,true,true,true,false,false,false,false,false,false,false,false,false,false,false,false,false,false,false,false,false,false,false]
def y23 : Array Bool:=#[true,true,true,true,true,true,true,true,true,true,true,true,true,true,true,true,true,true,true,true,true,true,true,true,false,false,false,false,false,false,false,false,false,false,false,false,false,false,false,false,false,false]
def y24 : Array Bool:=#[true,true,true,true,true,true,true,true,true,true,true,true,true,true,true,true,true,true,true,true,true,true,true,true,true,false,false,false,false,false,false,false,false,false,false,false,false,false,false,false,false,false]
def y25 : Array Bool:=#[true,true,true,true,true,true,true,true,true,true,true,true,true,true,true,true,true,true,true,true,true,true,true,true,true,true,false,false,false,false,false,false,false,false,false,false,false,false,false,false,false,false]
def y26 : Array Bool:=#[true,true,true,true,true,true,true,true,true,true,true,true,true,true,true,true,true,true,true,true,true,true,true,true,true,true,true,false,false,false,false,false,false,false,false,false,false,false,false,false,false,false]
def y27 : Array Bool:=#[true,true,true,true,true,true,true,true,true,true,true,true,true,true,true,true,true,true,true,true,true,true,true,true,true,true,true,true,false,false,false,false,false,false,false,false,false,false,false,false,false,false]
def y28 : Array Bool:=#[true,true,true,true,true,true,true,true,true,true,true,true,true,true,true,true,true,true,true,true,true,true,true,true,true,true,true,true,true,false,false,false,false,false,false,false,false,false,false,false,false,false]
def y29 : Array Bool:=#[true,true,true,true,true,true,true,true,true,true,true,true,true,true,true,true,true,true,true,true,true,true,true,true,true,true,true,true,true,true,false,false,false,false,false,false,false,false,false,false,false,false]
def y30 : Array Bool:=#[true,true,true,true,true,true,true,true,true,true,true,true,true,true,true,true,true,true,true,true,true,true,true,true,true,true,true,true,true,true,true,false,false,false,false,false,false,false,false,false,false,false]
def y31 : Array Bool:=#[true,true,true,true,true,true,true,true,true,true,true,true,true,true,true,true,true,true,true,true,true,true,true,true,true,true,true,true,true,true,true,true,false,false,false,false,false,false,false,false,false,false]
def y32 : Array Bool:=#[true,true,true,true,true,true,true,true,true,true,true,true,true,true,true,true,true,true,true,true,true,true,true,true,true,true,true,true,true,true,true,true,true,false,false,false,false,false,false,false,false,false]
def y33 : Array Bool:=#[true,true,true,true,true,true,true,true,true,true,true,true,true,true,true,true,true,true,true,true,true,true,true,true,true,true,true,true,true,true,true,true,true,true,false,false,false,false,false,false,false,false]
def y34 : Array Bool:=#[true,true,true,true,true,true,true,true,true,true,true,true,true,true,true,true,true,true,true,true,true,true,true,true,true,true,true,true,true,true,true,true,true,true,true,false,false,false,false,false,false,false]
def y35 : Array Bool:=#[true,true,true,true,true,true,true,true,true,true,true,true,true,true,true,true,true,true,true,true,true,true,true,true,true,true,true,true,true,true,true,true,true,true,true,true,false,false,false,false,false,false]
def y36 : Array Bool:=#[true,true,true,true,true,true,true,true,true,true,true,true,true,true,true,true,true,true,true,true,true,true,true,true,true,true,true,true,true,true,true,true,true,true,true,true,true,false,false,false,false,false]
def y37 : Array Bool:=#[true,true,true,true,true,true,true,true,true,true,true,true,true,true,true,true,true,true,true,true,true,true,true,true,true,true,true,true,true,true,true,true,true,true,true,true,true,false,true,false,false,false]
def y38 : Array Bool:=#[true,true,true,true,true,true,true,true,true,true,true,true,true,true,true,true,true,true,true,true,true,true,true,true,true,true,true,true,true,true,true,true,true,true,true,true,true,true,true,false,false,false]
def y39 : Array Bool:=#[true,true,true,true,true,true,true,true,true,true,true,true,true,true,true,true,true,true,true,true,true,true,true,true,true,true,true,true,true,true,true,true,true,true,true,true,true,true,true,true,false,false]
def y40 : Array Bool:=#[true,true,true,true,true,true,true,true,true,true,true,true,true,true,true,true,true,true,true,true,true,true,true,true,true,true,true,true,true,true,true,true,true,true,true,true,true,true,true,true,true,false]
def y41 : Array Bool:=#[true,true,true,true,true,true,true,true,true,true,true,true,true,true,true,true,true,true,true,true,true,true,true,true,true,true,true,true,true,true,true,true,true,true,true,true,true,true,true,true,true,true]
def T31 : Bool × List (List Nat × List Nat):=(true,[([],[]),([0,0],[0]),([1],[1]),([2,1],[1,2]),([3,1,1],[1,3]),([4],[4]),([4],[4]),([6,4],[4,6]),([5,7,4],[4,5,7]),([4,8,1],[1,4,8]),([9,4,1],[1,9]),([10],[10]),([10],[10]),([11,12,10,10],[10,11,12]),([13,10],[10,13]),([14,10],[10,14]),([10,15,1],[1,10,15]),([1,16],[1,16]),([17,13],[17]),([18],[18]),([19,18],[18,19]),([20,18,18],[18,20]),([21],[21]),([21],[21]),([23,21],[21,23]),([22,24,21],[21,22,24]),([21,25,18],[18,21,25]),([26,21,18],[18,26]),([27],[27]),([27],[27]),([28,29,27,27],[27,28,29]),([30,27],[27,30]),([31,27],[27,31]),([27,32,18],[18,27,32]),([18,33],[18,33]),([34,30],[34]),([35],[35]),([36,35,35],[35,36]),([35],[35]),([37,38,37,35],[35,37,38]),([35,39],[35,39]),([40,39,0,1,2,3,4,5,6,7,8,9,10,11,12,13,14,15,16,17,18,19,20,21,22,23,24,25,26,27,28,29,30,31,32,33,34,35,36,37,38,39,40],[40])])
def B31 : List Nat:=[0,1,3,7,15,31,31,95,255,511,1023,2047,2047,8191,16383,32767,65535,131071,262143,524287,1048575,2097151,4194303,4194303,12582911,33554431,67108863,134217727,268435455,268435455,1073741823,2147483647,4294967295,8589934591,17179869183,34359738367,68719476735,137438953471,68719476735,549755813887,1099511627775,2199023255551]
theorem tab31 : rtab .any (opsOf Try.f3 31) = T31:=by kernel_rfl
theorem bits31 : waitsOk T31.2 B31 = true:=by kernel_rfl
set_option maxHeartbeats 20000000 in
set_option maxRecDepth 100000 in
theorem law_calls (k0 k1 k2 k3 k4 k5 k6 r c x : Int) (A9 A10 : Option Addr) (c9 c10 : Nat) (v t : List Int) (w : World) (hr9 : Kd.C (Kd.int .u64) w A9 v.length v) (hc9 : v.length ≤ c9) (hr10 : Kd.C (Kd.int .i64) w A10 t.length t) (hc10 : t.length ≤ c10) (hv : ∀ y ∈ v,(Lit.int .u64 y).wf = true) :
  Calls Try.prog 3 #[.agg #[.int .i64 k0,.int .i64 k1,.int .i64 k2,.int .i64 k3,.int .i64 k4,.int .i64 k5,.int .i64 k6,.int .i64 r,.int .i64 c,.slice A9 v.length c9,.slice A10 t.length c10],.int .i64 x] w fun e w'=>e = .returned (.bool true) ∧ Below w.heap.size w w':=by
 have hu:=Try.underlying32
 have hu2:=Try.underlying23
 have hu3:=Try.underlying27
 have HR9:=Aside0.mk hr9
 have HC9:=Aside0.mk hc9
 have HR10:=Aside0.mk hr10
 have HC10:=Aside0.mk hc10
 have HV:=Aside0.mk hv
 obtain ⟨W0,hW0⟩ : ∃ W0,w.alloc (.cells #[.int .i64 k0,.int .i64 k1,.int .i64 k2,.int .i64 k3,.int .i64 k4,.int .i64 k5,.int .i64 k6,.int .i64 r,.int .i64 c,.slice A9 v.length c9,.slice A10 t.length c10] 27) = W0:=⟨_,rfl⟩
 have P0:=Aside0.mk (show Pl W0 w.heap.size k0 k1 k2 k3 k4 k5 k6 r c (.slice A9 v.length c9) A10 t.length c10 from by rw [← hW0];exact blk_new w _)
 have B0:=Aside0.mk (show Below w.heap.size w W0 from by rw [← hW0];exact below_alloc (Below.refl _ w) _)
 have HW0:=Aside0.mk hW0
 clear hr9 hc9 hr10 hc10 hv hW0
 by_cases hg : (decide (500 < v.length) || decide (200 < t.length)) = true
 ·have HG:=Aside0.mk (show hornbeamlaw09_Great.f k0 k1 k2 k3 k4 k5 k6 r c v t = some true from by rw [great_f,hg])
  clear hg
  go_enter Try.func3,Try.ntmps3
  go_wp2_with (fail)
  rw [HW0.out]
  refine (hornbeamlaw09_Great.calls k0 k1 k2 k3 k4 k5 k6 r c A9 c9 v A10 c10 t true _ (Kd.C_below HR9.out B0.out) HC9.out (Kd.C_below HR10.out B0.out) HC10.out HG.out).mono ?_
  rintro e w1 ⟨rfl,hb⟩
  have B1:=Aside0.mk (below_step B0.out hb)
  clear hb P0 B0 HG HW0
  go_wp2_with (fail)
  refine (FData09.fixed_calls _).mono ?_
  rintro e w2 ⟨rfl,hb⟩
  have B2:=Aside0.mk (below_step B1.out hb)
  clear hb B1
  go_wp2
  go_ret
  exact ⟨rfl,B2.out⟩
 ·have hl : v.length ≤ 500:=by simp at hg;omega
  have ht : t.length ≤ 200:=by simp at hg;omega
  have HG:=Aside0.mk (show hornbeamlaw09_Great.f k0 k1 k2 k3 k4 k5 k6 r c v t = some false from by rw [great_f];congr 1;exact Bool.eq_false_iff.mpr hg)
  have HL:=Aside0.mk (And.intro hl ht)
  clear hg hl ht
  go_enter Try.func3,Try.ntmps3
  go_wp2_with (fail)
  rw [HW0.out]
  refine (hornbeamlaw09_Great.calls k0 k1 k2 k3 k4 k5 k6 r c A9 c9 v A10 c10 t false _ (Kd.C_below HR9.out B0.out) HC9.out (Kd.C_below HR10.out B0.out) HC10.out HG.out).mono ?_
  rintro e w1 ⟨rfl,hb⟩
  have P1:=Aside0.mk (show Pl w1 w.heap.size k0 k1 k2 k3 k4 k5 k6 r c (.slice A9 v.length c9) A10 t.length c10 from blk_below P0.out hb)
  have B1:=Aside0.mk (below_step B0.out hb)
  clear hb P0 B0 HG HW0
  have p0:=P1.out.c0
  have p1:=P1.out.c1
  have p2:=P1.out.c2
  have p3:=P1.out.c3
  have p4:=P1.out.c4
  have p5:=P1.out.c5
  have p6:=P1.out.c6
  have p7:=P1.out.c7
  have p8:=P1.out.c8
  have p9:=P1.out.c9
  have p10:=P1.out.c10
  go_wp2_with (fail)
  clear p0 p1 p2 p3 p4 p5 p6 p7 p8 p9 p10
  obtain ⟨vs,hvs⟩ : ∃ vs,vs = v.map Flt.fbits:=⟨_,rfl⟩
  have hvl : vs.length = v.length:=by rw [hvs,List.length_map]
  have HVS:=Aside0.mk hvs
  have HF:=Aside0.mk (show hornbeamref09_Plain_Full.f 600 k0 k1 k2 k3 k4 k5 k6 r c v t = some (k0,k1,k2,k3,k4,k5,k6,r,c,vs,t) from by rw [hvs];exact full_f k0 k1 k2 k3 k4 k5 k6 r c v t 600 (by have:=HL.out;omega) (by have:=HL.out;omega) (by have:=HL.out;omega))
  have HVL:=Aside0.mk (show vs.length ≤ 100000 by have:=HL.out;omega)
  have HVV:=Aside0.mk hvl
  clear hvs hvl
  refine (hornbeamref09_Plain_Full.calls 600 k0 k1 k2 k3 k4 k5 k6 r c A9 c9 v A10 c10 t k0 k1 k2 k3 k4 k5 k6 r c vs t _ (Kd.C_below HR9.out B1.out) HC9.out (Kd.C_below HR10.out B1.out) HC10.out HF.out).mono ?_
  rintro e w2 ⟨u9,u10,rfl,hR9,hR10,hb⟩
  obtain ⟨Av,cv,rfl,hcv,hCv⟩:=Kd.R_reads hR9
  obtain ⟨At,ct,rfl,hct,hCt⟩:=Kd.R_reads hR10
  obtain ⟨g,hgg⟩ : ∃ g,w2.heap.size = g:=⟨_,rfl⟩
  obtain ⟨W3,hW3⟩ : ∃ W3,w2.alloc (.cells #[.int .i64 k0,.int .i64 k1,.int .i64 k2,.int .i64 k3,.int .i64 k4,.int .i64 k5,.int .i64 k6,.int .i64 r,.int .i64 c,.slice Av vs.length cv,.slice At t.length ct] 32) = W3:=⟨_,rfl⟩
  have S3:=Aside0.mk (show St w W3 g k0 k1 k2 k3 k4 k5 k6 r c A9 A10 Av At c9 c10 cv ct v t vs from by
   rw [← hW3,← hgg]
   exact ⟨blk_alloc (blk_below P1.out hb) _,blk_new w2 _,Kd.C_below hCv (below_alloc (Below.refl _ _) _),Kd.C_below hCt (below_alloc (Below.refl _ _) _),hcv,hct,below_alloc (below_step B1.out hb) _⟩)
  have HW3:=Aside0.mk hW3
  have HGG:=Aside0.mk hgg
  clear hR9 hR10 hCv hCt hcv hct hb P1 B1 hW3 hgg HF
  go_upto_region 4 with (fail)
  rw [HW3.out,HGG.out]
  clear HW3 HGG
  have p7:=S3.out.p.c7
  have p8:=S3.out.p.c8
  have p9:=S3.out.p.c9
  by_cases h1 : r < 0
  ·have e1 : decide (r < 0) = true:=decide_eq_true h1
   have e3 : decide (r > 1000) = false:=decide_eq_false (by omega)
   have HNS:=Aside0.mk (show shp r c vs.length = false from by
    by_cases hs : shp r c vs.length = true
    ·have:=shp_is hs;omega
    ·simpa using hs)
   by_cases h4 : c > 1000
   ·have e4 : decide (c > 1000) = true:=decide_eq_true h4
    clear h1 h4
    go_wp2_with (fail)
    refine (FData09.fixed_calls _).mono ?_
    rintro e w4 ⟨rfl,hb⟩
    have S4:=Aside0.mk (S3.out.step hb)
    have p7:=S4.out.p.c7
    have p8:=S4.out.p.c8
    clear hb S3
    go_wp2
    go_ret
    exact ⟨rfl,S4.out.b⟩
   ·have e4 : decide (c > 1000) = false:=decide_eq_false h4
    clear h1 h4
    go_wp2_with (fail)
    refine (FData09.fixed_calls _).mono ?_
    rintro e w4 ⟨rfl,hb⟩
    have S4:=Aside0.mk (S3.out.step hb)
    clear hb S3 p7 p8 p9
    have p7:=S4.out.p.c7
    have p8:=S4.out.p.c8
    have q0:=S4.out.d.c0
    have q1:=S4.out.d.c1
    have q2:=S4.out.d.c2
    have q3:=S4.out.d.c3
    have q4:=S4.out.d.c4
    have q5:=S4.out.d.c5
    have q6:=S4.out.d.c6
    have q7:=S4.out.d.c7
    have q8:=S4.out.d.c8
    have q9:=S4.out.d.c9
    have q10:=S4.out.d.c10
    go_wp2_with (fail)
    refine (dataset_Column.calls k0 k1 k2 k3 k4 k5 k6 r c Av cv vs At ct t x [] _ S4.out.fv S4.out.hcv S4.out.ft S4.out.hct (column_none k0 k1 k2 k3 k4 k5 k6 r c vs t x (Or.inl HNS.out))).mono ?_
    rintro e w5 ⟨u5,rfl,hR5,hb⟩
    obtain ⟨A5,c5,hv5,_,_⟩:=Kd.R_reads hR5
    obtain rfl : u5 = .slice A5 0 c5:=hv5
    have S5:=Aside0.mk (S4.out.step hb)
    clear hb hR5 S4 p7 p8
    clear q0 q1 q2 q3 q4 q5 q6 q7 q8 q9 q10
    have q0:=S5.out.d.c0
    have q1:=S5.out.d.c1
    have q2:=S5.out.d.c2
    have q3:=S5.out.d.c3
    have q4:=S5.out.d.c4
    have q5:=S5.out.d.c5
    have q6:=S5.out.d.c6
    have q7:=S5.out.d.c7
    have q8:=S5.out.d.c8
    have q9:=S5.out.d.c9
    have q10:=S5.out.d.c10
    go_wp2_with (fail)
    refine (dataset_Row.calls 600 k0 k1 k2 k3 k4 k5 k6 r c Av cv vs At ct t x [] _ S5.out.fv S5.out.hcv S5.out.ft S5.out.hct (row_none k0 k1 k2 k3 k4 k5 k6 r c vs t 600 (by omega) x (Or.inl HNS.out))).mono ?_
    rintro e w6 ⟨u6,rfl,hR6,hb⟩
    obtain ⟨A6,c6,hv6,_,_⟩:=Kd.R_reads hR6
    obtain rfl : u6 = .slice A6 0 c6:=hv6
    have S6:=Aside0.mk (S5.out.step hb)
    clear hb hR6 S5
    clear q0 q1 q2 q3 q4 q5 q6 q7 q8 q9 q10
    go_wp2
    go_ret
    exact ⟨rfl,S6.out.b⟩
  have e1 : decide (r < 0) = false:=decide_eq_false h1
  by_cases h2 : c < 0
  ·have e2 : decide (c < 0) = true:=decide_eq_true h2
   have e4 : decide (c > 1000) = false:=decide_eq_false (by omega)
   have HNS:=Aside0.mk (show shp r c vs.length = false from by
    by_cases hs : shp r c vs.length = true
    ·have:=shp_is hs;omega
    ·simpa using hs)
   by_cases h3 : r > 1000
   ·have e3 : decide (r > 1000) = true:=decide_eq_true h3
    clear h1 h2 h3
    go_wp2_with (fail)
    refine (FData09.fixed_calls _).mono ?_
    rintro e w4 ⟨rfl,hb⟩
    have S4:=Aside0.mk (S3.out.step hb)
    have p7:=S4.out.p.c7
    have p8:=S4.out.p.c8
    clear hb S3
    go_wp2
    go_ret
    exact ⟨rfl,S4.out.b⟩
   ·have e3 : decide (r > 1000) = false:=decide_eq_false h3
    clear h1 h2 h3
    go_wp2_with (fail)
    refine (FData09.fixed_calls _).mono ?_
    rintro e w4 ⟨rfl,hb⟩
    have S4:=Aside0.mk (S3.out.step hb)
    clear hb S3 p7 p8 p9
    have p7:=S4.out.p.c7
    have p8:=S4.out.p.c8
    have q0:=S4.out.d.c0
    have q1:=S4.out.d.c1
    have q2:=S4.out.d.c2
    have q3:=S4.out.d.c3
    have q4:=S4.out.d.c4
    have q5:=S4.out.d.c5
    have q6:=S4.out.d.c6
    have q7:=S4.out.d.c7
    have q8:=S4.out.d.c8
    have q9:=S4.out.d.c9
    have q10:=S4.out.d.c10
    go_wp2_with (fail)
    refine (dataset_Column.calls k0 k1 k2 k3 k4 k5 k6 r c Av cv vs At ct t x [] _ S4.out.fv S4.out.hcv S4.out.ft S4.out.hct (column_none k0 k1 k2 k3 k4 k5 k6 r c vs t x (Or.inl HNS.out))).mono ?_
    rintro e w5 ⟨u5,rfl,hR5,hb⟩
    obtain ⟨A5,c5,hv5,_,_⟩:=Kd.R_reads hR5
    obtain rfl : u5 = .slice A5 0 c5:=hv5
    have S5:=Aside0.mk (S4.out.step hb)
    clear hb hR5 S4 p7 p8
    clear q0 q1 q2 q3 q4 q5 q6 q7 q8 q9 q10
    have q0:=S5.out.d.c0
    have q1:=S5.out.d.c1
    have q2:=S5.out.d.c2
    have q3:=S5.out.d.c3
    have q4:=S5.out.d.c4
    have q5:=S5.out.d.c5
    have q6:=S5.out.d.c6
    have q7:=S5.out.d.c7
    have q8:=S5.out.d.c8
    have q9:=S5.out.d.c9
    have q10:=S5.out.d.c10
    go_wp2_with (fail)
    refine (dataset_Row.calls 600 k0 k1 k2 k3 k4 k5 k6 r c Av cv vs At ct t x [] _ S5.out.fv S5.out.hcv S5.out.ft S5.out.hct (row_none k0 k1 k2 k3 k4 k5 k6 r c vs t 600 (by omega) x (Or.inl HNS.out))).mono ?_
    rintro e w6 ⟨u6,rfl,hR6,hb⟩
    obtain ⟨A6,c6,hv6,_,_⟩:=Kd.R_reads hR6
    obtain rfl : u6 = .slice A6 0 c6:=hv6
    have S6:=Aside0.mk (S5.out.step hb)
    clear hb hR6 S5
    clear q0 q1 q2 q3 q4 q5 q6 q7 q8 q9 q10
    go_wp2
    go_ret
    exact ⟨rfl,S6.out.b⟩
  have e2 : decide (c < 0) = false:=decide_eq_false h2
  by_cases h3 : r > 1000
  ·have e3 : decide (r > 1000) = true:=decide_eq_true h3
   clear h1 h2 h3
   go_wp2_with (fail)
   refine (FData09.fixed_calls _).mono ?_
   rintro e w4 ⟨rfl,hb⟩
   have S4:=Aside0.mk (S3.out.step hb)
   have p7:=S4.out.p.c7
   have p8:=S4.out.p.c8
   clear hb S3
   go_wp2
   go_ret
   exact ⟨rfl,S4.out.b⟩
  have e3 : decide (r > 1000) = false:=decide_eq_false h3
  by_cases h4 : c > 1000
  ·have e4 : decide (c > 1000) = true:=decide_eq_true h4
   clear h1 h2 h3 h4
   go_wp2_with (fail)
   refine (FData09.fixed_calls _).mono ?_
   rintro e w4 ⟨rfl,hb⟩
   have S4:=Aside0.mk (S3.out.step hb)
   have p7:=S4.out.p.c7
   have p8:=S4.out.p.c8
   clear hb S3
   go_wp2
   go_ret
   exact ⟨rfl,S4.out.b⟩
  have e4 : decide (c > 1000) = false:=decide_eq_false h4
  by_cases h5 : (v.length : Int) = wrap64 (r * c)
  ·have e5 : ((v.length : Int) != wrap64 (r * c)) = false:=by simp [h5]
   have HS:=Aside0.mk (show shp r c vs.length = true from by
    simp only [shp,Bool.and_eq_true,decide_eq_true_eq,HVV.out]
    exact ⟨⟨⟨⟨by omega,by omega⟩,by omega⟩,by omega⟩,h5⟩)
   obtain ⟨R,rfl⟩ : ∃ R : Nat,r = (R : Int):=⟨r.toNat,by omega⟩
   obtain ⟨C,rfl⟩ : ∃ C : Nat,c = (C : Int):=⟨c.toNat,by omega⟩
   have hR : R ≤ 1000:=by omega
   have hC : C ≤ 1000:=by omega
   have HSM:=Aside0.mk (same9_self k0 k1 k2 k3 k4 k5 k6 R C v t (by have:=HL.out;omega) (by have:=HL.out;omega) 1000 (by have:=HL.out;omega))
   have HBK:=Aside0.mk (show vs.map Flt.ubits = v from by
    rw [HVS.out,List.map_map]
    refine (List.map_congr_left fun y hy=>?_).trans (List.map_id v)
    have:=wf_u64 (HV.out y hy)
    show ((y.toNat : Nat) : Int) = y
    omega)
   clear h1 h2 h3 h4 h5
   go_wp2_with (fail)
   clear p7 p8 p9 e1 e2 e3 e4 e5
   go_loopw [74] (fun v74 w'=>∃ j : Nat,j ≤ C ∧ v74 = .int .i64 j ∧ Aside0 (St w w' g k0 k1 k2 k3 k4 k5 k6 R C A9 A10 Av At c9 c10 cv ct v t vs)) (fun u _=>C - (intOf u).toNat)
   case atStart=>exact ⟨0,by omega,rfl,S3⟩
   case round =>
    obtain ⟨j,hj,rfl,SJ⟩:=hrel
    clear S3
    by_cases hlt : j < C
    ·have d0 : decide ((j : Int) < (C : Int)) = true:=decide_eq_true (by omega)
     obtain ⟨c1,c2,c3⟩:=cut_in HS.out hlt
     have hcl:=col_length HS.out hlt
     have hmid : j * R ≤ (j + 1) * R:=Nat.mul_le_mul_right R (Nat.le_succ j)
     obtain ⟨lo,hlo⟩ : ∃ lo,lo = j * R:=⟨_,rfl⟩
     obtain ⟨hi,hhi⟩ : ∃ hi,hi = (j + 1) * R:=⟨_,rfl⟩
     have HCF:=Aside0.mk (column_f (j:=j) k0 k1 k2 k3 k4 k5 k6 vs t HS.out hlt (by have:=HVL.out;omega))
     have hcdef : col R vs j = (vs.take hi).drop lo:=by rw [hlo,hhi];rfl
     rw [← hlo] at c1 hmid
     rw [← hhi] at c2 c3 hmid
     have c4 : wrap64 (((j : Int) + 1) * (R : Int)) = (hi : Int):=by rw [← c2,wrap_in (i:=(j : Int) + 1) (by omega) (by omega)]
     obtain ⟨cl,hcl0⟩ : ∃ cl,cl = (vs.take hi).drop lo:=⟨_,rfl⟩
     rw [hcdef,← hcl0] at HCF hcl
     have HMID:=Aside0.mk hmid
     have HC3:=Aside0.mk c3
     have HCL:=Aside0.mk hcl0
     have HLEN:=Aside0.mk hcl
     clear hlo hhi hcdef hcl0 hmid c3 hcl
     have q0:=SJ.out.d.c0
     have q1:=SJ.out.d.c1
     have q2:=SJ.out.d.c2
     have q3:=SJ.out.d.c3
     have q4:=SJ.out.d.c4
     have q5:=SJ.out.d.c5
     have q6:=SJ.out.d.c6
     have q7:=SJ.out.d.c7
     have q8:=SJ.out.d.c8
     have q9:=SJ.out.d.c9
     have q10:=SJ.out.d.c10
     go_wp2_with (fail)
     refine (dataset_Column.calls k0 k1 k2 k3 k4 k5 k6 R C Av cv vs At ct t j cl _ SJ.out.fv SJ.out.hcv SJ.out.ft SJ.out.hct HCF.out).mono ?_
     rintro e w1 ⟨u1,rfl,hR1,hb⟩
     obtain ⟨A1,c11,hu1,hc1,hC1⟩:=Kd.R_reads hR1
     obtain rfl : u1 = .slice A1 R c11:=by rw [hu1,HLEN.out]
     have S1:=Aside0.mk (SJ.out.step hb)
     have HR1:=Aside0.mk hR1
     have HC1:=Aside0.mk (And.intro hc1 hC1)
     have HB1:=Aside0.mk hb
     clear q0 q1 q2 q3 q4 q5 q6 q7 q8 q9 q10
     clear hu1 hc1 hC1 hR1 hb
     obtain ⟨A2,c22,hcut,hcc,hCC⟩:=cut_f (W0:=w1) (A:=Av) (c:=cv) (l:=vs) lo hi HMID.out HC3.out S1.out.hcv S1.out.fv
     rw [← HCL.out] at hcut hcc hCC
     have HLEN2:=Aside0.mk (And.intro hcc hCC)
     clear hcc hCC
     rw [HLEN.out] at hcut
     have q9:=S1.out.d.c9
     have p7:=S1.out.p.c7
     go_wp2_with (fail)
     clear q9 p7 hcut
     have HSS:=Aside0.mk (same6_self cl (by have:=HLEN.out;omega) 1001 (by have:=HLEN.out;omega))
     have CS:=hornbeamref06_Same.calls 1001 A1 c11 cl A2 c22 cl true w1 HC1.out.2 HC1.out.1 HLEN2.out.2 HLEN2.out.1 HSS.out
     rw [HLEN.out] at CS
     refine CS.mono ?_
     clear CS
     rintro e w2 ⟨rfl,hb⟩
     have S2:=Aside0.mk (S1.out.step hb)
     have HB2:=Aside0.mk (below_step HB1.out hb)
     have HR2:=Aside0.mk (Kd.R_below HR1.out hb)
     clear hb S1 HR1 HC1 HLEN2 HSS HB1 c1 c2 c4
     go_wp2_with (fail)
     obtain ⟨n0,hn0⟩ : ∃ n0,n0 = wr.heap.size:=⟨_,rfl⟩
     obtain ⟨wj,hwj⟩ : ∃ wj,wj = wr:=⟨_,rfl⟩
     rw [← hwj] at HB2 HR2 SJ
     clear hwj hn0
     go_loopw [97] (fun v97 w'=>∃ (i : Nat) (l : List Nat),i ≤ R ∧ v97 = .int .i64 i ∧ Aside0 (Kd.R Flt.kf 36 w' wj.heap.size (fun _=>True) (.slice A1 R c11) l) ∧ Aside0 (Below wj.heap.size wj w')) (fun u _=>R - (intOf u).toNat)
     case atStart=>exact ⟨0,cl,by omega,rfl,HR2,HB2⟩
     case round =>
      obtain ⟨i,l,hi1,rfl,HRI,HBI⟩:=hrel
      clear HR2 HB2 S2
      by_cases hil : i < R
      ·have d1 : decide ((i : Int) < (R : Int)) = true:=decide_eq_true (by omega)
       obtain ⟨gb,cap,he,hgb,hgl,_⟩:=Kd.R_form HRI.out (by have:=(Kd.R_reads' HRI.out).1;omega)
       injection he with e1 e2 e3
       subst e1
       subst e3
       obtain ⟨hx,hf⟩:=Kd.R_celln (0 : Nat) HRI.out (i : Int) (by omega) (by omega)
       have HP:=Aside0.mk (Kd.R_putg HRI.out (i : Int) 4635118810238550016).1
       simp only [Int.toNat_natCast] at hx hf HP
       have HGB:=Aside0.mk hgb
       clear e2 hgb hgl
       go_wp2
       exact ⟨⟨i + 1,_,by omega,by go_num,HP,⟨below_set HBI.out HGB.out⟩⟩,by simp [intOf];omega⟩
      ·have d1 : decide ((i : Int) < (R : Int)) = false:=decide_eq_false (by omega)
       have S7:=Aside0.mk (SJ.out.step HBI.out)
       go_wp2
       exact ⟨⟨j + 1,by omega,by go_num,S7⟩,by simp [intOf];omega⟩
    ·have d0 : decide ((j : Int) < (C : Int)) = false:=decide_eq_false (by omega)
     have p7:=SJ.out.p.c7
     go_wp2_with (fail)
     clear p7 d0
     go_loopw [107] (fun v107 w'=>∃ i : Nat,i ≤ R ∧ v107 = .int .i64 i ∧ Aside0 (St w w' g k0 k1 k2 k3 k4 k5 k6 R C A9 A10 Av At c9 c10 cv ct v t vs)) (fun u _=>R - (intOf u).toNat)
     case atStart=>exact ⟨0,by omega,rfl,SJ⟩
     case round =>
      obtain ⟨i,hi,rfl,S9⟩:=hrel
      clear SJ
      by_cases hil : i < R
      ·have d0 : decide ((i : Int) < (R : Int)) = true:=decide_eq_true (by omega)
       have HRF:=Aside0.mk (row_f (R:=R) (C:=C) (i:=i) k0 k1 k2 k3 k4 k5 k6 vs t 1100 (by omega) HS.out hil)
       have HRL:=Aside0.mk (row_length R C vs i)
       obtain ⟨rl,hrl⟩ : ∃ rl,rl = row R C vs i:=⟨_,rfl⟩
       rw [← hrl] at HRF HRL
       have HRD:=Aside0.mk hrl
       clear hrl
       have q0:=S9.out.d.c0
       have q1:=S9.out.d.c1
       have q2:=S9.out.d.c2
       have q3:=S9.out.d.c3
       have q4:=S9.out.d.c4
       have q5:=S9.out.d.c5
       have q6:=S9.out.d.c6
       have q7:=S9.out.d.c7
       have q8:=S9.out.d.c8
       have q9:=S9.out.d.c9
       have q10:=S9.out.d.c10
       go_wp2_with (fail)
       refine (dataset_Row.calls 1100 k0 k1 k2 k3 k4 k5 k6 R C Av cv vs At ct t i rl _ S9.out.fv S9.out.hcv S9.out.ft S9.out.hct HRF.out).mono ?_
       rintro e w1 ⟨u1,rfl,hR1,hb⟩
       obtain ⟨A1,c11,hu1,hc1,hC1⟩:=Kd.R_reads hR1
       obtain rfl : u1 = .slice A1 C c11:=by rw [hu1,HRL.out]
       have S1:=Aside0.mk (S9.out.step hb)
       rw [HRL.out] at hC1
       have HC1:=Aside0.mk hC1
       clear q0 q1 q2 q3 q4 q5 q6 q7 q8 q9 q10
       clear hu1 hc1 hC1 hR1 hb S9
       have p8:=S1.out.p.c8
       have dn : ((C : Int) != (C : Int)) = false:=by simp
       go_wp2_with (fail)
       clear p8 dn
       obtain ⟨wj,hwj⟩ : ∃ wj,wj = w1:=⟨_,rfl⟩
       rw [← hwj] at S1 HC1
       have HBJ:=Aside0.mk (show Below wj.heap.size wj w1 by rw [hwj];exact Below.refl _ _)
       clear hwj
       go_loopw [120] (fun v120 w'=>∃ q : Nat,q ≤ C ∧ v120 = .int .i64 q ∧ Aside0 (Below wj.heap.size wj w')) (fun u _=>C - (intOf u).toNat)
       case atStart=>exact ⟨0,by omega,rfl,HBJ⟩
       case round =>
        obtain ⟨q,hq,rfl,HBQ⟩:=hrel
        clear HBJ
        by_cases hql : q < C
        ·have d1 : decide ((q : Int) < (C : Int)) = true:=decide_eq_true (by omega)
         obtain ⟨ad,ea,hx⟩:=Flt.at_kf (Kd.C_below HC1.out HBQ.out) (q : Int) (by omega) (by omega)
         cases ea
         simp only [Int.toNat_natCast] at hx
         obtain ⟨fq,hfq⟩ : ∃ fq,rdOf 0 rl (q : Int) = fq:=⟨_,rfl⟩
         rw [hfq] at hx
         go_upto_region 27 with (fail)
         clear hx
         obtain ⟨pl1,pl2⟩:=place_in (i:=i) HS.out hql hil
         obtain ⟨lo,hlo⟩ : ∃ lo,lo = q * R + i:=⟨_,rfl⟩
         rw [← hlo] at pl1 pl2
         rw [HVV.out] at pl2
         have hval : Flt.ubits (rdOf 0 rl (q : Int)) = rd v (lo : Int):=by
          have hw:=wf_u64 (HV.out _ (List.getElem_mem pl2))
          rw [rd_nat v _ pl2,HRD.out]
          show ((rdOf 0 (row R C vs i) (q : Int) : Nat) : Int) = _
          rw [show rdOf 0 (row R C vs i) (q : Int) = (row R C vs i).getD q 0 from rfl,row_get _ hql,← hlo,HVS.out]
          simp only [List.getD_eq_getElem?_getD,List.getElem?_map,List.getElem?_eq_getElem pl2,Option.map_some,Option.getD_some]
          show ((Int.toNat _ : Nat) : Int) = _
          omega
         rw [hfq] at hval
         have dv : (Flt.ubits fq != rd v (lo : Int)) = false:=by rw [hval];simp
         have HS5:=Aside0.mk (S1.out.step HBQ.out)
         have HLO:=Aside0.mk (And.intro hlo pl2)
         clear hlo hval hfq
         obtain ⟨adv,eav,_⟩:=Kd.at_int HR9.out (lo : Int) (by omega) (by omega)
         subst eav
         refine start_ (n:=13) (S:=fun W=>Pl W w.heap.size k0 k1 k2 k3 k4 k5 k6 R C (.slice (some adv) v.length c9) A10 t.length c10 ∧ Below w.heap.size w W) (ds:=[]) #[false,false,false,false,false,false,false,false,false,false,false,false,false] (by kernel_rfl) rfl rfl ⟨HS5.out.p,below_drew1 HS5.out.b⟩ (fun hHeld=>?_)
         refine pure_ (i:=0) (N:=some 125) (v:=?_) (a':=?_) #[true,false,false,false,false,false,false,false,false,false,false,false,false] rfl rfl (by kernel_rfl) (fun _ _ _ h=>h) (Or.inl ⟨by rfl,?_⟩) ?_ ?_
         rotate_left
         ·intro w'
          go_simp
          with_reducible rfl
         rotate_left
         ·simp only [Act.put,List.setIfInBounds_toArray,List.set_cons_zero,List.set_cons_succ,i64_w,i32_w]
          rfl
         refine pure_ (i:=2) (N:=some 127) (v:=?_) (a':=?_) #[true,false,true,false,false,false,false,false,false,false,false,false,false] rfl rfl (by kernel_rfl) (fun _ _ _ h=>h) (Or.inl ⟨by rfl,?_⟩) ?_ ?_
         rotate_left
         ·intro w'
          go_simp
          with_reducible rfl
         rotate_left
         ·simp only [Act.put,List.setIfInBounds_toArray,List.set_cons_zero,List.set_cons_succ,i64_w,i32_w]
          rfl
         refine pure_ (i:=4) (N:=some 129) (v:=?_) (a':=?_) #[true,false,true,false,true,false,false,false,false,false,false,false,false] rfl rfl (by kernel_rfl) (fun _ _ _ h=>h) (Or.inl ⟨by rfl,?_⟩) ?_ ?_
         rotate_left
         ·intro w'
          go_simp
          with_reducible rfl
         rotate_left
         ·simp only [Act.put,List.setIfInBounds_toArray,List.set_cons_zero,List.set_cons_succ,i64_w,i32_w]
          rfl
         refine pure_ (i:=5) (N:=some 130) (v:=?_) (a':=?_) #[true,false,true,false,true,true,false,false,false,false,false,false,false] rfl rfl (by kernel_rfl) (fun _ _ _ h=>h) (Or.inl ⟨by rfl,?_⟩) ?_ ?_
         rotate_left
         ·intro w'
          go_simp
          with_reducible rfl
         rotate_left
         ·simp only [Act.put,List.setIfInBounds_toArray,List.set_cons_zero,List.set_cons_succ,i64_w,i32_w]
          rfl
         refine pure_ (i:=8) (N:=some 133) (v:=?_) (a':=?_) #[true,false,true,false,true,true,false,false,true,false,false,false,false] rfl rfl (by kernel_rfl) (fun _ _ _ h=>h) (Or.inl ⟨by rfl,?_⟩) ?_ ?_
         rotate_left
         ·intro w'
          go_simp
          with_reducible rfl
         rotate_left
         ·simp only [Act.put,List.setIfInBounds_toArray,List.set_cons_zero,List.set_cons_succ,i64_w,i32_w]
          rfl
         refine take_ (i:=1) (N:=some 126) (v:=?_) (a':=?_) #[true,true,true,false,true,true,false,false,true,false,false,false,false] rfl rfl (by kernel_rfl) (fun _ _ _ h=>h) (Or.inl ⟨by rfl,?_⟩) hHeld ?_ ?_
         rotate_left
         ·intro w' s
          skip
          clear s
          go_simp
          with_reducible rfl
         rotate_left
         ·simp only [Act.put,List.setIfInBounds_toArray,List.set_cons_zero,List.set_cons_succ,i64_w,i32_w]
          rfl
         refine take_ (i:=3) (N:=some 128) (v:=?_) (a':=?_) #[true,true,true,true,true,true,false,false,true,false,false,false,false] rfl rfl (by kernel_rfl) (fun _ _ _ h=>h) (Or.inl ⟨by rfl,?_⟩) hHeld ?_ ?_
         rotate_left
         ·intro w' s
          have p7:=s.1.c7
          have p9:=s.1.c9
          obtain ⟨ad',e0',hx1⟩:=Kd.at_int (Kd.C_below HR9.out s.2) (lo : Int) (by omega) (by have:=HLO.out.2;omega)
          cases e0'
          simp only [Int.toNat_natCast] at hx1
          clear s
          go_simp
          with_reducible rfl
         rotate_left
         ·simp only [Act.put,List.setIfInBounds_toArray,List.set_cons_zero,List.set_cons_succ,i64_w,i32_w]
          rfl
         refine take_ (i:=6) (N:=some 131) (v:=?_) (a':=?_) #[true,true,true,true,true,true,true,false,true,false,false,false,false] rfl rfl (by kernel_rfl) (fun _ _ _ h=>h) (Or.inl ⟨by rfl,?_⟩) hHeld ?_ ?_
         rotate_left
         ·intro w' s
          have p7:=s.1.c7
          have p9:=s.1.c9
          obtain ⟨ad',e0',hx1⟩:=Kd.at_int (Kd.C_below HR9.out s.2) (lo : Int) (by omega) (by have:=HLO.out.2;omega)
          cases e0'
          simp only [Int.toNat_natCast] at hx1
          clear s
          go_simp
          with_reducible rfl
         rotate_left
         ·simp only [Act.put,List.setIfInBounds_toArray,List.set_cons_zero,List.set_cons_succ,i64_w,i32_w]
          rfl
         refine pure_ (i:=7) (N:=some 132) (v:=?_) (a':=?_) #[true,true,true,true,true,true,true,true,true,false,false,false,false] rfl rfl (by kernel_rfl) (fun _ _ _ h=>h) (Or.inl ⟨by rfl,?_⟩) ?_ ?_
         rotate_left
         ·intro w'
          go_simp
          with_reducible rfl
         rotate_left
         ·simp only [Act.put,List.setIfInBounds_toArray,List.set_cons_zero,List.set_cons_succ,i64_w,i32_w]
          rfl
         refine pure_ (i:=9) (N:=some 134) (v:=?_) (a':=?_) #[true,true,true,true,true,true,true,true,true,true,false,false,false] rfl rfl (by kernel_rfl) (fun _ _ _ h=>h) (Or.inl ⟨by rfl,?_⟩) ?_ ?_
         rotate_left
         ·intro w'
          go_simp
          with_reducible rfl
         rotate_left
         ·simp only [Act.put,List.setIfInBounds_toArray,List.set_cons_zero,List.set_cons_succ,i64_w,i32_w]
          rfl
         refine pure_ (i:=10) (N:=some 135) (v:=?_) (a':=?_) #[true,true,true,true,true,true,true,true,true,true,true,false,false] rfl rfl (by kernel_rfl) (fun _ _ _ h=>h) (Or.inl ⟨by rfl,?_⟩) ?_ ?_
         rotate_left
         ·intro w'
          go_simp
          with_reducible rfl
         rotate_left
         ·simp only [Act.put,List.setIfInBounds_toArray,List.set_cons_zero,List.set_cons_succ,i64_w,i32_w]
          rfl
         refine take_ (i:=11) (N:=some 136) (v:=?_) (a':=?_) #[true,true,true,true,true,true,true,true,true,true,true,true,false] rfl rfl (by kernel_rfl) (fun _ _ _ h=>h) (Or.inl ⟨by rfl,?_⟩) hHeld ?_ ?_
         rotate_left
         ·intro w' s
          have p7:=s.1.c7
          have p9:=s.1.c9
          obtain ⟨ad',e0',hx1⟩:=Kd.at_int (Kd.C_below HR9.out s.2) (lo : Int) (by omega) (by have:=HLO.out.2;omega)
          cases e0'
          simp only [Int.toNat_natCast] at hx1
          clear s
          go_simp
          with_reducible rfl
         rotate_left
         ·simp only [Act.put,List.setIfInBounds_toArray,List.set_cons_zero,List.set_cons_succ,i64_w,i32_w]
          rfl
         refine pure_ (i:=12) (N:=some 137) (v:=?_) (a':=?_) #[true,true,true,true,true,true,true,true,true,true,true,true,true] rfl rfl (by kernel_rfl) (fun _ _ _ h=>h) (Or.inl ⟨by rfl,?_⟩) ?_ ?_
         rotate_left
         ·intro w'
          go_simp
          with_reducible rfl
         rotate_left
         ·simp only [Act.put,List.setIfInBounds_toArray,List.set_cons_zero,List.set_cons_succ,i64_w,i32_w]
          rfl
         refine done_ (by kernel_rfl) ?_
         go_wp2
         exact ⟨⟨q + 1,by omega,by go_num,⟨below_drew1 HBQ.out⟩⟩,by simp [intOf];omega⟩
        ·have d1 : decide ((q : Int) < (C : Int)) = false:=decide_eq_false (by omega)
         have S7:=Aside0.mk (S1.out.step HBQ.out)
         go_wp2
         exact ⟨⟨i + 1,by omega,by go_num,S7⟩,by simp [intOf];omega⟩
      ·have d0 : decide ((i : Int) < (R : Int)) = false:=decide_eq_false (by omega)
       go_upto_region 31 with (fail)
       clear d0
       refine start_ (n:=42) (S:=fun W=>Pl W w.heap.size k0 k1 k2 k3 k4 k5 k6 R C (.slice A9 v.length c9) A10 t.length c10 ∧ Dat W g k0 k1 k2 k3 k4 k5 k6 R C Av At vs.length cv t.length ct) (ds:=[]) #[false,false,false,false,false,false,false,false,false,false,false,false,false,false,false,false,false,false,false,false,false,false,false,false,false,false,false,false,false,false,false,false,false,false,false,false,false,false,false,false,false,false] (by kernel_rfl) rfl rfl ⟨S9.out.p,S9.out.d⟩ (fun hHeld=>?_);refine with_tabW tab31 bits31 (fun HT_ HW_=>?_)
       have S11:=Aside0.mk (S9.out.step (below_drew (Below.refl _ _)))
       clear S9
       generalize wr.drew = w9 at S11 hHeld ⊢
       refine one_ (i:=0) (N:=some 140) y0 rfl rfl (one_of HT_.out (by kernel_rfl)) (by decide) (fun K hK=>?_)
       refine goes_ Try.func13 (by kernel_rfl) rfl #[] (by rfl) rfl rfl (by (try simp only [List.map_toArray,List.map_cons,List.map_nil]);first|done|rfl) ?_
       refine (FData09.fixed_calls _).mono ?_
       rintro e w3 ⟨rfl,hb⟩
       refine ⟨_,rfl,?_⟩
       have S12:=Aside0.mk (S11.out.step hb)
       clear hb hHeld
       refine hK.out _ _ ⟨S12.out.p,S12.out.d⟩ (fun hHeld=>?_)
       clear hK K
       refine norm_ (a':=?_) ?_ ?_
       rotate_left
       ·show Act.put _ (some 140) _ = _
        simp only [Act.put,List.setIfInBounds_toArray,List.set_cons_zero,List.set_cons_succ,i64_w,i32_w]
        rfl
       refine pure_ (i:=1) (N:=some 141) (v:=?_) (a':=?_) y1 rfl rfl (any_of HT_.out (by kernel_rfl)) (fun _ _ _ h=>h) (Or.inl ⟨by rfl,?_⟩) ?_ ?_
       rotate_left
       ·intro w'
        go_simp
        with_reducible rfl
       rotate_left
       ·simp only [Act.put,List.setIfInBounds_toArray,List.set_cons_zero,List.set_cons_succ,i64_w,i32_w]
        rfl
       refine pure_ (i:=2) (N:=some 142) (v:=?_) (a':=?_) y2 rfl rfl (any_of HT_.out (by kernel_rfl)) (fun _ _ _ h=>h) (Or.inl ⟨by rfl,?_⟩) ?_ ?_
       rotate_left
       ·intro w'
        go_simp
        with_reducible rfl
       rotate_left
       ·simp only [Act.put,List.setIfInBounds_toArray,List.set_cons_zero,List.set_cons_succ,i64_w,i32_w]
        rfl
       by_cases hx0 : 0 ≤ x
       ·have dx0 : decide (x ≥ 0) = true:=decide_eq_true hx0
        refine pure_ (i:=3) (N:=some 143) (v:=?_) (a':=?_) y3 rfl rfl (any_of HT_.out (by kernel_rfl)) (fun _ _ _ h=>h) (Or.inl ⟨by rfl,?_⟩) ?_ ?_
        rotate_left
        ·intro w'
         go_simp
         with_reducible rfl
        rotate_left
        ·simp only [Act.put,List.setIfInBounds_toArray,List.set_cons_zero,List.set_cons_succ,i64_w,i32_w]
         rfl
        refine pure_ (i:=4) (N:=some 144) (v:=?_) (a':=?_) y4 rfl rfl (any_of HT_.out (by kernel_rfl)) (fun _ _ _ h=>h) (Or.inl ⟨by rfl,?_⟩) ?_ ?_
        rotate_left
        ·intro w'
         go_simp
         with_reducible rfl
        rotate_left
        ·simp only [Act.put,List.setIfInBounds_toArray,List.set_cons_zero,List.set_cons_succ,i64_w,i32_w]
         rfl
        refine pure_ (i:=5) (N:=some 145) (v:=?_) (a':=?_) y5 rfl rfl (any_of HT_.out (by kernel_rfl)) (fun _ _ _ h=>h) (Or.inl ⟨by rfl,?_⟩) ?_ ?_
        rotate_left
        ·intro w'
         go_simp
         with_reducible rfl
        rotate_left
        ·simp only [Act.put,List.setIfInBounds_toArray,List.set_cons_zero,List.set_cons_succ,i64_w,i32_w]
         rfl
        refine pure_ (i:=6) (N:=some 146) (v:=?_) (a':=?_) y6 rfl rfl (any_of HT_.out (by kernel_rfl)) (fun _ _ _ h=>h) (Or.inl ⟨by rfl,?_⟩) ?_ ?_
        rotate_left
        ·intro w'
         go_simp
         with_reducible rfl
        rotate_left
        ·simp only [Act.put,List.setIfInBounds_toArray,List.set_cons_zero,List.set_cons_succ,i64_w,i32_w]
         rfl
        refine take_ (i:=7) (N:=some 147) (v:=?_) (a':=?_) y7 rfl rfl (take_ofW HT_.out HW_.out (by kernel_rfl)) (fun _ _ _ h=>h) (Or.inl ⟨by rfl,?_⟩) hHeld ?_ ?_
        rotate_left
        ·intro w' s
         have p8:=s.1.c8
         clear s
         go_simp
         with_reducible rfl
        rotate_left
        ·simp only [Act.put,List.setIfInBounds_toArray,List.set_cons_zero,List.set_cons_succ,i64_w,i32_w]
         rfl
        by_cases hx1 : x < (C : Int)
        ·have dx1 : decide (x < (C : Int)) = true:=decide_eq_true hx1
         refine pure_ (i:=8) (N:=some 148) (v:=?_) (a':=?_) y8 rfl rfl (any_of HT_.out (by kernel_rfl)) (fun _ _ _ h=>h) (Or.inl ⟨by rfl,?_⟩) ?_ ?_
         rotate_left
         ·intro w'
          go_simp
          with_reducible rfl
         rotate_left
         ·simp only [Act.put,List.setIfInBounds_toArray,List.set_cons_zero,List.set_cons_succ,i64_w,i32_w]
          rfl
         refine pure_ (i:=9) (N:=some 149) (v:=?_) (a':=?_) y9 rfl rfl (any_of HT_.out (by kernel_rfl)) (fun _ _ _ h=>h) (Or.inl ⟨by rfl,?_⟩) ?_ ?_
         rotate_left
         ·intro w'
          go_simp
          with_reducible rfl
         rotate_left
         ·simp only [Act.put,List.setIfInBounds_toArray,List.set_cons_zero,List.set_cons_succ,i64_w,i32_w]
          rfl
         refine pure_ (i:=10) (N:=some 150) (v:=?_) (a':=?_) y10 rfl rfl (any_of HT_.out (by kernel_rfl)) (fun _ _ _ h=>h) (Or.inl ⟨by rfl,?_⟩) ?_ ?_
         rotate_left
         ·intro w'
          go_simp
          with_reducible rfl
         rotate_left
         ·simp only [Act.put,List.setIfInBounds_toArray,List.set_cons_zero,List.set_cons_succ,i64_w,i32_w]
          rfl
         refine pure_ (i:=11) (N:=some 151) (v:=undef) (a':=?_) y11 rfl rfl (any_of HT_.out (by kernel_rfl)) (fun _ _ _ h=>h) (Or.inr ⟨by rfl,rfl⟩) ?_ ?_
         rotate_left
         ·simp only [Act.put,List.setIfInBounds_toArray,List.set_cons_zero,List.set_cons_succ,i64_w,i32_w]
          rfl
         refine pure_ (i:=12) (N:=some 152) (v:=undef) (a':=?_) y12 rfl rfl (any_of HT_.out (by kernel_rfl)) (fun _ _ _ h=>h) (Or.inr ⟨by rfl,rfl⟩) ?_ ?_
         rotate_left
         ·simp only [Act.put,List.setIfInBounds_toArray,List.set_cons_zero,List.set_cons_succ,i64_w,i32_w]
          rfl
         refine pure_ (i:=13) (N:=some 153) (v:=undef) (a':=?_) y13 rfl rfl (any_of HT_.out (by kernel_rfl)) (fun _ _ _ h=>h) (Or.inr ⟨by rfl,rfl⟩) ?_ ?_
         rotate_left
         ·simp only [Act.put,List.setIfInBounds_toArray,List.set_cons_zero,List.set_cons_succ,i64_w,i32_w]
          rfl
         refine pure_ (i:=14) (N:=some 154) (v:=undef) (a':=?_) y14 rfl rfl (any_of HT_.out (by kernel_rfl)) (fun _ _ _ h=>h) (Or.inr ⟨by rfl,rfl⟩) ?_ ?_
         rotate_left
         ·simp only [Act.put,List.setIfInBounds_toArray,List.set_cons_zero,List.set_cons_succ,i64_w,i32_w]
          rfl
         refine pure_ (i:=15) (N:=some 155) (v:=undef) (a':=?_) y15 rfl rfl (any_of HT_.out (by kernel_rfl)) (fun _ _ _ h=>h) (Or.inr ⟨by rfl,rfl⟩) ?_ ?_
         rotate_left
         ·simp only [Act.put,List.setIfInBounds_toArray,List.set_cons_zero,List.set_cons_succ,i64_w,i32_w]
          rfl
         refine pure_ (i:=16) (N:=some 156) (v:=?_) (a':=?_) y16 rfl rfl (any_of HT_.out (by kernel_rfl)) (fun _ _ _ h=>h) (Or.inl ⟨by rfl,?_⟩) ?_ ?_
         rotate_left
         ·intro w'
          go_simp
          with_reducible rfl
         rotate_left
         ·simp only [Act.put,List.setIfInBounds_toArray,List.set_cons_zero,List.set_cons_succ,i64_w,i32_w]
          rfl
         refine pure_ (i:=17) (N:=some 157) (v:=?_) (a':=?_) y17 rfl rfl (any_of HT_.out (by kernel_rfl)) (fun _ _ _ h=>h) (Or.inl ⟨by rfl,?_⟩) ?_ ?_
         rotate_left
         ·intro w'
          go_simp
          with_reducible rfl
         rotate_left
         ·simp only [Act.put,List.setIfInBounds_toArray,List.set_cons_zero,List.set_cons_succ,i64_w,i32_w]
          rfl
         refine pure_ (i:=18) (N:=some 158) (v:=?_) (a':=?_) y18 rfl rfl (any_of HT_.out (by kernel_rfl)) (fun _ _ _ h=>h) (Or.inl ⟨by rfl,?_⟩) ?_ ?_
         rotate_left
         ·intro w'
          go_simp
          with_reducible rfl
         rotate_left
         ·simp only [Act.put,List.setIfInBounds_toArray,List.set_cons_zero,List.set_cons_succ,i64_w,i32_w]
          rfl
         refine pure_ (i:=19) (N:=some 159) (v:=?_) (a':=?_) y19 rfl rfl (any_of HT_.out (by kernel_rfl)) (fun _ _ _ h=>h) (Or.inl ⟨by rfl,?_⟩) ?_ ?_
         rotate_left
         ·intro w'
          go_simp
          with_reducible rfl
         rotate_left
         ·simp only [Act.put,List.setIfInBounds_toArray,List.set_cons_zero,List.set_cons_succ,i64_w,i32_w]
          rfl
         refine pure_ (i:=20) (N:=some 160) (v:=?_) (a':=?_) y20 rfl rfl (any_of HT_.out (by kernel_rfl)) (fun _ _ _ h=>h) (Or.inl ⟨by rfl,?_⟩) ?_ ?_
         rotate_left
         ·intro w'
          go_simp
          with_reducible rfl
         rotate_left
         ·simp only [Act.put,List.setIfInBounds_toArray,List.set_cons_zero,List.set_cons_succ,i64_w,i32_w]
          rfl
         refine pure_ (i:=21) (N:=some 161) (v:=?_) (a':=?_) y21 rfl rfl (any_of HT_.out (by kernel_rfl)) (fun _ _ _ h=>h) (Or.inl ⟨by rfl,?_⟩) ?_ ?_
         rotate_left
         ·intro w'
          go_simp
          with_reducible rfl
         rotate_left
         ·simp only [Act.put,List.setIfInBounds_toArray,List.set_cons_zero,List.set_cons_succ,i64_w,i32_w]
          rfl
         refine pure_ (i:=22) (N:=some 162) (v:=?_) (a':=?_) y22 rfl rfl (any_of HT_.out (by kernel_rfl)) (fun _ _ _ h=>h) (Or.inl ⟨by rfl,?_⟩) ?_ ?_
         rotate_left
         ·intro w'
          go_simp
          with_reducible rfl
         rotate_left
         ·simp only [Act.put,List.setIfInBounds_toArray,List.set_cons_zero,List.set_cons_succ,i64_w,i32_w]
          rfl
         refine pure_ (i:=23) (N:=some 163) (v:=?_) (a':=?_) y23 rfl rfl (any_of HT_.out (by kernel_rfl)) (fun _ _ _ h=>h) (Or.inl ⟨by rfl,?_⟩) ?_ ?_
         rotate_left
         ·intro w'
          go_simp
          with_reducible rfl
         rotate_left
         ·simp only [Act.put,List.setIfInBounds_toArray,List.set_cons_zero,List.set_cons_succ,i64_w,i32_w]
          rfl
         refine take_ (i:=24) (N:=some 164) (v:=?_) (a':=?_) y24 rfl rfl (take_ofW HT_.out HW_.out (by kernel_rfl)) (fun _ _ _ h=>h) (Or.inl ⟨by rfl,?_⟩) hHeld ?_ ?_
         rotate_left
         ·intro w' s
          have p7:=s.1.c7
          clear s
          go_simp
          with_reducible rfl
         rotate_left
         ·simp only [Act.put,List.setIfInBounds_toArray,List.set_cons_zero,List.set_cons_succ,i64_w,i32_w]
          rfl
         by_cases hx2 : x < (R : Int)
         ·have dx2 : decide (x < (R : Int)) = true:=decide_eq_true hx2
          refine pure_ (i:=25) (N:=some 165) (v:=?_) (a':=?_) y25 rfl rfl (any_of HT_.out (by kernel_rfl)) (fun _ _ _ h=>h) (Or.inl ⟨by rfl,?_⟩) ?_ ?_
          rotate_left
          ·intro w'
           go_simp
           with_reducible rfl
          rotate_left
          ·simp only [Act.put,List.setIfInBounds_toArray,List.set_cons_zero,List.set_cons_succ,i64_w,i32_w]
           rfl
          refine pure_ (i:=26) (N:=some 166) (v:=?_) (a':=?_) y26 rfl rfl (any_of HT_.out (by kernel_rfl)) (fun _ _ _ h=>h) (Or.inl ⟨by rfl,?_⟩) ?_ ?_
          rotate_left
          ·intro w'
           go_simp
           with_reducible rfl
          rotate_left
          ·simp only [Act.put,List.setIfInBounds_toArray,List.set_cons_zero,List.set_cons_succ,i64_w,i32_w]
           rfl
          refine pure_ (i:=27) (N:=some 167) (v:=?_) (a':=?_) y27 rfl rfl (any_of HT_.out (by kernel_rfl)) (fun _ _ _ h=>h) (Or.inl ⟨by rfl,?_⟩) ?_ ?_
          rotate_left
          ·intro w'
           go_simp
           with_reducible rfl
          rotate_left
          ·simp only [Act.put,List.setIfInBounds_toArray,List.set_cons_zero,List.set_cons_succ,i64_w,i32_w]
           rfl
          refine pure_ (i:=28) (N:=some 168) (v:=undef) (a':=?_) y28 rfl rfl (any_of HT_.out (by kernel_rfl)) (fun _ _ _ h=>h) (Or.inr ⟨by rfl,rfl⟩) ?_ ?_
          rotate_left
          ·simp only [Act.put,List.setIfInBounds_toArray,List.set_cons_zero,List.set_cons_succ,i64_w,i32_w]
           rfl
          refine pure_ (i:=29) (N:=some 169) (v:=undef) (a':=?_) y29 rfl rfl (any_of HT_.out (by kernel_rfl)) (fun _ _ _ h=>h) (Or.inr ⟨by rfl,rfl⟩) ?_ ?_
          rotate_left
          ·simp only [Act.put,List.setIfInBounds_toArray,List.set_cons_zero,List.set_cons_succ,i64_w,i32_w]
           rfl
          refine pure_ (i:=30) (N:=some 170) (v:=undef) (a':=?_) y30 rfl rfl (any_of HT_.out (by kernel_rfl)) (fun _ _ _ h=>h) (Or.inr ⟨by rfl,rfl⟩) ?_ ?_
          rotate_left
          ·simp only [Act.put,List.setIfInBounds_toArray,List.set_cons_zero,List.set_cons_succ,i64_w,i32_w]
           rfl
          refine pure_ (i:=31) (N:=some 171) (v:=undef) (a':=?_) y31 rfl rfl (any_of HT_.out (by kernel_rfl)) (fun _ _ _ h=>h) (Or.inr ⟨by rfl,rfl⟩) ?_ ?_
          rotate_left
          ·simp only [Act.put,List.setIfInBounds_toArray,List.set_cons_zero,List.set_cons_succ,i64_w,i32_w]
           rfl
          refine pure_ (i:=32) (N:=some 172) (v:=undef) (a':=?_) y32 rfl rfl (any_of HT_.out (by kernel_rfl)) (fun _ _ _ h=>h) (Or.inr ⟨by rfl,rfl⟩) ?_ ?_
          rotate_left
          ·simp only [Act.put,List.setIfInBounds_toArray,List.set_cons_zero,List.set_cons_succ,i64_w,i32_w]
           rfl
          refine pure_ (i:=33) (N:=some 173) (v:=?_) (a':=?_) y33 rfl rfl (any_of HT_.out (by kernel_rfl)) (fun _ _ _ h=>h) (Or.inl ⟨by rfl,?_⟩) ?_ ?_
          rotate_left
          ·intro w'
           go_simp
           with_reducible rfl
          rotate_left
          ·simp only [Act.put,List.setIfInBounds_toArray,List.set_cons_zero,List.set_cons_succ,i64_w,i32_w]
           rfl
          refine pure_ (i:=34) (N:=some 174) (v:=?_) (a':=?_) y34 rfl rfl (any_of HT_.out (by kernel_rfl)) (fun _ _ _ h=>h) (Or.inl ⟨by rfl,?_⟩) ?_ ?_
          rotate_left
          ·intro w'
           go_simp
           with_reducible rfl
          rotate_left
          ·simp only [Act.put,List.setIfInBounds_toArray,List.set_cons_zero,List.set_cons_succ,i64_w,i32_w]
           rfl
          refine pure_ (i:=35) (N:=some 175) (v:=?_) (a':=?_) y35 rfl rfl (any_of HT_.out (by kernel_rfl)) (fun _ _ _ h=>h) (Or.inl ⟨by rfl,?_⟩) ?_ ?_
          rotate_left
          ·intro w'
           go_simp
           with_reducible rfl
          rotate_left
          ·simp only [Act.put,List.setIfInBounds_toArray,List.set_cons_zero,List.set_cons_succ,i64_w,i32_w]
           rfl
          refine take_ (i:=36) (N:=some 176) (v:=?_) (a':=?_) y36 rfl rfl (take_ofW HT_.out HW_.out (by kernel_rfl)) (fun _ _ _ h=>h) (Or.inl ⟨by rfl,?_⟩) hHeld ?_ ?_
          rotate_left
          ·intro w' s
           have q0:=s.2.c0
           have q1:=s.2.c1
           have q2:=s.2.c2
           have q3:=s.2.c3
           have q4:=s.2.c4
           have q5:=s.2.c5
           have q6:=s.2.c6
           have q7:=s.2.c7
           have q8:=s.2.c8
           have q9:=s.2.c9
           have q10:=s.2.c10
           clear s
           go_simp
           with_reducible rfl
          rotate_left
          ·simp only [Act.put,List.setIfInBounds_toArray,List.set_cons_zero,List.set_cons_succ,i64_w,i32_w]
           rfl
          refine take_ (i:=38) (N:=some 178) (v:=?_) (a':=?_) y37 rfl rfl (take_ofW HT_.out HW_.out (by kernel_rfl)) (fun _ _ _ h=>h) (Or.inl ⟨by rfl,?_⟩) hHeld ?_ ?_
          rotate_left
          ·intro w' s
           have p0:=s.1.c0
           have p1:=s.1.c1
           have p2:=s.1.c2
           have p3:=s.1.c3
           have p4:=s.1.c4
           have p5:=s.1.c5
           have p6:=s.1.c6
           have p7:=s.1.c7
           have p8:=s.1.c8
           have p9:=s.1.c9
           have p10:=s.1.c10
           clear s
           go_simp
           with_reducible rfl
          rotate_left
          ·simp only [Act.put,List.setIfInBounds_toArray,List.set_cons_zero,List.set_cons_succ,i64_w,i32_w]
           rfl
          refine one_ (i:=37) (N:=some 177) y38 rfl rfl (one_of HT_.out (by kernel_rfl)) (by decide) (fun K hK=>?_)
          refine goes_ Try.func20 (by kernel_rfl) rfl #[.agg #[.int .i64 k0,.int .i64 k1,.int .i64 k2,.int .i64 k3,.int .i64 k4,.int .i64 k5,.int .i64 k6,.int .i64 R,.int .i64 C,.slice Av vs.length cv,.slice At t.length ct]] (by rfl) rfl rfl (by (try simp only [List.map_toArray,List.map_cons,List.map_nil]);first|done|rfl) ?_
          refine (FDataOf.of_calls k0 k1 k2 k3 k4 k5 k6 R C Av At cv ct t.length vs _ S12.out.fv S12.out.hcv HVL.out).mono ?_
          rintro e w6 ⟨u6,rfl,hR6,hb⟩
          obtain ⟨A6,c6,rfl,hc6,hC6⟩:=Kd.R_reads hR6
          rw [HBK.out] at hc6 hC6 ⊢
          have HC6:=Aside0.mk hC6
          clear hR6 hC6
          refine ⟨_,rfl,?_⟩
          have S13:=Aside0.mk (S12.out.step hb)
          clear hb hHeld
          refine hK.out _ _ ⟨S13.out.p,S13.out.d⟩ (fun hHeld=>?_)
          clear hK K
          refine norm_ (a':=?_) ?_ ?_
          rotate_left
          ·show Act.put _ (some 177) _ = _
           simp only [Act.put,List.setIfInBounds_toArray,List.set_cons_zero,List.set_cons_succ,i64_w,i32_w]
           rfl
          refine one_ (i:=39) (N:=some 179) y39 rfl rfl (one_of HT_.out (by kernel_rfl)) (by decide) (fun K hK=>?_)
          refine goes_ Try.func19 (by kernel_rfl) rfl #[.agg #[.int .i64 k0,.int .i64 k1,.int .i64 k2,.int .i64 k3,.int .i64 k4,.int .i64 k5,.int .i64 k6,.int .i64 R,.int .i64 C,.slice A6 v.length c6,.slice At t.length ct],.agg #[.int .i64 k0,.int .i64 k1,.int .i64 k2,.int .i64 k3,.int .i64 k4,.int .i64 k5,.int .i64 k6,.int .i64 R,.int .i64 C,.slice A9 v.length c9,.slice A10 t.length c10]] (by rfl) rfl rfl (by (try simp only [List.map_toArray,List.map_cons,List.map_nil]);first|done|rfl) ?_
          refine (hornbeamref09_Same.calls 1000 k0 k1 k2 k3 k4 k5 k6 R C A6 c6 v At ct t k0 k1 k2 k3 k4 k5 k6 R C A9 c9 v A10 c10 t true _ HC6.out hc6 S13.out.ft S13.out.hct (Kd.C_below HR9.out S13.out.b) HC9.out (Kd.C_below HR10.out S13.out.b) HC10.out HSM.out).mono ?_
          rintro e w7 ⟨rfl,hb⟩
          refine ⟨_,rfl,?_⟩
          have S14:=Aside0.mk (S13.out.step hb)
          clear hb hHeld
          refine hK.out _ _ ⟨S14.out.p,S14.out.d⟩ (fun hHeld=>?_)
          clear hK K
          refine norm_ (a':=?_) ?_ ?_
          rotate_left
          ·show Act.put _ (some 179) _ = _
           simp only [Act.put,List.setIfInBounds_toArray,List.set_cons_zero,List.set_cons_succ,i64_w,i32_w]
           rfl
          refine pure_ (i:=40) (N:=some 180) (v:=?_) (a':=?_) y40 rfl rfl (any_of HT_.out (by kernel_rfl)) (fun _ _ _ h=>h) (Or.inl ⟨by rfl,?_⟩) ?_ ?_
          rotate_left
          ·intro w'
           go_simp
           with_reducible rfl
          rotate_left
          ·simp only [Act.put,List.setIfInBounds_toArray,List.set_cons_zero,List.set_cons_succ,i64_w,i32_w]
           rfl
          refine pure_ (i:=41) (N:=some 4) (v:=?_) (a':=?_) y41 rfl rfl (any_of HT_.out (by kernel_rfl)) (fun _ _ _ h=>h) (Or.inl ⟨by rfl,?_⟩) ?_ ?_
          rotate_left
          ·intro w'
           go_simp
           with_reducible rfl
          rotate_left
          ·simp only [Act.put,List.setIfInBounds_toArray,List.set_cons_zero,List.set_cons_succ,i64_w,i32_w]
           rfl
          refine done_ (done_of HT_.out (by kernel_rfl)) ?_
          go_wp2
          go_ret
          exact ⟨rfl,S14.out.b⟩
         ·have dx2 : decide (x < (R : Int)) = false:=decide_eq_false hx2
          refine pure_ (i:=25) (N:=some 165) (v:=?_) (a':=?_) y25 rfl rfl (any_of HT_.out (by kernel_rfl)) (fun _ _ _ h=>h) (Or.inl ⟨by rfl,?_⟩) ?_ ?_
          rotate_left
          ·intro w'
           go_simp
           with_reducible rfl
          rotate_left
          ·simp only [Act.put,List.setIfInBounds_toArray,List.set_cons_zero,List.set_cons_succ,i64_w,i32_w]
           rfl
          refine pure_ (i:=26) (N:=some 166) (v:=?_) (a':=?_) y26 rfl rfl (any_of HT_.out (by kernel_rfl)) (fun _ _ _ h=>h) (Or.inl ⟨by rfl,?_⟩) ?_ ?_
          rotate_left
          ·intro w'
           go_simp
           with_reducible rfl
          rotate_left
          ·simp only [Act.put,List.setIfInBounds_toArray,List.set_cons_zero,List.set_cons_succ,i64_w,i32_w]
           rfl
          refine pure_ (i:=27) (N:=some 167) (v:=?_) (a':=?_) y27 rfl rfl (any_of HT_.out (by kernel_rfl)) (fun _ _ _ h=>h) (Or.inl ⟨by rfl,?_⟩) ?_ ?_
          rotate_left
          ·intro w'
           go_simp
           with_reducible rfl
          rotate_left
          ·simp only [Act.put,List.setIfInBounds_toArray,List.set_cons_zero,List.set_cons_succ,i64_w,i32_w]
           rfl
          refine take_ (i:=28) (N:=some 168) (v:=?_) (a':=?_) y28 rfl rfl (take_ofW HT_.out HW_.out (by kernel_rfl)) (fun _ _ _ h=>h) (Or.inl ⟨by rfl,?_⟩) hHeld ?_ ?_
          rotate_left
          ·intro w' s
           have q0:=s.2.c0
           have q1:=s.2.c1
           have q2:=s.2.c2
           have q3:=s.2.c3
           have q4:=s.2.c4
           have q5:=s.2.c5
           have q6:=s.2.c6
           have q7:=s.2.c7
           have q8:=s.2.c8
           have q9:=s.2.c9
           have q10:=s.2.c10
           clear s
           go_simp
           with_reducible rfl
          rotate_left
          ·simp only [Act.put,List.setIfInBounds_toArray,List.set_cons_zero,List.set_cons_succ,i64_w,i32_w]
           rfl
          refine pure_ (i:=29) (N:=some 169) (v:=?_) (a':=?_) y29 rfl rfl (any_of HT_.out (by kernel_rfl)) (fun _ _ _ h=>h) (Or.inl ⟨by rfl,?_⟩) ?_ ?_
          rotate_left
          ·intro w'
           go_simp
           with_reducible rfl
          rotate_left
          ·simp only [Act.put,List.setIfInBounds_toArray,List.set_cons_zero,List.set_cons_succ,i64_w,i32_w]
           rfl
          refine one_ (i:=30) (N:=some 170) y30 rfl rfl (one_of HT_.out (by kernel_rfl)) (by decide) (fun K hK=>?_)
          refine goes_ Try.func16 (by kernel_rfl) rfl #[.agg #[.int .i64 k0,.int .i64 k1,.int .i64 k2,.int .i64 k3,.int .i64 k4,.int .i64 k5,.int .i64 k6,.int .i64 R,.int .i64 C,.slice Av vs.length cv,.slice At t.length ct],.int .i64 x] (by rfl) rfl rfl (by (try simp only [List.map_toArray,List.map_cons,List.map_nil]);first|done|rfl) ?_
          refine (dataset_Row.calls 600 k0 k1 k2 k3 k4 k5 k6 R C Av cv vs At ct t x [] _ S12.out.fv S12.out.hcv S12.out.ft S12.out.hct (row_none k0 k1 k2 k3 k4 k5 k6 R C vs t 600 (by omega) x (Or.inr (Or.inr (by omega))))).mono ?_
          rintro e w5 ⟨u5,rfl,hR5,hb⟩
          obtain ⟨A5,c5,hv5,_,_⟩:=Kd.R_reads hR5
          obtain rfl : u5 = .slice A5 0 c5:=hv5
          clear hR5
          refine ⟨_,rfl,?_⟩
          have S15:=Aside0.mk (S12.out.step hb)
          clear hb hHeld
          refine hK.out _ _ ⟨S15.out.p,S15.out.d⟩ (fun hHeld=>?_)
          clear hK K
          refine norm_ (a':=?_) ?_ ?_
          rotate_left
          ·show Act.put _ (some 170) _ = _
           simp only [Act.put,List.setIfInBounds_toArray,List.set_cons_zero,List.set_cons_succ,i64_w,i32_w]
           rfl
          refine pure_ (i:=31) (N:=some 171) (v:=?_) (a':=?_) y31 rfl rfl (any_of HT_.out (by kernel_rfl)) (fun _ _ _ h=>h) (Or.inl ⟨by rfl,?_⟩) ?_ ?_
          rotate_left
          ·intro w'
           go_simp
           with_reducible rfl
          rotate_left
          ·simp only [Act.put,List.setIfInBounds_toArray,List.set_cons_zero,List.set_cons_succ,i64_w,i32_w]
           rfl
          refine pure_ (i:=32) (N:=some 172) (v:=?_) (a':=?_) y32 rfl rfl (any_of HT_.out (by kernel_rfl)) (fun _ _ _ h=>h) (Or.inl ⟨by rfl,?_⟩) ?_ ?_
          rotate_left
          ·intro w'
           go_simp
           with_reducible rfl
          rotate_left
          ·simp only [Act.put,List.setIfInBounds_toArray,List.set_cons_zero,List.set_cons_succ,i64_w,i32_w]
           rfl
          refine pure_ (i:=33) (N:=some 173) (v:=?_) (a':=?_) y33 rfl rfl (any_of HT_.out (by kernel_rfl)) (fun _ _ _ h=>h) (Or.inl ⟨by rfl,?_⟩) ?_ ?_
          rotate_left
          ·intro w'
           go_simp
           with_reducible rfl
          rotate_left
          ·simp only [Act.put,List.setIfInBounds_toArray,List.set_cons_zero,List.set_cons_succ,i64_w,i32_w]
           rfl
          refine pure_ (i:=34) (N:=some 174) (v:=?_) (a':=?_) y34 rfl rfl (any_of HT_.out (by kernel_rfl)) (fun _ _ _ h=>h) (Or.inl ⟨by rfl,?_⟩) ?_ ?_
          rotate_left
          ·intro w'
           go_simp
           with_reducible rfl
          rotate_left
          ·simp only [Act.put,List.setIfInBounds_toArray,List.set_cons_zero,List.set_cons_succ,i64_w,i32_w]
           rfl
          refine pure_ (i:=35) (N:=some 175) (v:=?_) (a':=?_) y35 rfl rfl (any_of HT_.out (by kernel_rfl)) (fun _ _ _ h=>h) (Or.inl ⟨by rfl,?_⟩) ?_ ?_
          rotate_left
          ·intro w'
           go_simp
           with_reducible rfl
          rotate_left
          ·simp only [Act.put,List.setIfInBounds_toArray,List.set_cons_zero,List.set_cons_succ,i64_w,i32_w]
           rfl
          refine take_ (i:=36) (N:=some 176) (v:=?_) (a':=?_) y36 rfl rfl (take_ofW HT_.out HW_.out (by kernel_rfl)) (fun _ _ _ h=>h) (Or.inl ⟨by rfl,?_⟩) hHeld ?_ ?_
          rotate_left
          ·intro w' s
           have q0:=s.2.c0
           have q1:=s.2.c1
           have q2:=s.2.c2
           have q3:=s.2.c3
           have q4:=s.2.c4
           have q5:=s.2.c5
           have q6:=s.2.c6
           have q7:=s.2.c7
           have q8:=s.2.c8
           have q9:=s.2.c9
           have q10:=s.2.c10
           clear s
           go_simp
           with_reducible rfl
          rotate_left
          ·simp only [Act.put,List.setIfInBounds_toArray,List.set_cons_zero,List.set_cons_succ,i64_w,i32_w]
           rfl
          refine take_ (i:=38) (N:=some 178) (v:=?_) (a':=?_) y37 rfl rfl (take_ofW HT_.out HW_.out (by kernel_rfl)) (fun _ _ _ h=>h) (Or.inl ⟨by rfl,?_⟩) hHeld ?_ ?_
          rotate_left
          ·intro w' s
           have p0:=s.1.c0
           have p1:=s.1.c1
           have p2:=s.1.c2
           have p3:=s.1.c3
           have p4:=s.1.c4
           have p5:=s.1.c5
           have p6:=s.1.c6
           have p7:=s.1.c7
           have p8:=s.1.c8
           have p9:=s.1.c9
           have p10:=s.1.c10
           clear s
           go_simp
           with_reducible rfl
          rotate_left
          ·simp only [Act.put,List.setIfInBounds_toArray,List.set_cons_zero,List.set_cons_succ,i64_w,i32_w]
           rfl
          refine one_ (i:=37) (N:=some 177) y38 rfl rfl (one_of HT_.out (by kernel_rfl)) (by decide) (fun K hK=>?_)
          refine goes_ Try.func20 (by kernel_rfl) rfl #[.agg #[.int .i64 k0,.int .i64 k1,.int .i64 k2,.int .i64 k3,.int .i64 k4,.int .i64 k5,.int .i64 k6,.int .i64 R,.int .i64 C,.slice Av vs.length cv,.slice At t.length ct]] (by rfl) rfl rfl (by (try simp only [List.map_toArray,List.map_cons,List.map_nil]);first|done|rfl) ?_
          refine (FDataOf.of_calls k0 k1 k2 k3 k4 k5 k6 R C Av At cv ct t.length vs _ S15.out.fv S15.out.hcv HVL.out).mono ?_
          rintro e w6 ⟨u6,rfl,hR6,hb⟩
          obtain ⟨A6,c6,rfl,hc6,hC6⟩:=Kd.R_reads hR6
          rw [HBK.out] at hc6 hC6 ⊢
          have HC6:=Aside0.mk hC6
          clear hR6 hC6
          refine ⟨_,rfl,?_⟩
          have S16:=Aside0.mk (S15.out.step hb)
          clear hb hHeld
          refine hK.out _ _ ⟨S16.out.p,S16.out.d⟩ (fun hHeld=>?_)
          clear hK K
          refine norm_ (a':=?_) ?_ ?_
          rotate_left
          ·show Act.put _ (some 177) _ = _
           simp only [Act.put,List.setIfInBounds_toArray,List.set_cons_zero,List.set_cons_succ,i64_w,i32_w]
           rfl
          refine one_ (i:=39) (N:=some 179) y39 rfl rfl (one_of HT_.out (by kernel_rfl)) (by decide) (fun K hK=>?_)
          refine goes_ Try.func19 (by kernel_rfl) rfl #[.agg #[.int .i64 k0,.int .i64 k1,.int .i64 k2,.int .i64 k3,.int .i64 k4,.int .i64 k5,.int .i64 k6,.int .i64 R,.int .i64 C,.slice A6 v.length c6,.slice At t.length ct],.agg #[.int .i64 k0,.int .i64 k1,.int .i64 k2,.int .i64 k3,.int .i64 k4,.int .i64 k5,.int .i64 k6,.int .i64 R,.int .i64 C,.slice A9 v.length c9,.slice A10 t.length c10]] (by rfl) rfl rfl (by (try simp only [List.map_toArray,List.map_cons,List.map_nil]);first|done|rfl) ?_
          refine (hornbeamref09_Same.calls 1000 k0 k1 k2 k3 k4 k5 k6 R C A6 c6 v At ct t k0 k1 k2 k3 k4 k5 k6 R C A9 c9 v A10 c10 t true _ HC6.out hc6 S16.out.ft S16.out.hct (Kd.C_below HR9.out S16.out.b) HC9.out (Kd.C_below HR10.out S16.out.b) HC10.out HSM.out).mono ?_
          rintro e w7 ⟨rfl,hb⟩
          refine ⟨_,rfl,?_⟩
          have S17:=Aside0.mk (S16.out.step hb)
          clear hb hHeld
          refine hK.out _ _ ⟨S17.out.p,S17.out.d⟩ (fun hHeld=>?_)
          clear hK K
          refine norm_ (a':=?_) ?_ ?_
          rotate_left
          ·show Act.put _ (some 179) _ = _
           simp only [Act.put,List.setIfInBounds_toArray,List.set_cons_zero,List.set_cons_succ,i64_w,i32_w]
           rfl
          refine pure_ (i:=40) (N:=some 180) (v:=?_) (a':=?_) y40 rfl rfl (any_of HT_.out (by kernel_rfl)) (fun _ _ _ h=>h) (Or.inl ⟨by rfl,?_⟩) ?_ ?_
          rotate_left
          ·intro w'
           go_simp
           with_reducible rfl
          rotate_left
          ·simp only [Act.put,List.setIfInBounds_toArray,List.set_cons_zero,List.set_cons_succ,i64_w,i32_w]
           rfl
          refine pure_ (i:=41) (N:=some 4) (v:=?_) (a':=?_) y41 rfl rfl (any_of HT_.out (by kernel_rfl)) (fun _ _ _ h=>h) (Or.inl ⟨by rfl,?_⟩) ?_ ?_
          rotate_left
          ·intro w'
           go_simp
           with_reducible rfl
          rotate_left
          ·simp only [Act.put,List.setIfInBounds_toArray,List.set_cons_zero,List.set_cons_succ,i64_w,i32_w]
           rfl
          refine done_ (done_of HT_.out (by kernel_rfl)) ?_
          go_wp2
          go_ret
          exact ⟨rfl,S17.out.b⟩
        ·have dx1 : decide (x < (C : Int)) = false:=decide_eq_false hx1
         refine pure_ (i:=8) (N:=some 148) (v:=?_) (a':=?_) y8 rfl rfl (any_of HT_.out (by kernel_rfl)) (fun _ _ _ h=>h) (Or.inl ⟨by rfl,?_⟩) ?_ ?_
         rotate_left
         ·intro w'
          go_simp
          with_reducible rfl
         rotate_left
         ·simp only [Act.put,List.setIfInBounds_toArray,List.set_cons_zero,List.set_cons_succ,i64_w,i32_w]
          rfl
         refine pure_ (i:=9) (N:=some 149) (v:=?_) (a':=?_) y9 rfl rfl (any_of HT_.out (by kernel_rfl)) (fun _ _ _ h=>h) (Or.inl ⟨by rfl,?_⟩) ?_ ?_
         rotate_left
         ·intro w'
          go_simp
          with_reducible rfl
         rotate_left
         ·simp only [Act.put,List.setIfInBounds_toArray,List.set_cons_zero,List.set_cons_succ,i64_w,i32_w]
          rfl
         refine pure_ (i:=10) (N:=some 150) (v:=?_) (a':=?_) y10 rfl rfl (any_of HT_.out (by kernel_rfl)) (fun _ _ _ h=>h) (Or.inl ⟨by rfl,?_⟩) ?_ ?_
         rotate_left
         ·intro w'
          go_simp
          with_reducible rfl
         rotate_left
         ·simp only [Act.put,List.setIfInBounds_toArray,List.set_cons_zero,List.set_cons_succ,i64_w,i32_w]
          rfl
         refine take_ (i:=11) (N:=some 151) (v:=?_) (a':=?_) y11 rfl rfl (take_ofW HT_.out HW_.out (by kernel_rfl)) (fun _ _ _ h=>h) (Or.inl ⟨by rfl,?_⟩) hHeld ?_ ?_
         rotate_left
         ·intro w' s
          have q0:=s.2.c0
          have q1:=s.2.c1
          have q2:=s.2.c2
          have q3:=s.2.c3
          have q4:=s.2.c4
          have q5:=s.2.c5
          have q6:=s.2.c6
          have q7:=s.2.c7
          have q8:=s.2.c8
          have q9:=s.2.c9
          have q10:=s.2.c10
          clear s
          go_simp
          with_reducible rfl
         rotate_left
         ·simp only [Act.put,List.setIfInBounds_toArray,List.set_cons_zero,List.set_cons_succ,i64_w,i32_w]
          rfl
         refine pure_ (i:=12) (N:=some 152) (v:=?_) (a':=?_) y12 rfl rfl (any_of HT_.out (by kernel_rfl)) (fun _ _ _ h=>h) (Or.inl ⟨by rfl,?_⟩) ?_ ?_
         rotate_left
         ·intro w'
          go_simp
          with_reducible rfl
         rotate_left
         ·simp only [Act.put,List.setIfInBounds_toArray,List.set_cons_zero,List.set_cons_succ,i64_w,i32_w]
          rfl
         refine one_ (i:=13) (N:=some 153) y13 rfl rfl (one_of HT_.out (by kernel_rfl)) (by decide) (fun K hK=>?_)
         refine goes_ Try.func15 (by kernel_rfl) rfl #[.agg #[.int .i64 k0,.int .i64 k1,.int .i64 k2,.int .i64 k3,.int .i64 k4,.int .i64 k5,.int .i64 k6,.int .i64 R,.int .i64 C,.slice Av vs.length cv,.slice At t.length ct],.int .i64 x] (by rfl) rfl rfl (by (try simp only [List.map_toArray,List.map_cons,List.map_nil]);first|done|rfl) ?_
         refine (dataset_Column.calls k0 k1 k2 k3 k4 k5 k6 R C Av cv vs At ct t x [] _ S12.out.fv S12.out.hcv S12.out.ft S12.out.hct (column_none k0 k1 k2 k3 k4 k5 k6 R C vs t x (Or.inr (Or.inr (by omega))))).mono ?_
         rintro e w4 ⟨u4,rfl,hR4,hb⟩
         obtain ⟨A4,c4,hv4,_,_⟩:=Kd.R_reads hR4
         obtain rfl : u4 = .slice A4 0 c4:=hv4
         clear hR4
         refine ⟨_,rfl,?_⟩
         have S18:=Aside0.mk (S12.out.step hb)
         clear hb hHeld
         refine hK.out _ _ ⟨S18.out.p,S18.out.d⟩ (fun hHeld=>?_)
         clear hK K
         refine norm_ (a':=?_) ?_ ?_
         rotate_left
         ·show Act.put _ (some 153) _ = _
          simp only [Act.put,List.setIfInBounds_toArray,List.set_cons_zero,List.set_cons_succ,i64_w,i32_w]
          rfl
         refine pure_ (i:=14) (N:=some 154) (v:=?_) (a':=?_) y14 rfl rfl (any_of HT_.out (by kernel_rfl)) (fun _ _ _ h=>h) (Or.inl ⟨by rfl,?_⟩) ?_ ?_
         rotate_left
         ·intro w'
          go_simp
          with_reducible rfl
         rotate_left
         ·simp only [Act.put,List.setIfInBounds_toArray,List.set_cons_zero,List.set_cons_succ,i64_w,i32_w]
          rfl
         refine pure_ (i:=15) (N:=some 155) (v:=?_) (a':=?_) y15 rfl rfl (any_of HT_.out (by kernel_rfl)) (fun _ _ _ h=>h) (Or.inl ⟨by rfl,?_⟩) ?_ ?_
         rotate_left
         ·intro w'
          go_simp
          with_reducible rfl
         rotate_left
         ·simp only [Act.put,List.setIfInBounds_toArray,List.set_cons_zero,List.set_cons_succ,i64_w,i32_w]
          rfl
         refine pure_ (i:=16) (N:=some 156) (v:=?_) (a':=?_) y16 rfl rfl (any_of HT_.out (by kernel_rfl)) (fun _ _ _ h=>h) (Or.inl ⟨by rfl,?_⟩) ?_ ?_
         rotate_left
         ·intro w'
          go_simp
          with_reducible rfl
         rotate_left
         ·simp only [Act.put,List.setIfInBounds_toArray,List.set_cons_zero,List.set_cons_succ,i64_w,i32_w]
          rfl
         refine pure_ (i:=17) (N:=some 157) (v:=?_) (a':=?_) y17 rfl rfl (any_of HT_.out (by kernel_rfl)) (fun _ _ _ h=>h) (Or.inl ⟨by rfl,?_⟩) ?_ ?_
         rotate_left
         ·intro w'
          go_simp
          with_reducible rfl
         rotate_left
         ·simp only [Act.put,List.setIfInBounds_toArray,List.set_cons_zero,List.set_cons_succ,i64_w,i32_w]
          rfl
         refine pure_ (i:=18) (N:=some 158) (v:=?_) (a':=?_) y18 rfl rfl (any_of HT_.out (by kernel_rfl)) (fun _ _ _ h=>h) (Or.inl ⟨by rfl,?_⟩) ?_ ?_
         rotate_left
         ·intro w'
          go_simp
          with_reducible rfl
         rotate_left
         ·simp only [Act.put,List.setIfInBounds_toArray,List.set_cons_zero,List.set_cons_succ,i64_w,i32_w]
          rfl
         refine pure_ (i:=19) (N:=some 159) (v:=?_) (a':=?_) y19 rfl rfl (any_of HT_.out (by kernel_rfl)) (fun _ _ _ h=>h) (Or.inl ⟨by rfl,?_⟩) ?_ ?_
         rotate_left
         ·intro w'
          go_simp
          with_reducible rfl
         rotate_left
         ·simp only [Act.put,List.setIfInBounds_toArray,List.set_cons_zero,List.set_cons_succ,i64_w,i32_w]
          rfl
         refine pure_ (i:=20) (N:=some 160) (v:=?_) (a':=?_) y20 rfl rfl (any_of HT_.out (by kernel_rfl)) (fun _ _ _ h=>h) (Or.inl ⟨by rfl,?_⟩) ?_ ?_
         rotate_left
         ·intro w'
          go_simp
          with_reducible rfl
         rotate_left
         ·simp only [Act.put,List.setIfInBounds_toArray,List.set_cons_zero,List.set_cons_succ,i64_w,i32_w]
          rfl
         refine pure_ (i:=21) (N:=some 161) (v:=?_) (a':=?_) y21 rfl rfl (any_of HT_.out (by kernel_rfl)) (fun _ _ _ h=>h) (Or.inl ⟨by rfl,?_⟩) ?_ ?_
         rotate_left
         ·intro w'
          go_simp
          with_reducible rfl
         rotate_left
         ·simp only [Act.put,List.setIfInBounds_toArray,List.set_cons_zero,List.set_cons_succ,i64_w,i32_w]
          rfl
         refine pure_ (i:=22) (N:=some 162) (v:=?_) (a':=?_) y22 rfl rfl (any_of HT_.out (by kernel_rfl)) (fun _ _ _ h=>h) (Or.inl ⟨by rfl,?_⟩) ?_ ?_
         rotate_left
         ·intro w'
          go_simp
          with_reducible rfl
         rotate_left
         ·simp only [Act.put,List.setIfInBounds_toArray,List.set_cons_zero,List.set_cons_succ,i64_w,i32_w]
          rfl
         refine pure_ (i:=23) (N:=some 163) (v:=?_) (a':=?_) y23 rfl rfl (any_of HT_.out (by kernel_rfl)) (fun _ _ _ h=>h) (Or.inl ⟨by rfl,?_⟩) ?_ ?_
         rotate_left
         ·intro w'
          go_simp
          with_reducible rfl
         rotate_left
         ·simp only [Act.put,List.setIfInBounds_toArray,List.set_cons_zero,List.set_cons_succ,i64_w,i32_w]
          rfl
         refine take_ (i:=24) (N:=some 164) (v:=?_) (a':=?_) y24 rfl rfl (take_ofW HT_.out HW_.out (by kernel_rfl)) (fun _ _ _ h=>h) (Or.inl ⟨by rfl,?_⟩) hHeld ?_ ?_
         rotate_left
         ·intro w' s
          have p7:=s.1.c7
          clear s
          go_simp
          with_reducible rfl
         rotate_left
         ·simp only [Act.put,List.setIfInBounds_toArray,List.set_cons_zero,List.set_cons_succ,i64_w,i32_w]
          rfl
         by_cases hx2 : x < (R : Int)
         ·have dx2 : decide (x < (R : Int)) = true:=decide_eq_true hx2
          refine pure_ (i:=25) (N:=some 165) (v:=?_) (a':=?_) y25 rfl rfl (any_of HT_.out (by kernel_rfl)) (fun _ _ _ h=>h) (Or.inl ⟨by rfl,?_⟩) ?_ ?_
          rotate_left
          ·intro w'
           go_simp
           with_reducible rfl
          rotate_left
          ·simp only [Act.put,List.setIfInBounds_toArray,List.set_cons_zero,List.set_cons_succ,i64_w,i32_w]
           rfl
          refine pure_ (i:=26) (N:=some 166) (v:=?_) (a':=?_) y26 rfl rfl (any_of HT_.out (by kernel_rfl)) (fun _ _ _ h=>h) (Or.inl ⟨by rfl,?_⟩) ?_ ?_
          rotate_left
          ·intro w'
           go_simp
           with_reducible rfl
          rotate_left
          ·simp only [Act.put,List.setIfInBounds_toArray,List.set_cons_zero,List.set_cons_succ,i64_w,i32_w]
           rfl
          refine pure_ (i:=27) (N:=some 167) (v:=?_) (a':=?_) y27 rfl rfl (any_of HT_.out (by kernel_rfl)) (fun _ _ _ h=>h) (Or.inl ⟨by rfl,?_⟩) ?_ ?_
          rotate_left
          ·intro w'
           go_simp
           with_reducible rfl
          rotate_left
          ·simp only [Act.put,List.setIfInBounds_toArray,List.set_cons_zero,List.set_cons_succ,i64_w,i32_w]
           rfl
          refine pure_ (i:=28) (N:=some 168) (v:=undef) (a':=?_) y28 rfl rfl (any_of HT_.out (by kernel_rfl)) (fun _ _ _ h=>h) (Or.inr ⟨by rfl,rfl⟩) ?_ ?_
          rotate_left
          ·simp only [Act.put,List.setIfInBounds_toArray,List.set_cons_zero,List.set_cons_succ,i64_w,i32_w]
           rfl
          refine pure_ (i:=29) (N:=some 169) (v:=undef) (a':=?_) y29 rfl rfl (any_of HT_.out (by kernel_rfl)) (fun _ _ _ h=>h) (Or.inr ⟨by rfl,rfl⟩) ?_ ?_
          rotate_left
          ·simp only [Act.put,List.setIfInBounds_toArray,List.set_cons_zero,List.set_cons_succ,i64_w,i32_w]
           rfl
          refine pure_ (i:=30) (N:=some 170) (v:=undef) (a':=?_) y30 rfl rfl (any_of HT_.out (by kernel_rfl)) (fun _ _ _ h=>h) (Or.inr ⟨by rfl,rfl⟩) ?_ ?_
          rotate_left
          ·simp only [Act.put,List.setIfInBounds_toArray,List.set_cons_zero,List.set_cons_succ,i64_w,i32_w]
           rfl
          refine pure_ (i:=31) (N:=some 171) (v:=undef) (a':=?_) y31 rfl rfl (any_of HT_.out (by kernel_rfl)) (fun _ _ _ h=>h) (Or.inr ⟨by rfl,rfl⟩) ?_ ?_
          rotate_left
          ·simp only [Act.put,List.setIfInBounds_toArray,List.set_cons_zero,List.set_cons_succ,i64_w,i32_w]
           rfl
          refine pure_ (i:=32) (N:=some 172) (v:=undef) (a':=?_) y32 rfl rfl (any_of HT_.out (by kernel_rfl)) (fun _ _ _ h=>h) (Or.inr ⟨by rfl,rfl⟩) ?_ ?_
          rotate_left
          ·simp only [Act.put,List.setIfInBounds_toArray,List.set_cons_zero,List.set_cons_succ,i64_w,i32_w]
           rfl
          refine pure_ (i:=33) (N:=some 173) (v:=?_) (a':=?_) y33 rfl rfl (any_of HT_.out (by kernel_rfl)) (fun _ _ _ h=>h) (Or.inl ⟨by rfl,?_⟩) ?_ ?_
          rotate_left
          ·intro w'
           go_simp
           with_reducible rfl
          rotate_left
          ·simp only [Act.put,List.setIfInBounds_toArray,List.set_cons_zero,List.set_cons_succ,i64_w,i32_w]
           rfl
          refine pure_ (i:=34) (N:=some 174) (v:=?_) (a':=?_) y34 rfl rfl (any_of HT_.out (by kernel_rfl)) (fun _ _ _ h=>h) (Or.inl ⟨by rfl,?_⟩) ?_ ?_
          rotate_left
          ·intro w'
           go_simp
           with_reducible rfl
          rotate_left
          ·simp only [Act.put,List.setIfInBounds_toArray,List.set_cons_zero,List.set_cons_succ,i64_w,i32_w]
           rfl
          refine pure_ (i:=35) (N:=some 175) (v:=?_) (a':=?_) y35 rfl rfl (any_of HT_.out (by kernel_rfl)) (fun _ _ _ h=>h) (Or.inl ⟨by rfl,?_⟩) ?_ ?_
          rotate_left
          ·intro w'
           go_simp
           with_reducible rfl
          rotate_left
          ·simp only [Act.put,List.setIfInBounds_toArray,List.set_cons_zero,List.set_cons_succ,i64_w,i32_w]
           rfl
          refine take_ (i:=36) (N:=some 176) (v:=?_) (a':=?_) y36 rfl rfl (take_ofW HT_.out HW_.out (by kernel_rfl)) (fun _ _ _ h=>h) (Or.inl ⟨by rfl,?_⟩) hHeld ?_ ?_
          rotate_left
          ·intro w' s
           have q0:=s.2.c0
           have q1:=s.2.c1
           have q2:=s.2.c2
           have q3:=s.2.c3
           have q4:=s.2.c4
           have q5:=s.2.c5
           have q6:=s.2.c6
           have q7:=s.2.c7
           have q8:=s.2.c8
           have q9:=s.2.c9
           have q10:=s.2.c10
           clear s
           go_simp
           with_reducible rfl
          rotate_left
          ·simp only [Act.put,List.setIfInBounds_toArray,List.set_cons_zero,List.set_cons_succ,i64_w,i32_w]
           rfl
          refine take_ (i:=38) (N:=some 178) (v:=?_) (a':=?_) y37 rfl rfl (take_ofW HT_.out HW_.out (by kernel_rfl)) (fun _ _ _ h=>h) (Or.inl ⟨by rfl,?_⟩) hHeld ?_ ?_
          rotate_left
          ·intro w' s
           have p0:=s.1.c0
           have p1:=s.1.c1
           have p2:=s.1.c2
           have p3:=s.1.c3
           have p4:=s.1.c4
           have p5:=s.1.c5
           have p6:=s.1.c6
           have p7:=s.1.c7
           have p8:=s.1.c8
           have p9:=s.1.c9
           have p10:=s.1.c10
           clear s
           go_simp
           with_reducible rfl
          rotate_left
          ·simp only [Act.put,List.setIfInBounds_toArray,List.set_cons_zero,List.set_cons_succ,i64_w,i32_w]
           rfl
          refine one_ (i:=37) (N:=some 177) y38 rfl rfl (one_of HT_.out (by kernel_rfl)) (by decide) (fun K hK=>?_)
          refine goes_ Try.func20 (by kernel_rfl) rfl #[.agg #[.int .i64 k0,.int .i64 k1,.int .i64 k2,.int .i64 k3,.int .i64 k4,.int .i64 k5,.int .i64 k6,.int .i64 R,.int .i64 C,.slice Av vs.length cv,.slice At t.length ct]] (by rfl) rfl rfl (by (try simp only [List.map_toArray,List.map_cons,List.map_nil]);first|done|rfl) ?_
          refine (FDataOf.of_calls k0 k1 k2 k3 k4 k5 k6 R C Av At cv ct t.length vs _ S18.out.fv S18.out.hcv HVL.out).mono ?_
          rintro e w6 ⟨u6,rfl,hR6,hb⟩
          obtain ⟨A6,c6,rfl,hc6,hC6⟩:=Kd.R_reads hR6
          rw [HBK.out] at hc6 hC6 ⊢
          have HC6:=Aside0.mk hC6
          clear hR6 hC6
          refine ⟨_,rfl,?_⟩
          have S19:=Aside0.mk (S18.out.step hb)
          clear hb hHeld
          refine hK.out _ _ ⟨S19.out.p,S19.out.d⟩ (fun hHeld=>?_)
          clear hK K
          refine norm_ (a':=?_) ?_ ?_
          rotate_left
          ·show Act.put _ (some 177) _ = _
           simp only [Act.put,List.setIfInBounds_toArray,List.set_cons_zero,List.set_cons_succ,i64_w,i32_w]
           rfl
          refine one_ (i:=39) (N:=some 179) y39 rfl rfl (one_of HT_.out (by kernel_rfl)) (by decide) (fun K hK=>?_)
          refine goes_ Try.func19 (by kernel_rfl) rfl #[.agg #[.int .i64 k0,.int .i64 k1,.int .i64 k2,.int .i64 k3,.int .i64 k4,.int .i64 k5,.int .i64 k6,.int .i64 R,.int .i64 C,.slice A6 v.length c6,.slice At t.length ct],.agg #[.int .i64 k0,.int .i64 k1,.int .i64 k2,.int .i64 k3,.int .i64 k4,.int .i64 k5,.int .i64 k6,.int .i64 R,.int .i64 C,.slice A9 v.length c9,.slice A10 t.length c10]] (by rfl) rfl rfl (by (try simp only [List.map_toArray,List.map_cons,List.map_nil]);first|done|rfl) ?_
          refine (hornbeamref09_Same.calls 1000 k0 k1 k2 k3 k4 k5 k6 R C A6 c6 v At ct t k0 k1 k2 k3 k4 k5 k6 R C A9 c9 v A10 c10 t true _ HC6.out hc6 S19.out.ft S19.out.hct (Kd.C_below HR9.out S19.out.b) HC9.out (Kd.C_below HR10.out S19.out.b) HC10.out HSM.out).mono ?_
          rintro e w7 ⟨rfl,hb⟩
          refine ⟨_,rfl,?_⟩
          have S20:=Aside0.mk (S19.out.step hb)
          clear hb hHeld
          refine hK.out _ _ ⟨S20.out.p,S20.out.d⟩ (fun hHeld=>?_)
          clear hK K
          refine norm_ (a':=?_) ?_ ?_
          rotate_left
          ·show Act.put _ (some 179) _ = _
           simp only [Act.put,List.setIfInBounds_toArray,List.set_cons_zero,List.set_cons_succ,i64_w,i32_w]
           rfl
          refine pure_ (i:=40) (N:=some 180) (v:=?_) (a':=?_) y40 rfl rfl (any_of HT_.out (by kernel_rfl)) (fun _ _ _ h=>h) (Or.inl ⟨by rfl,?_⟩) ?_ ?_
          rotate_left
          ·intro w'
           go_simp
           with_reducible rfl
          rotate_left
          ·simp only [Act.put,List.setIfInBounds_toArray,List.set_cons_zero,List.set_cons_succ,i64_w,i32_w]
           rfl
          refine pure_ (i:=41) (N:=some 4) (v:=?_) (a':=?_) y41 rfl rfl (any_of HT_.out (by kernel_rfl)) (fun _ _ _ h=>h) (Or.inl ⟨by rfl,?_⟩) ?_ ?_
          rotate_left
          ·intro w'
           go_simp
           with_reducible rfl
          rotate_left
          ·simp only [Act.put,List.setIfInBounds_toArray,List.set_cons_zero,List.set_cons_succ,i64_w,i32_w]
           rfl
          refine done_ (done_of HT_.out (by kernel_rfl)) ?_
          go_wp2
          go_ret
          exact ⟨rfl,S20.out.b⟩
         ·have dx2 : decide (x < (R : Int)) = false:=decide_eq_false hx2
          refine pure_ (i:=25) (N:=some 165) (v:=?_) (a':=?_) y25 rfl rfl (any_of HT_.out (by kernel_rfl)) (fun _ _ _ h=>h) (Or.inl ⟨by rfl,?_⟩) ?_ ?_
          rotate_left
          ·intro w'
           go_simp
           with_reducible rfl
          rotate_left
          ·simp only [Act.put,List.setIfInBounds_toArray,List.set_cons_zero,List.set_cons_succ,i64_w,i32_w]
           rfl
          refine pure_ (i:=26) (N:=some 166) (v:=?_) (a':=?_) y26 rfl rfl (any_of HT_.out (by kernel_rfl)) (fun _ _ _ h=>h) (Or.inl ⟨by rfl,?_⟩) ?_ ?_
          rotate_left
          ·intro w'
           go_simp
           with_reducible rfl
          rotate_left
          ·simp only [Act.put,List.setIfInBounds_toArray,List.set_cons_zero,List.set_cons_succ,i64_w,i32_w]
           rfl
          refine pure_ (i:=27) (N:=some 167) (v:=?_) (a':=?_) y27 rfl rfl (any_of HT_.out (by kernel_rfl)) (fun _ _ _ h=>h) (Or.inl ⟨by rfl,?_⟩) ?_ ?_
          rotate_left
          ·intro w'
           go_simp
           with_reducible rfl
          rotate_left
          ·simp only [Act.put,List.setIfInBounds_toArray,List.set_cons_zero,List.set_cons_succ,i64_w,i32_w]
           rfl
          refine take_ (i:=28) (N:=some 168) (v:=?_) (a':=?_) y28 rfl rfl (take_ofW HT_.out HW_.out (by kernel_rfl)) (fun _ _ _ h=>h) (Or.inl ⟨by rfl,?_⟩) hHeld ?_ ?_
          rotate_left
          ·intro w' s
           have q0:=s.2.c0
           have q1:=s.2.c1
           have q2:=s.2.c2
           have q3:=s.2.c3
           have q4:=s.2.c4
           have q5:=s.2.c5
           have q6:=s.2.c6
           have q7:=s.2.c7
           have q8:=s.2.c8
           have q9:=s.2.c9
           have q10:=s.2.c10
           clear s
           go_simp
           with_reducible rfl
          rotate_left
          ·simp only [Act.put,List.setIfInBounds_toArray,List.set_cons_zero,List.set_cons_succ,i64_w,i32_w]
           rfl
          refine pure_ (i:=29) (N:=some 169) (v:=?_) (a':=?_) y29 rfl rfl (any_of HT_.out (by kernel_rfl)) (fun _ _ _ h=>h) (Or.inl ⟨by rfl,?_⟩) ?_ ?_
          rotate_left
          ·intro w'
           go_simp
           with_reducible rfl
          rotate_left
          ·simp only [Act.put,List.setIfInBounds_toArray,List.set_cons_zero,List.set_cons_succ,i64_w,i32_w]
           rfl
          refine one_ (i:=30) (N:=some 170) y30 rfl rfl (one_of HT_.out (by kernel_rfl)) (by decide) (fun K hK=>?_)
          refine goes_ Try.func16 (by kernel_rfl) rfl #[.agg #[.int .i64 k0,.int .i64 k1,.int .i64 k2,.int .i64 k3,.int .i64 k4,.int .i64 k5,.int .i64 k6,.int .i64 R,.int .i64 C,.slice Av vs.length cv,.slice At t.length ct],.int .i64 x] (by rfl) rfl rfl (by (try simp only [List.map_toArray,List.map_cons,List.map_nil]);first|done|rfl) ?_
          refine (dataset_Row.calls 600 k0 k1 k2 k3 k4 k5 k6 R C Av cv vs At ct t x [] _ S18.out.fv S18.out.hcv S18.out.ft S18.out.hct (row_none k0 k1 k2 k3 k4 k5 k6 R C vs t 600 (by omega) x (Or.inr (Or.inr (by omega))))).mono ?_
          rintro e w5 ⟨u5,rfl,hR5,hb⟩
          obtain ⟨A5,c5,hv5,_,_⟩:=Kd.R_reads hR5
          obtain rfl : u5 = .slice A5 0 c5:=hv5
          clear hR5
          refine ⟨_,rfl,?_⟩
          have S21:=Aside0.mk (S18.out.step hb)
          clear hb hHeld
          refine hK.out _ _ ⟨S21.out.p,S21.out.d⟩ (fun hHeld=>?_)
          clear hK K
          refine norm_ (a':=?_) ?_ ?_
          rotate_left
          ·show Act.put _ (some 170) _ = _
           simp only [Act.put,List.setIfInBounds_toArray,List.set_cons_zero,List.set_cons_succ,i64_w,i32_w]
           rfl
          refine pure_ (i:=31) (N:=some 171) (v:=?_) (a':=?_) y31 rfl rfl (any_of HT_.out (by kernel_rfl)) (fun _ _ _ h=>h) (Or.inl ⟨by rfl,?_⟩) ?_ ?_
          rotate_left
          ·intro w'
           go_simp
           with_reducible rfl
          rotate_left
          ·simp only [Act.put,List.setIfInBounds_toArray,List.set_cons_zero,List.set_cons_succ,i64_w,i32_w]
           rfl
          refine pure_ (i:=32) (N:=some 172) (v:=?_) (a':=?_) y32 rfl rfl (any_of HT_.out (by kernel_rfl)) (fun _ _ _ h=>h) (Or.inl ⟨by rfl,?_⟩) ?_ ?_
          rotate_left
          ·intro w'
           go_simp
           with_reducible rfl
          rotate_left
          ·simp only [Act.put,List.setIfInBounds_toArray,List.set_cons_zero,List.set_cons_succ,i64_w,i32_w]
           rfl
          refine pure_ (i:=33) (N:=some 173) (v:=?_) (a':=?_) y33 rfl rfl (any_of HT_.out (by kernel_rfl)) (fun _ _ _ h=>h) (Or.inl ⟨by rfl,?_⟩) ?_ ?_
          rotate_left
          ·intro w'
           go_simp
           with_reducible rfl
          rotate_left
          ·simp only [Act.put,List.setIfInBounds_toArray,List.set_cons_zero,List.set_cons_succ,i64_w,i32_w]
           rfl
          refine pure_ (i:=34) (N:=some 174) (v:=?_) (a':=?_) y34 rfl rfl (any_of HT_.out (by kernel_rfl)) (fun _ _ _ h=>h) (Or.inl ⟨by rfl,?_⟩) ?_ ?_
          rotate_left
          ·intro w'
           go_simp
           with_reducible rfl
          rotate_left
          ·simp only [Act.put,List.setIfInBounds_toArray,List.set_cons_zero,List.set_cons_succ,i64_w,i32_w]
           rfl
          refine pure_ (i:=35) (N:=some 175) (v:=?_) (a':=?_) y35 rfl rfl (any_of HT_.out (by kernel_rfl)) (fun _ _ _ h=>h) (Or.inl ⟨by rfl,?_⟩) ?_ ?_
          rotate_left
          ·intro w'
           go_simp
           with_reducible rfl
          rotate_left
          ·simp only [Act.put,List.setIfInBounds_toArray,List.set_cons_zero,List.set_cons_succ,i64_w,i32_w]
           rfl
          refine take_ (i:=36) (N:=some 176) (v:=?_) (a':=?_) y36 rfl rfl (take_ofW HT_.out HW_.out (by kernel_rfl)) (fun _ _ _ h=>h) (Or.inl ⟨by rfl,?_⟩) hHeld ?_ ?_
          rotate_left
          ·intro w' s
           have q0:=s.2.c0
           have q1:=s.2.c1
           have q2:=s.2.c2
           have q3:=s.2.c3
           have q4:=s.2.c4
           have q5:=s.2.c5
           have q6:=s.2.c6
           have q7:=s.2.c7
           have q8:=s.2.c8
           have q9:=s.2.c9
           have q10:=s.2.c10
           clear s
           go_simp
           with_reducible rfl
          rotate_left
          ·simp only [Act.put,List.setIfInBounds_toArray,List.set_cons_zero,List.set_cons_succ,i64_w,i32_w]
           rfl
          refine take_ (i:=38) (N:=some 178) (v:=?_) (a':=?_) y37 rfl rfl (take_ofW HT_.out HW_.out (by kernel_rfl)) (fun _ _ _ h=>h) (Or.inl ⟨by rfl,?_⟩) hHeld ?_ ?_
          rotate_left
          ·intro w' s
           have p0:=s.1.c0
           have p1:=s.1.c1
           have p2:=s.1.c2
           have p3:=s.1.c3
           have p4:=s.1.c4
           have p5:=s.1.c5
           have p6:=s.1.c6
           have p7:=s.1.c7
           have p8:=s.1.c8
           have p9:=s.1.c9
           have p10:=s.1.c10
           clear s
           go_simp
           with_reducible rfl
          rotate_left
          ·simp only [Act.put,List.setIfInBounds_toArray,List.set_cons_zero,List.set_cons_succ,i64_w,i32_w]
           rfl
          refine one_ (i:=37) (N:=some 177) y38 rfl rfl (one_of HT_.out (by kernel_rfl)) (by decide) (fun K hK=>?_)
          refine goes_ Try.func20 (by kernel_rfl) rfl #[.agg #[.int .i64 k0,.int .i64 k1,.int .i64 k2,.int .i64 k3,.int .i64 k4,.int .i64 k5,.int .i64 k6,.int .i64 R,.int .i64 C,.slice Av vs.length cv,.slice At t.length ct]] (by rfl) rfl rfl (by (try simp only [List.map_toArray,List.map_cons,List.map_nil]);first|done|rfl) ?_
          refine (FDataOf.of_calls k0 k1 k2 k3 k4 k5 k6 R C Av At cv ct t.length vs _ S21.out.fv S21.out.hcv HVL.out).mono ?_
          rintro e w6 ⟨u6,rfl,hR6,hb⟩
          obtain ⟨A6,c6,rfl,hc6,hC6⟩:=Kd.R_reads hR6
          rw [HBK.out] at hc6 hC6 ⊢
          have HC6:=Aside0.mk hC6
          clear hR6 hC6
          refine ⟨_,rfl,?_⟩
          have S22:=Aside0.mk (S21.out.step hb)
          clear hb hHeld
          refine hK.out _ _ ⟨S22.out.p,S22.out.d⟩ (fun hHeld=>?_)
          clear hK K
          refine norm_ (a':=?_) ?_ ?_
          rotate_left
          ·show Act.put _ (some 177) _ = _
           simp only [Act.put,List.setIfInBounds_toArray,List.set_cons_zero,List.set_cons_succ,i64_w,i32_w]
           rfl
          refine one_ (i:=39) (N:=some 179) y39 rfl rfl (one_of HT_.out (by kernel_rfl)) (by decide) (fun K hK=>?_)
          refine goes_ Try.func19 (by kernel_rfl) rfl #[.agg #[.int .i64 k0,.int .i64 k1,.int .i64 k2,.int .i64 k3,.int .i64 k4,.int .i64 k5,.int .i64 k6,.int .i64 R,.int .i64 C,.slice A6 v.length c6,.slice At t.length ct],.agg #[.int .i64 k0,.int .i64 k1,.int .i64 k2,.int .i64 k3,.int .i64 k4,.int .i64 k5,.int .i64 k6,.int .i64 R,.int .i64 C,.slice A9 v.length c9,.slice A10 t.length c10]] (by rfl) rfl rfl (by (try simp only [List.map_toArray,List.map_cons,List.map_nil]);first|done|rfl) ?_
          refine (hornbeamref09_Same.calls 1000 k0 k1 k2 k3 k4 k5 k6 R C A6 c6 v At ct t k0 k1 k2 k3 k4 k5 k6 R C A9 c9 v A10 c10 t true _ HC6.out hc6 S22.out.ft S22.out.hct (Kd.C_below HR9.out S22.out.b) HC9.out (Kd.C_below HR10.out S22.out.b) HC10.out HSM.out).mono ?_
          rintro e w7 ⟨rfl,hb⟩
          refine ⟨_,rfl,?_⟩
          have S23:=Aside0.mk (S22.out.step hb)
          clear hb hHeld
          refine hK.out _ _ ⟨S23.out.p,S23.out.d⟩ (fun hHeld=>?_)
          clear hK K
          refine norm_ (a':=?_) ?_ ?_
          rotate_left
          ·show Act.put _ (some 179) _ = _
           simp only [Act.put,List.setIfInBounds_toArray,List.set_cons_zero,List.set_cons_succ,i64_w,i32_w]
           rfl
          refine pure_ (i:=40) (N:=some 180) (v:=?_) (a':=?_) y40 rfl rfl (any_of HT_.out (by kernel_rfl)) (fun _ _ _ h=>h) (Or.inl ⟨by rfl,?_⟩) ?_ ?_
          rotate_left
          ·intro w'
           go_simp
           with_reducible rfl
          rotate_left
          ·simp only [Act.put,List.setIfInBounds_toArray,List.set_cons_zero,List.set_cons_succ,i64_w,i32_w]
           rfl
          refine pure_ (i:=41) (N:=some 4) (v:=?_) (a':=?_) y41 rfl rfl (any_of HT_.out (by kernel_rfl)) (fun _ _ _ h=>h) (Or.inl ⟨by rfl,?_⟩) ?_ ?_
          rotate_left
          ·intro w'
           go_simp
           with_reducible rfl
          rotate_left
          ·simp only [Act.put,List.setIfInBounds_toArray,List.set_cons_zero,List.set_cons_succ,i64_w,i32_w]
           rfl
          refine done_ (done_of HT_.out (by kernel_rfl)) ?_
          go_wp2
          go_ret
          exact ⟨rfl,S23.out.b⟩
       ·have dx0 : decide (x ≥ 0) = false:=decide_eq_false hx0
        refine pure_ (i:=3) (N:=some 143) (v:=?_) (a':=?_) y3 rfl rfl (any_of HT_.out (by kernel_rfl)) (fun _ _ _ h=>h) (Or.inl ⟨by rfl,?_⟩) ?_ ?_
        rotate_left
        ·intro w'
         go_simp
         with_reducible rfl
        rotate_left
        ·simp only [Act.put,List.setIfInBounds_toArray,List.set_cons_zero,List.set_cons_succ,i64_w,i32_w]
         rfl
        refine pure_ (i:=4) (N:=some 144) (v:=?_) (a':=?_) y4 rfl rfl (any_of HT_.out (by kernel_rfl)) (fun _ _ _ h=>h) (Or.inl ⟨by rfl,?_⟩) ?_ ?_
        rotate_left
        ·intro w'
         go_simp
         with_reducible rfl
        rotate_left
        ·simp only [Act.put,List.setIfInBounds_toArray,List.set_cons_zero,List.set_cons_succ,i64_w,i32_w]
         rfl
        refine pure_ (i:=5) (N:=some 145) (v:=undef) (a':=?_) y5 rfl rfl (any_of HT_.out (by kernel_rfl)) (fun _ _ _ h=>h) (Or.inr ⟨by rfl,rfl⟩) ?_ ?_
        rotate_left
        ·simp only [Act.put,List.setIfInBounds_toArray,List.set_cons_zero,List.set_cons_succ,i64_w,i32_w]
         rfl
        refine pure_ (i:=6) (N:=some 146) (v:=undef) (a':=?_) y6 rfl rfl (any_of HT_.out (by kernel_rfl)) (fun _ _ _ h=>h) (Or.inr ⟨by rfl,rfl⟩) ?_ ?_
        rotate_left
        ·simp only [Act.put,List.setIfInBounds_toArray,List.set_cons_zero,List.set_cons_succ,i64_w,i32_w]
         rfl
        refine pure_ (i:=7) (N:=some 147) (v:=undef) (a':=?_) y7 rfl rfl (any_of HT_.out (by kernel_rfl)) (fun _ _ _ h=>h) (Or.inr ⟨by rfl,rfl⟩) ?_ ?_
        rotate_left
        ·simp only [Act.put,List.setIfInBounds_toArray,List.set_cons_zero,List.set_cons_succ,i64_w,i32_w]
         rfl
        refine pure_ (i:=8) (N:=some 148) (v:=undef) (a':=?_) y8 rfl rfl (any_of HT_.out (by kernel_rfl)) (fun _ _ _ h=>h) (Or.inr ⟨by rfl,rfl⟩) ?_ ?_
        rotate_left
        ·simp only [Act.put,List.setIfInBounds_toArray,List.set_cons_zero,List.set_cons_succ,i64_w,i32_w]
         rfl
        refine pure_ (i:=9) (N:=some 149) (v:=?_) (a':=?_) y9 rfl rfl (any_of HT_.out (by kernel_rfl)) (fun _ _ _ h=>h) (Or.inl ⟨by rfl,?_⟩) ?_ ?_
        rotate_left
        ·intro w'
         go_simp
         with_reducible rfl
        rotate_left
        ·simp only [Act.put,List.setIfInBounds_toArray,List.set_cons_zero,List.set_cons_succ,i64_w,i32_w]
         rfl
        refine pure_ (i:=10) (N:=some 150) (v:=?_) (a':=?_) y10 rfl rfl (any_of HT_.out (by kernel_rfl)) (fun _ _ _ h=>h) (Or.inl ⟨by rfl,?_⟩) ?_ ?_
        rotate_left
        ·intro w'
         go_simp
         with_reducible rfl
        rotate_left
        ·simp only [Act.put,List.setIfInBounds_toArray,List.set_cons_zero,List.set_cons_succ,i64_w,i32_w]
         rfl
        refine take_ (i:=11) (N:=some 151) (v:=?_) (a':=?_) y11 rfl rfl (take_ofW HT_.out HW_.out (by kernel_rfl)) (fun _ _ _ h=>h) (Or.inl ⟨by rfl,?_⟩) hHeld ?_ ?_
        rotate_left
        ·intro w' s
         have q0:=s.2.c0
         have q1:=s.2.c1
         have q2:=s.2.c2
         have q3:=s.2.c3
         have q4:=s.2.c4
         have q5:=s.2.c5
         have q6:=s.2.c6
         have q7:=s.2.c7
         have q8:=s.2.c8
         have q9:=s.2.c9
         have q10:=s.2.c10
         clear s
         go_simp
         with_reducible rfl
        rotate_left
        ·simp only [Act.put,List.setIfInBounds_toArray,List.set_cons_zero,List.set_cons_succ,i64_w,i32_w]
         rfl
        refine pure_ (i:=12) (N:=some 152) (v:=?_) (a':=?_) y12 rfl rfl (any_of HT_.out (by kernel_rfl)) (fun _ _ _ h=>h) (Or.inl ⟨by rfl,?_⟩) ?_ ?_
        rotate_left
        ·intro w'
         go_simp
         with_reducible rfl
        rotate_left
        ·simp only [Act.put,List.setIfInBounds_toArray,List.set_cons_zero,List.set_cons_succ,i64_w,i32_w]
         rfl
        refine one_ (i:=13) (N:=some 153) y13 rfl rfl (one_of HT_.out (by kernel_rfl)) (by decide) (fun K hK=>?_)
        refine goes_ Try.func15 (by kernel_rfl) rfl #[.agg #[.int .i64 k0,.int .i64 k1,.int .i64 k2,.int .i64 k3,.int .i64 k4,.int .i64 k5,.int .i64 k6,.int .i64 R,.int .i64 C,.slice Av vs.length cv,.slice At t.length ct],.int .i64 x] (by rfl) rfl rfl (by (try simp only [List.map_toArray,List.map_cons,List.map_nil]);first|done|rfl) ?_
        refine (dataset_Column.calls k0 k1 k2 k3 k4 k5 k6 R C Av cv vs At ct t x [] _ S12.out.fv S12.out.hcv S12.out.ft S12.out.hct (column_none k0 k1 k2 k3 k4 k5 k6 R C vs t x (Or.inr (Or.inl (by omega))))).mono ?_
        rintro e w4 ⟨u4,rfl,hR4,hb⟩
        obtain ⟨A4,c4,hv4,_,_⟩:=Kd.R_reads hR4
        obtain rfl : u4 = .slice A4 0 c4:=hv4
        clear hR4
        refine ⟨_,rfl,?_⟩
        have S24:=Aside0.mk (S12.out.step hb)
        clear hb hHeld
        refine hK.out _ _ ⟨S24.out.p,S24.out.d⟩ (fun hHeld=>?_)
        clear hK K
        refine norm_ (a':=?_) ?_ ?_
        rotate_left
        ·show Act.put _ (some 153) _ = _
         simp only [Act.put,List.setIfInBounds_toArray,List.set_cons_zero,List.set_cons_succ,i64_w,i32_w]
         rfl
        refine pure_ (i:=14) (N:=some 154) (v:=?_) (a':=?_) y14 rfl rfl (any_of HT_.out (by kernel_rfl)) (fun _ _ _ h=>h) (Or.inl ⟨by rfl,?_⟩) ?_ ?_
        rotate_left
        ·intro w'
         go_simp
         with_reducible rfl
        rotate_left
        ·simp only [Act.put,List.setIfInBounds_toArray,List.set_cons_zero,List.set_cons_succ,i64_w,i32_w]
         rfl
        refine pure_ (i:=15) (N:=some 155) (v:=?_) (a':=?_) y15 rfl rfl (any_of HT_.out (by kernel_rfl)) (fun _ _ _ h=>h) (Or.inl ⟨by rfl,?_⟩) ?_ ?_
        rotate_left
        ·intro w'
         go_simp
         with_reducible rfl
        rotate_left
        ·simp only [Act.put,List.setIfInBounds_toArray,List.set_cons_zero,List.set_cons_succ,i64_w,i32_w]
         rfl
        refine pure_ (i:=16) (N:=some 156) (v:=?_) (a':=?_) y16 rfl rfl (any_of HT_.out (by kernel_rfl)) (fun _ _ _ h=>h) (Or.inl ⟨by rfl,?_⟩) ?_ ?_
        rotate_left
        ·intro w'
         go_simp
         with_reducible rfl
        rotate_left
        ·simp only [Act.put,List.setIfInBounds_toArray,List.set_cons_zero,List.set_cons_succ,i64_w,i32_w]
         rfl
        refine pure_ (i:=17) (N:=some 157) (v:=?_) (a':=?_) y17 rfl rfl (any_of HT_.out (by kernel_rfl)) (fun _ _ _ h=>h) (Or.inl ⟨by rfl,?_⟩) ?_ ?_
        rotate_left
        ·intro w'
         go_simp
         with_reducible rfl
        rotate_left
        ·simp only [Act.put,List.setIfInBounds_toArray,List.set_cons_zero,List.set_cons_succ,i64_w,i32_w]
         rfl
        refine pure_ (i:=18) (N:=some 158) (v:=?_) (a':=?_) y18 rfl rfl (any_of HT_.out (by kernel_rfl)) (fun _ _ _ h=>h) (Or.inl ⟨by rfl,?_⟩) ?_ ?_
        rotate_left
        ·intro w'
         go_simp
         with_reducible rfl
        rotate_left
        ·simp only [Act.put,List.setIfInBounds_toArray,List.set_cons_zero,List.set_cons_succ,i64_w,i32_w]
         rfl
        refine pure_ (i:=19) (N:=some 159) (v:=?_) (a':=?_) y19 rfl rfl (any_of HT_.out (by kernel_rfl)) (fun _ _ _ h=>h) (Or.inl ⟨by rfl,?_⟩) ?_ ?_
        rotate_left
        ·intro w'
         go_simp
         with_reducible rfl
        rotate_left
        ·simp only [Act.put,List.setIfInBounds_toArray,List.set_cons_zero,List.set_cons_succ,i64_w,i32_w]
         rfl
        refine pure_ (i:=20) (N:=some 160) (v:=?_) (a':=?_) y20 rfl rfl (any_of HT_.out (by kernel_rfl)) (fun _ _ _ h=>h) (Or.inl ⟨by rfl,?_⟩) ?_ ?_
        rotate_left
        ·intro w'
         go_simp
         with_reducible rfl
        rotate_left
        ·simp only [Act.put,List.setIfInBounds_toArray,List.set_cons_zero,List.set_cons_succ,i64_w,i32_w]
         rfl
        refine pure_ (i:=21) (N:=some 161) (v:=?_) (a':=?_) y21 rfl rfl (any_of HT_.out (by kernel_rfl)) (fun _ _ _ h=>h) (Or.inl ⟨by rfl,?_⟩) ?_ ?_
        rotate_left
        ·intro w'
         go_simp
         with_reducible rfl
        rotate_left
        ·simp only [Act.put,List.setIfInBounds_toArray,List.set_cons_zero,List.set_cons_succ,i64_w,i32_w]
         rfl
        refine pure_ (i:=22) (N:=some 162) (v:=undef) (a':=?_) y22 rfl rfl (any_of HT_.out (by kernel_rfl)) (fun _ _ _ h=>h) (Or.inr ⟨by rfl,rfl⟩) ?_ ?_
        rotate_left
        ·simp only [Act.put,List.setIfInBounds_toArray,List.set_cons_zero,List.set_cons_succ,i64_w,i32_w]
         rfl
        refine pure_ (i:=23) (N:=some 163) (v:=undef) (a':=?_) y23 rfl rfl (any_of HT_.out (by kernel_rfl)) (fun _ _ _ h=>h) (Or.inr ⟨by rfl,rfl⟩) ?_ ?_
        rotate_left
        ·simp only [Act.put,List.setIfInBounds_toArray,List.set_cons_zero,List.set_cons_succ,i64_w,i32_w]
         rfl
        refine pure_ (i:=24) (N:=some 164) (v:=undef) (a':=?_) y24 rfl rfl (any_of HT_.out (by kernel_rfl)) (fun _ _ _ h=>h) (Or.inr ⟨by rfl,rfl⟩) ?_ ?_
        rotate_left
        ·simp only [Act.put,List.setIfInBounds_toArray,List.set_cons_zero,List.set_cons_succ,i64_w,i32_w]
         rfl
        refine pure_ (i:=25) (N:=some 165) (v:=undef) (a':=?_) y25 rfl rfl (any_of HT_.out (by kernel_rfl)) (fun _ _ _ h=>h) (Or.inr ⟨by rfl,rfl⟩) ?_ ?_
        rotate_left
        ·simp only [Act.put,List.setIfInBounds_toArray,List.set_cons_zero,List.set_cons_succ,i64_w,i32_w]
         rfl
        refine pure_ (i:=26) (N:=some 166) (v:=?_) (a':=?_) y26 rfl rfl (any_of HT_.out (by kernel_rfl)) (fun _ _ _ h=>h) (Or.inl ⟨by rfl,?_⟩) ?_ ?_
        rotate_left
        ·intro w'
         go_simp
         with_reducible rfl
        rotate_left
        ·simp only [Act.put,List.setIfInBounds_toArray,List.set_cons_zero,List.set_cons_succ,i64_w,i32_w]
         rfl
        refine pure_ (i:=27) (N:=some 167) (v:=?_) (a':=?_) y27 rfl rfl (any_of HT_.out (by kernel_rfl)) (fun _ _ _ h=>h) (Or.inl ⟨by rfl,?_⟩) ?_ ?_
        rotate_left
        ·intro w'
         go_simp
         with_reducible rfl
        rotate_left
        ·simp only [Act.put,List.setIfInBounds_toArray,List.set_cons_zero,List.set_cons_succ,i64_w,i32_w]
         rfl
        refine take_ (i:=28) (N:=some 168) (v:=?_) (a':=?_) y28 rfl rfl (take_ofW HT_.out HW_.out (by kernel_rfl)) (fun _ _ _ h=>h) (Or.inl ⟨by rfl,?_⟩) hHeld ?_ ?_
        rotate_left
        ·intro w' s
         have q0:=s.2.c0
         have q1:=s.2.c1
         have q2:=s.2.c2
         have q3:=s.2.c3
         have q4:=s.2.c4
         have q5:=s.2.c5
         have q6:=s.2.c6
         have q7:=s.2.c7
         have q8:=s.2.c8
         have q9:=s.2.c9
         have q10:=s.2.c10
         clear s
         go_simp
         with_reducible rfl
        rotate_left
        ·simp only [Act.put,List.setIfInBounds_toArray,List.set_cons_zero,List.set_cons_succ,i64_w,i32_w]
         rfl
        refine pure_ (i:=29) (N:=some 169) (v:=?_) (a':=?_) y29 rfl rfl (any_of HT_.out (by kernel_rfl)) (fun _ _ _ h=>h) (Or.inl ⟨by rfl,?_⟩) ?_ ?_
        rotate_left
        ·intro w'
         go_simp
         with_reducible rfl
        rotate_left
        ·simp only [Act.put,List.setIfInBounds_toArray,List.set_cons_zero,List.set_cons_succ,i64_w,i32_w]
         rfl
        refine one_ (i:=30) (N:=some 170) y30 rfl rfl (one_of HT_.out (by kernel_rfl)) (by decide) (fun K hK=>?_)
        refine goes_ Try.func16 (by kernel_rfl) rfl #[.agg #[.int .i64 k0,.int .i64 k1,.int .i64 k2,.int .i64 k3,.int .i64 k4,.int .i64 k5,.int .i64 k6,.int .i64 R,.int .i64 C,.slice Av vs.length cv,.slice At t.length ct],.int .i64 x] (by rfl) rfl rfl (by (try simp only [List.map_toArray,List.map_cons,List.map_nil]);first|done|rfl) ?_
        refine (dataset_Row.calls 600 k0 k1 k2 k3 k4 k5 k6 R C Av cv vs At ct t x [] _ S24.out.fv S24.out.hcv S24.out.ft S24.out.hct (row_none k0 k1 k2 k3 k4 k5 k6 R C vs t 600 (by omega) x (Or.inr (Or.inl (by omega))))).mono ?_
        rintro e w5 ⟨u5,rfl,hR5,hb⟩
        obtain ⟨A5,c5,hv5,_,_⟩:=Kd.R_reads hR5
        obtain rfl : u5 = .slice A5 0 c5:=hv5
        clear hR5
        refine ⟨_,rfl,?_⟩
        have S25:=Aside0.mk (S24.out.step hb)
        clear hb hHeld
        refine hK.out _ _ ⟨S25.out.p,S25.out.d⟩ (fun hHeld=>?_)
        clear hK K
        refine norm_ (a':=?_) ?_ ?_
        rotate_left
        ·show Act.put _ (some 170) _ = _
         simp only [Act.put,List.setIfInBounds_toArray,List.set_cons_zero,List.set_cons_succ,i64_w,i32_w]
         rfl
        refine pure_ (i:=31) (N:=some 171) (v:=?_) (a':=?_) y31 rfl rfl (any_of HT_.out (by kernel_rfl)) (fun _ _ _ h=>h) (Or.inl ⟨by rfl,?_⟩) ?_ ?_
        rotate_left
        ·intro w'
         go_simp
         with_reducible rfl
        rotate_left
        ·simp only [Act.put,List.setIfInBounds_toArray,List.set_cons_zero,List.set_cons_succ,i64_w,i32_w]
         rfl
        refine pure_ (i:=32) (N:=some 172) (v:=?_) (a':=?_) y32 rfl rfl (any_of HT_.out (by kernel_rfl)) (fun _ _ _ h=>h) (Or.inl ⟨by rfl,?_⟩) ?_ ?_
        rotate_left
        ·intro w'
         go_simp
         with_reducible rfl
        rotate_left
        ·simp only [Act.put,List.setIfInBounds_toArray,List.set_cons_zero,List.set_cons_succ,i64_w,i32_w]
         rfl
        refine pure_ (i:=33) (N:=some 173) (v:=?_) (a':=?_) y33 rfl rfl (any_of HT_.out (by kernel_rfl)) (fun _ _ _ h=>h) (Or.inl ⟨by rfl,?_⟩) ?_ ?_
        rotate_left
        ·intro w'
         go_simp
         with_reducible rfl
        rotate_left
        ·simp only [Act.put,List.setIfInBounds_toArray,List.set_cons_zero,List.set_cons_succ,i64_w,i32_w]
         rfl
        refine pure_ (i:=34) (N:=some 174) (v:=?_) (a':=?_) y34 rfl rfl (any_of HT_.out (by kernel_rfl)) (fun _ _ _ h=>h) (Or.inl ⟨by rfl,?_⟩) ?_ ?_
        rotate_left
        ·intro w'
         go_simp
         with_reducible rfl
        rotate_left
        ·simp only [Act.put,List.setIfInBounds_toArray,List.set_cons_zero,List.set_cons_succ,i64_w,i32_w]
         rfl
        refine pure_ (i:=35) (N:=some 175) (v:=?_) (a':=?_) y35 rfl rfl (any_of HT_.out (by kernel_rfl)) (fun _ _ _ h=>h) (Or.inl ⟨by rfl,?_⟩) ?_ ?_
        rotate_left
        ·intro w'
         go_simp
         with_reducible rfl
        rotate_left
        ·simp only [Act.put,List.setIfInBounds_toArray,List.set_cons_zero,List.set_cons_succ,i64_w,i32_w]
         rfl
        refine take_ (i:=36) (N:=some 176) (v:=?_) (a':=?_) y36 rfl rfl (take_ofW HT_.out HW_.out (by kernel_rfl)) (fun _ _ _ h=>h) (Or.inl ⟨by rfl,?_⟩) hHeld ?_ ?_
        rotate_left
        ·intro w' s
         have q0:=s.2.c0
         have q1:=s.2.c1
         have q2:=s.2.c2
         have q3:=s.2.c3
         have q4:=s.2.c4
         have q5:=s.2.c5
         have q6:=s.2.c6
         have q7:=s.2.c7
         have q8:=s.2.c8
         have q9:=s.2.c9
         have q10:=s.2.c10
         clear s
         go_simp
         with_reducible rfl
        rotate_left
        ·simp only [Act.put,List.setIfInBounds_toArray,List.set_cons_zero,List.set_cons_succ,i64_w,i32_w]
         rfl
        refine take_ (i:=38) (N:=some 178) (v:=?_) (a':=?_) y37 rfl rfl (take_ofW HT_.out HW_.out (by kernel_rfl)) (fun _ _ _ h=>h) (Or.inl ⟨by rfl,?_⟩) hHeld ?_ ?_
        rotate_left
        ·intro w' s
         have p0:=s.1.c0
         have p1:=s.1.c1
         have p2:=s.1.c2
         have p3:=s.1.c3
         have p4:=s.1.c4
         have p5:=s.1.c5
         have p6:=s.1.c6
         have p7:=s.1.c7
         have p8:=s.1.c8
         have p9:=s.1.c9
         have p10:=s.1.c10
         clear s
         go_simp
         with_reducible rfl
        rotate_left
        ·simp only [Act.put,List.setIfInBounds_toArray,List.set_cons_zero,List.set_cons_succ,i64_w,i32_w]
         rfl
        refine one_ (i:=37) (N:=some 177) y38 rfl rfl (one_of HT_.out (by kernel_rfl)) (by decide) (fun K hK=>?_)
        refine goes_ Try.func20 (by kernel_rfl) rfl #[.agg #[.int .i64 k0,.int .i64 k1,.int .i64 k2,.int .i64 k3,.int .i64 k4,.int .i64 k5,.int .i64 k6,.int .i64 R,.int .i64 C,.slice Av vs.length cv,.slice At t.length ct]] (by rfl) rfl rfl (by (try simp only [List.map_toArray,List.map_cons,List.map_nil]);first|done|rfl) ?_
        refine (FDataOf.of_calls k0 k1 k2 k3 k4 k5 k6 R C Av At cv ct t.length vs _ S25.out.fv S25.out.hcv HVL.out).mono ?_
        rintro e w6 ⟨u6,rfl,hR6,hb⟩
        obtain ⟨A6,c6,rfl,hc6,hC6⟩:=Kd.R_reads hR6
        rw [HBK.out] at hc6 hC6 ⊢
        have HC6:=Aside0.mk hC6
        clear hR6 hC6
        refine ⟨_,rfl,?_⟩
        have S26:=Aside0.mk (S25.out.step hb)
        clear hb hHeld
        refine hK.out _ _ ⟨S26.out.p,S26.out.d⟩ (fun hHeld=>?_)
        clear hK K
        refine norm_ (a':=?_) ?_ ?_
        rotate_left
        ·show Act.put _ (some 177) _ = _
         simp only [Act.put,List.setIfInBounds_toArray,List.set_cons_zero,List.set_cons_succ,i64_w,i32_w]
         rfl
        refine one_ (i:=39) (N:=some 179) y39 rfl rfl (one_of HT_.out (by kernel_rfl)) (by decide) (fun K hK=>?_)
        refine goes_ Try.func19 (by kernel_rfl) rfl #[.agg #[.int .i64 k0,.int .i64 k1,.int .i64 k2,.int .i64 k3,.int .i64 k4,.int .i64 k5,.int .i64 k6,.int .i64 R,.int .i64 C,.slice A6 v.length c6,.slice At t.length ct],.agg #[.int .i64 k0,.int .i64 k1,.int .i64 k2,.int .i64 k3,.int .i64 k4,.int .i64 k5,.int .i64 k6,.int .i64 R,.int .i64 C,.slice A9 v.length c9,.slice A10 t.length c10]] (by rfl) rfl rfl (by (try simp only [List.map_toArray,List.map_cons,List.map_nil]);first|done|rfl) ?_
        refine (hornbeamref09_Same.calls 1000 k0 k1 k2 k3 k4 k5 k6 R C A6 c6 v At ct t k0 k1 k2 k3 k4 k5 k6 R C A9 c9 v A10 c10 t true _ HC6.out hc6 S26.out.ft S26.out.hct (Kd.C_below HR9.out S26.out.b) HC9.out (Kd.C_below HR10.out S26.out.b) HC10.out HSM.out).mono ?_
        rintro e w7 ⟨rfl,hb⟩
        refine ⟨_,rfl,?_⟩
        have S27:=Aside0.mk (S26.out.step hb)
        clear hb hHeld
        refine hK.out _ _ ⟨S27.out.p,S27.out.d⟩ (fun hHeld=>?_)
        clear hK K
        refine norm_ (a':=?_) ?_ ?_
        rotate_left
        ·show Act.put _ (some 179) _ = _
         simp only [Act.put,List.setIfInBounds_toArray,List.set_cons_zero,List.set_cons_succ,i64_w,i32_w]
         rfl
        refine pure_ (i:=40) (N:=some 180) (v:=?_) (a':=?_) y40 rfl rfl (any_of HT_.out (by kernel_rfl)) (fun _ _ _ h=>h) (Or.inl ⟨by rfl,?_⟩) ?_ ?_
        rotate_left
        ·intro w'
         go_simp
         with_reducible rfl
        rotate_left
        ·simp only [Act.put,List.setIfInBounds_toArray,List.set_cons_zero,List.set_cons_succ,i64_w,i32_w]
         rfl
        refine pure_ (i:=41) (N:=some 4) (v:=?_) (a':=?_) y41 rfl rfl (any_of HT_.out (by kernel_rfl)) (fun _ _ _ h=>h) (Or.inl ⟨by rfl,?_⟩) ?_ ?_
        rotate_left
        ·intro w'
         go_simp
         with_reducible rfl
        rotate_left
        ·simp only [Act.put,List.setIfInBounds_toArray,List.set_cons_zero,List.set_cons_succ,i64_w,i32_w]
         rfl
        refine done_ (done_of HT_.out (by kernel_rfl)) ?_
        go_wp2
        go_ret
        exact ⟨rfl,S27.out.b⟩
  ·have e5 : ((v.length : Int) != wrap64 (r * c)) = true:=by simp [h5]
   have HNS:=Aside0.mk (show shp r c vs.length = false from by
    by_cases hs : shp r c vs.length = true
    ·simp only [shp,Bool.and_eq_true,decide_eq_true_eq,HVV.out] at hs;exact absurd hs.2 h5
    ·simpa using hs)
   clear h1 h2 h3 h4 h5
   go_wp2_with (fail)
   refine (FData09.fixed_calls _).mono ?_
   rintro e w4 ⟨rfl,hb⟩
   have S4:=Aside0.mk (S3.out.step hb)
   clear hb S3 p7 p8 p9
   have p7:=S4.out.p.c7
   have p8:=S4.out.p.c8
   have q0:=S4.out.d.c0
   have q1:=S4.out.d.c1
   have q2:=S4.out.d.c2
   have q3:=S4.out.d.c3
   have q4:=S4.out.d.c4
   have q5:=S4.out.d.c5
   have q6:=S4.out.d.c6
   have q7:=S4.out.d.c7
   have q8:=S4.out.d.c8
   have q9:=S4.out.d.c9
   have q10:=S4.out.d.c10
   go_wp2_with (fail)
   refine (dataset_Column.calls k0 k1 k2 k3 k4 k5 k6 r c Av cv vs At ct t x [] _ S4.out.fv S4.out.hcv S4.out.ft S4.out.hct (column_none k0 k1 k2 k3 k4 k5 k6 r c vs t x (Or.inl HNS.out))).mono ?_
   rintro e w5 ⟨u5,rfl,hR5,hb⟩
   obtain ⟨A5,c5,hv5,_,_⟩:=Kd.R_reads hR5
   obtain rfl : u5 = .slice A5 0 c5:=hv5
   have S5:=Aside0.mk (S4.out.step hb)
   clear hb hR5 S4 p7 p8
   clear q0 q1 q2 q3 q4 q5 q6 q7 q8 q9 q10
   have q0:=S5.out.d.c0
   have q1:=S5.out.d.c1
   have q2:=S5.out.d.c2
   have q3:=S5.out.d.c3
   have q4:=S5.out.d.c4
   have q5:=S5.out.d.c5
   have q6:=S5.out.d.c6
   have q7:=S5.out.d.c7
   have q8:=S5.out.d.c8
   have q9:=S5.out.d.c9
   have q10:=S5.out.d.c10
   go_wp2_with (fail)
   refine (dataset_Row.calls 600 k0 k1 k2 k3 k4 k5 k6 r c Av cv vs At ct t x [] _ S5.out.fv S5.out.hcv S5.out.ft S5.out.hct (row_none k0 k1 k2 k3 k4 k5 k6 r c vs t 600 (by omega) x (Or.inl HNS.out))).mono ?_
   rintro e w6 ⟨u6,rfl,hR6,hb⟩
   obtain ⟨A6,c6,hv6,_,_⟩:=Kd.R_reads hR6
   obtain rfl : u6 = .slice A6 0 c6:=hv6
   have S6:=Aside0.mk (S5.out.step hb)
   clear hb hR6 S5
   clear q0 q1 q2 q3 q4 q5 q6 q7 q8 q9 q10
   go_wp2
   go_ret
   exact ⟨rfl,S6.out.b⟩
end Go.Proofs.Ytnagfbadjbkhmaa.FDatasetParts
