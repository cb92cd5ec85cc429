/- hornbeamref11.Of by a walk: the matrix of a dataset by any edges. -/
import Derived.Test.YtnagfbadjbkhmaaPureOf
namespace Go.Proofs.Ytnagfbadjbkhmaa.FRefOf
open Go.RowKit Go.Shelf Go.Proofs.YtnagfbadjbkhmaaW.PrintWords Go.Proofs.YtnagfbadjbkhmaaW.PrintLast Go.Proofs.YtnagfbadjbkhmaaW.PrintMore Go.Proofs.Ytnagfbadjbkhmaa.Pure Go.Proofs.Ytnagfbadjbkhmaa.PureFlt Go.Proofs.Ytnagfbadjbkhmaa.PB Go.Proofs.Ytnagfbadjbkhmaa.PureOrd Go.Proofs.Ytnagfbadjbkhmaa.PureOf
attribute [local go_sem high] Flt.run_bits Flt.run_frombits
set_option linter.unusedVariables false
set_option linter.unusedSimpArgs false
def Pl (W : World) (g : Nat) (k0 k1 k2 k3 k4 k5 k6 rows cols : Int) (v t : Value) : Prop:=W.heap[g]? = some (.cells #[.int .i64 k0,.int .i64 k1,.int .i64 k2,.int .i64 k3,.int .i64 k4,.int .i64 k5,.int .i64 k6,.int .i64 rows,.int .i64 cols,v,t] 27 (0,0))
def Dat (W : World) (g : Nat) (k0 k1 k2 k3 k4 k5 k6 rows cols : Int) (v t : Value) : Prop:=W.heap[g]? = some (.cells #[.int .i64 k0,.int .i64 k1,.int .i64 k2,.int .i64 k3,.int .i64 k4,.int .i64 k5,.int .i64 k6,.int .i64 rows,.int .i64 cols,v,t] 32 (0,0))
def Mat (W : World) (g : Nat) (r c : Int) (v : Value) : Prop:=W.heap[g]? = some (.cells #[.int .i64 r,.int .i64 c,v] 62 (0,0))
namespace Pl
variable {W : World} {g : Nat} {k0 k1 k2 k3 k4 k5 k6 rows cols : Int} {v t : Value}
theorem c0 (H : Pl W g k0 k1 k2 k3 k4 k5 k6 rows cols v t) : W.cell? ⟨g,0,none⟩ = some (.int .i64 k0):=(blk_cell H 0).trans rfl
theorem c1 (H : Pl W g k0 k1 k2 k3 k4 k5 k6 rows cols v t) : W.cell? ⟨g,1,none⟩ = some (.int .i64 k1):=(blk_cell H 1).trans rfl
theorem c2 (H : Pl W g k0 k1 k2 k3 k4 k5 k6 rows cols v t) : W.cell? ⟨g,2,none⟩ = some (.int .i64 k2):=(blk_cell H 2).trans rfl
theorem c3 (H : Pl W g k0 k1 k2 k3 k4 k5 k6 rows cols v t) : W.cell? ⟨g,3,none⟩ = some (.int .i64 k3):=(blk_cell H 3).trans rfl
theorem c4 (H : Pl W g k0 k1 k2 k3 k4 k5 k6 rows cols v t) : W.cell? ⟨g,4,none⟩ = some (.int .i64 k4):=(blk_cell H 4).trans rfl
theorem c5 (H : Pl W g k0 k1 k2 k3 k4 k5 k6 rows cols v t) : W.cell? ⟨g,5,none⟩ = some (.int .i64 k5):=(blk_cell H 5).trans rfl
theorem c6 (H : Pl W g k0 k1 k2 k3 k4 k5 k6 rows cols v t) : W.cell? ⟨g,6,none⟩ = some (.int .i64 k6):=(blk_cell H 6).trans rfl
theorem c7 (H : Pl W g k0 k1 k2 k3 k4 k5 k6 rows cols v t) : W.cell? ⟨g,7,none⟩ = some (.int .i64 rows):=(blk_cell H 7).trans rfl
theorem c8 (H : Pl W g k0 k1 k2 k3 k4 k5 k6 rows cols v t) : W.cell? ⟨g,8,none⟩ = some (.int .i64 cols):=(blk_cell H 8).trans rfl
theorem c9 (H : Pl W g k0 k1 k2 k3 k4 k5 k6 rows cols v t) : W.cell? ⟨g,9,none⟩ = some v:=(blk_cell H 9).trans rfl
theorem c10 (H : Pl W g k0 k1 k2 k3 k4 k5 k6 rows cols v t) : W.cell? ⟨g,10,none⟩ = some t:=(blk_cell H 10).trans rfl
end Pl
namespace Dat
variable {W : World} {g : Nat} {k0 k1 k2 k3 k4 k5 k6 rows cols : Int} {v t : Value}
theorem c0 (H : Dat W g k0 k1 k2 k3 k4 k5 k6 rows cols v t) : W.cell? ⟨g,0,none⟩ = some (.int .i64 k0):=(blk_cell H 0).trans rfl
theorem c1 (H : Dat W g k0 k1 k2 k3 k4 k5 k6 rows cols v t) : W.cell? ⟨g,1,none⟩ = some (.int .i64 k1):=(blk_cell H 1).trans rfl
theorem c2 (H : Dat W g k0 k1 k2 k3 k4 k5 k6 rows cols v t) : W.cell? ⟨g,2,none⟩ = some (.int .i64 k2):=(blk_cell H 2).trans rfl
theorem c3 (H : Dat W g k0 k1 k2 k3 k4 k5 k6 rows cols v t) : W.cell? ⟨g,3,none⟩ = some (.int .i64 k3):=(blk_cell H 3).trans rfl
theorem c4 (H : Dat W g k0 k1 k2 k3 k4 k5 k6 rows cols v t) : W.cell? ⟨g,4,none⟩ = some (.int .i64 k4):=(blk_cell H 4).trans rfl
theorem c5 (H : Dat W g k0 k1 k2 k3 k4 k5 k6 rows cols v t) : W.cell? ⟨g,5,none⟩ = some (.int .i64 k5):=(blk_cell H 5).trans rfl
theorem c6 (H : Dat W g k0 k1 k2 k3 k4 k5 k6 rows cols v t) : W.cell? ⟨g,6,none⟩ = some (.int .i64 k6):=(blk_cell H 6).trans rfl
theorem c7 (H : Dat W g k0 k1 k2 k3 k4 k5 k6 rows cols v t) : W.cell? ⟨g,7,none⟩ = some (.int .i64 rows):=(blk_cell H 7).trans rfl
theorem c8 (H : Dat W g k0 k1 k2 k3 k4 k5 k6 rows cols v t) : W.cell? ⟨g,8,none⟩ = some (.int .i64 cols):=(blk_cell H 8).trans rfl
theorem c9 (H : Dat W g k0 k1 k2 k3 k4 k5 k6 rows cols v t) : W.cell? ⟨g,9,none⟩ = some v:=(blk_cell H 9).trans rfl
theorem c10 (H : Dat W g k0 k1 k2 k3 k4 k5 k6 rows cols v t) : W.cell? ⟨g,10,none⟩ = some t:=(blk_cell H 10).trans rfl
end Dat
namespace Mat
variable {W : World} {g : Nat} {r c : Int} {v : Value}
theorem c0 (H : Mat W g r c v) : W.cell? ⟨g,0,none⟩ = some (.int .i64 r):=(blk_cell H 0).trans rfl
theorem c1 (H : Mat W g r c v) : W.cell? ⟨g,1,none⟩ = some (.int .i64 c):=(blk_cell H 1).trans rfl
theorem c2 (H : Mat W g r c v) : W.cell? ⟨g,2,none⟩ = some v:=(blk_cell H 2).trans rfl
theorem f0 (H : Mat W g r c v) : W.frozen? ⟨g,0,none⟩ = false:=blk_frozen H 0
theorem f1 (H : Mat W g r c v) : W.frozen? ⟨g,1,none⟩ = false:=blk_frozen H 1
theorem f2 (H : Mat W g r c v) : W.frozen? ⟨g,2,none⟩ = false:=blk_frozen H 2
end Mat
theorem Mat.put3 {W : World} {g : Nat} {r c : Int} {v : Value} (H : Mat W g r c v) (y0 y1 : Int) (y2 : Value) : Mat (((W.setCell ⟨g,0,none⟩ (.int .i64 y0)).setCell ⟨g,1,none⟩ (.int .i64 y1)).setCell ⟨g,2,none⟩ y2) g y0 y1 y2 :=
 blk_set (blk_set (blk_set H 0 (.int .i64 y0)) 1 (.int .i64 y1)) 2 y2
theorem info_u16 : (Try.prog.info? 53).map (fun i=>(i.zero,i.size,i.bytes)) = some (some (.int .u16 0),1,2):=by kernel_rfl
theorem drawn_below {W W' : World} (h : Drawn0 W W') : Below W.heap.size W W':=by
 obtain ⟨n,rfl⟩:=h
 exact pw_below_drewN (Below.refl _ _) n
theorem cell_below {W W' : World} {a : Addr} {v : Value} (h : W.cell? a = some v) (hb : Below W.heap.size W W') : W'.cell? a = some v:=(hb.cell (World.block_lt_of_cell? W a h)).trans h
theorem results_two {P : Program} {fn : Func} {p q : Tmp} {ty : TypeId} (h : fn.results = #[.cell p ty,.tmp q]) (tmps : Array Value) (w : World) (g : Nat) (t : TypeId) (cs : Array Value) (fr : Nat × Nat) (d : TypeDesc) (u : Value)
  (hp : tmps.getD p undef = .pointer (some ⟨g,0,none⟩)) (hq : tmps.getD q undef = u) (hg : w.heap[g]? = some (.cells cs t fr))
  (hu : P.underlying ty = some d) (hd : (match d with|.struct _|.array _ _=>true|_=>false) = true) (hi : (P.info? ty).map (·.size) = some cs.size) :
  (results fn tmps).run P w = .ok (.tuple #[.agg cs,u]) w:=by
 have hp' : tmps[p]?.getD undef = .pointer (some ⟨g,0,none⟩):=by simpa using hp
 have hq' : tmps[q]?.getD undef = u:=by simpa using hq
 simp [results,h,hp',hq',asAddr,run_loadVar_row w g t ty cs fr d hg hu hd hi]
/-- A row of bins is in no block of another type. -/
theorem own_ne {W : World} {base g : Nat} {um : Value} {cl : List Int} {cs : Array Value} {T : TypeId} (fc : Kd.R (Kd.int .u16) 53 W base (fun _=>True) um cl) (hb : W.heap[g]? = some (.cells cs T (0,0))) (ht : ∀ q,q ∈ 53 :: (Kd.int .u16).E → q ≠ T) : some g ≠ um.ownBlock :=
 fun e=>((Kd.R_types fc hb ht).1 g e.symm).2 rfl
/-- The dataset's box and the result's. -/
structure Q0 (w W : World) (k0 k1 k2 k3 k4 k5 k6 r c : Int) (Av At : Option Addr) (n cv m ct : Nat) : Prop where
 d : Dat W w.heap.size k0 k1 k2 k3 k4 k5 k6 r c (.slice Av n cv) (.slice At m ct)
 z : Mat W (w.heap.size + 1) 0 0 (.slice none 0 0)
 b : Below w.heap.size w W
section
variable {w W W' : World} {gm : Nat} {k0 k1 k2 k3 k4 k5 k6 r c : Int} {Av At : Option Addr} {n cv m ct : Nat}
theorem Q0.step (h : Q0 w W k0 k1 k2 k3 k4 k5 k6 r c Av At n cv m ct) (hb : Below W.heap.size W W') : Q0 w W' k0 k1 k2 k3 k4 k5 k6 r c Av At n cv m ct :=
 ⟨blk_below h.d hb,blk_below h.z hb,below_step h.b hb⟩
theorem Q0.b3 (h : Q0 w W k0 k1 k2 k3 k4 k5 k6 r c Av At n cv m ct) (y0 y1 y2 : Value) : Below w.heap.size w (((W.setCell ⟨w.heap.size + 1,0,none⟩ y0).setCell ⟨w.heap.size + 1,1,none⟩ y1).setCell ⟨w.heap.size + 1,2,none⟩ y2) :=
 below_set (below_set (below_set h.b (Nat.le_succ _)) (Nat.le_succ _)) (Nat.le_succ _)
/-- With the matrix that grows. -/
structure On (w W : World) (gm : Nat) (k0 k1 k2 k3 k4 k5 k6 r c : Int) (Av At : Option Addr) (n cv m ct : Nat) (um : Value) (cl : List Int) : Prop where
 q : Q0 w W k0 k1 k2 k3 k4 k5 k6 r c Av At n cv m ct
 m : Mat W gm r c um
 fc : Kd.R (Kd.int .u16) 53 W w.heap.size (fun _=>True) um cl
 hg : w.heap.size + 1 < gm
variable {um : Value} {cl : List Int}
theorem On.step (h : On w W gm k0 k1 k2 k3 k4 k5 k6 r c Av At n cv m ct um cl) (hb : Below W.heap.size W W') : On w W' gm k0 k1 k2 k3 k4 k5 k6 r c Av At n cv m ct um cl :=
 ⟨h.q.step hb,blk_below h.m hb,Kd.R_below h.fc hb,h.hg⟩
theorem On.app (h : On w W gm k0 k1 k2 k3 k4 k5 k6 r c Av At n cv m ct um cl) {v1 : Value} {cl' : List Int} (hR : Kd.R (Kd.int .u16) 53 W' w.heap.size (fun _=>True) v1 cl') (hb : Below w.heap.size w W') (hg : W.grownBy W' um.ownBlock) :
  Mat W' gm r c um ∧ On w (W'.setCell ⟨gm,2,none⟩ v1) gm k0 k1 k2 k3 k4 k5 k6 r c Av At n cv m ct v1 cl':=by
 have hd:=blk_grown h.q.d hg (own_ne h.fc h.q.d (by decide))
 have hz:=blk_grown h.q.z hg (own_ne h.fc h.q.z (by decide))
 have hm:=blk_grown h.m hg (own_ne h.fc h.m (by decide))
 have hgm:=h.hg
 exact ⟨hm,⟨blk_far hd (p:=⟨gm,2,none⟩) (blk_ne hd hm (by decide)) v1,blk_far hz (p:=⟨gm,2,none⟩) (by show _ ≠ gm;omega) v1,below_set hb (by omega)⟩,blk_set hm 2 v1,
  Kd.R_mono (Kd.R_far (p:=⟨gm,2,none⟩) (Kd.R_types hR hm (by decide)) (fun _ hk=>hk.2) v1) (fun _ _=>trivial),hgm⟩
theorem On.fin (h : On w W gm k0 k1 k2 k3 k4 k5 k6 r c Av At n cv m ct um cl) (y0 y1 : Int) (y2 : Value) : Kd.R (Kd.int .u16) 53 (((W.setCell ⟨w.heap.size + 1,0,none⟩ (.int .i64 y0)).setCell ⟨w.heap.size + 1,1,none⟩ (.int .i64 y1)).setCell ⟨w.heap.size + 1,2,none⟩ y2) w.heap.size (fun _=>True) um cl:=by
 have far : ∀ (W : World) (cs : Array Value) (i : Nat) (u : Value),W.heap[w.heap.size + 1]? = some (.cells cs 62 (0,0)) → Kd.R (Kd.int .u16) 53 W w.heap.size (fun _=>True) um cl → Kd.R (Kd.int .u16) 53 (W.setCell ⟨w.heap.size + 1,i,none⟩ u) w.heap.size (fun _=>True) um cl:=fun W cs i u hm hr =>
  Kd.R_mono (Kd.R_far (p:=⟨w.heap.size + 1,i,none⟩) (Kd.R_types hr hm (by decide)) (fun _ hk=>hk.2) u) (fun _ _=>trivial)
 have h1:=blk_set h.q.z 0 (.int .i64 y0)
 have h2:=blk_set h1 1 (.int .i64 y1)
 exact far _ _ _ _ h2 (far _ _ _ _ h1 (far _ _ _ _ h.q.z h.fc))
end
def T10 : Bool × List (List Nat × List Nat):=(true,[([],[]),([],[]),([0,1],[0,1]),([2],[2]),([],[]),([4],[4]),([],[]),([],[]),([7],[7]),([6,8],[6,8]),([],[]),([9,10],[9,10]),([5,11],[5,11]),([12],[12]),([3,13],[3,13]),([14,14,0,1,2,3,4,5,6,7,8,9,10,11,12,13,14],[14])])
def B10 : List Nat:=[0,0,3,7,0,16,0,0,128,448,0,1984,4080,8176,16383,32767]
theorem tab10 : rtab .any (opsOf Try.f30 10) = T10:=by kernel_rfl
theorem bits10 : waitsOk T10.2 B10 = true:=by kernel_rfl
set_option maxHeartbeats 20000000 in
set_option maxRecDepth 100000 in
theorem of_calls (k0 k1 k2 k3 k4 k5 k6 r c : Int) (Av At : Option Addr) (cv ct : Nat) (vs : List Nat) (t : List Int) (A1 : Option Addr) (c1 : Nat) (x : List (List Nat)) (w : World) (hrv : Kd.C Flt.kf w Av vs.length vs) (hcv : vs.length ≤ cv) (hx : Kd.C (Kd.slice 36 Flt.kf) w A1 x.length x) (hcx : x.length ≤ c1)
  (hl : vs.length ≤ 500) (hw : W64 vs) (hxw : RW x) :
  Calls Try.prog 30 #[.agg #[.int .i64 k0,.int .i64 k1,.int .i64 k2,.int .i64 k3,.int .i64 k4,.int .i64 k5,.int .i64 k6,.int .i64 r,.int .i64 c,.slice Av vs.length cv,.slice At t.length ct],.slice A1 x.length c1] w fun e w'=>∃ v2,e = .returned (.tuple #[.agg #[.int .i64 (ofR r c vs x).1,.int .i64 (ofR r c vs x).2.1,v2],.int .i64 (ofR r c vs x).2.2.2]) ∧ Kd.R (Kd.int .u16) 53 w' w.heap.size (fun _=>True) v2 (ofR r c vs x).2.2.1 ∧ Below w.heap.size w w':=by
 have hu:=Try.underlying32
 have hu2:=Try.underlying62
 have HRV:=Aside0.mk hrv
 have HX:=Aside0.mk hx
 have HL:=Aside0.mk (And.intro hl (And.intro hw hxw))
 have HCV:=Aside0.mk (And.intro hcv hcx)
 obtain ⟨W0,hW0⟩ : ∃ W0,(w.alloc (.cells #[.int .i64 k0,.int .i64 k1,.int .i64 k2,.int .i64 k3,.int .i64 k4,.int .i64 k5,.int .i64 k6,.int .i64 r,.int .i64 c,.slice Av vs.length cv,.slice At t.length ct] 32)).alloc (.cells #[.int .i64 0,.int .i64 0,.slice none 0 0] 62) = W0:=⟨_,rfl⟩
 have S0:=Aside0.mk (show Q0 w W0 k0 k1 k2 k3 k4 k5 k6 r c Av At vs.length cv t.length ct from by rw [← hW0];exact ⟨blk_alloc (blk_new w _) _,(by have:=blk_new (w.alloc (.cells #[.int .i64 k0,.int .i64 k1,.int .i64 k2,.int .i64 k3,.int .i64 k4,.int .i64 k5,.int .i64 k6,.int .i64 r,.int .i64 c,.slice Av vs.length cv,.slice At t.length ct] 32)) (.cells #[.int .i64 0,.int .i64 0,.slice none 0 0] 62);rw [World.size_alloc] at this;exact this),below_alloc (below_alloc (Below.refl _ w) _) _⟩)
 have HW0:=Aside0.mk hW0
 clear hrv hx hl hw hxw hcv hcx hW0
 by_cases h1 : few r = true
 case neg =>
  have h1 : few r = false:=by simpa using h1
  go_enter Try.func30,Try.ntmps30
  go_wp2_with (fail)
  rw [HW0.out]
  clear HW0
  refine (hornbeamref11_Few.calls r false _ (by rw [few_f];exact congrArg some (h1))).mono ?_
  rintro e w1 ⟨rfl,hdr⟩
  have S1:=Aside0.mk (S0.out.step (drawn_below hdr))
  clear hdr S0
  have HR:=Aside0.mk (show ofR r c vs x = (0,0,[],8) from ofR_none (Or.inl h1))
  have z0:=S1.out.z.c0
  have f0:=S1.out.z.f0
  have z1:=S1.out.z.c1
  have f1:=S1.out.z.f1
  have z2:=S1.out.z.c2
  have f2:=S1.out.z.f2
  go_wp2
  refine bodyPost_ret (results_two rfl _ _ (w.heap.size + 1) 62 #[.int .i64 0,.int .i64 0,.slice none 0 0] (0,0) _ _ rfl rfl (S1.out.z.put3 0 0 (.slice none 0 0)) Try.underlying62 rfl (by kernel_rfl)) rfl ?_
  rw [HR.out]
  exact ⟨.slice none 0 0,rfl,Kd.R_nil _ _ _ _ _,S1.out.b3 _ _ _⟩
 by_cases h2 : few c = true
 case neg =>
  have h2 : few c = false:=by simpa using h2
  go_enter Try.func30,Try.ntmps30
  go_wp2_with (fail)
  rw [HW0.out]
  clear HW0
  refine (hornbeamref11_Few.calls r true _ (by rw [few_f];exact congrArg some (h1))).mono ?_
  rintro e w1 ⟨rfl,hdr⟩
  have S1:=Aside0.mk (S0.out.step (drawn_below hdr))
  clear hdr S0
  have q8:=S1.out.d.c8
  go_wp2_with (fail)
  clear q8
  refine (hornbeamref11_Few.calls c false _ (by rw [few_f];exact congrArg some (h2))).mono ?_
  rintro e w2 ⟨rfl,hdr⟩
  have S2:=Aside0.mk (S1.out.step (drawn_below hdr))
  clear hdr S1
  have HR:=Aside0.mk (show ofR r c vs x = (0,0,[],8) from ofR_none (Or.inr (Or.inl h2)))
  have z0:=S2.out.z.c0
  have f0:=S2.out.z.f0
  have z1:=S2.out.z.c1
  have f1:=S2.out.z.f1
  have z2:=S2.out.z.c2
  have f2:=S2.out.z.f2
  go_wp2
  refine bodyPost_ret (results_two rfl _ _ (w.heap.size + 1) 62 #[.int .i64 0,.int .i64 0,.slice none 0 0] (0,0) _ _ rfl rfl (S2.out.z.put3 0 0 (.slice none 0 0)) Try.underlying62 rfl (by kernel_rfl)) rfl ?_
  rw [HR.out]
  exact ⟨.slice none 0 0,rfl,Kd.R_nil _ _ _ _ _,S2.out.b3 _ _ _⟩
 by_cases h3 : (vs.length : Int) = wrap64 (r * c)
 case neg =>
  have e3 : ((vs.length : Int) != wrap64 (r * c)) = true:=by simp [h3]
  go_enter Try.func30,Try.ntmps30
  go_wp2_with (fail)
  rw [HW0.out]
  clear HW0
  refine (hornbeamref11_Few.calls r true _ (by rw [few_f];exact congrArg some (h1))).mono ?_
  rintro e w1 ⟨rfl,hdr⟩
  have S1:=Aside0.mk (S0.out.step (drawn_below hdr))
  clear hdr S0
  have q8:=S1.out.d.c8
  go_wp2_with (fail)
  clear q8
  refine (hornbeamref11_Few.calls c true _ (by rw [few_f];exact congrArg some (h2))).mono ?_
  rintro e w2 ⟨rfl,hdr⟩
  have S2:=Aside0.mk (S1.out.step (drawn_below hdr))
  clear hdr S1
  have q7:=S2.out.d.c7
  have q8:=S2.out.d.c8
  have q9:=S2.out.d.c9
  have HR:=Aside0.mk (show ofR r c vs x = (0,0,[],8) from ofR_none (Or.inr (Or.inr (Or.inl h3))))
  have z0:=S2.out.z.c0
  have f0:=S2.out.z.f0
  have z1:=S2.out.z.c1
  have f1:=S2.out.z.f1
  have z2:=S2.out.z.c2
  have f2:=S2.out.z.f2
  go_wp2
  refine bodyPost_ret (results_two rfl _ _ (w.heap.size + 1) 62 #[.int .i64 0,.int .i64 0,.slice none 0 0] (0,0) _ _ rfl rfl (S2.out.z.put3 0 0 (.slice none 0 0)) Try.underlying62 rfl (by kernel_rfl)) rfl ?_
  rw [HR.out]
  exact ⟨.slice none 0 0,rfl,Kd.R_nil _ _ _ _ _,S2.out.b3 _ _ _⟩
 have e3 : ((vs.length : Int) != wrap64 (r * c)) = false:=by simp [h3]
 by_cases h4 : (x.length : Int) = c
 case neg =>
  have e4 : ((x.length : Int) != c) = true:=by simp [h4]
  go_enter Try.func30,Try.ntmps30
  go_wp2_with (fail)
  rw [HW0.out]
  clear HW0
  refine (hornbeamref11_Few.calls r true _ (by rw [few_f];exact congrArg some (h1))).mono ?_
  rintro e w1 ⟨rfl,hdr⟩
  have S1:=Aside0.mk (S0.out.step (drawn_below hdr))
  clear hdr S0
  have q8:=S1.out.d.c8
  go_wp2_with (fail)
  clear q8
  refine (hornbeamref11_Few.calls c true _ (by rw [few_f];exact congrArg some (h2))).mono ?_
  rintro e w2 ⟨rfl,hdr⟩
  have S2:=Aside0.mk (S1.out.step (drawn_below hdr))
  clear hdr S1
  have q7:=S2.out.d.c7
  have q8:=S2.out.d.c8
  have q9:=S2.out.d.c9
  have HR:=Aside0.mk (show ofR r c vs x = (0,0,[],8) from ofR_none (Or.inr (Or.inr (Or.inr h4))))
  have z0:=S2.out.z.c0
  have f0:=S2.out.z.f0
  have z1:=S2.out.z.c1
  have f1:=S2.out.z.f1
  have z2:=S2.out.z.c2
  have f2:=S2.out.z.f2
  go_wp2
  refine bodyPost_ret (results_two rfl _ _ (w.heap.size + 1) 62 #[.int .i64 0,.int .i64 0,.slice none 0 0] (0,0) _ _ rfl rfl (S2.out.z.put3 0 0 (.slice none 0 0)) Try.underlying62 rfl (by kernel_rfl)) rfl ?_
  rw [HR.out]
  exact ⟨.slice none 0 0,rfl,Kd.R_nil _ _ _ _ _,S2.out.b3 _ _ _⟩
 have e4 : ((x.length : Int) != c) = false:=by simp [h4]
 go_enter Try.func30,Try.ntmps30
 go_wp2_with (fail)
 rw [HW0.out]
 clear HW0
 refine (hornbeamref11_Few.calls r true _ (by rw [few_f];exact congrArg some (h1))).mono ?_
 rintro e w1 ⟨rfl,hdr⟩
 have S1:=Aside0.mk (S0.out.step (drawn_below hdr))
 clear hdr S0
 have q8:=S1.out.d.c8
 go_wp2_with (fail)
 clear q8
 refine (hornbeamref11_Few.calls c true _ (by rw [few_f];exact congrArg some (h2))).mono ?_
 rintro e w2 ⟨rfl,hdr⟩
 have S2:=Aside0.mk (S1.out.step (drawn_below hdr))
 clear hdr S1
 have q7:=S2.out.d.c7
 have q8:=S2.out.d.c8
 have q9:=S2.out.d.c9
 obtain ⟨R,C,rfl,rfl,hR,hC,hs⟩:=shaped_of h1 h2 h3
 have hxl : x.length = C:=by omega
 have HRX:=Aside0.mk (ofR_some hs hxl)
 have HS:=Aside0.mk hs
 have HXL:=Aside0.mk hxl
 clear h1 h2 h3 h4 hs hxl
 go_wp2_with (fail)
 clear q7 q8 q9 e3 e4
 obtain ⟨W3,hW3⟩ : ∃ W3,w2.alloc (.cells #[.int .i64 (R : Int),.int .i64 (C : Int),.slice none 0 0] 62) = W3:=⟨_,rfl⟩
 obtain ⟨gm,hgm⟩ : ∃ gm,w2.heap.size = gm:=⟨_,rfl⟩
 have S3:=Aside0.mk (show On w W3 gm k0 k1 k2 k3 k4 k5 k6 R C Av At vs.length cv t.length ct (.slice none 0 0) (cellsX R (0 * R) x vs) from by
  rw [← hW3,← hgm,Nat.zero_mul]
  exact ⟨S2.out.step (below_alloc (Below.refl _ _) _),blk_new w2 _,Kd.R_nil _ _ _ _ _,blk_lt S2.out.z⟩)
 rw [hW3,hgm]
 clear hW3 hgm S2
 go_loopw [7] (fun v7 w'=>∃ (j : Nat) (um : Value),j ≤ C ∧ v7 = .int .i64 j ∧ Aside0 (On w w' gm k0 k1 k2 k3 k4 k5 k6 R C Av At vs.length cv t.length ct um (cellsX R (j * R) x vs))) (fun u _=>C - (intOf u).toNat)
 case atStart=>exact ⟨0,_,by omega,rfl,S3⟩
 case round =>
  obtain ⟨j,um,hj,rfl,SJ⟩:=hrel
  clear S3
  have q8:=SJ.out.q.d.c8
  by_cases hlt : j < C
  ·have d0 : decide ((j : Int) < (C : Int)) = true:=decide_eq_true (by omega)
   obtain ⟨adx,Ae,ce,hea,hex,hec,heC⟩:=PB.at_L7 (Kd.C_below HX.out SJ.out.q.b) (j : Int) (by omega) (by have:=HXL.out;omega)
   cases hea
   go_wp2_with (fail)
   clear q8 d0
   have SI0:=Aside0.mk (show On w _ gm k0 k1 k2 k3 k4 k5 k6 R C Av At vs.length cv t.length ct um (cellsX R (j * R + 0) x vs) from SJ.out)
   clear hex hec heC
   go_loopw [8] (fun v8 w'=>∃ (i : Nat) (um : Value),i ≤ R ∧ v8 = .int .i64 i ∧ Aside0 (On w w' gm k0 k1 k2 k3 k4 k5 k6 R C Av At vs.length cv t.length ct um (cellsX R (j * R + i) x vs))) (fun u _=>R - (intOf u).toNat)
   case atStart=>exact ⟨0,_,by omega,rfl,SI0⟩
   case round =>
    obtain ⟨i,um,hi,rfl,SI⟩:=hrel
    clear SJ SI0
    have q7:=SI.out.q.d.c7
    by_cases hil : i < R
    ·have d0 : decide ((i : Int) < (R : Int)) = true:=decide_eq_true (by omega)
     go_upto_region 10 with (fail)
     clear q7 d0
     obtain ⟨pl1,pl2⟩:=place_in HS.out hlt hil
     obtain ⟨p,hp⟩ : ∃ p,p = j * R + i:=⟨_,rfl⟩
     rw [← hp] at pl1 pl2
     obtain ⟨adx2,Ae,ce,hea,hex,hec,heC⟩:=PB.at_L7 (Kd.C_below HX.out SI.out.q.b) (j : Int) (by omega) (by have:=HXL.out;omega)
     cases hea
     obtain ⟨ad,ea,hc1⟩:=Flt.at_kf (Kd.C_below HRV.out SI.out.q.b) (p : Int) (by omega) (by omega)
     cases ea
     simp only [rdOf,Int.toNat_natCast] at hc1
     obtain ⟨e,he⟩ : ∃ e,e = x.getD j []:=⟨_,rfl⟩
     obtain ⟨f,hf⟩ : ∃ f,f = vs.getD p 0:=⟨_,rfl⟩
     obtain ⟨b,hb0⟩ : ∃ b,b = binT e f:=⟨_,rfl⟩
     rw [← hf] at hc1
     have hrd : PB.rd_L7 x (j : Int) = e:=by rw [he];simp [PB.rd_L7]
     rw [hrd] at hex hec heC
     simp only [Int.toNat_natCast] at hex
     have hew : W64 e ∧ e.length ≤ 300:=by rw [he];exact HL.out.2.2.get j
     have hfw : f < 18446744073709551616:=by rw [hf];exact getD_w HL.out.2.1 _
     have HBF:=Aside0.mk (show hornbeamref10_Bin.f 400 e f = some b by rw [hb0];exact ref_bin_f e f hew.1 hfw (by omega) 400 (by omega))
     have hbr:=bin_range e f
     have hb65 : b ≤ 301 ∧ 0 ≤ b:=by rw [hb0];omega
     have HCX:=Aside0.mk (show cellsX R (j * R + (i + 1)) x vs = cellsX R (j * R + i) x vs ++ [b] by
      rw [← Nat.add_assoc,cellsX_succ,hb0,he,hf,hp]
      unfold cellX
      rw [Nat.mul_comm,Nat.mul_add_div (by omega),Nat.div_eq_of_lt hil,Nat.add_zero])
     have HB65:=Aside0.mk hb65
     have HPN:=Aside0.mk (show j * R + i < 600 by have:=HL.out.1;omega)
     have HEC:=Aside0.mk (And.intro hec heC)
     clear hp he hf hb0 hrd hew hfw hbr hb65 hec heC
     refine start_ (n:=16) (S:=fun W=>W.cell? (adx.add j) = some (.slice Ae e.length ce) ∧ Dat W w.heap.size k0 k1 k2 k3 k4 k5 k6 R C (.slice (some ad) vs.length cv) (.slice At t.length ct) ∧ W.cell? (ad.add p) = some (.float .f64 f)) (ds:=[]) #[false,false,false,false,false,false,false,false,false,false,false,false,false,false,false,false] (by kernel_rfl) rfl rfl ⟨hex,SI.out.q.d,hc1⟩ (fun hHeld=>?_)
     refine with_tabW tab10 bits10 (fun HT_ HW_=>?_)
     have S4:=Aside0.mk (SI.out.step (below_drew (Below.refl _ _)))
     have HEC:=Aside0.mk (And.intro HEC.out.1 (Kd.C_below HEC.out.2 (below_drew (Below.refl _ _))))
     clear SI hex hc1
     generalize wr.drew = w4 at S4 HEC hHeld ⊢
     have hxl : (j : Int) < (x.length : Int):=by have:=HXL.out;omega
     refine pure_ (i:=0) (N:=some 56) (v:=?_) (a':=?_) #[true,false,false,false,false,false,false,false,false,false,false,false,false,false,false,false] rfl rfl (any_of HT_.out (by kernel_rfl)) (fun _ _ _ h=>h) (Or.inl ⟨by rfl,?_⟩) ?_ ?_
     rotate_left
     ·intro w'
      go_simp
      with_reducible rfl
     rotate_left
     ·simp only [Act.put,List.setIfInBounds_toArray,List.set_cons_zero,List.set_cons_succ,i64_w,i32_w]
      rfl
     refine pure_ (i:=1) (N:=some 57) (v:=?_) (a':=?_) #[true,true,false,false,false,false,false,false,false,false,false,false,false,false,false,false] rfl rfl (any_of HT_.out (by kernel_rfl)) (fun _ _ _ h=>h) (Or.inl ⟨by rfl,?_⟩) ?_ ?_
     rotate_left
     ·intro w'
      go_simp
      with_reducible rfl
     rotate_left
     ·simp only [Act.put,List.setIfInBounds_toArray,List.set_cons_zero,List.set_cons_succ,i64_w,i32_w]
      rfl
     refine pure_ (i:=2) (N:=some 58) (v:=?_) (a':=?_) #[true,true,true,false,false,false,false,false,false,false,false,false,false,false,false,false] rfl rfl (any_of HT_.out (by kernel_rfl)) (fun _ _ _ h=>h) (Or.inl ⟨by rfl,?_⟩) ?_ ?_
     rotate_left
     ·intro w'
      go_simp
      with_reducible rfl
     rotate_left
     ·simp only [Act.put,List.setIfInBounds_toArray,List.set_cons_zero,List.set_cons_succ,i64_w,i32_w]
      rfl
     refine take_ (i:=3) (N:=some 59) (v:=?_) (a':=?_) #[true,true,true,true,false,false,false,false,false,false,false,false,false,false,false,false] rfl rfl (take_ofW HT_.out HW_.out (by kernel_rfl)) (fun _ _ _ h=>h) (Or.inl ⟨by rfl,?_⟩) hHeld ?_ ?_
     rotate_left
     ·intro w' s
      have s0:=s.1
      have s7:=s.2.1.c7
      have s9:=s.2.1.c9
      have s2:=s.2.2
      clear s
      go_simp
      with_reducible rfl
     rotate_left
     ·simp only [Act.put,List.setIfInBounds_toArray,List.set_cons_zero,List.set_cons_succ,i64_w,i32_w]
      rfl
     refine pure_ (i:=4) (N:=some 60) (v:=?_) (a':=?_) #[true,true,true,true,true,false,false,false,false,false,false,false,false,false,false,false] rfl rfl (any_of HT_.out (by kernel_rfl)) (fun _ _ _ h=>h) (Or.inl ⟨by rfl,?_⟩) ?_ ?_
     rotate_left
     ·intro w'
      go_simp
      with_reducible rfl
     rotate_left
     ·simp only [Act.put,List.setIfInBounds_toArray,List.set_cons_zero,List.set_cons_succ,i64_w,i32_w]
      rfl
     refine take_ (i:=5) (N:=some 61) (v:=?_) (a':=?_) #[true,true,true,true,true,true,false,false,false,false,false,false,false,false,false,false] rfl rfl (take_ofW HT_.out HW_.out (by kernel_rfl)) (fun _ _ _ h=>h) (Or.inl ⟨by rfl,?_⟩) hHeld ?_ ?_
     rotate_left
     ·intro w' s
      have s0:=s.1
      have s7:=s.2.1.c7
      have s9:=s.2.1.c9
      have s2:=s.2.2
      clear s
      go_simp
      with_reducible rfl
     rotate_left
     ·simp only [Act.put,List.setIfInBounds_toArray,List.set_cons_zero,List.set_cons_succ,i64_w,i32_w]
      rfl
     refine pure_ (i:=6) (N:=some 62) (v:=?_) (a':=?_) #[true,true,true,true,true,true,true,false,false,false,false,false,false,false,false,false] rfl rfl (any_of HT_.out (by kernel_rfl)) (fun _ _ _ h=>h) (Or.inl ⟨by rfl,?_⟩) ?_ ?_
     rotate_left
     ·intro w'
      go_simp
      with_reducible rfl
     rotate_left
     ·simp only [Act.put,List.setIfInBounds_toArray,List.set_cons_zero,List.set_cons_succ,i64_w,i32_w]
      rfl
     refine pure_ (i:=7) (N:=some 63) (v:=?_) (a':=?_) #[true,true,true,true,true,true,true,true,false,false,false,false,false,false,false,false] rfl rfl (any_of HT_.out (by kernel_rfl)) (fun _ _ _ h=>h) (Or.inl ⟨by rfl,?_⟩) ?_ ?_
     rotate_left
     ·intro w'
      go_simp
      with_reducible rfl
     rotate_left
     ·simp only [Act.put,List.setIfInBounds_toArray,List.set_cons_zero,List.set_cons_succ,i64_w,i32_w]
      rfl
     refine take_ (i:=8) (N:=some 64) (v:=?_) (a':=?_) #[true,true,true,true,true,true,true,true,true,false,false,false,false,false,false,false] rfl rfl (take_ofW HT_.out HW_.out (by kernel_rfl)) (fun _ _ _ h=>h) (Or.inl ⟨by rfl,?_⟩) hHeld ?_ ?_
     rotate_left
     ·intro w' s
      have s0:=s.1
      have s7:=s.2.1.c7
      have s9:=s.2.1.c9
      have s2:=s.2.2
      clear s
      go_simp
      with_reducible rfl
     rotate_left
     ·simp only [Act.put,List.setIfInBounds_toArray,List.set_cons_zero,List.set_cons_succ,i64_w,i32_w]
      rfl
     refine pure_ (i:=9) (N:=some 65) (v:=?_) (a':=?_) #[true,true,true,true,true,true,true,true,true,true,false,false,false,false,false,false] rfl rfl (any_of HT_.out (by kernel_rfl)) (fun _ _ _ h=>h) (Or.inl ⟨by rfl,?_⟩) ?_ ?_
     rotate_left
     ·intro w'
      go_simp
      with_reducible rfl
     rotate_left
     ·simp only [Act.put,List.setIfInBounds_toArray,List.set_cons_zero,List.set_cons_succ,i64_w,i32_w]
      rfl
     refine pure_ (i:=10) (N:=some 66) (v:=?_) (a':=?_) #[true,true,true,true,true,true,true,true,true,true,true,false,false,false,false,false] rfl rfl (any_of HT_.out (by kernel_rfl)) (fun _ _ _ h=>h) (Or.inl ⟨by rfl,?_⟩) ?_ ?_
     rotate_left
     ·intro w'
      go_simp
      with_reducible rfl
     rotate_left
     ·simp only [Act.put,List.setIfInBounds_toArray,List.set_cons_zero,List.set_cons_succ,i64_w,i32_w]
      rfl
     refine pure_ (i:=11) (N:=some 67) (v:=?_) (a':=?_) #[true,true,true,true,true,true,true,true,true,true,true,true,false,false,false,false] rfl rfl (any_of HT_.out (by kernel_rfl)) (fun _ _ _ h=>h) (Or.inl ⟨by rfl,?_⟩) ?_ ?_
     rotate_left
     ·intro w'
      go_simp
      with_reducible rfl
     rotate_left
     ·simp only [Act.put,List.setIfInBounds_toArray,List.set_cons_zero,List.set_cons_succ,i64_w,i32_w]
      rfl
     refine pure_ (i:=12) (N:=some 68) (v:=?_) (a':=?_) #[true,true,true,true,true,true,true,true,true,true,true,true,true,false,false,false] rfl rfl (any_of HT_.out (by kernel_rfl)) (fun _ _ _ h=>h) (Or.inl ⟨by rfl,?_⟩) ?_ ?_
     rotate_left
     ·intro w'
      go_simp
      with_reducible rfl
     rotate_left
     ·simp only [Act.put,List.setIfInBounds_toArray,List.set_cons_zero,List.set_cons_succ,i64_w,i32_w]
      rfl
     refine take_ (i:=13) (N:=some 69) (v:=?_) (a':=?_) #[true,true,true,true,true,true,true,true,true,true,true,true,true,true,false,false] rfl rfl (take_ofW HT_.out HW_.out (by kernel_rfl)) (fun _ _ _ h=>h) (Or.inl ⟨by rfl,?_⟩) hHeld ?_ ?_
     rotate_left
     ·intro w' s
      have s0:=s.1
      have s7:=s.2.1.c7
      have s9:=s.2.1.c9
      have s2:=s.2.2
      clear s
      go_simp
      with_reducible rfl
     rotate_left
     ·simp only [Act.put,List.setIfInBounds_toArray,List.set_cons_zero,List.set_cons_succ,i64_w,i32_w]
      rfl
     refine one_ (i:=14) (N:=some 70) #[true,true,true,true,true,true,true,true,true,true,true,true,true,true,true,false] rfl rfl (one_of HT_.out (by kernel_rfl)) (by decide) (fun K hK=>?_)
     refine goes_ Try.func72 (by kernel_rfl) rfl #[.slice Ae e.length ce,.float .f64 f] (by rfl) rfl rfl (by (try simp only [List.map_toArray,List.map_cons,List.map_nil]);first|done|rfl) ?_
     refine (hornbeamref10_Bin.calls 400 Ae ce e f b _ HEC.out.2 HEC.out.1 HBF.out).mono ?_
     rintro e9 w5 ⟨rfl,hdr⟩
     refine ⟨_,rfl,?_⟩
     have S5:=Aside0.mk (S4.out.step (drawn_below hdr))
     have hHeld2:=Aside0.mk (show (fun W=>W.cell? (adx.add j) = some (.slice Ae e.length ce) ∧ Dat W w.heap.size k0 k1 k2 k3 k4 k5 k6 R C (.slice (some ad) vs.length cv) (.slice At t.length ct) ∧ W.cell? (ad.add p) = some (.float .f64 f)) w5 from ⟨cell_below hHeld.1 (drawn_below hdr),S5.out.q.d,cell_below hHeld.2.2 (drawn_below hdr)⟩)
     clear hdr S4
     refine hK.out _ _ hHeld2.out (fun hHeld=>?_)
     clear hK K hHeld2
     refine norm_ (a':=?_) ?_ ?_
     rotate_left
     ·show Act.put _ (some 70) _ = _
      simp only [Act.put,List.setIfInBounds_toArray,List.set_cons_zero,List.set_cons_succ,i64_w,i32_w]
      rfl
     refine pure_ (i:=15) (N:=some 9) (v:=?_) (a':=?_) #[true,true,true,true,true,true,true,true,true,true,true,true,true,true,true,true] rfl rfl (any_of HT_.out (by kernel_rfl)) (fun _ _ _ h=>h) (Or.inl ⟨by rfl,?_⟩) ?_ ?_
     rotate_left
     ·intro w'
      go_simp
      with_reducible rfl
     rotate_left
     ·simp only [Act.put,List.setIfInBounds_toArray,List.set_cons_zero,List.set_cons_succ,i64_w,i32_w]
      rfl
     refine done_ (done_of HT_.out (by kernel_rfl)) ?_
     clear hHeld HT_ HW_ pl1 hxl HEC
     have d5 : decide (b > 65535) = false:=decide_eq_false (by have:=HB65.out;omega)
     have w16 : IntKind.u16.wrap b = b:=wrap_u16 (by have:=HB65.out;omega) (by have:=HB65.out;omega)
     have m2:=S5.out.m.c2
     go_wp2_with (first|((with_reducible refine gate_builtin (b:=.append) (xs:=#[.tmp 74,.tmp 77]) rfl ?_);at_builtin;refine Kd.R_append (Kd.int .u16) (w0:=w) w.heap.size rfl (.tmp 74) (.tmp 77) 60 53 (.int .u16 0) 2 rfl Try.underlying60 info_u16 rfl (by decide) (by omega) um (cellsX R (j * R + i) x vs) b [.int .u16 b] (fun _=>True) (fun _=>False) rfl rfl ?aP (fun _ hk=>hk.elim) (fun _ _=>trivial) S5.out.fc S5.out.q.b (below_size S5.out.q.b) (by rw [cellsX_len];have:=HPN.out;omega) ?_;(case aP=>exact rfl);intro v1 w6 hR1 hb1 hg1 ha1;obtain ⟨Ab,cb,hv1⟩:=Kd.R_slice hR1;rw [← HCX.out] at hR1 hv1;obtain ⟨n1,hn1⟩ : ∃ n1,(cellsX R (j * R + (i + 1)) x vs).length = n1:=⟨_,rfl⟩;rw [hn1] at hv1;subst hv1;clear hn1;have S6:=Aside0.mk (S5.out.app hR1 hb1 hg1);have m2':=S6.out.1.c2;have f2':=S6.out.1.f2;clear hR1 hb1 hg1 ha1 m2))
     have S7:=Aside0.mk S6.out.2
     clear S6 S5 d5 w16 m2' f2'
     exact ⟨⟨i + 1,_,by omega,by go_num,S7⟩,by simp [intOf];omega⟩
    ·have d0 : decide ((i : Int) < (R : Int)) = false:=decide_eq_false (by omega)
     have SE:=Aside0.mk (show On w _ gm k0 k1 k2 k3 k4 k5 k6 R C Av At vs.length cv t.length ct um (cellsX R ((j + 1) * R) x vs) from by rw [show cellsX R ((j + 1) * R) x vs = cellsX R (j * R + i) x vs by rw [Nat.succ_mul,show i = R by omega]];exact SI.out)
     go_wp2
     exact ⟨⟨j + 1,_,by omega,by go_num,SE⟩,by simp [intOf];omega⟩
  ·have d0 : decide ((j : Int) < (C : Int)) = false:=decide_eq_false (by omega)
   have hjc : j * R = vs.length:=by
    obtain ⟨_,_,_,_,h5⟩:=shp_is HS.out
    rw [show j = C by omega,Nat.mul_comm];rw [← Int.natCast_mul] at h5;omega
   have SE:=Aside0.mk (show On w _ gm k0 k1 k2 k3 k4 k5 k6 R C Av At vs.length cv t.length ct um (cellsX R vs.length x vs) from by rw [show cellsX R vs.length x vs = cellsX R (j * R) x vs by rw [hjc]];exact SJ.out)
   clear hjc SJ
   obtain ⟨Am,cm,eum⟩:=Kd.R_slice SE.out.fc
   subst eum
   have m0:=SE.out.m.c0
   have m1:=SE.out.m.c1
   have m2:=SE.out.m.c2
   have z0:=SE.out.q.z.c0
   have z1:=SE.out.q.z.c1
   have z2:=SE.out.q.z.c2
   have f0:=SE.out.q.z.f0
   have f1:=SE.out.q.z.f1
   have f2:=SE.out.q.z.f2
   go_wp2
   refine bodyPost_ret (results_two rfl _ _ (w.heap.size + 1) 62 #[.int .i64 (R : Int),.int .i64 (C : Int),.slice Am (cellsX R vs.length x vs).length cm] (0,0) _ _ rfl rfl (SE.out.q.z.put3 (R : Int) (C : Int) _) Try.underlying62 rfl (by kernel_rfl)) rfl ?_
   rw [HRX.out]
   exact ⟨_,rfl,SE.out.fin _ _ _,SE.out.q.b3 _ _ _⟩
end Go.Proofs.Ytnagfbadjbkhmaa.FRefOf
