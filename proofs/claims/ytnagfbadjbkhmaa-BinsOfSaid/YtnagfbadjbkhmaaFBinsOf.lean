/- The law BinsOf by a walk. -/
import Derived.Test.YtnagfbadjbkhmaaFFix11
namespace Go.Proofs.Ytnagfbadjbkhmaa.FBinsOf
open Go.RowKit Go.Shelf Go.Proofs.YtnagfbadjbkhmaaW.PrintWords Go.Proofs.YtnagfbadjbkhmaaW.PrintLast Go.Proofs.YtnagfbadjbkhmaaW.PrintMore Go.Proofs.Ytnagfbadjbkhmaa.Pure Go.Proofs.Ytnagfbadjbkhmaa.PureFlt Go.Proofs.Ytnagfbadjbkhmaa.PB Go.Proofs.Ytnagfbadjbkhmaa.PureOrd Go.Proofs.Ytnagfbadjbkhmaa.PureOf Go.Proofs.Ytnagfbadjbkhmaa.FRefOf
attribute [local go_sem high] Flt.run_bits Flt.run_frombits
set_option linter.unusedVariables false
set_option linter.unusedSimpArgs false
/-- The plain dataset that came in, and the dataset of it. -/
structure St (w W : World) (g : Nat) (k0 k1 k2 k3 k4 k5 k6 r c : Int) (A9 A10 Av At : Option Addr) (c9 c10 cv ct : Nat) (v t : List Int) (vs : List Nat) : Prop where
 p : Pl W w.heap.size k0 k1 k2 k3 k4 k5 k6 r c (.slice A9 v.length c9) (.slice A10 t.length c10)
 d : Dat W g k0 k1 k2 k3 k4 k5 k6 r c (.slice Av vs.length cv) (.slice At t.length ct)
 fv : Kd.R Flt.kf 36 W w.heap.size (fun _=>True) (.slice Av vs.length cv) vs
 ft : Kd.R (Kd.int .i64) 2 W w.heap.size (fun _=>True) (.slice At t.length ct) t
 b : Below w.heap.size w W
section
variable {w W W' : World} {g gm : Nat} {k0 k1 k2 k3 k4 k5 k6 r c : Int} {A9 A10 Av At : Option Addr} {c9 c10 cv ct : Nat} {v t : List Int} {vs : List Nat}
theorem St.step (h : St w W g k0 k1 k2 k3 k4 k5 k6 r c A9 A10 Av At c9 c10 cv ct v t vs) (hb : Below W.heap.size W W') : St w W' g k0 k1 k2 k3 k4 k5 k6 r c A9 A10 Av At c9 c10 cv ct v t vs :=
 ⟨blk_below h.p hb,blk_below h.d hb,Kd.R_below h.fv hb,Kd.R_below h.ft hb,below_step h.b hb⟩
theorem St.far (h : St w W g k0 k1 k2 k3 k4 k5 k6 r c A9 A10 Av At c9 c10 cv ct v t vs) (hb : Below W.heap.size W W') : St w W' g k0 k1 k2 k3 k4 k5 k6 r c A9 A10 Av At c9 c10 cv ct v t vs:=h.step hb
end
/-- A row of the cuts. -/
theorem at_cut {w : World} {A : Option Addr} {n : Nat} {xs : List (List Int)} (h : Kd.C (Kd.slice 37 (Kd.int .u64)) w A n xs) (i : Int) (h0 : 0 ≤ i) (h1 : i < n) : ∃ ad A0 c0,A = some ad ∧ w.cell? (ad.add i.toNat) = some (.slice A0 (xs.getD i.toNat []).length c0) ∧ (xs.getD i.toNat []).length ≤ c0 ∧ (Kd.int .u64).C w A0 (xs.getD i.toNat []).length (xs.getD i.toNat []):=by
 obtain ⟨ad,c,e,_,hK,hc0⟩:=Kd.C_get h ([] : List Int) i h0 h1
 have hc : ∀ j u,c[j]? = some u → w.cell? (ad.add (i.toNat * 1 + j)) = some u:=hc0
 obtain ⟨A0,c0,rfl,l0,g0⟩:=hK
 exact ⟨ad,A0,c0,e,by have hq:=hc 0 _ rfl;rwa [Nat.mul_one,Nat.add_zero] at hq,l0,g0⟩
/-- The edges that are taken: the dataset's, then those that came in. -/
theorem which {W9 W : World} {A6 Ao : Option Addr} {c6 co gl q : Nat} {es xs : List (List Nat)} (h1 : Kd.C (Kd.slice 36 Flt.kf) W9 A6 es.length es) (h2 : Kd.C (Kd.slice 36 Flt.kf) W9 Ao xs.length xs) (h3 : W9.heap[gl]? = some (.cells #[.slice A6 es.length c6,.slice Ao xs.length co] 56 (0,0)))
  (h4 : es.length ≤ c6) (h5 : xs.length ≤ co) (h6 : RW es) (h7 : RW xs) (hb : Below W9.heap.size W9 W) (hq : q < 2) :
  ∃ (Ax : Option Addr) (cx : Nat) (ys : List (List Nat)),W.cell? ((⟨gl,0,none⟩ : Addr).add q) = some (.slice Ax ys.length cx) ∧ ys.length ≤ cx ∧ Kd.C (Kd.slice 36 Flt.kf) W Ax ys.length ys ∧ RW ys:=by
 have h3':=blk_below h3 hb
 have e : (⟨gl,0,none⟩ : Addr).add q = ⟨gl,q,none⟩:=by
  simp [Addr.add]
  intro h
  exact h.symm
 rw [e]
 rcases Nat.lt_or_ge q 1 with h|h
 ·obtain rfl : q = 0:=by omega
  exact ⟨A6,c6,es,(blk_cell h3' 0).trans rfl,h4,Kd.C_below h1 hb,h6⟩
 ·obtain rfl : q = 1:=by omega
  exact ⟨Ao,co,xs,(blk_cell h3' 1).trans rfl,h5,Kd.C_below h2 hb,h7⟩
def T4 : Bool × List (List Nat × List Nat):=(true,[([],[]),([0],[0]),([],[]),([2,1],[2]),([1,3,0,1],[1]),([3,4,0,1,2,3,4],[3])])
def T10 : Bool × List (List Nat × List Nat):=(true,[([],[]),([],[]),([0,1],[0,1]),([2],[2]),([],[]),([],[]),([4,5],[4,5]),([6],[6]),([3,7],[3,7]),([8],[8])])
def B4 : List Nat:=[0,1,0,7,15,31]
def B10 : List Nat:=[0,0,3,7,0,0,48,112,255,511]
theorem tab4 : rtab .any (opsOf Try.f7 4) = T4:=by kernel_rfl
theorem bits4 : waitsOk T4.2 B4 = true:=by kernel_rfl
theorem tab10 : rtab .any (opsOf Try.f7 10) = T10:=by kernel_rfl
theorem bits10 : waitsOk T10.2 B10 = true:=by kernel_rfl
set_option maxHeartbeats 20000000 in
set_option maxRecDepth 100000 in
theorem law_calls (k0 k1 k2 k3 k4 k5 k6 r c : Int) (A9 A10 : Option Addr) (c9 c10 : Nat) (v t : List Int) (B1 : Option Addr) (cap1 : Nat) (X1 : List (List Int)) (w : World) (hr9 : Kd.C (Kd.int .u64) w A9 v.length v) (hc9 : v.length ≤ c9) (hr10 : Kd.C (Kd.int .i64) w A10 t.length t) (hc10 : t.length ≤ c10)
  (hr1 : Kd.C (Kd.slice 37 (Kd.int .u64)) w B1 X1.length X1) (hc1 : X1.length ≤ cap1) (hv : ∀ y ∈ v,(Lit.int .u64 y).wf = true) (hX : ∀ l ∈ X1,∀ y ∈ l,(Lit.int .u64 y).wf = true) :
  Calls Try.prog 7 #[.agg #[.int .i64 k0,.int .i64 k1,.int .i64 k2,.int .i64 k3,.int .i64 k4,.int .i64 k5,.int .i64 k6,.int .i64 r,.int .i64 c,.slice A9 v.length c9,.slice A10 t.length c10],.slice B1 X1.length cap1] w fun e w'=>e = .returned (.bool true) ∧ Below w.heap.size w w':=by
 have hu:=Try.underlying32
 have hu2:=Try.underlying62
 have hu3:=Try.underlying27
 have HR9:=Aside0.mk hr9
 have HC9:=Aside0.mk hc9
 have HR10:=Aside0.mk hr10
 have HC10:=Aside0.mk hc10
 have HR1:=Aside0.mk (And.intro hc1 hr1)
 have HV:=Aside0.mk (of_w64 hv)
 have HXW:=Aside0.mk hX
 obtain ⟨W0,hW0⟩ : ∃ W0,w.alloc (.cells #[.int .i64 k0,.int .i64 k1,.int .i64 k2,.int .i64 k3,.int .i64 k4,.int .i64 k5,.int .i64 k6,.int .i64 r,.int .i64 c,.slice A9 v.length c9,.slice A10 t.length c10] 27) = W0:=⟨_,rfl⟩
 have P0:=Aside0.mk (show Pl W0 w.heap.size k0 k1 k2 k3 k4 k5 k6 r c (.slice A9 v.length c9) (.slice A10 t.length c10) from by rw [← hW0];exact blk_new w _)
 have B0:=Aside0.mk (show Below w.heap.size w W0 from by rw [← hW0];exact below_alloc (Below.refl _ w) _)
 have HW0:=Aside0.mk hW0
 clear hr9 hc9 hr10 hc10 hv hW0 hr1 hc1 hX
 by_cases hg : (decide (500 < v.length) || decide (200 < t.length)) = true
 ·have HG:=Aside0.mk (show hornbeamlaw09_Great.f k0 k1 k2 k3 k4 k5 k6 r c v t = some true from by rw [great_f,hg])
  clear hg
  go_enter Try.func7,Try.ntmps7
  go_wp2_with (fail)
  rw [HW0.out]
  refine (hornbeamlaw09_Great.calls k0 k1 k2 k3 k4 k5 k6 r c A9 c9 v A10 c10 t true _ (Kd.C_below HR9.out B0.out) HC9.out (Kd.C_below HR10.out B0.out) HC10.out HG.out).mono ?_
  rintro e w1 ⟨rfl,hb⟩
  have B1:=Aside0.mk (below_step B0.out hb)
  clear hb P0 B0 HG HW0
  go_wp2_with (fail)
  refine (FFix11.fixed_calls _).mono ?_
  rintro e w2 ⟨rfl,hb⟩
  have B2:=Aside0.mk (below_step B1.out hb)
  clear hb B1
  go_wp2
  go_ret
  exact ⟨rfl,B2.out⟩
 have hl : v.length ≤ 500:=by simp at hg;omega
 have ht : t.length ≤ 200:=by simp at hg;omega
 have HG:=Aside0.mk (show hornbeamlaw09_Great.f k0 k1 k2 k3 k4 k5 k6 r c v t = some false from by rw [great_f];congr 1;exact Bool.eq_false_iff.mpr hg)
 have HL:=Aside0.mk (And.intro hl ht)
 clear hg hl ht
 by_cases h8 : c > 1000
 ·have e8 : decide (c > 1000) = true:=decide_eq_true h8
  go_enter Try.func7,Try.ntmps7
  go_wp2_with (fail)
  rw [HW0.out]
  refine (hornbeamlaw09_Great.calls k0 k1 k2 k3 k4 k5 k6 r c A9 c9 v A10 c10 t false _ (Kd.C_below HR9.out B0.out) HC9.out (Kd.C_below HR10.out B0.out) HC10.out HG.out).mono ?_
  rintro e w1 ⟨rfl,hb⟩
  have P1:=Aside0.mk (show Pl w1 w.heap.size k0 k1 k2 k3 k4 k5 k6 r c (.slice A9 v.length c9) (.slice A10 t.length c10) from blk_below P0.out hb)
  have B1:=Aside0.mk (below_step B0.out hb)
  clear hb P0 B0 HG HW0
  have p8:=P1.out.c8
  go_wp2_with (fail)
  refine (FFix11.fixed_calls _).mono ?_
  rintro e w2 ⟨rfl,hb⟩
  have B2:=Aside0.mk (below_step B1.out hb)
  clear hb B1
  go_wp2
  go_ret
  exact ⟨rfl,B2.out⟩
 by_cases h7 : X1.length > 20
 ·have e8 : decide (c > 1000) = false:=decide_eq_false h8
  have e7 : decide ((X1.length : Int) > 20) = true:=decide_eq_true (by omega)
  go_enter Try.func7,Try.ntmps7
  go_wp2_with (fail)
  rw [HW0.out]
  refine (hornbeamlaw09_Great.calls k0 k1 k2 k3 k4 k5 k6 r c A9 c9 v A10 c10 t false _ (Kd.C_below HR9.out B0.out) HC9.out (Kd.C_below HR10.out B0.out) HC10.out HG.out).mono ?_
  rintro e w1 ⟨rfl,hb⟩
  have P1:=Aside0.mk (show Pl w1 w.heap.size k0 k1 k2 k3 k4 k5 k6 r c (.slice A9 v.length c9) (.slice A10 t.length c10) from blk_below P0.out hb)
  have B1:=Aside0.mk (below_step B0.out hb)
  clear hb P0 B0 HG HW0
  have p8:=P1.out.c8
  go_wp2_with (fail)
  refine (FFix11.fixed_calls _).mono ?_
  rintro e w2 ⟨rfl,hb⟩
  have B2:=Aside0.mk (below_step B1.out hb)
  clear hb B1
  go_wp2
  go_ret
  exact ⟨rfl,B2.out⟩
 have e8 : decide (c > 1000) = false:=decide_eq_false h8
 have e7 : decide ((X1.length : Int) > 20) = false:=decide_eq_false (by omega)
 have H87:=Aside0.mk (And.intro h8 h7)
 clear h8 h7
 go_enter Try.func7,Try.ntmps7
 go_wp2_with (fail)
 rw [HW0.out]
 refine (hornbeamlaw09_Great.calls k0 k1 k2 k3 k4 k5 k6 r c A9 c9 v A10 c10 t false _ (Kd.C_below HR9.out B0.out) HC9.out (Kd.C_below HR10.out B0.out) HC10.out HG.out).mono ?_
 rintro e w1 ⟨rfl,hb⟩
 have P1:=Aside0.mk (show Pl w1 w.heap.size k0 k1 k2 k3 k4 k5 k6 r c (.slice A9 v.length c9) (.slice A10 t.length c10) from blk_below P0.out hb)
 have B1:=Aside0.mk (below_step B0.out hb)
 clear hb P0 B0 HG HW0
 have p8:=P1.out.c8
 have p0:=P1.out.c0
 have p1:=P1.out.c1
 have p2:=P1.out.c2
 have p3:=P1.out.c3
 have p4:=P1.out.c4
 have p5:=P1.out.c5
 have p6:=P1.out.c6
 have p7:=P1.out.c7
 have p9:=P1.out.c9
 have p10:=P1.out.c10
 go_wp2_with (fail)
 clear p0 p1 p2 p3 p4 p5 p6 p7 p8 p9 p10 e7 e8
 obtain ⟨vs,hvs⟩ : ∃ vs,vs = v.map Flt.fbits:=⟨_,rfl⟩
 have HF:=Aside0.mk (show hornbeamref09_Plain_Full.f 600 k0 k1 k2 k3 k4 k5 k6 r c v t = some (k0,k1,k2,k3,k4,k5,k6,r,c,vs,t) from by rw [hvs];exact full_f k0 k1 k2 k3 k4 k5 k6 r c v t 600 (by have:=HL.out;omega) (by have:=HL.out;omega) (by have:=HL.out;omega))
 have HVW:=Aside0.mk (show W64 vs from by rw [hvs];exact HV.out)
 have HVL:=Aside0.mk (show vs.length ≤ 500 by rw [hvs,List.length_map];have:=HL.out;omega)
 clear hvs
 obtain ⟨es,HES⟩ : ∃ es : List (List Nat),Aside0 (bins_Edges.f 2000 k0 k1 k2 k3 k4 k5 k6 r c vs t = some es ∧ hornbeamref11_Edges.f 402000 k0 k1 k2 k3 k4 k5 k6 r c vs t = some es ∧ RW es ∧ es.length ≤ 1000):=by
  obtain ⟨es,h⟩:=edges_both k0 k1 k2 k3 k4 k5 k6 r c vs t HVL.out HVW.out (by have:=H87.out;omega)
  exact ⟨es,⟨h⟩⟩
 refine (hornbeamref09_Plain_Full.calls 600 k0 k1 k2 k3 k4 k5 k6 r c A9 c9 v A10 c10 t k0 k1 k2 k3 k4 k5 k6 r c vs t _ (Kd.C_below HR9.out B1.out) HC9.out (Kd.C_below HR10.out B1.out) HC10.out HF.out).mono ?_
 rintro e w2 ⟨u9,u10,rfl,hR9,hR10,hb⟩
 obtain ⟨Av,cv,rfl,_,_⟩:=Kd.R_reads hR9
 obtain ⟨At,ct,rfl,_,_⟩:=Kd.R_reads hR10
 obtain ⟨g,hgg⟩ : ∃ g,w2.heap.size = g:=⟨_,rfl⟩
 obtain ⟨W3,hW3⟩ : ∃ W3,w2.alloc (.cells #[.int .i64 k0,.int .i64 k1,.int .i64 k2,.int .i64 k3,.int .i64 k4,.int .i64 k5,.int .i64 k6,.int .i64 r,.int .i64 c,.slice Av vs.length cv,.slice At t.length ct] 32) = W3:=⟨_,rfl⟩
 have S3:=Aside0.mk (show St w W3 g k0 k1 k2 k3 k4 k5 k6 r c A9 A10 Av At c9 c10 cv ct v t vs from by
  rw [← hW3,← hgg]
  exact ⟨blk_alloc (blk_below P1.out hb) _,blk_new w2 _,Kd.R_below (Kd.R_lower hR9 (below_size B1.out)) (below_alloc (Below.refl _ _) _),Kd.R_below (Kd.R_lower hR10 (below_size B1.out)) (below_alloc (Below.refl _ _) _),below_alloc (below_step B1.out hb) _⟩)
 have HW3:=Aside0.mk hW3
 have HGG:=Aside0.mk hgg
 clear hR9 hR10 hb P1 B1 hW3 hgg HF
 go_upto_region 4 with (fail)
 rw [HW3.out,HGG.out]
 clear HW3 HGG
 refine start_ (n:=6) (S:=fun W=>Dat W g k0 k1 k2 k3 k4 k5 k6 r c (.slice Av vs.length cv) (.slice At t.length ct)) (ds:=[]) #[false,false,false,false,false,false] (by kernel_rfl) rfl rfl S3.out.d (fun hHeld=>?_)
 refine with_tabW tab4 bits4 (fun HT_ HW_=>?_)
 have S4:=Aside0.mk (S3.out.step (below_drew (Below.refl _ _)))
 clear S3
 generalize W3.drew = w3 at S4 hHeld ⊢
 refine take_ (i:=0) (N:=some 33) (v:=?_) (a':=?_) #[true,false,false,false,false,false] rfl rfl (take_ofW HT_.out HW_.out (by kernel_rfl)) (fun _ _ _ h=>h) (Or.inl ⟨by rfl,?_⟩) hHeld ?_ ?_
 rotate_left
 ·intro w' s
  have q0:=s.c0
  have q1:=s.c1
  have q2:=s.c2
  have q3:=s.c3
  have q4:=s.c4
  have q5:=s.c5
  have q6:=s.c6
  have q7:=s.c7
  have q8:=s.c8
  have q9:=s.c9
  have q10:=s.c10
  clear s
  go_simp
  with_reducible rfl
 rotate_left
 ·simp only [Act.put,List.setIfInBounds_toArray,List.set_cons_zero,List.set_cons_succ,i64_w,i32_w]
  rfl
 refine take_ (i:=2) (N:=some 35) (v:=?_) (a':=?_) #[true,false,true,false,false,false] rfl rfl (take_ofW HT_.out HW_.out (by kernel_rfl)) (fun _ _ _ h=>h) (Or.inl ⟨by rfl,?_⟩) hHeld ?_ ?_
 rotate_left
 ·intro w' s
  have q0:=s.c0
  have q1:=s.c1
  have q2:=s.c2
  have q3:=s.c3
  have q4:=s.c4
  have q5:=s.c5
  have q6:=s.c6
  have q7:=s.c7
  have q8:=s.c8
  have q9:=s.c9
  have q10:=s.c10
  clear s
  go_simp
  with_reducible rfl
 rotate_left
 ·simp only [Act.put,List.setIfInBounds_toArray,List.set_cons_zero,List.set_cons_succ,i64_w,i32_w]
  rfl
 refine one_ (i:=1) (N:=some 34) #[true,true,true,false,false,false] rfl rfl (one_of HT_.out (by kernel_rfl)) (by decide) (fun K hK=>?_)
 refine goes_ Try.func26 (by kernel_rfl) rfl #[.agg #[.int .i64 k0,.int .i64 k1,.int .i64 k2,.int .i64 k3,.int .i64 k4,.int .i64 k5,.int .i64 k6,.int .i64 r,.int .i64 c,.slice Av vs.length cv,.slice At t.length ct]] (by rfl) rfl rfl (by (try simp only [List.map_toArray,List.map_cons,List.map_nil]);first|done|rfl) ?_
 refine (bins_Edges.calls 2000 k0 k1 k2 k3 k4 k5 k6 r c Av cv vs At ct t es _ (Kd.R_reads' S4.out.fv).2.2 (Kd.R_reads' S4.out.fv).2.1 (Kd.R_reads' S4.out.ft).2.2 (Kd.R_reads' S4.out.ft).2.1 HES.out.1).mono ?_
 rintro e w4 ⟨u1,rfl,hR1,hb⟩
 obtain ⟨A6,c6,rfl,hc6,hC6⟩:=Kd.S_reads hR1
 refine ⟨_,rfl,?_⟩
 have S5:=Aside0.mk (S4.out.step hb)
 have HE6:=Aside0.mk (And.intro hc6 hC6)
 clear hR1 hc6 hC6 hb S4
 refine hK.out _ _ S5.out.d (fun hHeld=>?_)
 clear hK K
 refine norm_ (a':=?_) ?_ ?_
 rotate_left
 ·show Act.put _ (some 34) _ = _
  simp only [Act.put,List.setIfInBounds_toArray,List.set_cons_zero,List.set_cons_succ,i64_w,i32_w]
  rfl
 refine one_ (i:=3) (N:=some 36) #[true,true,true,true,false,false] rfl rfl (one_of HT_.out (by kernel_rfl)) (by decide) (fun K hK=>?_)
 refine goes_ Try.func27 (by kernel_rfl) rfl #[.agg #[.int .i64 k0,.int .i64 k1,.int .i64 k2,.int .i64 k3,.int .i64 k4,.int .i64 k5,.int .i64 k6,.int .i64 r,.int .i64 c,.slice Av vs.length cv,.slice At t.length ct]] (by rfl) rfl rfl (by (try simp only [List.map_toArray,List.map_cons,List.map_nil]);first|done|rfl) ?_
 refine (hornbeamref11_Edges.calls 402000 k0 k1 k2 k3 k4 k5 k6 r c Av cv vs At ct t es _ (Kd.R_reads' S5.out.fv).2.2 (Kd.R_reads' S5.out.fv).2.1 (Kd.R_reads' S5.out.ft).2.2 (Kd.R_reads' S5.out.ft).2.1 HES.out.2.1).mono ?_
 rintro e w5 ⟨u1,rfl,hR1,hb⟩
 obtain ⟨A7,c7,rfl,hc7,hC7⟩:=Kd.S_reads hR1
 refine ⟨_,rfl,?_⟩
 have S6:=Aside0.mk (S5.out.step hb)
 have HE6:=Aside0.mk (And.intro HE6.out.1 (Kd.C_below HE6.out.2 hb))
 have HE7:=Aside0.mk (And.intro hc7 hC7)
 clear hR1 hc7 hC7 hb S5
 refine hK.out _ _ S6.out.d (fun hHeld=>?_)
 clear hK K
 refine norm_ (a':=?_) ?_ ?_
 rotate_left
 ·show Act.put _ (some 36) _ = _
  simp only [Act.put,List.setIfInBounds_toArray,List.set_cons_zero,List.set_cons_succ,i64_w,i32_w]
  rfl
 refine pure_ (i:=4) (N:=some 6) (v:=?_) (a':=?_) #[true,true,true,true,true,false] rfl rfl (any_of HT_.out (by kernel_rfl)) (fun _ _ _ h=>h) (Or.inl ⟨by rfl,?_⟩) ?_ ?_
 rotate_left
 ·intro w'
  go_simp
  with_reducible rfl
 rotate_left
 ·simp only [Act.put,List.setIfInBounds_toArray,List.set_cons_zero,List.set_cons_succ,i64_w,i32_w]
  rfl
 refine pure_ (i:=5) (N:=some 7) (v:=?_) (a':=?_) #[true,true,true,true,true,true] rfl rfl (any_of HT_.out (by kernel_rfl)) (fun _ _ _ h=>h) (Or.inl ⟨by rfl,?_⟩) ?_ ?_
 rotate_left
 ·intro w'
  go_simp
  with_reducible rfl
 rotate_left
 ·simp only [Act.put,List.setIfInBounds_toArray,List.set_cons_zero,List.set_cons_succ,i64_w,i32_w]
  rfl
 refine done_ (done_of HT_.out (by kernel_rfl)) ?_
 clear hHeld HT_ HW_
 have hne : ((es.length : Int) != (es.length : Int)) = false:=by simp
 go_wp2_with (fail)
 clear hne
 have HB5:=Aside0.mk (Below.refl w5.heap.size w5)
 have hel : es.length ≤ 1000:=HES.out.2.2.2
 have hxl20 : X1.length ≤ 20:=by have:=H87.out;omega
 go_loopw [44] (fun v44 w'=>∃ j : Nat,j ≤ es.length ∧ v44 = .int .i64 j ∧ Aside0 (Below w5.heap.size w5 w')) (fun u _=>es.length - (intOf u).toNat)
 case atStart=>exact ⟨0,by omega,rfl,HB5⟩
 case round =>
  obtain ⟨j,hj,rfl,HB⟩:=hrel
  clear HB5
  by_cases hlt : j < es.length
  ·have d0 : decide ((j : Int) < (es.length : Int)) = true:=decide_eq_true (by omega)
   go_upto_region 10 with (fail)
   clear d0
   obtain ⟨ad6,Ae,ce,hea,hex,hec,heC⟩:=PB.at_L7 (Kd.C_below HE6.out.2 HB.out) (j : Int) (by omega) (by omega)
   obtain ⟨ad7,Af,cf,hfa,hfx,hfc,hfC⟩:=PB.at_L7 (Kd.C_below HE7.out.2 HB.out) (j : Int) (by omega) (by omega)
   cases hea
   cases hfa
   obtain ⟨el,hel0⟩ : ∃ el,el = PB.rd_L7 es (j : Int):=⟨_,rfl⟩
   rw [← hel0] at hex hec heC hfx hfc hfC
   simp only [Int.toNat_natCast] at hex hfx
   have hL3 : el.length ≤ 300:=by rw [hel0];have:=(HES.out.2.2.1.get j).2;simpa [PB.rd_L7] using this
   have HSM:=Aside0.mk (same_self el (by omega) 400 (by omega))
   have HAC:=Aside0.mk (And.intro (And.intro hec heC) (And.intro hfc hfC))
   clear hel0 hec heC hfc hfC hL3
   refine start_ (n:=10) (S:=fun W=>W.cell? (ad6.add j) = some (.slice Ae el.length ce) ∧ W.cell? (ad7.add j) = some (.slice Af el.length cf)) (ds:=[]) #[false,false,false,false,false,false,false,false,false,false] (by kernel_rfl) rfl rfl ⟨hex,hfx⟩ (fun hHeld=>?_)
   refine with_tabW tab10 bits10 (fun HT_ HW_=>?_)
   have HB1:=Aside0.mk (HB.out.trans (below_drew (Below.refl w5.heap.size _)))
   have HAC:=Aside0.mk (And.intro (And.intro HAC.out.1.1 (Kd.C_below HAC.out.1.2 (below_drew (Below.refl _ _)))) (And.intro HAC.out.2.1 (Kd.C_below HAC.out.2.2 (below_drew (Below.refl _ _)))))
   clear HB hex hfx
   generalize wr.drew = w6 at HB1 HAC hHeld ⊢
   have hjl : (j : Int) < (es.length : Int):=by omega
   refine pure_ (i:=0) (N:=some 47) (v:=?_) (a':=?_) #[true,false,false,false,false,false,false,false,false,false] rfl rfl (any_of HT_.out (by kernel_rfl)) (fun _ _ _ h=>h) (Or.inl ⟨by rfl,?_⟩) ?_ ?_
   rotate_left
   ·intro w'
    go_simp
    with_reducible rfl
   rotate_left
   ·simp only [Act.put,List.setIfInBounds_toArray,List.set_cons_zero,List.set_cons_succ,i64_w,i32_w]
    rfl
   refine pure_ (i:=1) (N:=some 48) (v:=?_) (a':=?_) #[true,true,false,false,false,false,false,false,false,false] rfl rfl (any_of HT_.out (by kernel_rfl)) (fun _ _ _ h=>h) (Or.inl ⟨by rfl,?_⟩) ?_ ?_
   rotate_left
   ·intro w'
    go_simp
    with_reducible rfl
   rotate_left
   ·simp only [Act.put,List.setIfInBounds_toArray,List.set_cons_zero,List.set_cons_succ,i64_w,i32_w]
    rfl
   refine pure_ (i:=2) (N:=some 49) (v:=?_) (a':=?_) #[true,true,true,false,false,false,false,false,false,false] rfl rfl (any_of HT_.out (by kernel_rfl)) (fun _ _ _ h=>h) (Or.inl ⟨by rfl,?_⟩) ?_ ?_
   rotate_left
   ·intro w'
    go_simp
    with_reducible rfl
   rotate_left
   ·simp only [Act.put,List.setIfInBounds_toArray,List.set_cons_zero,List.set_cons_succ,i64_w,i32_w]
    rfl
   refine take_ (i:=3) (N:=some 50) (v:=?_) (a':=?_) #[true,true,true,true,false,false,false,false,false,false] rfl rfl (take_ofW HT_.out HW_.out (by kernel_rfl)) (fun _ _ _ h=>h) (Or.inl ⟨by rfl,?_⟩) hHeld ?_ ?_
   rotate_left
   ·intro w' s
    have s0:=s.1
    have s1:=s.2
    clear s
    go_simp
    with_reducible rfl
   rotate_left
   ·simp only [Act.put,List.setIfInBounds_toArray,List.set_cons_zero,List.set_cons_succ,i64_w,i32_w]
    rfl
   refine pure_ (i:=4) (N:=some 51) (v:=?_) (a':=?_) #[true,true,true,true,true,false,false,false,false,false] rfl rfl (any_of HT_.out (by kernel_rfl)) (fun _ _ _ h=>h) (Or.inl ⟨by rfl,?_⟩) ?_ ?_
   rotate_left
   ·intro w'
    go_simp
    with_reducible rfl
   rotate_left
   ·simp only [Act.put,List.setIfInBounds_toArray,List.set_cons_zero,List.set_cons_succ,i64_w,i32_w]
    rfl
   refine pure_ (i:=5) (N:=some 52) (v:=?_) (a':=?_) #[true,true,true,true,true,true,false,false,false,false] rfl rfl (any_of HT_.out (by kernel_rfl)) (fun _ _ _ h=>h) (Or.inl ⟨by rfl,?_⟩) ?_ ?_
   rotate_left
   ·intro w'
    go_simp
    with_reducible rfl
   rotate_left
   ·simp only [Act.put,List.setIfInBounds_toArray,List.set_cons_zero,List.set_cons_succ,i64_w,i32_w]
    rfl
   refine pure_ (i:=6) (N:=some 53) (v:=?_) (a':=?_) #[true,true,true,true,true,true,true,false,false,false] rfl rfl (any_of HT_.out (by kernel_rfl)) (fun _ _ _ h=>h) (Or.inl ⟨by rfl,?_⟩) ?_ ?_
   rotate_left
   ·intro w'
    go_simp
    with_reducible rfl
   rotate_left
   ·simp only [Act.put,List.setIfInBounds_toArray,List.set_cons_zero,List.set_cons_succ,i64_w,i32_w]
    rfl
   refine take_ (i:=7) (N:=some 54) (v:=?_) (a':=?_) #[true,true,true,true,true,true,true,true,false,false] rfl rfl (take_ofW HT_.out HW_.out (by kernel_rfl)) (fun _ _ _ h=>h) (Or.inl ⟨by rfl,?_⟩) hHeld ?_ ?_
   rotate_left
   ·intro w' s
    have s0:=s.1
    have s1:=s.2
    clear s
    go_simp
    with_reducible rfl
   rotate_left
   ·simp only [Act.put,List.setIfInBounds_toArray,List.set_cons_zero,List.set_cons_succ,i64_w,i32_w]
    rfl
   refine one_ (i:=8) (N:=some 55) #[true,true,true,true,true,true,true,true,true,false] rfl rfl (one_of HT_.out (by kernel_rfl)) (by decide) (fun K hK=>?_)
   refine goes_ Try.func17 (by kernel_rfl) rfl #[.slice Ae el.length ce,.slice Af el.length cf] (by rfl) rfl rfl (by (try simp only [List.map_toArray,List.map_cons,List.map_nil]);first|done|rfl) ?_
   refine (hornbeamref06_Same.calls 400 Ae ce el Af cf el true _ HAC.out.1.2 HAC.out.1.1 HAC.out.2.2 HAC.out.2.1 HSM.out).mono ?_
   rintro e w7 ⟨rfl,hb⟩
   refine ⟨_,rfl,?_⟩
   have HB2:=Aside0.mk (below_then HB1.out HB1.out.size hb)
   refine hK.out _ _ ⟨cell_below hHeld.1 hb,cell_below hHeld.2 hb⟩ (fun hHeld=>?_)
   clear hK K hb HB1
   refine norm_ (a':=?_) ?_ ?_
   rotate_left
   ·show Act.put _ (some 55) _ = _
    simp only [Act.put,List.setIfInBounds_toArray,List.set_cons_zero,List.set_cons_succ,i64_w,i32_w]
    rfl
   refine pure_ (i:=9) (N:=some 56) (v:=?_) (a':=?_) #[true,true,true,true,true,true,true,true,true,true] rfl rfl (any_of HT_.out (by kernel_rfl)) (fun _ _ _ h=>h) (Or.inl ⟨by rfl,?_⟩) ?_ ?_
   rotate_left
   ·intro w'
    go_simp
    with_reducible rfl
   rotate_left
   ·simp only [Act.put,List.setIfInBounds_toArray,List.set_cons_zero,List.set_cons_succ,i64_w,i32_w]
    rfl
   refine done_ (done_of HT_.out (by kernel_rfl)) ?_
   clear hHeld HT_ HW_ hjl HAC
   go_wp2
   exact ⟨⟨j + 1,by omega,by go_num,HB2⟩,by simp [intOf];omega⟩
  ·have d0 : decide ((j : Int) < (es.length : Int)) = false:=decide_eq_false (by omega)
   have S7:=Aside0.mk (S6.out.far HB.out)
   have HE6:=Aside0.mk (And.intro HE6.out.1 (Kd.C_below HE6.out.2 HB.out))
   clear S6 HE7 HB
   obtain ⟨w8,hw8⟩ : ∃ w8,w8 = wr:=⟨_,rfl⟩
   rw [← hw8] at S7 HE6
   have HB8:=Aside0.mk (show Below w8.heap.size w8 wr by rw [hw8];exact Below.refl _ _)
   clear hw8
   go_wp2_with (first|((with_reducible refine gate_dst (N:=58) rfl ?_);(try (refine gate_guard (by rfl) ?_;dsimp only));refine Kd.S_lit (Kd.slice 36 Flt.kf) _ 30 ?hg (N:=58) ?hd (xs:=([] : List (List Nat))) (inner:=[]) (ok:=fun _=>True) (okp:=fun _=>True) ?hr ?hp (fun _ hk=>hk) trivial (Below.refl _ _) (Nat.le_refl _) (by simp) ?_;(case hd=>rfl);(case hg=>rfl);(case hr=>first|(go_simp;done)|(go_simp;rfl));(case hp=>exact (Reps.none _ _));intro v58 w9 ho5 hb hg_ hnew_;clear hg_ hnew_;have HOWN:=Aside0.mk (Kd.S_lower ho5 HB8.out.size);have HB9:=Aside0.mk (below_step HB8.out hb);clear hb ho5))
   clear HB8
   go_loopw [61,9] (fun v61 v9 w'=>∃ (i : Nat) (xs : List (List Nat)),i ≤ X1.length ∧ v61 = .int .i64 i ∧ Aside0 (xs = (X1.take i).map (fun l=>l.map Flt.fbits) ∧ ∀ l ∈ X1.take i,l.length ≤ 20) ∧ Aside0 (Below w8.heap.size w8 w') ∧ Aside0 (Kd.S (Kd.slice 36 Flt.kf) 30 w' w8.heap.size (fun _=>True) v9 xs)) (fun u _ _=>X1.length - (intOf u).toNat)
   case atStart=>exact ⟨0,[],by omega,rfl,⟨rfl,fun l hl=>(by cases hl)⟩,HB9,HOWN⟩
   case round =>
    obtain ⟨i,xs,hi,rfl,HXS,HBI,HOI⟩:=hrel
    clear HB9 HOWN
    by_cases hil : i < X1.length
    ·have d1 : decide ((i : Int) < (X1.length : Int)) = true:=decide_eq_true (by omega)
     obtain ⟨adx,Ac,cc,hca,hcx,hcc,hcC⟩:=at_cut (Kd.C_below HR1.out.2 (below_step S7.out.b HBI.out)) (i : Int) (by omega) (by omega)
     cases hca
     obtain ⟨cl,hcl⟩ : ∃ cl,cl = X1.getD i []:=⟨_,rfl⟩
     have hil2 : (i : Int) < (X1.length : Int):=by omega
     simp only [Int.toNat_natCast] at hcx hcc hcC
     rw [← hcl] at hcx hcc hcC
     have HCC:=Aside0.mk (And.intro hcc hcC)
     have hmem : cl ∈ X1:=by rw [hcl,List.getD_eq_getElem?_getD,List.getElem?_eq_getElem hil,Option.getD_some];exact List.getElem_mem hil
     have HCW:=Aside0.mk (HXW.out cl hmem)
     have HTK:=Aside0.mk (show X1.take (i + 1) = X1.take i ++ [cl] by rw [List.take_succ_eq_append_getElem hil,hcl,List.getD_eq_getElem?_getD,List.getElem?_eq_getElem hil,Option.getD_some])
     clear hcl hcc hcC hmem
     by_cases h20 : cl.length > 20
     ·have d2 : decide ((cl.length : Int) > 20) = true:=decide_eq_true (by omega)
      go_wp2_with (fail)
      refine (FFix11.fixed_calls _).mono ?_
      rintro e w10 ⟨rfl,hb⟩
      have B2:=Aside0.mk (below_step (below_step S7.out.b HBI.out) hb)
      clear hb
      go_wp2
      go_ret
      exact ⟨rfl,B2.out⟩
     have d2 : decide ((cl.length : Int) > 20) = false:=decide_eq_false (by omega)
     go_wp2_with (fail)
     clear hcx hil2 d1 d2
     obtain ⟨row,hrow⟩ : ∃ row,row = cl.map Flt.fbits:=⟨_,rfl⟩
     have HOF:=Aside0.mk (show hornbeamref06_Of.f 100 cl = some row by rw [hrow];exact of_f cl (by omega) 100 (by omega))
     have HXS2:=Aside0.mk (show xs ++ [row] = (X1.take (i + 1)).map (fun l=>l.map Flt.fbits) ∧ ∀ l ∈ X1.take (i + 1),l.length ≤ 20 by
      rw [HTK.out,HXS.out.1,hrow,List.map_append]
      refine ⟨rfl,fun l hl=>?_⟩
      rcases List.mem_append.1 hl with h|h
      ·exact HXS.out.2 l h
      ·rw [List.mem_singleton.1 h];omega)
     have HXL:=Aside0.mk (show xs.length ≤ 20 by rw [HXS.out.1,List.length_map,List.length_take];have:=H87.out;omega)
     clear hrow h20 HTK
     refine (hornbeamref06_Of.calls 100 Ac cc cl row _ HCC.out.2 HCC.out.1 HOF.out).mono ?_
     rintro e w10 ⟨vr,rfl,hRr,hb⟩
     have HO1:=Aside0.mk (Kd.S_elder' HOI.out (Kd.R_base hRr) hb)
     have HR2:=Aside0.mk (Kd.R_lower hRr HBI.out.size)
     have HB1:=Aside0.mk (below_step HBI.out hb)
     obtain ⟨Ao,co,eo⟩:=Kd.R_slice hRr
     subst eo
     clear hRr hb HBI HOI HCC
     go_wp2_with (first|((with_reducible refine gate_builtin (b:=.append) (xs:=#[.tmp 69,.tmp 72]) rfl ?_);at_builtin;refine Kd.S_append (Kd.slice 36 Flt.kf) (w0:=w8) w8.heap.size rfl (.tmp 69) (.tmp 72) 56 30 (.slice none 0 0) 24 rfl Try.underlying56 PB.info30 rfl (by decide) (by omega) _ xs row [.slice Ao row.length co] (fun _=>True) (fun k_=>some k_ = (.slice Ao row.length co : Value).ownBlock) rfl rfl ?aP (fun k_ hk_=>((Kd.R_mono (ok':=fun k_=>True ∧ some k_ ≠ _) (Kd.R_apart' HR2.out (Kd.S_typed HO1.out) (by decide)) (fun k_ hk=>⟨trivial,hk.2⟩))).1 k_ hk_.symm) (fun _ _=>trivial) (Kd.S_mono HO1.out (fun k_ hk=>⟨trivial,fun e_=>hk.2 e_⟩)) HB1.out HB1.out.size (by have:=HXL.out;omega) ?_;(case aP=>exact Kd.M_row (Kd.R_mono (Kd.R_tight rfl (Kd.R_mono (ok':=fun k_=>True ∧ some k_ ≠ _) (Kd.R_apart' HR2.out (Kd.S_typed HO1.out) (by decide)) (fun k_ hk=>⟨trivial,hk.2⟩))) (fun _ h_=>h_)));intro v73 w11 ho hb hg hat;have HO2:=Aside0.mk ho;have HB2:=Aside0.mk hb;clear ho hb hg hat HO1 HR2 HB1))
     exact ⟨⟨i + 1,_,by omega,by go_num,HXS2,HB2,HO2⟩,by simp [intOf];omega⟩
    ·have d1 : decide ((i : Int) < (X1.length : Int)) = false:=decide_eq_false (by omega)
     have HXF:=Aside0.mk (show RW xs ∧ xs.length ≤ 20 by
      have hi' : X1.take i = X1:=List.take_of_length_le (by omega)
      obtain ⟨h1,h2⟩:=HXS.out
      rw [hi'] at h1 h2
      refine ⟨?_,by rw [h1,List.length_map];have:=H87.out;omega⟩
      intro e he
      rw [h1] at he
      obtain ⟨l,hl,rfl⟩:=List.mem_map.1 he
      exact ⟨of_w64 (HXW.out l hl),by rw [List.length_map];have:=h2 l hl;omega⟩)
     obtain ⟨Ao,co,eo,hco,hoC⟩:=Kd.S_reads HOI.out
     have S8:=Aside0.mk (S7.out.far HBI.out)
     have HE6:=Aside0.mk (And.intro HE6.out.1 (Kd.C_below HE6.out.2 HBI.out))
     have HOC:=Aside0.mk (And.intro hco hoC)
     subst eo
     clear HOI HBI HXS hco hoC S7
     go_wp2_with (fail)
     obtain ⟨W9,hW9⟩ : ∃ W9,wr.alloc (.cells #[.slice A6 es.length c6,.slice Ao xs.length co] 56) = W9:=⟨_,rfl⟩
     obtain ⟨gl,hgl⟩ : ∃ gl,wr.heap.size = gl:=⟨_,rfl⟩
     have S9:=Aside0.mk (show St w W9 g k0 k1 k2 k3 k4 k5 k6 r c A9 A10 Av At c9 c10 cv ct v t vs from by rw [← hW9];exact S8.out.step (below_alloc (Below.refl _ _) _))
     have HE9:=Aside0.mk (show Kd.C (Kd.slice 36 Flt.kf) W9 A6 es.length es ∧ Kd.C (Kd.slice 36 Flt.kf) W9 Ao xs.length xs ∧ W9.heap[gl]? = some (.cells #[.slice A6 es.length c6,.slice Ao xs.length co] 56 (0,0)) from by
      rw [← hW9,← hgl]
      exact ⟨Kd.C_below HE6.out.2 (below_alloc (Below.refl _ _) _),Kd.C_below HOC.out.2 (below_alloc (Below.refl _ _) _),blk_new _ _⟩)
     obtain ⟨adg,hadg⟩ : ∃ adg : Addr,(⟨gl,0,none⟩ : Addr) = adg:=⟨_,rfl⟩
     rw [hW9,hgl,hadg]
     have HADG:=Aside0.mk hadg
     clear hW9 hgl hadg S8
     have HB9:=Aside0.mk (Below.refl W9.heap.size W9)
     go_loopw [79] (fun v79 w'=>∃ q : Nat,q ≤ 2 ∧ v79 = .int .i64 q ∧ Aside0 (Below W9.heap.size W9 w')) (fun u _=>2 - (intOf u).toNat)
     case atStart=>exact ⟨0,by omega,rfl,HB9⟩
     case round =>
      obtain ⟨q,hq,rfl,HB⟩:=hrel
      clear HB9
      by_cases hql : q < 2
      ·have d2 : decide ((q : Int) < 2) = true:=decide_eq_true (by omega)
       obtain ⟨Ax,cx,ys,hys,HY⟩:=which HE9.out.1 HE9.out.2.1 HE9.out.2.2 HE6.out.1 HOC.out.1 HES.out.2.2.1 HXF.out.1 HB.out hql
       rw [HADG.out] at hys
       have hq2 : (q : Int) < 2:=by omega
       have S10:=Aside0.mk (S9.out.far HB.out)
       have q0:=S10.out.d.c0
       have q1:=S10.out.d.c1
       have q2:=S10.out.d.c2
       have q3:=S10.out.d.c3
       have q4:=S10.out.d.c4
       have q5:=S10.out.d.c5
       have q6:=S10.out.d.c6
       have q7:=S10.out.d.c7
       have q8:=S10.out.d.c8
       have q9:=S10.out.d.c9
       have q10:=S10.out.d.c10
       go_wp2_with (fail)
       clear q0 q1 q2 q3 q4 q5 q6 q7 q8 q9 q10 hys d2
       obtain ⟨o1,o2,o3,o4,HO⟩ : ∃ o1 o2 o3 o4,Aside0 (ofR r c vs ys = (o1,o2,o3,o4)):=⟨_,_,_,_,⟨rfl⟩⟩
       have HOL:=Aside0.mk (show o3.length ≤ 500 by have:=ofR_len r c vs ys HVL.out;rw [HO.out] at this;exact this)
       have HBF:=Aside0.mk (show bins_Of.f 2000000 k0 k1 k2 k3 k4 k5 k6 r c vs t ys = some (o1,o2,o3,o4) by rw [xof_f _ _ _ _ _ _ _ _ _ _ _ _ HVL.out HVW.out HY.2.2 (by have:=H87.out;omega),HO.out])
       have HYA:=Aside0.mk HY
       clear HY
       refine (bins_Of.calls 2000000 k0 k1 k2 k3 k4 k5 k6 r c Av cv vs At ct t Ax cx ys o1 o2 o3 o4 _ (Kd.R_reads' S10.out.fv).2.2 (Kd.R_reads' S10.out.fv).2.1 (Kd.R_reads' S10.out.ft).2.2 (Kd.R_reads' S10.out.ft).2.1 HYA.out.2.1 HYA.out.1 HBF.out).mono ?_
       rintro e w11 ⟨u2,rfl,hR2,hb⟩
       obtain ⟨Am,cm,rfl,hcm,hCm⟩:=Kd.R_reads hR2
       have S11:=Aside0.mk (S10.out.step hb)
       have HB11:=Aside0.mk (below_then HB.out HB.out.size hb)
       have HYC:=Aside0.mk (Kd.C_below HYA.out.2.1 hb)
       have HM:=Aside0.mk (And.intro hcm hCm)
       clear hR2 hcm hCm hb S10
       go_wp2_with (first|((with_reducible refine gate_dst (N:=14) rfl ?_);(try (refine gate_guard (by rfl) ?_;dsimp only));refine box_event ?hg (N:=14) ?hd (cs:=#[.int .i64 0,.int .i64 0,.slice none 0 0]) (t:=62) ?hr ?_;(case hd=>rfl);(case hg=>rfl);(case hr=>first|(go_simp;done)|(go_simp;rfl));intro gm hgm w12 hbox hbb;have HX1:=Aside0.mk (show w12.heap[gm]? = some (.cells #[.int .i64 0,.int .i64 0,.slice none 0 0] 62 (0,0)) ∧ w11.heap.size ≤ gm ∧ Below w11.heap.size w11 w12 from ⟨hbox,by rw [hgm];exact Nat.le_refl _,hbb⟩);clear hgm hbox hbb)|((with_reducible refine gate_store (t:=62) (p:=14) rfl ?_);refine FStore.store_all gm 62 62 14 _ #[.int .i64 0,.int .i64 0,.slice none 0 0] #[.int .i64 o1,.int .i64 o2,.slice Am o3.length cm] rfl rfl rfl rfl rfl HX1.out.1 (by kernel_rfl) rfl (by simp [Value.oneCell']) ?_;intro w13 hb9 hB9 hk9;have hbl:=hB9 _ _ HX1.out.2.1 HX1.out.2.2;have S13:=Aside0.mk (S11.out.step hbl);have HB13:=Aside0.mk (below_then HB11.out HB11.out.size hbl);have HM13:=Aside0.mk (show o3.length ≤ cm ∧ Kd.C (Kd.int .u16) w13 Am o3.length o3 ∧ Mat w13 gm o1 o2 (.slice Am o3.length cm) ∧ Kd.C (Kd.slice 36 Flt.kf) w13 Ax ys.length ys from ⟨HM.out.1,Kd.C_below HM.out.2 hbl,hb9,Kd.C_below HYC.out hbl⟩);have q0:=S13.out.d.c0;have q1:=S13.out.d.c1;have q2:=S13.out.d.c2;have q3:=S13.out.d.c3;have q4:=S13.out.d.c4;have q5:=S13.out.d.c5;have q6:=S13.out.d.c6;have q7:=S13.out.d.c7;have q8:=S13.out.d.c8;have q9:=S13.out.d.c9;have q10:=S13.out.d.c10;clear hb9 hB9 hk9 hbl HX1))
       clear q0 q1 q2 q3 q4 q5 q6 q7 q8 q9 q10 S11 HB11 HM HYC
       have CO:=FRefOf.of_calls k0 k1 k2 k3 k4 k5 k6 r c Av At cv ct vs t Ax cx ys w13 (Kd.R_reads' S13.out.fv).2.2 (Kd.R_reads' S13.out.fv).2.1 HM13.out.2.2.2 HYA.out.1 HVL.out HVW.out HYA.out.2.2
       rw [HO.out] at CO
       refine CO.mono ?_
       clear CO
       rintro e w14 ⟨u3,rfl,hR3,hb⟩
       obtain ⟨An,cn,eo3,hcn,hCn⟩:=Kd.R_reads hR3
       dsimp only at eo3 hcn hCn
       subst eo3
       have HB14:=Aside0.mk (below_then HB13.out HB13.out.size hb)
       have HM14:=Aside0.mk (show o3.length ≤ cm ∧ Kd.C (Kd.int .u16) w14 Am o3.length o3 ∧ Mat w14 gm o1 o2 (.slice Am o3.length cm) from ⟨HM13.out.1,Kd.C_below HM13.out.2.1 hb,blk_below HM13.out.2.2.1 hb⟩)
       have HN:=Aside0.mk (And.intro hcn hCn)
       clear hR3 hcn hCn hb S13 HB13 HM13
       go_wp2_with (first|((with_reducible refine gate_dst (N:=16) rfl ?_);(try (refine gate_guard (by rfl) ?_;dsimp only));refine box_event ?hg (N:=16) ?hd (cs:=#[.int .i64 0,.int .i64 0,.slice none 0 0]) (t:=62) ?hr ?_;(case hd=>rfl);(case hg=>rfl);(case hr=>first|(go_simp;done)|(go_simp;rfl));intro gn hgm w15 hbox hbb;have HX2:=Aside0.mk (show w15.heap[gn]? = some (.cells #[.int .i64 0,.int .i64 0,.slice none 0 0] 62 (0,0)) ∧ w14.heap.size ≤ gn ∧ Below w14.heap.size w14 w15 from ⟨hbox,by rw [hgm];exact Nat.le_refl _,hbb⟩);clear hgm hbox hbb)|((with_reducible refine gate_store (t:=62) (p:=16) rfl ?_);refine FStore.store_all gn 62 62 16 _ #[.int .i64 0,.int .i64 0,.slice none 0 0] #[.int .i64 o1,.int .i64 o2,.slice An o3.length cn] rfl rfl rfl rfl rfl HX2.out.1 (by kernel_rfl) rfl (by simp [Value.oneCell']) ?_;intro w16 hb9 hB9 hk9;have hbl:=hB9 _ _ HX2.out.2.1 HX2.out.2.2;have HB16:=Aside0.mk (below_then HB14.out HB14.out.size hbl);have HM16:=Aside0.mk (show Kd.C (Kd.int .u16) w16 Am o3.length o3 ∧ Kd.C (Kd.int .u16) w16 An o3.length o3 ∧ Mat w16 gm o1 o2 (.slice Am o3.length cm) ∧ Mat w16 gn o1 o2 (.slice An o3.length cn) from ⟨Kd.C_below HM14.out.2.1 hbl,Kd.C_below HN.out.2 hbl,blk_below HM14.out.2.2 hbl,hb9⟩);have m0:=HM16.out.2.2.1.c0;have n0:=HM16.out.2.2.2.c0;have m1:=HM16.out.2.2.1.c1;have n1:=HM16.out.2.2.2.c1;have m2:=HM16.out.2.2.1.c2;have n2:=HM16.out.2.2.2.c2;clear hb9 hB9 hk9 hbl HX2))
       clear m0 m1 m2 n0 n1 n2 HB14
       refine (hornbeamref11_Same.calls 600 o1 o2 Am cm o3 o1 o2 An cn o3 true _ HM16.out.1 HM14.out.1 HM16.out.2.1 HN.out.1 (same11_self o1 o2 o3 HOL.out)).mono ?_
       rintro e w17 ⟨rfl,hb⟩
       have HB17:=Aside0.mk (below_then HB16.out HB16.out.size hb)
       clear hb HB16 HM14 HM16 HN
       have d9 : (o4 != o4) = false:=by simp
       go_wp2
       exact ⟨⟨q + 1,by omega,by go_num,HB17⟩,by simp [intOf];omega⟩
      ·have d2 : decide ((q : Int) < 2) = false:=decide_eq_false (by omega)
       go_wp2_with (fail)
       refine (FFix11.fixed_calls _).mono ?_
       rintro e w11 ⟨rfl,hb⟩
       have B2:=Aside0.mk (below_step (below_step S9.out.b HB.out) hb)
       clear hb
       go_wp2
       go_ret
       exact ⟨rfl,B2.out⟩
end Go.Proofs.Ytnagfbadjbkhmaa.FBinsOf
