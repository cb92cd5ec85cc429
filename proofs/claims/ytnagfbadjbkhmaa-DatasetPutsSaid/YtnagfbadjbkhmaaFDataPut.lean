/- dataset.Put by a walk: a dataset's bytes, or why it has none. -/
import Derived.Test.YtnagfbadjbkhmaaFGrow
import Derived.Test.YtnagfbadjbkhmaaFTarget
import Derived.Test.YtnagfbadjbkhmaaPureTake
import Derived.Test.YtnagfbadjbkhmaaPAx1
import Derived.Test.YtnagfbadjbkhmaaPAx1
import Derived.Test.YtnagfbadjbkhmaaPAx1
import Derived.Test.YtnagfbadjbkhmaaFConfD
import Derived.Test.YtnagfbadjbkhmaaPAx2
import Derived.Test.YtnagfbadjbkhmaaPAx2
namespace Go.Proofs.Ytnagfbadjbkhmaa.FDataPut
open Go.RowKit Go.Shelf Go.Proofs.YtnagfbadjbkhmaaW.PrintWords Go.Proofs.YtnagfbadjbkhmaaW.PrintLast Go.Proofs.YtnagfbadjbkhmaaW.PrintMore Go.Proofs.Ytnagfbadjbkhmaa.PA Go.Proofs.Ytnagfbadjbkhmaa.FConfD Go.Proofs.Ytnagfbadjbkhmaa.PureTake Go.Proofs.Ytnagfbadjbkhmaa.FTarget
set_option linter.unusedVariables false
set_option linter.unusedSimpArgs false
/-- The values' bytes behind others, the targets' bytes behind others. -/
def vbs (cl : Nat → Bool) : List Nat → List Int → Except Int (List Int)
 | [],bs=>.ok bs
 | x :: l,bs=>if cl x = true then vbs cl l (bs ++ be 8 (Flt.ubits x)) else .error 3
def tbs (k0 k1 : Int) : List Int → List Int → Except Int (List Int)
 | [],bs=>.ok bs
 | x :: l,bs=>if may k0 k1 x = 0 then tbs k0 k1 l (bs ++ be 8 (IntKind.u64.wrap x)) else .error (may k0 k1 x)
/-- The bytes, and the error. -/
def putR (cl : Nat → Bool) (k0 k1 : Int) (sh : Bool) (ck ct rows : Int) (vs : List Nat) (ts b0 : List Int) : List Int × Int :=
 if sh = true ∧ (ts.length : Int) = rows then (if ck ≠ 0 then ([],ck) else if ct ≠ 0 then ([],ct) else match vbs cl vs b0 with
  | .error e=>([],e)
  | .ok b1=>match tbs k0 k1 ts b1 with
   | .error e=>([],e)
   | .ok b2=>(b2,0)) else ([],8)
def Dat (W : World) (g : Nat) (k0 k1 k2 k3 k4 k5 k6 rows cols : Int) (Av At : Option Addr) (vn cv tn ct : Nat) : Prop:=W.heap[g]? = some (.cells #[.int .i64 k0,.int .i64 k1,.int .i64 k2,.int .i64 k3,.int .i64 k4,.int .i64 k5,.int .i64 k6,.int .i64 rows,.int .i64 cols,.slice Av vn cv,.slice At tn ct] 32 (0,0))
namespace Dat
variable {W : World} {g : Nat} {k0 k1 k2 k3 k4 k5 k6 rows cols : Int} {Av At : Option Addr} {vn cv tn ct : Nat}
theorem c0 (H : Dat W g k0 k1 k2 k3 k4 k5 k6 rows cols Av At vn cv tn ct) : W.cell? ⟨g,0,none⟩ = some (.int .i64 k0):=(blk_cell H 0).trans rfl
theorem c1 (H : Dat W g k0 k1 k2 k3 k4 k5 k6 rows cols Av At vn cv tn ct) : W.cell? ⟨g,1,none⟩ = some (.int .i64 k1):=(blk_cell H 1).trans rfl
theorem c2 (H : Dat W g k0 k1 k2 k3 k4 k5 k6 rows cols Av At vn cv tn ct) : W.cell? ⟨g,2,none⟩ = some (.int .i64 k2):=(blk_cell H 2).trans rfl
theorem c3 (H : Dat W g k0 k1 k2 k3 k4 k5 k6 rows cols Av At vn cv tn ct) : W.cell? ⟨g,3,none⟩ = some (.int .i64 k3):=(blk_cell H 3).trans rfl
theorem c4 (H : Dat W g k0 k1 k2 k3 k4 k5 k6 rows cols Av At vn cv tn ct) : W.cell? ⟨g,4,none⟩ = some (.int .i64 k4):=(blk_cell H 4).trans rfl
theorem c5 (H : Dat W g k0 k1 k2 k3 k4 k5 k6 rows cols Av At vn cv tn ct) : W.cell? ⟨g,5,none⟩ = some (.int .i64 k5):=(blk_cell H 5).trans rfl
theorem c6 (H : Dat W g k0 k1 k2 k3 k4 k5 k6 rows cols Av At vn cv tn ct) : W.cell? ⟨g,6,none⟩ = some (.int .i64 k6):=(blk_cell H 6).trans rfl
theorem c7 (H : Dat W g k0 k1 k2 k3 k4 k5 k6 rows cols Av At vn cv tn ct) : W.cell? ⟨g,7,none⟩ = some (.int .i64 rows):=(blk_cell H 7).trans rfl
theorem c8 (H : Dat W g k0 k1 k2 k3 k4 k5 k6 rows cols Av At vn cv tn ct) : W.cell? ⟨g,8,none⟩ = some (.int .i64 cols):=(blk_cell H 8).trans rfl
theorem c9 (H : Dat W g k0 k1 k2 k3 k4 k5 k6 rows cols Av At vn cv tn ct) : W.cell? ⟨g,9,none⟩ = some (.slice Av vn cv):=(blk_cell H 9).trans rfl
theorem c10 (H : Dat W g k0 k1 k2 k3 k4 k5 k6 rows cols Av At vn cv tn ct) : W.cell? ⟨g,10,none⟩ = some (.slice At tn ct):=(blk_cell H 10).trans rfl
end Dat
set_option maxHeartbeats 3000000 in
set_option maxRecDepth 100000 in
theorem put_calls (cl : Nat → Bool) (hcl : ∀ x,dataset_clean.f x = some (cl x)) (k0 k1 k2 k3 k4 k5 k6 rows cols : Int) (Av At : Option Addr) (cv ct : Nat) (vs : List Nat) (ts : List Int) (sh : Bool) (ck cn : Int) (b0 : List Int) (w : World)
  (hrv : Kd.C Flt.kf w Av vs.length vs) (hcv : vs.length ≤ cv) (hrt : Kd.C (Kd.int .i64) w At ts.length ts) (hct : ts.length ≤ ct) (hv : vs.length ≤ 100000) (ht : ts.length ≤ 100000)
  (hsh : dataset_shaped.f k0 k1 k2 k3 k4 k5 k6 rows cols vs ts = some sh) (hck : config_Check.f 20 k0 k1 k2 k3 k4 k5 k6 = some ck) (hcn : dataset_counts.f k0 k1 k2 k3 k4 k5 k6 rows cols vs ts = some cn) (c1 : List Int) (hc1 : config_Put.f 40 (be 4 1213157966) k0 k1 k2 k3 k4 k5 k6 = some c1) (hb0' : b0 = c1 ++ be 4 (IntKind.u64.wrap rows) ++ be 2 (IntKind.u64.wrap cols)) (hlc : c1.length ≤ 1000) :
  Calls Try.prog 21 #[.agg #[.int .i64 k0,.int .i64 k1,.int .i64 k2,.int .i64 k3,.int .i64 k4,.int .i64 k5,.int .i64 k6,.int .i64 rows,.int .i64 cols,.slice Av vs.length cv,.slice At ts.length ct]] w fun e w'=>∃ A c,e = .returned (.tuple #[.slice A (putR cl k0 k1 sh ck cn rows vs ts b0).1.length c,.int .i64 (putR cl k0 k1 sh ck cn rows vs ts b0).2]) ∧ (putR cl k0 k1 sh ck cn rows vs ts b0).1.length ≤ c ∧ Kd.C (Kd.int .u8) w' A (putR cl k0 k1 sh ck cn rows vs ts b0).1.length (putR cl k0 k1 sh ck cn rows vs ts b0).1 ∧ Below w.heap.size w w':=by
 have hu:=Try.underlying32
 have hu2:=Try.underlying23
 have HRV:=Aside0.mk hrv
 have HRT:=Aside0.mk hrt
 have HSH:=Aside0.mk hsh
 have HCK:=Aside0.mk hck
 have HCN:=Aside0.mk hcn
 have HC1:=Aside0.mk hc1
 clear hc1 hrv hrt hsh hck hcn
 have S0:=Aside0.mk (show Dat (w.alloc (.cells #[.int .i64 k0,.int .i64 k1,.int .i64 k2,.int .i64 k3,.int .i64 k4,.int .i64 k5,.int .i64 k6,.int .i64 rows,.int .i64 cols,.slice Av vs.length cv,.slice At ts.length ct] 32)) w.heap.size k0 k1 k2 k3 k4 k5 k6 rows cols Av At vs.length cv ts.length ct ∧ Below w.heap.size w (w.alloc (.cells #[.int .i64 k0,.int .i64 k1,.int .i64 k2,.int .i64 k3,.int .i64 k4,.int .i64 k5,.int .i64 k6,.int .i64 rows,.int .i64 cols,.slice Av vs.length cv,.slice At ts.length ct] 32)) from ⟨blk_new w _,below_alloc (Below.refl _ w) _⟩)
 go_enter Try.func21,Try.ntmps21
 go_wp2_with (fail)
 generalize w.alloc (.cells #[.int .i64 k0,.int .i64 k1,.int .i64 k2,.int .i64 k3,.int .i64 k4,.int .i64 k5,.int .i64 k6,.int .i64 rows,.int .i64 cols,.slice Av vs.length cv,.slice At ts.length ct] 32) = W0 at S0 ⊢
 refine (dataset_shaped.calls k0 k1 k2 k3 k4 k5 k6 rows cols Av cv vs At ct ts sh _ (Kd.C_below HRV.out S0.out.2) hcv (Kd.C_below HRT.out S0.out.2) hct HSH.out).mono ?_
 rintro e w1 ⟨rfl,hb⟩
 have S1:=Aside0.mk (show Dat w1 w.heap.size k0 k1 k2 k3 k4 k5 k6 rows cols Av At vs.length cv ts.length ct ∧ Below w.heap.size w w1 from ⟨blk_below S0.out.1 hb,below_step S0.out.2 hb⟩)
 clear hb S0
 cases sh with
 | false =>
  have HP:=Aside0.mk (show putR cl k0 k1 false ck cn rows vs ts b0 = ([],8) by unfold putR;rw [if_neg (by simp)])
  go_wp2
  go_ret2
  rw [HP.out]
  exact ⟨none,0,rfl,Nat.le_refl _,Kd.C_nil _ _,S1.out.2⟩
 | true =>
  have q10:=S1.out.1.c10
  have q7:=S1.out.1.c7
  by_cases hr : (ts.length : Int) = rows
  ·have dr : ((ts.length : Int) != rows) = false:=bne_eq_false_iff_eq.2 hr
   have HR:=Aside0.mk hr
   clear hr
   have p0:=S1.out.1.c0
   have p1:=S1.out.1.c1
   have p2:=S1.out.1.c2
   have p3:=S1.out.1.c3
   have p4:=S1.out.1.c4
   have p5:=S1.out.1.c5
   have p6:=S1.out.1.c6
   have p7:=S1.out.1.c7
   have p8:=S1.out.1.c8
   have p9:=S1.out.1.c9
   have p10:=S1.out.1.c10
   go_wp2_with (fail)
   clear p0 p1 p2 p3 p4 p5 p6 p7 p8 p9 p10 q7 q10
   refine (config_Check.calls 20 k0 k1 k2 k3 k4 k5 k6 ck _ HCK.out).mono ?_
   rintro e w2 ⟨rfl,hb⟩
   have S2:=Aside0.mk (show Dat w2 w.heap.size k0 k1 k2 k3 k4 k5 k6 rows cols Av At vs.length cv ts.length ct ∧ Below w.heap.size w w2 from ⟨blk_below S1.out.1 hb,below_step S1.out.2 hb⟩)
   clear hb S1
   by_cases hk : ck = 0
   case neg =>
    have dk : (ck != 0) = true:=bne_iff_ne.2 hk
    have HP:=Aside0.mk (show putR cl k0 k1 true ck cn rows vs ts b0 = ([],ck) by unfold putR;rw [if_pos ⟨rfl,HR.out⟩,if_pos hk])
    clear hk
    go_wp2
    go_ret2
    rw [HP.out]
    exact ⟨none,0,rfl,Nat.le_refl _,Kd.C_nil _ _,S2.out.2⟩
   have dk : (ck != 0) = false:=bne_eq_false_iff_eq.2 hk
   have HK:=Aside0.mk hk
   clear hk
   have p0:=S2.out.1.c0
   have p1:=S2.out.1.c1
   have p2:=S2.out.1.c2
   have p3:=S2.out.1.c3
   have p4:=S2.out.1.c4
   have p5:=S2.out.1.c5
   have p6:=S2.out.1.c6
   have p7:=S2.out.1.c7
   have p8:=S2.out.1.c8
   have p9:=S2.out.1.c9
   have p10:=S2.out.1.c10
   go_wp2_with (fail)
   clear p0 p1 p2 p3 p4 p5 p6 p7 p8 p9 p10
   refine (dataset_counts.calls k0 k1 k2 k3 k4 k5 k6 rows cols Av cv vs At ct ts cn _ (Kd.C_below HRV.out S2.out.2) hcv (Kd.C_below HRT.out S2.out.2) hct HCN.out).mono ?_
   rintro e w3 ⟨rfl,hb⟩
   have S3:=Aside0.mk (show Dat w3 w.heap.size k0 k1 k2 k3 k4 k5 k6 rows cols Av At vs.length cv ts.length ct ∧ Below w.heap.size w w3 from ⟨blk_below S2.out.1 hb,below_step S2.out.2 hb⟩)
   clear hb S2
   by_cases hk : cn = 0
   case neg =>
    have dn : (cn != 0) = true:=bne_iff_ne.2 hk
    have HP:=Aside0.mk (show putR cl k0 k1 true ck cn rows vs ts b0 = ([],cn) by unfold putR;rw [if_pos ⟨rfl,HR.out⟩,if_neg (by rw [HK.out];simp),if_pos hk])
    clear hk
    go_wp2
    go_ret2
    rw [HP.out]
    exact ⟨none,0,rfl,Nat.le_refl _,Kd.C_nil _ _,S3.out.2⟩
   have dn : (cn != 0) = false:=bne_eq_false_iff_eq.2 hk
   have HN:=Aside0.mk hk
   clear hk
   go_wp2_with (fail)
   have S4:=Aside0.mk (show Dat w3.drew w.heap.size k0 k1 k2 k3 k4 k5 k6 rows cols Av At vs.length cv ts.length ct ∧ Below w.heap.size w w3.drew from ⟨S3.out.1,below_drew1 S3.out.2⟩)
   have HP4:=Aside0.mk (show take_Put.f 20 [] 1213157966 4 = some (be 4 1213157966) from put_f [] 1213157966 4 (by simp) 20 (by omega))
   refine start_ (n:=5) (S:=(fun w'=>Dat w' w.heap.size k0 k1 k2 k3 k4 k5 k6 rows cols Av At vs.length cv ts.length ct ∧ Below w.heap.size w w')) (ds:=[]) #[false,false,false,false,false] (by kernel_rfl) rfl rfl S4.out (fun hHeld=>?_)
   clear S3
   generalize w3.drew = w4 at *
   refine take_ (i:=1) (N:=some 36) (v:=?_) (a':=?_) #[false,true,false,false,false] rfl rfl (by kernel_rfl) (fun _ _ _ h=>h) (Or.inl ⟨by rfl,?_⟩) hHeld ?_ ?_
   rotate_left
   ·intro w' s
    have q0:=s.1.c0
    clear s
    go_simp
    with_reducible rfl
   rotate_left
   ·simp only [Act.put,List.setIfInBounds_toArray,List.set_cons_zero,List.set_cons_succ,i64_w,i32_w]
    rfl
   refine take_ (i:=2) (N:=some 37) (v:=?_) (a':=?_) #[false,true,true,false,false] rfl rfl (by kernel_rfl) (fun _ _ _ h=>h) (Or.inl ⟨by rfl,?_⟩) hHeld ?_ ?_
   rotate_left
   ·intro w' s
    have q0:=s.1.c0;have q1:=s.1.c1;have q2:=s.1.c2;have q3:=s.1.c3;have q4:=s.1.c4;have q5:=s.1.c5;have q6:=s.1.c6;have q7:=s.1.c7;have q8:=s.1.c8;have q9:=s.1.c9;have q10:=s.1.c10
    clear s
    go_simp
    with_reducible rfl
   rotate_left
   ·simp only [Act.put,List.setIfInBounds_toArray,List.set_cons_zero,List.set_cons_succ,i64_w,i32_w]
    rfl
   refine one_ (i:=0) (N:=some 35) #[true,true,true,false,false] rfl rfl (by kernel_rfl) (by decide) (fun K hK=>?_)
   refine goes_ Try.func50 (by kernel_rfl) rfl #[.slice none 0 0,.int .u64 1213157966,.int .i64 4] (by rfl) rfl rfl (by (try simp only [List.map_toArray,List.map_cons,List.map_nil]);first|done|rfl) ?_
   refine (take_Put.calls 20 none 0 [] 1213157966 4 _ _ (Kd.C_nil _ _) (Nat.le_refl _) HP4.out).mono ?_
   rintro e w5 ⟨v5,rfl,hR,hb⟩
   refine ⟨_,rfl,?_⟩
   obtain ⟨A5,c5,rfl,hl5,hC5⟩:=Kd.R_reads hR
   have S5:=Aside0.mk (show Dat w5 w.heap.size k0 k1 k2 k3 k4 k5 k6 rows cols Av At vs.length cv ts.length ct ∧ Below w.heap.size w w5 from ⟨blk_below S4.out.1 hb,below_step S4.out.2 hb⟩)
   have HC5:=Aside0.mk hC5
   clear hb hR hC5 hHeld S4
   refine hK.out _ _ S5.out (fun hHeld=>?_)
   clear hK K
   refine norm_ (a':=?_) ?_ ?_
   rotate_left
   ·show Act.put _ (some 35) _ = _
    simp only [Act.put,List.setIfInBounds_toArray,List.set_cons_zero,List.set_cons_succ,i64_w,i32_w]
    rfl
   refine one_ (i:=3) (N:=some 38) #[true,true,true,true,false] rfl rfl (by kernel_rfl) (by decide) (fun K hK=>?_)
   refine goes_ Try.func49 (by kernel_rfl) rfl #[.slice A5 (be 4 1213157966).length c5,.agg #[.int .i64 k0,.int .i64 k1,.int .i64 k2,.int .i64 k3,.int .i64 k4,.int .i64 k5,.int .i64 k6]] (by rfl) rfl rfl (by (try simp only [List.map_toArray,List.map_cons,List.map_nil]);first|done|rfl) ?_
   refine (config_Put.calls 40 A5 c5 (be 4 1213157966) k0 k1 k2 k3 k4 k5 k6 _ _ HC5.out hl5 HC1.out).mono ?_
   rintro e w6 ⟨v6,rfl,hR,hb⟩
   refine ⟨_,rfl,?_⟩
   obtain ⟨A6,c6,rfl,hl6,hC6⟩:=Kd.R_reads hR
   have S6:=Aside0.mk (show Dat w6 w.heap.size k0 k1 k2 k3 k4 k5 k6 rows cols Av At vs.length cv ts.length ct ∧ Below w.heap.size w w6 from ⟨blk_below S5.out.1 hb,below_step S5.out.2 hb⟩)
   have HC6:=Aside0.mk hC6
   clear hb hR hC6 hHeld S5 HC5
   refine hK.out _ _ S6.out (fun hHeld=>?_)
   clear hK K
   refine norm_ (a':=?_) ?_ ?_
   rotate_left
   ·show Act.put _ (some 38) _ = _
    simp only [Act.put,List.setIfInBounds_toArray,List.set_cons_zero,List.set_cons_succ,i64_w,i32_w]
    rfl
   refine take_ (i:=4) (N:=some 6) (v:=?_) (a':=?_) #[true,true,true,true,true] rfl rfl (by kernel_rfl) (fun _ _ _ h=>h) (Or.inl ⟨by rfl,?_⟩) hHeld ?_ ?_
   rotate_left
   ·intro w' s
    have q0:=s.1.c0
    clear s
    go_simp
    with_reducible rfl
   rotate_left
   ·simp only [Act.put,List.setIfInBounds_toArray,List.set_cons_zero,List.set_cons_succ,i64_w,i32_w]
    rfl
   refine done_ (by kernel_rfl) ?_
   clear hHeld
   go_wp2_with (fail)
   have S7:=Aside0.mk (show Dat w6.drew w.heap.size k0 k1 k2 k3 k4 k5 k6 rows cols Av At vs.length cv ts.length ct ∧ Below w.heap.size w w6.drew from ⟨S6.out.1,below_drew1 S6.out.2⟩)
   have HC7:=Aside0.mk (show Kd.C (Kd.int .u8) w6.drew A6 c1.length c1 from Kd.C_below HC6.out (below_drew (Below.refl _ _)))
   refine start_ (n:=10) (S:=(fun w'=>Dat w' w.heap.size k0 k1 k2 k3 k4 k5 k6 rows cols Av At vs.length cv ts.length ct ∧ Below w.heap.size w w')) (ds:=[]) #[false,false,false,false,false,false,false,false,false,false] (by kernel_rfl) rfl rfl S7.out (fun hHeld=>?_)
   clear S6 HC6
   generalize w6.drew = w7 at *
   refine take_ (i:=0) (N:=some 39) (v:=?_) (a':=?_) #[true,false,false,false,false,false,false,false,false,false] rfl rfl (by kernel_rfl) (fun _ _ _ h=>h) (Or.inl ⟨by rfl,?_⟩) hHeld ?_ ?_
   rotate_left
   ·intro w' s
    have q7:=s.1.c7;have q8:=s.1.c8
    clear s
    go_simp
    with_reducible rfl
   rotate_left
   ·simp only [Act.put,List.setIfInBounds_toArray,List.set_cons_zero,List.set_cons_succ,i64_w,i32_w]
    rfl
   refine take_ (i:=1) (N:=some 40) (v:=?_) (a':=?_) #[true,true,false,false,false,false,false,false,false,false] rfl rfl (by kernel_rfl) (fun _ _ _ h=>h) (Or.inl ⟨by rfl,?_⟩) hHeld ?_ ?_
   rotate_left
   ·intro w' s
    have q7:=s.1.c7;have q8:=s.1.c8
    clear s
    go_simp
    with_reducible rfl
   rotate_left
   ·simp only [Act.put,List.setIfInBounds_toArray,List.set_cons_zero,List.set_cons_succ,i64_w,i32_w]
    rfl
   refine take_ (i:=2) (N:=some 41) (v:=?_) (a':=?_) #[true,true,true,false,false,false,false,false,false,false] rfl rfl (by kernel_rfl) (fun _ _ _ h=>h) (Or.inl ⟨by rfl,?_⟩) hHeld ?_ ?_
   rotate_left
   ·intro w' s
    have q7:=s.1.c7;have q8:=s.1.c8
    clear s
    go_simp
    with_reducible rfl
   rotate_left
   ·simp only [Act.put,List.setIfInBounds_toArray,List.set_cons_zero,List.set_cons_succ,i64_w,i32_w]
    rfl
   refine take_ (i:=3) (N:=some 42) (v:=?_) (a':=?_) #[true,true,true,true,false,false,false,false,false,false] rfl rfl (by kernel_rfl) (fun _ _ _ h=>h) (Or.inl ⟨by rfl,?_⟩) hHeld ?_ ?_
   rotate_left
   ·intro w' s
    have q7:=s.1.c7;have q8:=s.1.c8
    clear s
    go_simp
    with_reducible rfl
   rotate_left
   ·simp only [Act.put,List.setIfInBounds_toArray,List.set_cons_zero,List.set_cons_succ,i64_w,i32_w]
    rfl
   refine take_ (i:=5) (N:=some 44) (v:=?_) (a':=?_) #[true,true,true,true,false,true,false,false,false,false] rfl rfl (by kernel_rfl) (fun _ _ _ h=>h) (Or.inl ⟨by rfl,?_⟩) hHeld ?_ ?_
   rotate_left
   ·intro w' s
    have q7:=s.1.c7;have q8:=s.1.c8
    clear s
    go_simp
    with_reducible rfl
   rotate_left
   ·simp only [Act.put,List.setIfInBounds_toArray,List.set_cons_zero,List.set_cons_succ,i64_w,i32_w]
    rfl
   refine take_ (i:=6) (N:=some 45) (v:=?_) (a':=?_) #[true,true,true,true,false,true,true,false,false,false] rfl rfl (by kernel_rfl) (fun _ _ _ h=>h) (Or.inl ⟨by rfl,?_⟩) hHeld ?_ ?_
   rotate_left
   ·intro w' s
    have q7:=s.1.c7;have q8:=s.1.c8
    clear s
    go_simp
    with_reducible rfl
   rotate_left
   ·simp only [Act.put,List.setIfInBounds_toArray,List.set_cons_zero,List.set_cons_succ,i64_w,i32_w]
    rfl
   refine take_ (i:=7) (N:=some 46) (v:=?_) (a':=?_) #[true,true,true,true,false,true,true,true,false,false] rfl rfl (by kernel_rfl) (fun _ _ _ h=>h) (Or.inl ⟨by rfl,?_⟩) hHeld ?_ ?_
   rotate_left
   ·intro w' s
    have q7:=s.1.c7;have q8:=s.1.c8
    clear s
    go_simp
    with_reducible rfl
   rotate_left
   ·simp only [Act.put,List.setIfInBounds_toArray,List.set_cons_zero,List.set_cons_succ,i64_w,i32_w]
    rfl
   have HP8:=Aside0.mk (show take_Put.f 20 c1 (IntKind.u64.wrap rows) 4 = some (c1 ++ be 4 (IntKind.u64.wrap rows)) from put_f c1 (IntKind.u64.wrap rows) 4 (by omega) 20 (by omega))
   refine one_ (i:=4) (N:=some 43) #[true,true,true,true,true,true,true,true,false,false] rfl rfl (by kernel_rfl) (by decide) (fun K hK=>?_)
   refine goes_ Try.func50 (by kernel_rfl) rfl #[.slice A6 c1.length c6,.int .u64 (IntKind.u64.wrap rows),.int .i64 4] (by rfl) rfl rfl (by (try simp only [List.map_toArray,List.map_cons,List.map_nil]);first|done|rfl) ?_
   refine (take_Put.calls 20 A6 c6 c1 _ 4 _ _ HC7.out hl6 HP8.out).mono ?_
   rintro e w8 ⟨v8,rfl,hR,hb⟩
   refine ⟨_,rfl,?_⟩
   obtain ⟨A8,c8,rfl,hl8,hC8⟩:=Kd.R_reads hR
   have S8:=Aside0.mk (show Dat w8 w.heap.size k0 k1 k2 k3 k4 k5 k6 rows cols Av At vs.length cv ts.length ct ∧ Below w.heap.size w w8 from ⟨blk_below S7.out.1 hb,below_step S7.out.2 hb⟩)
   have HC8:=Aside0.mk hC8
   clear hb hR hC8 hHeld S7 HC7
   refine hK.out _ _ S8.out (fun hHeld=>?_)
   clear hK K
   refine norm_ (a':=?_) ?_ ?_
   rotate_left
   ·show Act.put _ (some 43) _ = _
    simp only [Act.put,List.setIfInBounds_toArray,List.set_cons_zero,List.set_cons_succ,i64_w,i32_w]
    rfl
   have HP9:=Aside0.mk (show take_Put.f 20 (c1 ++ be 4 (IntKind.u64.wrap rows)) (IntKind.u64.wrap cols) 2 = some b0 by rw [hb0'];exact put_f _ (IntKind.u64.wrap cols) 2 (by rw [List.length_append,be_len];omega) 20 (by omega))
   refine one_ (i:=8) (N:=some 47) #[true,true,true,true,true,true,true,true,true,false] rfl rfl (by kernel_rfl) (by decide) (fun K hK=>?_)
   refine goes_ Try.func50 (by kernel_rfl) rfl #[.slice A8 (c1 ++ be 4 (IntKind.u64.wrap rows)).length c8,.int .u64 (IntKind.u64.wrap cols),.int .i64 2] (by rfl) rfl rfl (by (try simp only [List.map_toArray,List.map_cons,List.map_nil]);first|done|rfl) ?_
   refine (take_Put.calls 20 A8 c8 _ _ 2 _ _ HC8.out hl8 HP9.out).mono ?_
   rintro e w9 ⟨v9,rfl,hR,hb⟩
   refine ⟨_,rfl,?_⟩
   have S9:=Aside0.mk (show Dat w9 w.heap.size k0 k1 k2 k3 k4 k5 k6 rows cols Av At vs.length cv ts.length ct ∧ Below w.heap.size w w9 from ⟨blk_below S8.out.1 hb,below_step S8.out.2 hb⟩)
   have HR9:=Aside0.mk (Kd.R_lower hR (show w.heap.size + 1 ≤ w8.heap.size from blk_lt S8.out.1))
   clear hb hR hHeld S8 HC8
   refine hK.out _ _ S9.out (fun hHeld=>?_)
   clear hK K
   refine norm_ (a':=?_) ?_ ?_
   rotate_left
   ·show Act.put _ (some 47) _ = _
    simp only [Act.put,List.setIfInBounds_toArray,List.set_cons_zero,List.set_cons_succ,i64_w,i32_w]
    rfl
   refine take_ (i:=9) (N:=some 6) (v:=?_) (a':=?_) #[true,true,true,true,true,true,true,true,true,true] rfl rfl (by kernel_rfl) (fun _ _ _ h=>h) (Or.inl ⟨by rfl,?_⟩) hHeld ?_ ?_
   rotate_left
   ·intro w' s
    have q0:=s.1.c0
    clear s
    go_simp
    with_reducible rfl
   rotate_left
   ·simp only [Act.put,List.setIfInBounds_toArray,List.set_cons_zero,List.set_cons_succ,i64_w,i32_w]
    rfl
   refine done_ (by kernel_rfl) ?_
   clear hHeld
   have q9:=S9.out.1.c9
   have q10:=S9.out.1.c10
   go_wp2_with (fail)
   clear q9 q10
   refine (FGrow.grow_calls (w.heap.size + 1) v9 b0 _ w9 HR9.out (blk_lt S9.out.1) (by omega) (by omega) (by rw [hb0',List.length_append,List.length_append,be_len,be_len];omega) (by rw [hb0'];intro h0;have:=congrArg List.length h0;rw [List.length_append,List.length_append,be_len,be_len] at this;simp at this)).mono ?_
   rintro e w10 ⟨v10,rfl,hR,hb⟩
   have S10:=Aside0.mk (show Dat w10 w.heap.size k0 k1 k2 k3 k4 k5 k6 rows cols Av At vs.length cv ts.length ct ∧ Below w.heap.size w w10 from ⟨(hb.block _ (by omega)).trans S9.out.1,S9.out.2.trans (hb.mono (by omega))⟩)
   have HR10:=Aside0.mk hR
   clear hR hb S9 HR9
   have q9:=S10.out.1.c9
   go_wp2_with (fail)
   clear q9
   have hlb : b0.length ≤ 2000:=by rw [hb0',List.length_append,List.length_append,be_len,be_len];omega
   have HPT:=Aside0.mk (show putR cl k0 k1 true ck cn rows vs ts b0 = (match vbs cl vs b0 with|.error e=>([],e)|.ok b1=>match tbs k0 k1 ts b1 with|.error e=>([],e)|.ok b2=>(b2,0)) by unfold putR;rw [if_pos ⟨rfl,HR.out⟩,if_neg (by rw [HK.out];simp),if_neg (by rw [HN.out];simp)])
   go_loopw [61,6] (fun v61 v6 w'=>∃ (j : Nat) (bs : List Int),j ≤ vs.length ∧ v61 = .int .i64 j ∧ bs.length ≤ 2000 + 8 * j ∧ Aside0 (Dat w' w.heap.size k0 k1 k2 k3 k4 k5 k6 rows cols Av At vs.length cv ts.length ct ∧ Below w.heap.size w w') ∧ Aside0 (Kd.R (Kd.int .u8) 5 w' (w.heap.size + 1) (fun _=>True) v6 bs) ∧ Aside0 (vbs cl (vs.drop j) bs = vbs cl vs b0)) (fun v _ _=>vs.length - (intOf v).toNat)
   case atStart=>exact ⟨0,b0,by omega,rfl,by omega,S10,HR10,⟨rfl⟩⟩
   case round =>
    obtain ⟨j,bs,hj,rfl,hbl,SJ,HRB,HE⟩:=hrel
    clear S10 HR10
    by_cases hlt : j < vs.length
    ·have d0 : decide ((j : Int) < (vs.length : Int)) = true:=decide_eq_true (by omega)
     obtain ⟨ad,e0,hx1⟩:=Flt.at_kf (Kd.C_below HRV.out SJ.out.2) (j : Int) (by omega) (by omega)
     cases e0
     simp only [Int.toNat_natCast] at hx1
     have hdr : vs.drop j = rdOf 0 vs (j : Int) :: vs.drop (j + 1):=by
      rw [List.drop_eq_getElem_cons hlt];congr 1;simp [rdOf,hlt]
     have hE:=HE.out
     rw [hdr] at hE
     simp only [vbs] at hE
     clear HE hdr
     obtain ⟨x,hx⟩ : ∃ x,rdOf 0 vs (j : Int) = x:=⟨_,rfl⟩
     rw [hx] at hx1 hE
     clear hx
     obtain ⟨cx,hcx⟩ : ∃ cx,cl x = cx:=⟨_,rfl⟩
     have HCL:=Aside0.mk (show dataset_clean.f x = some cx by rw [← hcx];exact hcl x)
     rw [hcx] at hE
     clear hcx
     have HEE:=Aside0.mk hE
     clear hE
     go_wp2_with (fail)
     refine (dataset_clean.calls x cx _ HCL.out).mono ?_
     rintro e w11 ⟨rfl,⟨nd,rfl⟩⟩
     have S11:=Aside0.mk (show Dat (wr.drewN nd) w.heap.size k0 k1 k2 k3 k4 k5 k6 rows cols (some ad) At vs.length cv ts.length ct ∧ Below w.heap.size w (wr.drewN nd) from ⟨SJ.out.1,below_drewN SJ.out.2 _⟩)
     have HRB1:=Aside0.mk (show Kd.R (Kd.int .u8) 5 (wr.drewN nd) (w.heap.size + 1) (fun _=>True) u6 bs from Kd.R_below HRB.out (below_drewN (Below.refl _ _) _))
     clear SJ HRB
     generalize wr.drewN nd = w11 at *
     cases cx with
     | false =>
      have HP:=Aside0.mk (show putR cl k0 k1 true ck cn rows vs ts b0 = ([],3) by rw [HPT.out,← HEE.out];rfl)
      go_wp2
      go_ret2
      rw [HP.out]
      exact ⟨none,0,rfl,Nat.le_refl _,Kd.C_nil _ _,S11.out.2⟩
     | true =>
      have HEV:=Aside0.mk (show vbs cl (vs.drop (j + 1)) (bs ++ be 8 (Flt.ubits x)) = vbs cl vs b0 from HEE.out)
      have HPV:=Aside0.mk (show take_PutValue.f 20 [] x = some (be 8 (Flt.ubits x)) by unfold take_PutValue.f;rw [put_f [] _ 8 (by simp) 20 (by omega)];rfl)
      clear HEE
      go_wp2_with (fail)
      refine (take_PutValue.calls 20 none 0 [] x _ _ (Kd.C_nil _ _) (Nat.le_refl _) HPV.out).mono ?_
      rintro e w12 ⟨v12,rfl,hR,hb⟩
      obtain ⟨A12,c12,rfl,hl12,hC12⟩:=Kd.R_reads hR
      have S12:=Aside0.mk (show Dat w12 w.heap.size k0 k1 k2 k3 k4 k5 k6 rows cols (some ad) At vs.length cv ts.length ct ∧ Below w.heap.size w w12 from ⟨blk_below S11.out.1 hb,below_step S11.out.2 hb⟩)
      have HC12:=Aside0.mk hC12
      have HRB:=Aside0.mk (Kd.R_below HRB1.out hb)
      have hs12:=blk_lt S12.out.1
      have hlen8:=be_len 8 (Flt.ubits x)
      clear hR hb hC12 S11 HRB1
      go_wp2_with ((with_reducible refine gate_builtin (b:=.append) (xs:=#[.tmp 68,.tmp 70]) rfl ?_);at_builtin;refine Kd.R_append_rows (Kd.int .u8) (w0:=w12) (w.heap.size + 1) rfl (.tmp 68) (.tmp 70) 42 5 (.int .u8 0) 1 rfl Try.underlying42 info5 rfl (by decide) (by omega) u6 bs (be 8 (Flt.ubits x)) A12 _ c12 (fun _=>True) (fun _=>False) rfl rfl HRB.out HC12.out (fun _ _ h=>h) (fun _ h=>h.elim) (fun _ _=>trivial) (Below.refl _ _) (by have:=hs12;omega) (by omega) ?_;intro v13 w13 hR1 hb1 hg1 ha1)
      have S13:=Aside0.mk (show Dat w13 w.heap.size k0 k1 k2 k3 k4 k5 k6 rows cols (some ad) At vs.length cv ts.length ct ∧ Below w.heap.size w w13 from ⟨(hb1.block _ (by omega)).trans S12.out.1,S12.out.2.trans (hb1.mono (by omega))⟩)
      have HR13:=Aside0.mk hR1
      clear hR1 hb1 hg1 ha1 S12 HRB HC12 hs12
      exact ⟨⟨j + 1,bs ++ be 8 (Flt.ubits x),by omega,by go_num,by rw [List.length_append,hlen8];omega,S13,HR13,HEV⟩,by simp [intOf];omega⟩
    ·obtain rfl : j = vs.length:=by omega
     have d0 : decide ((vs.length : Int) < (vs.length : Int)) = false:=by simp
     have hE:=HE.out
     rw [List.drop_length] at hE
     simp only [vbs] at hE
     have HEV:=Aside0.mk hE.symm
     clear hE HE
     have q0:=SJ.out.1.c0
     have q1:=SJ.out.1.c1
     have q2:=SJ.out.1.c2
     have q3:=SJ.out.1.c3
     have q4:=SJ.out.1.c4
     have q5:=SJ.out.1.c5
     have q6:=SJ.out.1.c6
     have q7:=SJ.out.1.c7
     have q8:=SJ.out.1.c8
     have q9:=SJ.out.1.c9
     have q10:=SJ.out.1.c10
     go_wp2_with (fail)
     clear q0 q1 q2 q3 q4 q5 q6 q7 q8 q9 q10
     refine (target_calls k0 k1 k2 k3 k4 k5 k6 _).mono ?_
     rintro e w14 ⟨rfl,hb⟩
     have S14:=Aside0.mk (show Dat w14 w.heap.size k0 k1 k2 k3 k4 k5 k6 rows cols Av At vs.length cv ts.length ct ∧ Below w.heap.size w w14 from ⟨blk_below SJ.out.1 hb,below_step SJ.out.2 hb⟩)
     have HR14:=Aside0.mk (Kd.R_below HRB.out hb)
     have HPU:=Aside0.mk (show putR cl k0 k1 true ck cn rows vs ts b0 = (match tbs k0 k1 ts bs with|.error e=>([],e)|.ok b2=>(b2,0)) by rw [HPT.out,HEV.out])
     clear hb SJ HRB HEV HPT
     by_cases hk1 : k0 = 1
     ·rw [show fn k0 = 80 from if_pos hk1]
      have HMAY:=Aside0.mk (show ∀ z,may k0 k1 z = mean z from fun z=>if_pos hk1)
      have q10:=S14.out.1.c10
      clear hk1
      go_wp2_with (fail)
      clear q10
      go_loopw [79,6] (fun v79 v6 w'=>∃ (i : Nat) (bs : List Int),i ≤ ts.length ∧ v79 = .int .i64 i ∧ bs.length ≤ 802000 + 8 * i ∧ Aside0 (Dat w' w.heap.size k0 k1 k2 k3 k4 k5 k6 rows cols Av At vs.length cv ts.length ct ∧ Below w.heap.size w w') ∧ Aside0 (Kd.R (Kd.int .u8) 5 w' (w.heap.size + 1) (fun _=>True) v6 bs) ∧ Aside0 (putR cl k0 k1 true ck cn rows vs ts b0 = (match tbs k0 k1 (ts.drop i) bs with|.error e=>([],e)|.ok b2=>(b2,0)))) (fun v _ _=>ts.length - (intOf v).toNat)
      case atStart=>exact ⟨0,bs,by omega,rfl,by omega,S14,HR14,HPU⟩
      case round =>
       clear S14 HR14 HPU hbl bs
       obtain ⟨i,bs,hi,rfl,hbl,S15,HRB,HE⟩:=hrel
       by_cases hlt : i < ts.length
       ·have d0 : decide ((i : Int) < (ts.length : Int)) = true:=decide_eq_true (by omega)
        obtain ⟨ad,e0,hx1⟩:=Kd.at_int (Kd.C_below HRT.out S15.out.2) i (by omega) (by omega)
        cases e0
        simp only [Int.toNat_natCast] at hx1
        have hE:=HE.out
        rw [Pure.drop_rd ts i hlt] at hE
        simp only [tbs] at hE
        clear HE
        obtain ⟨z,hz⟩ : ∃ z,rd ts (i : Int) = z:=⟨_,rfl⟩
        rw [hz] at hx1 hE
        clear hz
        rw [HMAY.out z] at hE
        have HCL:=Aside0.mk (mean_calls k0 k1 k2 k3 k4 k5 k6 z wr)
        generalize mean z = mm at hE HCL
        have HEE:=Aside0.mk hE
        clear hE
        go_wp2_with (fail)
        refine HCL.out.mono ?_
        rintro e w16 ⟨rfl,hb⟩
        have S16:=Aside0.mk (show Dat w16 w.heap.size k0 k1 k2 k3 k4 k5 k6 rows cols Av (some ad) vs.length cv ts.length ct ∧ Below w.heap.size w w16 from ⟨blk_below S15.out.1 hb,below_step S15.out.2 hb⟩)
        have HRB1:=Aside0.mk (Kd.R_below HRB.out hb)
        clear hb S15 HRB HCL
        by_cases hm : mm = 0
        ·subst hm
         have HEV:=Aside0.mk (HEE.out.trans (by rw [if_pos rfl]))
         have HPV:=Aside0.mk (show take_PutWhole.f 20 [] z = some (be 8 (IntKind.u64.wrap z)) by unfold take_PutWhole.f;rw [put_f [] _ 8 (by simp) 20 (by omega)];rfl)
         clear HEE
         go_wp2_with (fail)
         refine (take_PutWhole.calls 20 none 0 [] z _ _ (Kd.C_nil _ _) (Nat.le_refl _) HPV.out).mono ?_
         rintro e w17 ⟨v17,rfl,hR,hb⟩
         obtain ⟨A17,c17,rfl,hl17,hC17⟩:=Kd.R_reads hR
         have S17:=Aside0.mk (show Dat w17 w.heap.size k0 k1 k2 k3 k4 k5 k6 rows cols Av (some ad) vs.length cv ts.length ct ∧ Below w.heap.size w w17 from ⟨blk_below S16.out.1 hb,below_step S16.out.2 hb⟩)
         have HC17:=Aside0.mk hC17
         have HRB:=Aside0.mk (Kd.R_below HRB1.out hb)
         have hs17:=blk_lt S17.out.1
         have hlen8:=be_len 8 (IntKind.u64.wrap z)
         clear hR hb hC17 S16 HRB1
         go_wp2_with ((with_reducible refine gate_builtin (b:=.append) (xs:=#[.tmp 89,.tmp 91]) rfl ?_);at_builtin;refine Kd.R_append_rows (Kd.int .u8) (w0:=w17) (w.heap.size + 1) rfl (.tmp 89) (.tmp 91) 42 5 (.int .u8 0) 1 rfl Try.underlying42 info5 rfl (by decide) (by omega) u6 bs (be 8 (IntKind.u64.wrap z)) A17 _ c17 (fun _=>True) (fun _=>False) rfl rfl HRB.out HC17.out (fun _ _ h=>h) (fun _ h=>h.elim) (fun _ _=>trivial) (Below.refl _ _) (by have:=hs17;omega) (by omega) ?_;intro v18 w18 hR1 hb1 hg1 ha1)
         have S18:=Aside0.mk (show Dat w18 w.heap.size k0 k1 k2 k3 k4 k5 k6 rows cols Av (some ad) vs.length cv ts.length ct ∧ Below w.heap.size w w18 from ⟨(hb1.block _ (by omega)).trans S17.out.1,S17.out.2.trans (hb1.mono (by omega))⟩)
         have HR18:=Aside0.mk hR1
         clear hR1 hb1 hg1 ha1 S17 HRB HC17 hs17
         exact ⟨⟨i + 1,bs ++ be 8 (IntKind.u64.wrap z),by omega,by go_num,by rw [List.length_append,hlen8];omega,S18,HR18,HEV⟩,by simp [intOf];omega⟩
        ·have dm : (mm != 0) = true:=bne_iff_ne.2 hm
         have HP:=Aside0.mk (HEE.out.trans (by rw [if_neg hm]))
         clear HEE hm
         go_wp2
         go_ret2
         rw [HP.out]
         exact ⟨none,0,rfl,Nat.le_refl _,Kd.C_nil _ _,S16.out.2⟩
       ·obtain rfl : i = ts.length:=by omega
        have d0 : decide ((ts.length : Int) < (ts.length : Int)) = false:=by simp
        have hE:=HE.out
        rw [List.drop_length] at hE
        simp only [tbs] at hE
        obtain ⟨Ab,cb,hub,hcb,hCb⟩:=Kd.R_reads HRB.out
        subst hub
        have HP:=Aside0.mk hE
        have HCB:=Aside0.mk hCb
        clear hE HE hCb HRB
        go_wp2
        go_ret2
        rw [HP.out]
        exact ⟨Ab,cb,rfl,hcb,HCB.out,S15.out.2⟩
     ·rw [show fn k0 = 81 from if_neg hk1]
      have HMAY:=Aside0.mk (show ∀ z,may k0 k1 z = class_ k1 z from fun z=>if_neg hk1)
      have q10:=S14.out.1.c10
      clear hk1
      go_wp2_with (fail)
      clear q10
      go_loopw [79,6] (fun v79 v6 w'=>∃ (i : Nat) (bs : List Int),i ≤ ts.length ∧ v79 = .int .i64 i ∧ bs.length ≤ 802000 + 8 * i ∧ Aside0 (Dat w' w.heap.size k0 k1 k2 k3 k4 k5 k6 rows cols Av At vs.length cv ts.length ct ∧ Below w.heap.size w w') ∧ Aside0 (Kd.R (Kd.int .u8) 5 w' (w.heap.size + 1) (fun _=>True) v6 bs) ∧ Aside0 (putR cl k0 k1 true ck cn rows vs ts b0 = (match tbs k0 k1 (ts.drop i) bs with|.error e=>([],e)|.ok b2=>(b2,0)))) (fun v _ _=>ts.length - (intOf v).toNat)
      case atStart=>exact ⟨0,bs,by omega,rfl,by omega,S14,HR14,HPU⟩
      case round =>
       clear S14 HR14 HPU hbl bs
       obtain ⟨i,bs,hi,rfl,hbl,S15,HRB,HE⟩:=hrel
       by_cases hlt : i < ts.length
       ·have d0 : decide ((i : Int) < (ts.length : Int)) = true:=decide_eq_true (by omega)
        obtain ⟨ad,e0,hx1⟩:=Kd.at_int (Kd.C_below HRT.out S15.out.2) i (by omega) (by omega)
        cases e0
        simp only [Int.toNat_natCast] at hx1
        have hE:=HE.out
        rw [Pure.drop_rd ts i hlt] at hE
        simp only [tbs] at hE
        clear HE
        obtain ⟨z,hz⟩ : ∃ z,rd ts (i : Int) = z:=⟨_,rfl⟩
        rw [hz] at hx1 hE
        clear hz
        rw [HMAY.out z] at hE
        have HCL:=Aside0.mk (class_calls k0 k1 k2 k3 k4 k5 k6 z wr)
        generalize class_ k1 z = mm at hE HCL
        have HEE:=Aside0.mk hE
        clear hE
        go_wp2_with (fail)
        refine HCL.out.mono ?_
        rintro e w16 ⟨rfl,hb⟩
        have S16:=Aside0.mk (show Dat w16 w.heap.size k0 k1 k2 k3 k4 k5 k6 rows cols Av (some ad) vs.length cv ts.length ct ∧ Below w.heap.size w w16 from ⟨blk_below S15.out.1 hb,below_step S15.out.2 hb⟩)
        have HRB1:=Aside0.mk (Kd.R_below HRB.out hb)
        clear hb S15 HRB HCL
        by_cases hm : mm = 0
        ·subst hm
         have HEV:=Aside0.mk (HEE.out.trans (by rw [if_pos rfl]))
         have HPV:=Aside0.mk (show take_PutWhole.f 20 [] z = some (be 8 (IntKind.u64.wrap z)) by unfold take_PutWhole.f;rw [put_f [] _ 8 (by simp) 20 (by omega)];rfl)
         clear HEE
         go_wp2_with (fail)
         refine (take_PutWhole.calls 20 none 0 [] z _ _ (Kd.C_nil _ _) (Nat.le_refl _) HPV.out).mono ?_
         rintro e w17 ⟨v17,rfl,hR,hb⟩
         obtain ⟨A17,c17,rfl,hl17,hC17⟩:=Kd.R_reads hR
         have S17:=Aside0.mk (show Dat w17 w.heap.size k0 k1 k2 k3 k4 k5 k6 rows cols Av (some ad) vs.length cv ts.length ct ∧ Below w.heap.size w w17 from ⟨blk_below S16.out.1 hb,below_step S16.out.2 hb⟩)
         have HC17:=Aside0.mk hC17
         have HRB:=Aside0.mk (Kd.R_below HRB1.out hb)
         have hs17:=blk_lt S17.out.1
         have hlen8:=be_len 8 (IntKind.u64.wrap z)
         clear hR hb hC17 S16 HRB1
         go_wp2_with ((with_reducible refine gate_builtin (b:=.append) (xs:=#[.tmp 89,.tmp 91]) rfl ?_);at_builtin;refine Kd.R_append_rows (Kd.int .u8) (w0:=w17) (w.heap.size + 1) rfl (.tmp 89) (.tmp 91) 42 5 (.int .u8 0) 1 rfl Try.underlying42 info5 rfl (by decide) (by omega) u6 bs (be 8 (IntKind.u64.wrap z)) A17 _ c17 (fun _=>True) (fun _=>False) rfl rfl HRB.out HC17.out (fun _ _ h=>h) (fun _ h=>h.elim) (fun _ _=>trivial) (Below.refl _ _) (by have:=hs17;omega) (by omega) ?_;intro v18 w18 hR1 hb1 hg1 ha1)
         have S18:=Aside0.mk (show Dat w18 w.heap.size k0 k1 k2 k3 k4 k5 k6 rows cols Av (some ad) vs.length cv ts.length ct ∧ Below w.heap.size w w18 from ⟨(hb1.block _ (by omega)).trans S17.out.1,S17.out.2.trans (hb1.mono (by omega))⟩)
         have HR18:=Aside0.mk hR1
         clear hR1 hb1 hg1 ha1 S17 HRB HC17 hs17
         exact ⟨⟨i + 1,bs ++ be 8 (IntKind.u64.wrap z),by omega,by go_num,by rw [List.length_append,hlen8];omega,S18,HR18,HEV⟩,by simp [intOf];omega⟩
        ·have dm : (mm != 0) = true:=bne_iff_ne.2 hm
         have HP:=Aside0.mk (HEE.out.trans (by rw [if_neg hm]))
         clear HEE hm
         go_wp2
         go_ret2
         rw [HP.out]
         exact ⟨none,0,rfl,Nat.le_refl _,Kd.C_nil _ _,S16.out.2⟩
       ·obtain rfl : i = ts.length:=by omega
        have d0 : decide ((ts.length : Int) < (ts.length : Int)) = false:=by simp
        have hE:=HE.out
        rw [List.drop_length] at hE
        simp only [tbs] at hE
        obtain ⟨Ab,cb,hub,hcb,hCb⟩:=Kd.R_reads HRB.out
        subst hub
        have HP:=Aside0.mk hE
        have HCB:=Aside0.mk hCb
        clear hE HE hCb HRB
        go_wp2
        go_ret2
        rw [HP.out]
        exact ⟨Ab,cb,rfl,hcb,HCB.out,S15.out.2⟩
  ·have dr : ((ts.length : Int) != rows) = true:=bne_iff_ne.2 hr
   have HP:=Aside0.mk (show putR cl k0 k1 true ck cn rows vs ts b0 = ([],8) by unfold putR;rw [if_neg (fun h=>hr h.2)])
   clear hr
   go_wp2
   go_ret2
   rw [HP.out]
   exact ⟨none,0,rfl,Nat.le_refl _,Kd.C_nil _ _,S1.out.2⟩
end Go.Proofs.Ytnagfbadjbkhmaa.FDataPut
