/- hornbeamref09.Of by a walk: a dataset whose values are told by their bits. -/
import Derived.Test.YtnagfbadjbkhmaaFDataPut
import Derived.Test.YtnagfbadjbkhmaaPureKit
namespace Go.Proofs.Ytnagfbadjbkhmaa.FDataOf
open Go.RowKit Go.Shelf Go.Proofs.YtnagfbadjbkhmaaW.PrintWords Go.Proofs.YtnagfbadjbkhmaaW.PrintLast Go.Proofs.YtnagfbadjbkhmaaW.PrintMore Go.Proofs.Ytnagfbadjbkhmaa.PA Go.Proofs.Ytnagfbadjbkhmaa.FDataPut
attribute [local go_sem high] Flt.run_bits Flt.run_frombits
set_option linter.unusedVariables false
set_option linter.unusedSimpArgs false
theorem info_u64 : (Try.prog.info? 37).map (fun i=>(i.zero,i.size,i.bytes)) = some (some (.int .u64 0),1,8):=by kernel_rfl
def Pl (W : World) (g : Nat) (k0 k1 k2 k3 k4 k5 k6 rows cols : Int) (v : Value) (At : Option Addr) (tn ct : Nat) : Prop:=W.heap[g]? = some (.cells #[.int .i64 k0,.int .i64 k1,.int .i64 k2,.int .i64 k3,.int .i64 k4,.int .i64 k5,.int .i64 k6,.int .i64 rows,.int .i64 cols,v,.slice At tn ct] 27 (0,0))
namespace Pl
variable {W : World} {g : Nat} {k0 k1 k2 k3 k4 k5 k6 rows cols : Int} {v : Value} {At : Option Addr} {tn ct : Nat}
theorem c0 (H : Pl W g k0 k1 k2 k3 k4 k5 k6 rows cols v At tn ct) : W.cell? ⟨g,0,none⟩ = some (.int .i64 k0):=(blk_cell H 0).trans rfl
theorem c1 (H : Pl W g k0 k1 k2 k3 k4 k5 k6 rows cols v At tn ct) : W.cell? ⟨g,1,none⟩ = some (.int .i64 k1):=(blk_cell H 1).trans rfl
theorem c2 (H : Pl W g k0 k1 k2 k3 k4 k5 k6 rows cols v At tn ct) : W.cell? ⟨g,2,none⟩ = some (.int .i64 k2):=(blk_cell H 2).trans rfl
theorem c3 (H : Pl W g k0 k1 k2 k3 k4 k5 k6 rows cols v At tn ct) : W.cell? ⟨g,3,none⟩ = some (.int .i64 k3):=(blk_cell H 3).trans rfl
theorem c4 (H : Pl W g k0 k1 k2 k3 k4 k5 k6 rows cols v At tn ct) : W.cell? ⟨g,4,none⟩ = some (.int .i64 k4):=(blk_cell H 4).trans rfl
theorem c5 (H : Pl W g k0 k1 k2 k3 k4 k5 k6 rows cols v At tn ct) : W.cell? ⟨g,5,none⟩ = some (.int .i64 k5):=(blk_cell H 5).trans rfl
theorem c6 (H : Pl W g k0 k1 k2 k3 k4 k5 k6 rows cols v At tn ct) : W.cell? ⟨g,6,none⟩ = some (.int .i64 k6):=(blk_cell H 6).trans rfl
theorem c7 (H : Pl W g k0 k1 k2 k3 k4 k5 k6 rows cols v At tn ct) : W.cell? ⟨g,7,none⟩ = some (.int .i64 rows):=(blk_cell H 7).trans rfl
theorem c8 (H : Pl W g k0 k1 k2 k3 k4 k5 k6 rows cols v At tn ct) : W.cell? ⟨g,8,none⟩ = some (.int .i64 cols):=(blk_cell H 8).trans rfl
theorem c9 (H : Pl W g k0 k1 k2 k3 k4 k5 k6 rows cols v At tn ct) : W.cell? ⟨g,9,none⟩ = some v:=(blk_cell H 9).trans rfl
theorem c10 (H : Pl W g k0 k1 k2 k3 k4 k5 k6 rows cols v At tn ct) : W.cell? ⟨g,10,none⟩ = some (.slice At tn ct):=(blk_cell H 10).trans rfl
theorem put (H : Pl W g k0 k1 k2 k3 k4 k5 k6 rows cols v At tn ct) (v' : Value) : Pl (W.setCell ⟨g,9,none⟩ v') g k0 k1 k2 k3 k4 k5 k6 rows cols v' At tn ct:=blk_put H 9 _ rfl
end Pl
/-- How far it is. -/
structure St (w W : World) (k0 k1 k2 k3 k4 k5 k6 rows cols : Int) (Av At : Option Addr) (vn cv tn ct : Nat) (v : Value) (bs : List Int) : Prop where
 d : Dat W w.heap.size k0 k1 k2 k3 k4 k5 k6 rows cols Av At vn cv tn ct
 z : W.heap[w.heap.size + 1]? = some (.cells #[.int .i64 0,.int .i64 0,.int .i64 0,.int .i64 0,.int .i64 0,.int .i64 0,.int .i64 0,.int .i64 0,.int .i64 0,.slice none 0 0,.slice none 0 0] 27 (0,0))
 p : Pl W (w.heap.size + 2) k0 k1 k2 k3 k4 k5 k6 rows cols v At tn ct
 r : W.ownsRow (w.heap.size + 3) 37 1 v bs.length (bs.map (Value.int .u64))
 b : Below w.heap.size w W
theorem row_ge {w : World} {base : Nat} {e : TypeId} {size : Nat} {v : Value} {n : Nat} {xs : List Value} (h : w.ownsRow base e size v n xs) (k : Nat) (hk : k < base) : some k ≠ v.ownBlock:=fun he=>by have:=(h.lt k he.symm).1;omega
set_option maxHeartbeats 3000000 in
set_option maxRecDepth 100000 in
theorem of_calls (k0 k1 k2 k3 k4 k5 k6 rows cols : Int) (Av At : Option Addr) (cv ct tn : Nat) (vs : List Nat) (w : World) (hrv : Kd.C Flt.kf w Av vs.length vs) (hcv : vs.length ≤ cv) (hv : vs.length ≤ 100000) :
  Calls Try.prog 20 #[.agg #[.int .i64 k0,.int .i64 k1,.int .i64 k2,.int .i64 k3,.int .i64 k4,.int .i64 k5,.int .i64 k6,.int .i64 rows,.int .i64 cols,.slice Av vs.length cv,.slice At tn ct]] w fun e w'=>∃ v,e = .returned (.agg #[.int .i64 k0,.int .i64 k1,.int .i64 k2,.int .i64 k3,.int .i64 k4,.int .i64 k5,.int .i64 k6,.int .i64 rows,.int .i64 cols,v,.slice At tn ct]) ∧ Kd.R (Kd.int .u64) 37 w' w.heap.size (fun _=>True) v (vs.map Flt.ubits) ∧ Below w.heap.size w w':=by
 have hu:=Try.underlying32
 have hu2:=Try.underlying23
 have hu3:=Try.underlying27
 have HRV:=Aside0.mk hrv
 clear hrv
 go_enter Try.func20,Try.ntmps20
 go_wp2_with (fail)
 obtain ⟨W0,hW0⟩ : ∃ W0,((w.alloc (.cells #[.int .i64 k0,.int .i64 k1,.int .i64 k2,.int .i64 k3,.int .i64 k4,.int .i64 k5,.int .i64 k6,.int .i64 rows,.int .i64 cols,.slice Av vs.length cv,.slice At tn ct] 32)).alloc (.cells #[.int .i64 0,.int .i64 0,.int .i64 0,.int .i64 0,.int .i64 0,.int .i64 0,.int .i64 0,.int .i64 0,.int .i64 0,.slice none 0 0,.slice none 0 0] 27)).alloc (.cells #[.int .i64 k0,.int .i64 k1,.int .i64 k2,.int .i64 k3,.int .i64 k4,.int .i64 k5,.int .i64 k6,.int .i64 rows,.int .i64 cols,.slice none 0 0,.slice At tn ct] 27) = W0:=⟨_,rfl⟩
 have S0:=Aside0.mk (show St w W0 k0 k1 k2 k3 k4 k5 k6 rows cols Av At vs.length cv tn ct (.slice none 0 0) [] from by
  rw [← hW0]
  refine ⟨blk_alloc (blk_alloc (blk_new w _) _) _,blk_alloc ?_ _,?_,World.ownsRow_nil _ _ _ _,below_alloc (below_alloc (below_alloc (Below.refl _ w) _) _) _⟩
  ·have:=blk_new (w.alloc (.cells #[.int .i64 k0,.int .i64 k1,.int .i64 k2,.int .i64 k3,.int .i64 k4,.int .i64 k5,.int .i64 k6,.int .i64 rows,.int .i64 cols,.slice Av vs.length cv,.slice At tn ct] 32)) (.cells #[.int .i64 0,.int .i64 0,.int .i64 0,.int .i64 0,.int .i64 0,.int .i64 0,.int .i64 0,.int .i64 0,.int .i64 0,.slice none 0 0,.slice none 0 0] 27);rwa [World.size_alloc] at this
  ·have:=blk_new ((w.alloc (.cells #[.int .i64 k0,.int .i64 k1,.int .i64 k2,.int .i64 k3,.int .i64 k4,.int .i64 k5,.int .i64 k6,.int .i64 rows,.int .i64 cols,.slice Av vs.length cv,.slice At tn ct] 32)).alloc (.cells #[.int .i64 0,.int .i64 0,.int .i64 0,.int .i64 0,.int .i64 0,.int .i64 0,.int .i64 0,.int .i64 0,.int .i64 0,.slice none 0 0,.slice none 0 0] 27)) (.cells #[.int .i64 k0,.int .i64 k1,.int .i64 k2,.int .i64 k3,.int .i64 k4,.int .i64 k5,.int .i64 k6,.int .i64 rows,.int .i64 cols,.slice none 0 0,.slice At tn ct] 27);rwa [World.size_alloc,World.size_alloc] at this)
 rw [hW0]
 clear hW0
 go_loopw [4] (fun v4 w'=>∃ (j : Nat) (v : Value),j ≤ vs.length ∧ v4 = .int .i64 j ∧ Aside0 (St w w' k0 k1 k2 k3 k4 k5 k6 rows cols Av At vs.length cv tn ct v ((vs.take j).map Flt.ubits))) (fun u _=>vs.length - (intOf u).toNat)
 case atStart=>exact ⟨0,_,by omega,rfl,S0⟩
 case round =>
  obtain ⟨j,v,hj,rfl,SJ⟩:=hrel
  clear S0
  have q9:=SJ.out.d.c9
  by_cases hlt : j < vs.length
  ·have d0 : decide ((j : Int) < (vs.length : Int)) = true:=decide_eq_true (by omega)
   obtain ⟨ad,e0,hx1⟩:=Flt.at_kf (Kd.C_below HRV.out SJ.out.b) (j : Int) (by omega) (by omega)
   cases e0
   clear hx1
   go_wp2_with (fail)
   clear q9
   have htk : vs.take (j + 1) = vs.take j ++ [rdOf 0 vs (j : Int)]:=by
    rw [List.take_succ_eq_append_getElem hlt];congr 1;simp [rdOf,hlt]
   have HTK:=Aside0.mk htk
   clear htk
   refine start_ (n:=12) (S:=fun w'=>Dat w' w.heap.size k0 k1 k2 k3 k4 k5 k6 rows cols (some ad) At vs.length cv tn ct ∧ Pl w' (w.heap.size + 2) k0 k1 k2 k3 k4 k5 k6 rows cols v At tn ct ∧ Below w.heap.size w w') (ds:=[11]) #[false,false,false,false,false,false,false,false,false,false,false,false] (by kernel_rfl) rfl rfl ⟨SJ.out.d,SJ.out.p,below_drew1 SJ.out.b⟩ (fun hHeld=>?_)
   refine take_ (i:=0) (N:=some 21) (v:=?_) (a':=?_) #[true,false,false,false,false,false,false,false,false,false,false,false] rfl rfl (by kernel_rfl) (fun _ _ _ h=>h) (Or.inl ⟨by rfl,?_⟩) hHeld ?_ ?_
   rotate_left
   ·intro w' s
    have q9:=s.1.c9;have p9:=s.2.1.c9;obtain ⟨ad',e0',hx1⟩:=Flt.at_kf (Kd.C_below HRV.out s.2.2) (j : Int) (by omega) (by omega);cases e0';simp only [Int.toNat_natCast] at hx1
    clear s
    go_simp
    with_reducible rfl
   rotate_left
   ·simp only [Act.put,List.setIfInBounds_toArray,List.set_cons_zero,List.set_cons_succ,i64_w,i32_w]
    rfl
   refine take_ (i:=1) (N:=some 22) (v:=?_) (a':=?_) #[true,true,false,false,false,false,false,false,false,false,false,false] rfl rfl (by kernel_rfl) (fun _ _ _ h=>h) (Or.inl ⟨by rfl,?_⟩) hHeld ?_ ?_
   rotate_left
   ·intro w' s
    have q9:=s.1.c9;have p9:=s.2.1.c9;obtain ⟨ad',e0',hx1⟩:=Flt.at_kf (Kd.C_below HRV.out s.2.2) (j : Int) (by omega) (by omega);cases e0';simp only [Int.toNat_natCast] at hx1
    clear s
    go_simp
    with_reducible rfl
   rotate_left
   ·simp only [Act.put,List.setIfInBounds_toArray,List.set_cons_zero,List.set_cons_succ,i64_w,i32_w]
    rfl
   refine take_ (i:=2) (N:=some 23) (v:=?_) (a':=?_) #[true,true,true,false,false,false,false,false,false,false,false,false] rfl rfl (by kernel_rfl) (fun _ _ _ h=>h) (Or.inl ⟨by rfl,?_⟩) hHeld ?_ ?_
   rotate_left
   ·intro w' s
    have q9:=s.1.c9;have p9:=s.2.1.c9;obtain ⟨ad',e0',hx1⟩:=Flt.at_kf (Kd.C_below HRV.out s.2.2) (j : Int) (by omega) (by omega);cases e0';simp only [Int.toNat_natCast] at hx1
    clear s
    go_simp
    with_reducible rfl
   rotate_left
   ·simp only [Act.put,List.setIfInBounds_toArray,List.set_cons_zero,List.set_cons_succ,i64_w,i32_w]
    rfl
   refine take_ (i:=3) (N:=some 24) (v:=?_) (a':=?_) #[true,true,true,true,false,false,false,false,false,false,false,false] rfl rfl (by kernel_rfl) (fun _ _ _ h=>h) (Or.inl ⟨by rfl,?_⟩) hHeld ?_ ?_
   rotate_left
   ·intro w' s
    have q9:=s.1.c9;have p9:=s.2.1.c9;obtain ⟨ad',e0',hx1⟩:=Flt.at_kf (Kd.C_below HRV.out s.2.2) (j : Int) (by omega) (by omega);cases e0';simp only [Int.toNat_natCast] at hx1
    clear s
    go_simp
    with_reducible rfl
   rotate_left
   ·simp only [Act.put,List.setIfInBounds_toArray,List.set_cons_zero,List.set_cons_succ,i64_w,i32_w]
    rfl
   refine take_ (i:=4) (N:=some 25) (v:=?_) (a':=?_) #[true,true,true,true,true,false,false,false,false,false,false,false] rfl rfl (by kernel_rfl) (fun _ _ _ h=>h) (Or.inl ⟨by rfl,?_⟩) hHeld ?_ ?_
   rotate_left
   ·intro w' s
    have q9:=s.1.c9;have p9:=s.2.1.c9;obtain ⟨ad',e0',hx1⟩:=Flt.at_kf (Kd.C_below HRV.out s.2.2) (j : Int) (by omega) (by omega);cases e0';simp only [Int.toNat_natCast] at hx1
    clear s
    go_simp
    with_reducible rfl
   rotate_left
   ·simp only [Act.put,List.setIfInBounds_toArray,List.set_cons_zero,List.set_cons_succ,i64_w,i32_w]
    rfl
   refine take_ (i:=5) (N:=some 26) (v:=?_) (a':=?_) #[true,true,true,true,true,true,false,false,false,false,false,false] rfl rfl (by kernel_rfl) (fun _ _ _ h=>h) (Or.inl ⟨by rfl,?_⟩) hHeld ?_ ?_
   rotate_left
   ·intro w' s
    have q9:=s.1.c9;have p9:=s.2.1.c9;obtain ⟨ad',e0',hx1⟩:=Flt.at_kf (Kd.C_below HRV.out s.2.2) (j : Int) (by omega) (by omega);cases e0';simp only [Int.toNat_natCast] at hx1
    clear s
    go_simp
    with_reducible rfl
   rotate_left
   ·simp only [Act.put,List.setIfInBounds_toArray,List.set_cons_zero,List.set_cons_succ,i64_w,i32_w]
    rfl
   refine take_ (i:=6) (N:=some 27) (v:=?_) (a':=?_) #[true,true,true,true,true,true,true,false,false,false,false,false] rfl rfl (by kernel_rfl) (fun _ _ _ h=>h) (Or.inl ⟨by rfl,?_⟩) hHeld ?_ ?_
   rotate_left
   ·intro w' s
    have q9:=s.1.c9;have p9:=s.2.1.c9;obtain ⟨ad',e0',hx1⟩:=Flt.at_kf (Kd.C_below HRV.out s.2.2) (j : Int) (by omega) (by omega);cases e0';simp only [Int.toNat_natCast] at hx1
    clear s
    go_simp
    with_reducible rfl
   rotate_left
   ·simp only [Act.put,List.setIfInBounds_toArray,List.set_cons_zero,List.set_cons_succ,i64_w,i32_w]
    rfl
   refine take_ (i:=7) (N:=some 28) (v:=?_) (a':=?_) #[true,true,true,true,true,true,true,true,false,false,false,false] rfl rfl (by kernel_rfl) (fun _ _ _ h=>h) (Or.inl ⟨by rfl,?_⟩) hHeld ?_ ?_
   rotate_left
   ·intro w' s
    have q9:=s.1.c9;have p9:=s.2.1.c9;obtain ⟨ad',e0',hx1⟩:=Flt.at_kf (Kd.C_below HRV.out s.2.2) (j : Int) (by omega) (by omega);cases e0';simp only [Int.toNat_natCast] at hx1
    clear s
    go_simp
    with_reducible rfl
   rotate_left
   ·simp only [Act.put,List.setIfInBounds_toArray,List.set_cons_zero,List.set_cons_succ,i64_w,i32_w]
    rfl
   have SD:=Aside0.mk (show St w wr.drew k0 k1 k2 k3 k4 k5 k6 rows cols (some ad) At vs.length cv tn ct v ((vs.take j).map Flt.ubits) from ⟨SJ.out.d,SJ.out.z,SJ.out.p,SJ.out.r,below_drew1 SJ.out.b⟩)
   clear SJ
   generalize wr.drew = w1 at SD hHeld ⊢
   have HS1:=Aside0.mk (show w.heap.size + 3 ≤ w1.heap.size from blk_lt SD.out.p)
   refine one_ (i:=8) (N:=some 29) #[true,true,true,true,true,true,true,true,true,false,false,false] rfl rfl (by kernel_rfl) (by decide) (fun K hK=>?_)
   refine value_ (w1:=w1.alloc (.cells #[.int .u64 (Flt.ubits (rdOf 0 vs (j : Int)))] 37)) (v:=.slice (some ⟨w1.heap.size,0,none⟩) 1 1) (by rfl) rfl (by go_simp) ?_
   have hA:=below_alloc (Below.refl w1.heap.size w1) (.cells #[.int .u64 (Flt.ubits (rdOf 0 vs (j : Int)))] 37)
   refine hK.out _ _ ⟨blk_below SD.out.d hA,blk_below SD.out.p hA,below_step SD.out.b hA⟩ (fun hHeld2=>?_)
   clear hK K hA
   refine norm_ (a':=?_) ?_ ?_
   rotate_left
   ·show Act.put _ (some 29) _ = _
    simp only [Act.put,List.setIfInBounds_toArray,List.set_cons_zero,List.set_cons_succ,i64_w,i32_w]
    rfl
   obtain ⟨i0,hi,hz0,hz1,hz2⟩:=info_parts info_u64
   refine one_ (i:=9) (N:=some 30) #[true,true,true,true,true,true,true,true,true,true,false,false] rfl rfl (by kernel_rfl) (by decide) (fun K hK=>?_)
   have hlen : ((vs.take j).map Flt.ubits).length = j:=by rw [List.length_map,List.length_take];omega
   refine step_append_lies _ rfl (.tmp 22) (.tmp 29) 24 (by rfl) (w.heap.size + 3) 37 i0 (.int .u64 0) 1 8 Try.underlying24 hi hz0 hz1 hz2 rfl (by decide) v _ _ (by rfl) (SD.out.r.alloc _) ⟨w1.heap.size,0,none⟩ 1 1 [.int .u64 (Flt.ubits (rdOf 0 vs (j : Int)))] (by rfl) rfl
    (World.news_of_block (World.alloc_heap_new w1 _)) (by simp [Value.oneCell']) (by decide) (by rw [hlen];unfold maxLen;omega) (by rw [hlen];omega) (by have:=HS1.out;simp;omega) (w1.heap.size + 1) (by simp) ?_
   intro g cap w2 hown hgrow hat hglt
   have hk : ∀ k,k < w.heap.size + 3 → w2.heap[k]? = w1.heap[k]?:=fun k hk=>(hgrow.block k (by have:=HS1.out;simp;omega) (row_ge SD.out.r k hk)).trans (Below.heap_alloc _ _ _ (by have:=HS1.out;omega))
   have hb2 : Below w.heap.size w w2:=(below_alloc SD.out.b _).grown hgrow (by have:=HS1.out;simp;omega) (fun k e=>by have:=(SD.out.r.lt k e).1;omega)
   have S2:=Aside0.mk (show Dat w2 w.heap.size k0 k1 k2 k3 k4 k5 k6 rows cols (some ad) At vs.length cv tn ct ∧ w2.heap[w.heap.size + 1]? = some (.cells #[.int .i64 0,.int .i64 0,.int .i64 0,.int .i64 0,.int .i64 0,.int .i64 0,.int .i64 0,.int .i64 0,.int .i64 0,.slice none 0 0,.slice none 0 0] 27 (0,0)) ∧ Pl w2 (w.heap.size + 2) k0 k1 k2 k3 k4 k5 k6 rows cols v At tn ct ∧ Below w.heap.size w w2 from ⟨(hk _ (by omega)).trans SD.out.d,(hk _ (by omega)).trans SD.out.z,(hk _ (by omega)).trans SD.out.p,hb2⟩)
   have HOW:=Aside0.mk hown
   clear hown hgrow hat hglt hk hb2 hHeld2
   refine hK.out _ _ ⟨S2.out.1,S2.out.2.2.1,S2.out.2.2.2⟩ (fun hHeld=>?_)
   clear hK K
   refine norm_ (a':=?_) ?_ ?_
   rotate_left
   ·show Act.put _ (some 30) _ = _
    simp only [Act.put,List.setIfInBounds_toArray,List.set_cons_zero,List.set_cons_succ,i64_w,i32_w]
    rfl
   refine take_ (i:=10) (N:=some 31) (v:=?_) (a':=?_) #[true,true,true,true,true,true,true,true,true,true,true,false] rfl rfl (by kernel_rfl) (fun _ _ _ h=>h) (Or.inl ⟨by rfl,?_⟩) hHeld ?_ ?_
   rotate_left
   ·intro w' s
    have q9:=s.1.c9
    clear s
    go_simp
    with_reducible rfl
   rotate_left
   ·simp only [Act.put,List.setIfInBounds_toArray,List.set_cons_zero,List.set_cons_succ,i64_w,i32_w]
    rfl
   refine last_ (i:=11) (N:=none) #[true,true,true,true,true,true,true,true,true,true,true,true] rfl rfl (by kernel_rfl) (by decide) (fun K hK=>?_)
   have c2:=S2.out.2.2.1.c9
   have f2:=blk_frozen S2.out.2.2.1 9
   refine skip_ (w1:=w2.setCell ⟨w.heap.size + 2,9,none⟩ (.slice (some ⟨g,0,none⟩) (((vs.take j).map Flt.ubits).length + 1) cap)) (by rfl) rfl (by go_simp) ?_
   refine hK.out _ _ ?_
   clear hK K c2 f2
   refine done_ (by kernel_rfl) ?_
   have S3:=Aside0.mk (show St w (w2.setCell ⟨w.heap.size + 2,9,none⟩ (.slice (some ⟨g,0,none⟩) (((vs.take j).map Flt.ubits).length + 1) cap)) k0 k1 k2 k3 k4 k5 k6 rows cols (some ad) At vs.length cv tn ct (.slice (some ⟨g,0,none⟩) (((vs.take j).map Flt.ubits).length + 1) cap) ((vs.take (j + 1)).map Flt.ubits) from
    ⟨blk_far S2.out.1 (show w.heap.size ≠ w.heap.size + 2 by omega) _,blk_far S2.out.2.1 (show w.heap.size + 1 ≠ w.heap.size + 2 by omega) _,S2.out.2.2.1.put _,by
     rw [HTK.out,List.map_append,List.length_append,List.map_append]
     exact ownsRow_setCell_below HOW.out (a:=⟨w.heap.size + 2,9,none⟩) (show w.heap.size + 2 < w.heap.size + 3 by omega) _,below_set S2.out.2.2.2 (show w.heap.size ≤ w.heap.size + 2 by omega)⟩)
   clear HOW S2 SD hHeld
   rw [hlen] at S3 ⊢
   go_wp2_with (fail)
   exact ⟨⟨j + 1,_,by omega,by go_num,S3⟩,by simp [intOf];omega⟩
  ·obtain rfl : j = vs.length:=by omega
   have d0 : decide ((vs.length : Int) < (vs.length : Int)) = false:=by simp
   obtain ⟨A,c,hA,hc,hC⟩:=Kd.R_reads (Kd.R_of_own (ok:=fun k=>w.heap.size + 3 ≤ k) (enc:=Value.int .u64) (h1:=fun _=>rfl) SJ.out.r (fun k hk=>(SJ.out.r.lt k hk).1))
   have hRR:=Kd.R_of_own (ok:=fun k=>w.heap.size + 3 ≤ k) (enc:=Value.int .u64) (h1:=fun _=>rfl) SJ.out.r (fun k hk=>(SJ.out.r.lt k hk).1)
   subst hA
   rw [List.take_length] at hRR
   have HRR:=Aside0.mk hRR
   clear hRR
   rw [List.take_length] at SJ hc hC
   have hlm : (vs.map Flt.ubits).length = vs.length:=List.length_map _
   rw [hlm] at SJ hc hC
   have p0:=SJ.out.p.c0
   have p1:=SJ.out.p.c1
   have p2:=SJ.out.p.c2
   have p3:=SJ.out.p.c3
   have p4:=SJ.out.p.c4
   have p5:=SJ.out.p.c5
   have p6:=SJ.out.p.c6
   have p7:=SJ.out.p.c7
   have p8:=SJ.out.p.c8
   have p9:=SJ.out.p.c9
   have p10:=SJ.out.p.c10
   have z9:=SJ.out.z
   have HC:=Aside0.mk hC
   clear hC
   go_wp2_with ((with_reducible refine gate_store (t:=27) (p:=2) rfl ?_);refine FStore.store_all (w.heap.size + 1) 27 27 2 _ #[.int .i64 0,.int .i64 0,.int .i64 0,.int .i64 0,.int .i64 0,.int .i64 0,.int .i64 0,.int .i64 0,.int .i64 0,.slice none 0 0,.slice none 0 0] #[.int .i64 k0,.int .i64 k1,.int .i64 k2,.int .i64 k3,.int .i64 k4,.int .i64 k5,.int .i64 k6,.int .i64 rows,.int .i64 cols,.slice A vs.length c,.slice At tn ct] rfl rfl rfl rfl rfl z9 (by kernel_rfl) rfl (by simp [Value.oneCell']) ?_;intro w9 hb9 hB9 hk9)
   refine bodyPost_ret (results_cell_row rfl _ _ (w.heap.size + 1) 27 #[.int .i64 k0,.int .i64 k1,.int .i64 k2,.int .i64 k3,.int .i64 k4,.int .i64 k5,.int .i64 k6,.int .i64 rows,.int .i64 cols,.slice A vs.length c,.slice At tn ct] (0,0) _ rfl hb9 Try.underlying27 rfl (by kernel_rfl)) rfl ?_
   refine ⟨.slice A vs.length c,rfl,?_,hB9 _ _ (by omega) SJ.out.b⟩
   have h2:=Kd.R_mono (ok':=fun _=>True) (Kd.R_step HRR.out (fun k hk _=>hk9 k (by omega))) (fun _ _=>trivial)
   rw [hlm] at h2
   exact Kd.R_lower h2 (by omega)
end Go.Proofs.Ytnagfbadjbkhmaa.FDataOf
