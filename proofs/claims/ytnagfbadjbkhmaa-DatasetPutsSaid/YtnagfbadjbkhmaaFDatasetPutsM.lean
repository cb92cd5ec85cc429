/- hornbeamref09.Of by a walk: a dataset whose values are told by their bits. -/
import Derived.Test.YtnagfbadjbkhmaaFDataPut
import Derived.Test.YtnagfbadjbkhmaaPureKit
import Derived.Test.YtnagfbadjbkhmaaPureTake
import Derived.Test.YtnagfbadjbkhmaaFRefGet
import Derived.Test.YtnagfbadjbkhmaaPureDataPut
import Derived.Test.YtnagfbadjbkhmaaPAx8
namespace Go.Proofs.Ytnagfbadjbkhmaa.FDataOf
open Go.RowKit Go.Shelf Go.Proofs.YtnagfbadjbkhmaaW.PrintWords Go.Proofs.YtnagfbadjbkhmaaW.PrintLast Go.Proofs.YtnagfbadjbkhmaaW.PrintMore Go.Proofs.Ytnagfbadjbkhmaa.PA Go.Proofs.Ytnagfbadjbkhmaa.FDataPut
attribute [local go_sem high] Flt.run_bits Flt.run_frombits
set_option linter.unusedVariables false
set_option linter.unusedSimpArgs false
theorem info_u64 : (Try.prog.info? 37).map (fun i=>(i.zero,i.size,i.bytes)) = some (some (.int .u64 0),1,8):=by kernel_rfl
def Pl (W : World) (g : Nat) (k0 k1 k2 k3 k4 k5 k6 rows cols : Int) (v : Value) (At : Option Addr) (tn ct : Nat) : Prop:=W.heap[g]? = some (.cells #[.int .i64 k0,.int .i64 k1,.int .i64 k2,.int .i64 k3,.int .i64 k4,.int .i64 k5,.int .i64 k6,.int .i64 rows,.int .i64 cols,v,.slice At tn ct] 27 (0,0))
namespace Pl
variable {W : World} {g : Nat} {k0 k1 k2 k3 k4 k5 k6 rows cols : Int} {v : Value} {At : Option Addr} {tn ct : Nat}
theorem c0 (H : Pl W g k0 k1 k2 k3 k4 k5 k6 rows cols v At tn ct) : W.cell? ⟨g,0,none⟩ = some (.int .i64 k0):=(blk_cell H 0).trans rfl
theorem c1 (H : Pl W g k0 k1 k2 k3 k4 k5 k6 rows cols v At tn ct) : W.cell? ⟨g,1,none⟩ = some (.int .i64 k1):=(blk_cell H 1).trans rfl
theorem c2 (H : Pl W g k0 k1 k2 k3 k4 k5 k6 rows cols v At tn ct) : W.cell? ⟨g,2,none⟩ = some (.int .i64 k2):=(blk_cell H 2).trans rfl
theorem c3 (H : Pl W g k0 k1 k2 k3 k4 k5 k6 rows cols v At tn ct) : W.cell? ⟨g,3,none⟩ = some (.int .i64 k3):=(blk_cell H 3).trans rfl
theorem c4 (H : Pl W g k0 k1 k2 k3 k4 k5 k6 rows cols v At tn ct) : W.cell? ⟨g,4,none⟩ = some (.int .i64 k4):=(blk_cell H 4).trans rfl
theorem c5 (H : Pl W g k0 k1 k2 k3 k4 k5 k6 rows cols v At tn ct) : W.cell? ⟨g,5,none⟩ = some (.int .i64 k5):=(blk_cell H 5).trans rfl
theorem c6 (H : Pl W g k0 k1 k2 k3 k4 k5 k6 rows cols v At tn ct) : W.cell? ⟨g,6,none⟩ = some (.int .i64 k6):=(blk_cell H 6).trans rfl
theorem c7 (H : Pl W g k0 k1 k2 k3 k4 k5 k6 rows cols v At tn ct) : W.cell? ⟨g,7,none⟩ = some (.int .i64 rows):=(blk_cell H 7).trans rfl
theorem c8 (H : Pl W g k0 k1 k2 k3 k4 k5 k6 rows cols v At tn ct) : W.cell? ⟨g,8,none⟩ = some (.int .i64 cols):=(blk_cell H 8).trans rfl
theorem c9 (H : Pl W g k0 k1 k2 k3 k4 k5 k6 rows cols v At tn ct) : W.cell? ⟨g,9,none⟩ = some v:=(blk_cell H 9).trans rfl
theorem c10 (H : Pl W g k0 k1 k2 k3 k4 k5 k6 rows cols v At tn ct) : W.cell? ⟨g,10,none⟩ = some (.slice At tn ct):=(blk_cell H 10).trans rfl
theorem put (H : Pl W g k0 k1 k2 k3 k4 k5 k6 rows cols v At tn ct) (v' : Value) : Pl (W.setCell ⟨g,9,none⟩ v') g k0 k1 k2 k3 k4 k5 k6 rows cols v' At tn ct:=blk_put H 9 _ rfl
end Pl
/-- How far it is. -/
structure St (w W : World) (k0 k1 k2 k3 k4 k5 k6 rows cols : Int) (Av At : Option Addr) (vn cv tn ct : Nat) (v : Value) (bs : List Int) : Prop where
 d : Dat W w.heap.size k0 k1 k2 k3 k4 k5 k6 rows cols Av At vn cv tn ct
 z : W.heap[w.heap.size + 1]? = some (.cells #[.int .i64 0,.int .i64 0,.int .i64 0,.int .i64 0,.int .i64 0,.int .i64 0,.int .i64 0,.int .i64 0,.int .i64 0,.slice none 0 0,.slice none 0 0] 27 (0,0))
 p : Pl W (w.heap.size + 2) k0 k1 k2 k3 k4 k5 k6 rows cols v At tn ct
 r : W.ownsRow (w.heap.size + 3) 37 1 v bs.length (bs.map (Value.int .u64))
 b : Below w.heap.size w W
theorem row_ge {w : World} {base : Nat} {e : TypeId} {size : Nat} {v : Value} {n : Nat} {xs : List Value} (h : w.ownsRow base e size v n xs) (k : Nat) (hk : k < base) : some k ≠ v.ownBlock:=fun he=>by have:=(h.lt k he.symm).1;omega
set_option maxHeartbeats 3000000 in
set_option maxRecDepth 100000 in
theorem of_calls (k0 k1 k2 k3 k4 k5 k6 rows cols : Int) (Av At : Option Addr) (cv ct tn : Nat) (vs : List Nat) (w : World) (hrv : Kd.C Flt.kf w Av vs.length vs) (hcv : vs.length ≤ cv) (hv : vs.length ≤ 100000) :
  Calls Try.prog 20 #[.agg #[.int .i64 k0,.int .i64 k1,.int .i64 k2,.int .i64 k3,.int .i64 k4,.int .i64 k5,.int .i64 k6,.int .i64 rows,.int .i64 cols,.slice Av vs.length cv,.slice At tn ct]] w fun e w'=>∃ v,e = .returned (.agg #[.int .i64 k0,.int .i64 k1,.int .i64 k2,.int .i64 k3,.int .i64 k4,.int .i64 k5,.int .i64 k6,.int .i64 rows,.int .i64 cols,v,.slice At tn ct]) ∧ Kd.R (Kd.int .u64) 37 w' w.heap.size (fun _=>True) v (vs.map Flt.ubits) ∧ Below w.heap.size w w':=by
 have hu:=Try.underlying32
 have hu2:=Try.underlying23
 have hu3:=Try.underlying27
 have HRV:=Aside0.mk hrv
 clear hrv
 go_enter Try.func20,Try.ntmps20
 go_wp2_with (fail)
 obtain ⟨W0,hW0⟩ : ∃ W0,((w.alloc (.cells #[.int .i64 k0,.int .i64 k1,.int .i64 k2,.int .i64 k3,.int .i64 k4,.int .i64 k5,.int .i64 k6,.int .i64 rows,.int .i64 cols,.slice Av vs.length cv,.slice At tn ct] 32)).alloc (.cells #[.int .i64 0,.int .i64 0,.int .i64 0,.int .i64 0,.int .i64 0,.int .i64 0,.int .i64 0,.int .i64 0,.int .i64 0,.slice none 0 0,.slice none 0 0] 27)).alloc (.cells #[.int .i64 k0,.int .i64 k1,.int .i64 k2,.int .i64 k3,.int .i64 k4,.int .i64 k5,.int .i64 k6,.int .i64 rows,.int .i64 cols,.slice none 0 0,.slice At tn ct] 27) = W0:=⟨_,rfl⟩
 have S0:=Aside0.mk (show St w W0 k0 k1 k2 k3 k4 k5 k6 rows cols Av At vs.length cv tn ct (.slice none 0 0) [] from by
  rw [← hW0]
  refine ⟨blk_alloc (blk_alloc (blk_new w _) _) _,blk_alloc ?_ _,?_,World.ownsRow_nil _ _ _ _,below_alloc (below_alloc (below_alloc (Below.refl _ w) _) _) _⟩
  ·have:=blk_new (w.alloc (.cells #[.int .i64 k0,.int .i64 k1,.int .i64 k2,.int .i64 k3,.int .i64 k4,.int .i64 k5,.int .i64 k6,.int .i64 rows,.int .i64 cols,.slice Av vs.length cv,.slice At tn ct] 32)) (.cells #[.int .i64 0,.int .i64 0,.int .i64 0,.int .i64 0,.int .i64 0,.int .i64 0,.int .i64 0,.int .i64 0,.int .i64 0,.slice none 0 0,.slice none 0 0] 27);rwa [World.size_alloc] at this
  ·have:=blk_new ((w.alloc (.cells #[.int .i64 k0,.int .i64 k1,.int .i64 k2,.int .i64 k3,.int .i64 k4,.int .i64 k5,.int .i64 k6,.int .i64 rows,.int .i64 cols,.slice Av vs.length cv,.slice At tn ct] 32)).alloc (.cells #[.int .i64 0,.int .i64 0,.int .i64 0,.int .i64 0,.int .i64 0,.int .i64 0,.int .i64 0,.int .i64 0,.int .i64 0,.slice none 0 0,.slice none 0 0] 27)) (.cells #[.int .i64 k0,.int .i64 k1,.int .i64 k2,.int .i64 k3,.int .i64 k4,.int .i64 k5,.int .i64 k6,.int .i64 rows,.int .i64 cols,.slice none 0 0,.slice At tn ct] 27);rwa [World.size_alloc,World.size_alloc] at this)
 rw [hW0]
 clear hW0
 go_loopw [4] (fun v4 w'=>∃ (j : Nat) (v : Value),j ≤ vs.length ∧ v4 = .int .i64 j ∧ Aside0 (St w w' k0 k1 k2 k3 k4 k5 k6 rows cols Av At vs.length cv tn ct v ((vs.take j).map Flt.ubits))) (fun u _=>vs.length - (intOf u).toNat)
 case atStart=>exact ⟨0,_,by omega,rfl,S0⟩
 case round =>
  obtain ⟨j,v,hj,rfl,SJ⟩:=hrel
  clear S0
  have q9:=SJ.out.d.c9
  by_cases hlt : j < vs.length
  ·have d0 : decide ((j : Int) < (vs.length : Int)) = true:=decide_eq_true (by omega)
   obtain ⟨ad,e0,hx1⟩:=Flt.at_kf (Kd.C_below HRV.out SJ.out.b) (j : Int) (by omega) (by omega)
   cases e0
   clear hx1
   go_wp2_with (fail)
   clear q9
   have htk : vs.take (j + 1) = vs.take j ++ [rdOf 0 vs (j : Int)]:=by
    rw [List.take_succ_eq_append_getElem hlt];congr 1;simp [rdOf,hlt]
   have HTK:=Aside0.mk htk
   clear htk
   refine start_ (n:=12) (S:=fun w'=>Dat w' w.heap.size k0 k1 k2 k3 k4 k5 k6 rows cols (some ad) At vs.length cv tn ct ∧ Pl w' (w.heap.size + 2) k0 k1 k2 k3 k4 k5 k6 rows cols v At tn ct ∧ Below w.heap.size w w') (ds:=[11]) #[false,false,false,false,false,false,false,false,false,false,false,false] (by kernel_rfl) rfl rfl ⟨SJ.out.d,SJ.out.p,below_drew1 SJ.out.b⟩ (fun hHeld=>?_)
   refine take_ (i:=0) (N:=some 21) (v:=?_) (a':=?_) #[true,false,false,false,false,false,false,false,false,false,false,false] rfl rfl (by kernel_rfl) (fun _ _ _ h=>h) (Or.inl ⟨by rfl,?_⟩) hHeld ?_ ?_
   rotate_left
   ·intro w' s
    have q9:=s.1.c9;have p9:=s.2.1.c9;obtain ⟨ad',e0',hx1⟩:=Flt.at_kf (Kd.C_below HRV.out s.2.2) (j : Int) (by omega) (by omega);cases e0';simp only [Int.toNat_natCast] at hx1
    clear s
    go_simp
    with_reducible rfl
   rotate_left
   ·simp only [Act.put,List.setIfInBounds_toArray,List.set_cons_zero,List.set_cons_succ,i64_w,i32_w]
    rfl
   refine take_ (i:=1) (N:=some 22) (v:=?_) (a':=?_) #[true,true,false,false,false,false,false,false,false,false,false,false] rfl rfl (by kernel_rfl) (fun _ _ _ h=>h) (Or.inl ⟨by rfl,?_⟩) hHeld ?_ ?_
   rotate_left
   ·intro w' s
    have q9:=s.1.c9;have p9:=s.2.1.c9;obtain ⟨ad',e0',hx1⟩:=Flt.at_kf (Kd.C_below HRV.out s.2.2) (j : Int) (by omega) (by omega);cases e0';simp only [Int.toNat_natCast] at hx1
    clear s
    go_simp
    with_reducible rfl
   rotate_left
   ·simp only [Act.put,List.setIfInBounds_toArray,List.set_cons_zero,List.set_cons_succ,i64_w,i32_w]
    rfl
   refine take_ (i:=2) (N:=some 23) (v:=?_) (a':=?_) #[true,true,true,false,false,false,false,false,false,false,false,false] rfl rfl (by kernel_rfl) (fun _ _ _ h=>h) (Or.inl ⟨by rfl,?_⟩) hHeld ?_ ?_
   rotate_left
   ·intro w' s
    have q9:=s.1.c9;have p9:=s.2.1.c9;obtain ⟨ad',e0',hx1⟩:=Flt.at_kf (Kd.C_below HRV.out s.2.2) (j : Int) (by omega) (by omega);cases e0';simp only [Int.toNat_natCast] at hx1
    clear s
    go_simp
    with_reducible rfl
   rotate_left
   ·simp only [Act.put,List.setIfInBounds_toArray,List.set_cons_zero,List.set_cons_succ,i64_w,i32_w]
    rfl
   refine take_ (i:=3) (N:=some 24) (v:=?_) (a':=?_) #[true,true,true,true,false,false,false,false,false,false,false,false] rfl rfl (by kernel_rfl) (fun _ _ _ h=>h) (Or.inl ⟨by rfl,?_⟩) hHeld ?_ ?_
   rotate_left
   ·intro w' s
    have q9:=s.1.c9;have p9:=s.2.1.c9;obtain ⟨ad',e0',hx1⟩:=Flt.at_kf (Kd.C_below HRV.out s.2.2) (j : Int) (by omega) (by omega);cases e0';simp only [Int.toNat_natCast] at hx1
    clear s
    go_simp
    with_reducible rfl
   rotate_left
   ·simp only [Act.put,List.setIfInBounds_toArray,List.set_cons_zero,List.set_cons_succ,i64_w,i32_w]
    rfl
   refine take_ (i:=4) (N:=some 25) (v:=?_) (a':=?_) #[true,true,true,true,true,false,false,false,false,false,false,false] rfl rfl (by kernel_rfl) (fun _ _ _ h=>h) (Or.inl ⟨by rfl,?_⟩) hHeld ?_ ?_
   rotate_left
   ·intro w' s
    have q9:=s.1.c9;have p9:=s.2.1.c9;obtain ⟨ad',e0',hx1⟩:=Flt.at_kf (Kd.C_below HRV.out s.2.2) (j : Int) (by omega) (by omega);cases e0';simp only [Int.toNat_natCast] at hx1
    clear s
    go_simp
    with_reducible rfl
   rotate_left
   ·simp only [Act.put,List.setIfInBounds_toArray,List.set_cons_zero,List.set_cons_succ,i64_w,i32_w]
    rfl
   refine take_ (i:=5) (N:=some 26) (v:=?_) (a':=?_) #[true,true,true,true,true,true,false,false,false,false,false,false] rfl rfl (by kernel_rfl) (fun _ _ _ h=>h) (Or.inl ⟨by rfl,?_⟩) hHeld ?_ ?_
   rotate_left
   ·intro w' s
    have q9:=s.1.c9;have p9:=s.2.1.c9;obtain ⟨ad',e0',hx1⟩:=Flt.at_kf (Kd.C_below HRV.out s.2.2) (j : Int) (by omega) (by omega);cases e0';simp only [Int.toNat_natCast] at hx1
    clear s
    go_simp
    with_reducible rfl
   rotate_left
   ·simp only [Act.put,List.setIfInBounds_toArray,List.set_cons_zero,List.set_cons_succ,i64_w,i32_w]
    rfl
   refine take_ (i:=6) (N:=some 27) (v:=?_) (a':=?_) #[true,true,true,true,true,true,true,false,false,false,false,false] rfl rfl (by kernel_rfl) (fun _ _ _ h=>h) (Or.inl ⟨by rfl,?_⟩) hHeld ?_ ?_
   rotate_left
   ·intro w' s
    have q9:=s.1.c9;have p9:=s.2.1.c9;obtain ⟨ad',e0',hx1⟩:=Flt.at_kf (Kd.C_below HRV.out s.2.2) (j : Int) (by omega) (by omega);cases e0';simp only [Int.toNat_natCast] at hx1
    clear s
    go_simp
    with_reducible rfl
   rotate_left
   ·simp only [Act.put,List.setIfInBounds_toArray,List.set_cons_zero,List.set_cons_succ,i64_w,i32_w]
    rfl
   refine take_ (i:=7) (N:=some 28) (v:=?_) (a':=?_) #[true,true,true,true,true,true,true,true,false,false,false,false] rfl rfl (by kernel_rfl) (fun _ _ _ h=>h) (Or.inl ⟨by rfl,?_⟩) hHeld ?_ ?_
   rotate_left
   ·intro w' s
    have q9:=s.1.c9;have p9:=s.2.1.c9;obtain ⟨ad',e0',hx1⟩:=Flt.at_kf (Kd.C_below HRV.out s.2.2) (j : Int) (by omega) (by omega);cases e0';simp only [Int.toNat_natCast] at hx1
    clear s
    go_simp
    with_reducible rfl
   rotate_left
   ·simp only [Act.put,List.setIfInBounds_toArray,List.set_cons_zero,List.set_cons_succ,i64_w,i32_w]
    rfl
   have SD:=Aside0.mk (show St w wr.drew k0 k1 k2 k3 k4 k5 k6 rows cols (some ad) At vs.length cv tn ct v ((vs.take j).map Flt.ubits) from ⟨SJ.out.d,SJ.out.z,SJ.out.p,SJ.out.r,below_drew1 SJ.out.b⟩)
   clear SJ
   generalize wr.drew = w1 at SD hHeld ⊢
   have HS1:=Aside0.mk (show w.heap.size + 3 ≤ w1.heap.size from blk_lt SD.out.p)
   refine one_ (i:=8) (N:=some 29) #[true,true,true,true,true,true,true,true,true,false,false,false] rfl rfl (by kernel_rfl) (by decide) (fun K hK=>?_)
   refine value_ (w1:=w1.alloc (.cells #[.int .u64 (Flt.ubits (rdOf 0 vs (j : Int)))] 37)) (v:=.slice (some ⟨w1.heap.size,0,none⟩) 1 1) (by rfl) rfl (by go_simp) ?_
   have hA:=below_alloc (Below.refl w1.heap.size w1) (.cells #[.int .u64 (Flt.ubits (rdOf 0 vs (j : Int)))] 37)
   refine hK.out _ _ ⟨blk_below SD.out.d hA,blk_below SD.out.p hA,below_step SD.out.b hA⟩ (fun hHeld2=>?_)
   clear hK K hA
   refine norm_ (a':=?_) ?_ ?_
   rotate_left
   ·show Act.put _ (some 29) _ = _
    simp only [Act.put,List.setIfInBounds_toArray,List.set_cons_zero,List.set_cons_succ,i64_w,i32_w]
    rfl
   obtain ⟨i0,hi,hz0,hz1,hz2⟩:=info_parts info_u64
   refine one_ (i:=9) (N:=some 30) #[true,true,true,true,true,true,true,true,true,true,false,false] rfl rfl (by kernel_rfl) (by decide) (fun K hK=>?_)
   have hlen : ((vs.take j).map Flt.ubits).length = j:=by rw [List.length_map,List.length_take];omega
   refine step_append_lies _ rfl (.tmp 22) (.tmp 29) 24 (by rfl) (w.heap.size + 3) 37 i0 (.int .u64 0) 1 8 Try.underlying24 hi hz0 hz1 hz2 rfl (by decide) v _ _ (by rfl) (SD.out.r.alloc _) ⟨w1.heap.size,0,none⟩ 1 1 [.int .u64 (Flt.ubits (rdOf 0 vs (j : Int)))] (by rfl) rfl
    (World.news_of_block (World.alloc_heap_new w1 _)) (by simp [Value.oneCell']) (by decide) (by rw [hlen];unfold maxLen;omega) (by rw [hlen];omega) (by have:=HS1.out;simp;omega) (w1.heap.size + 1) (by simp) ?_
   intro g cap w2 hown hgrow hat hglt
   have hk : ∀ k,k < w.heap.size + 3 → w2.heap[k]? = w1.heap[k]?:=fun k hk=>(hgrow.block k (by have:=HS1.out;simp;omega) (row_ge SD.out.r k hk)).trans (Below.heap_alloc _ _ _ (by have:=HS1.out;omega))
   have hb2 : Below w.heap.size w w2:=(below_alloc SD.out.b _).grown hgrow (by have:=HS1.out;simp;omega) (fun k e=>by have:=(SD.out.r.lt k e).1;omega)
   have S2:=Aside0.mk (show Dat w2 w.heap.size k0 k1 k2 k3 k4 k5 k6 rows cols (some ad) At vs.length cv tn ct ∧ w2.heap[w.heap.size + 1]? = some (.cells #[.int .i64 0,.int .i64 0,.int .i64 0,.int .i64 0,.int .i64 0,.int .i64 0,.int .i64 0,.int .i64 0,.int .i64 0,.slice none 0 0,.slice none 0 0] 27 (0,0)) ∧ Pl w2 (w.heap.size + 2) k0 k1 k2 k3 k4 k5 k6 rows cols v At tn ct ∧ Below w.heap.size w w2 from ⟨(hk _ (by omega)).trans SD.out.d,(hk _ (by omega)).trans SD.out.z,(hk _ (by omega)).trans SD.out.p,hb2⟩)
   have HOW:=Aside0.mk hown
   clear hown hgrow hat hglt hk hb2 hHeld2
   refine hK.out _ _ ⟨S2.out.1,S2.out.2.2.1,S2.out.2.2.2⟩ (fun hHeld=>?_)
   clear hK K
   refine norm_ (a':=?_) ?_ ?_
   rotate_left
   ·show Act.put _ (some 30) _ = _
    simp only [Act.put,List.setIfInBounds_toArray,List.set_cons_zero,List.set_cons_succ,i64_w,i32_w]
    rfl
   refine take_ (i:=10) (N:=some 31) (v:=?_) (a':=?_) #[true,true,true,true,true,true,true,true,true,true,true,false] rfl rfl (by kernel_rfl) (fun _ _ _ h=>h) (Or.inl ⟨by rfl,?_⟩) hHeld ?_ ?_
   rotate_left
   ·intro w' s
    have q9:=s.1.c9
    clear s
    go_simp
    with_reducible rfl
   rotate_left
   ·simp only [Act.put,List.setIfInBounds_toArray,List.set_cons_zero,List.set_cons_succ,i64_w,i32_w]
    rfl
   refine last_ (i:=11) (N:=none) #[true,true,true,true,true,true,true,true,true,true,true,true] rfl rfl (by kernel_rfl) (by decide) (fun K hK=>?_)
   have c2:=S2.out.2.2.1.c9
   have f2:=blk_frozen S2.out.2.2.1 9
   refine skip_ (w1:=w2.setCell ⟨w.heap.size + 2,9,none⟩ (.slice (some ⟨g,0,none⟩) (((vs.take j).map Flt.ubits).length + 1) cap)) (by rfl) rfl (by go_simp) ?_
   refine hK.out _ _ ?_
   clear hK K c2 f2
   refine done_ (by kernel_rfl) ?_
   have S3:=Aside0.mk (show St w (w2.setCell ⟨w.heap.size + 2,9,none⟩ (.slice (some ⟨g,0,none⟩) (((vs.take j).map Flt.ubits).length + 1) cap)) k0 k1 k2 k3 k4 k5 k6 rows cols (some ad) At vs.length cv tn ct (.slice (some ⟨g,0,none⟩) (((vs.take j).map Flt.ubits).length + 1) cap) ((vs.take (j + 1)).map Flt.ubits) from
    ⟨blk_far S2.out.1 (show w.heap.size ≠ w.heap.size + 2 by omega) _,blk_far S2.out.2.1 (show w.heap.size + 1 ≠ w.heap.size + 2 by omega) _,S2.out.2.2.1.put _,by
     rw [HTK.out,List.map_append,List.length_append,List.map_append]
     exact ownsRow_setCell_below HOW.out (a:=⟨w.heap.size + 2,9,none⟩) (show w.heap.size + 2 < w.heap.size + 3 by omega) _,below_set S2.out.2.2.2 (show w.heap.size ≤ w.heap.size + 2 by omega)⟩)
   clear HOW S2 SD hHeld
   rw [hlen] at S3 ⊢
   go_wp2_with (fail)
   exact ⟨⟨j + 1,_,by omega,by go_num,S3⟩,by simp [intOf];omega⟩
  ·obtain rfl : j = vs.length:=by omega
   have d0 : decide ((vs.length : Int) < (vs.length : Int)) = false:=by simp
   obtain ⟨A,c,hA,hc,hC⟩:=Kd.R_reads (Kd.R_of_own (ok:=fun k=>w.heap.size + 3 ≤ k) (enc:=Value.int .u64) (h1:=fun _=>rfl) SJ.out.r (fun k hk=>(SJ.out.r.lt k hk).1))
   have hRR:=Kd.R_of_own (ok:=fun k=>w.heap.size + 3 ≤ k) (enc:=Value.int .u64) (h1:=fun _=>rfl) SJ.out.r (fun k hk=>(SJ.out.r.lt k hk).1)
   subst hA
   rw [List.take_length] at hRR
   have HRR:=Aside0.mk hRR
   clear hRR
   rw [List.take_length] at SJ hc hC
   have hlm : (vs.map Flt.ubits).length = vs.length:=List.length_map _
   rw [hlm] at SJ hc hC
   have p0:=SJ.out.p.c0
   have p1:=SJ.out.p.c1
   have p2:=SJ.out.p.c2
   have p3:=SJ.out.p.c3
   have p4:=SJ.out.p.c4
   have p5:=SJ.out.p.c5
   have p6:=SJ.out.p.c6
   have p7:=SJ.out.p.c7
   have p8:=SJ.out.p.c8
   have p9:=SJ.out.p.c9
   have p10:=SJ.out.p.c10
   have z9:=SJ.out.z
   have HC:=Aside0.mk hC
   clear hC
   go_wp2_with ((with_reducible refine gate_store (t:=27) (p:=2) rfl ?_);refine FStore.store_all (w.heap.size + 1) 27 27 2 _ #[.int .i64 0,.int .i64 0,.int .i64 0,.int .i64 0,.int .i64 0,.int .i64 0,.int .i64 0,.int .i64 0,.int .i64 0,.slice none 0 0,.slice none 0 0] #[.int .i64 k0,.int .i64 k1,.int .i64 k2,.int .i64 k3,.int .i64 k4,.int .i64 k5,.int .i64 k6,.int .i64 rows,.int .i64 cols,.slice A vs.length c,.slice At tn ct] rfl rfl rfl rfl rfl z9 (by kernel_rfl) rfl (by simp [Value.oneCell']) ?_;intro w9 hb9 hB9 hk9)
   refine bodyPost_ret (results_cell_row rfl _ _ (w.heap.size + 1) 27 #[.int .i64 k0,.int .i64 k1,.int .i64 k2,.int .i64 k3,.int .i64 k4,.int .i64 k5,.int .i64 k6,.int .i64 rows,.int .i64 cols,.slice A vs.length c,.slice At tn ct] (0,0) _ rfl hb9 Try.underlying27 rfl (by kernel_rfl)) rfl ?_
   refine ⟨.slice A vs.length c,rfl,?_,hB9 _ _ (by omega) SJ.out.b⟩
   have h2:=Kd.R_mono (ok':=fun _=>True) (Kd.R_step HRR.out (fun k hk _=>hk9 k (by omega))) (fun _ _=>trivial)
   rw [hlm] at h2
   exact Kd.R_lower h2 (by omega)
end Go.Proofs.Ytnagfbadjbkhmaa.FDataOf

namespace Go.Proofs.Ytnagfbadjbkhmaa.FSame
open Go.RowKit Go.Shelf Go.Proofs.YtnagfbadjbkhmaaW.PrintWords Go.Proofs.YtnagfbadjbkhmaaW.PrintLast Go.Proofs.YtnagfbadjbkhmaaW.PrintMore Go.Proofs.Ytnagfbadjbkhmaa.PA
set_option linter.unusedVariables false
set_option linter.unusedSimpArgs false
theorem eqC (d : Nat) (w : World) (x0 y0 : Int) (x1 y1 : Int) (x2 y2 : Int) (x3 y3 : Int) (x4 y4 : Int) (x5 y5 : Int) (x6 y6 : Int) :
  (Op.equalIn (d + 2) 23 (.agg #[.int .i64 x0,.int .i64 x1,.int .i64 x2,.int .i64 x3,.int .i64 x4,.int .i64 x5,.int .i64 x6]) (.agg #[.int .i64 y0,.int .i64 y1,.int .i64 y2,.int .i64 y3,.int .i64 y4,.int .i64 y5,.int .i64 y6])).run Try.prog w = .ok (x0 == y0 && (x1 == y1 && (x2 == y2 && (x3 == y3 && (x4 == y4 && (x5 == y5 && (x6 == y6))))))) w:=by
 refine eqA_of Try.underlying23 (by kernel_rfl) ?_
 refine eqf_cons (by rfl) (by go_simp;rfl) (by go_simp;rfl) (by go_simp) ?_
 refine eqf_cons (by rfl) (by go_simp;rfl) (by go_simp;rfl) (by go_simp) ?_
 refine eqf_cons (by rfl) (by go_simp;rfl) (by go_simp;rfl) (by go_simp) ?_
 refine eqf_cons (by rfl) (by go_simp;rfl) (by go_simp;rfl) (by go_simp) ?_
 refine eqf_cons (by rfl) (by go_simp;rfl) (by go_simp;rfl) (by go_simp) ?_
 refine eqf_cons (by rfl) (by go_simp;rfl) (by go_simp;rfl) (by go_simp) ?_
 exact eqf_last (by rfl) (by go_simp;rfl) (by go_simp;rfl) (by go_simp)
attribute [local go_sem high] eqC
def P2 (W : World) (g : Nat) (k0 k1 k2 k3 k4 k5 k6 r c : Int) (v9 v10 : Value) : Prop:=W.heap[g]? = some (.cells #[.int .i64 k0,.int .i64 k1,.int .i64 k2,.int .i64 k3,.int .i64 k4,.int .i64 k5,.int .i64 k6,.int .i64 r,.int .i64 c,v9,v10] 27 (0,0))
namespace P2
variable {W : World} {g : Nat} {k0 k1 k2 k3 k4 k5 k6 r c : Int} {v9 v10 : Value}
theorem e0 (H : P2 W g k0 k1 k2 k3 k4 k5 k6 r c v9 v10) : W.cell? ⟨g,0,none⟩ = some (.int .i64 k0):=(blk_cell H 0).trans rfl
theorem e1 (H : P2 W g k0 k1 k2 k3 k4 k5 k6 r c v9 v10) : W.cell? ⟨g,1,none⟩ = some (.int .i64 k1):=(blk_cell H 1).trans rfl
theorem e2 (H : P2 W g k0 k1 k2 k3 k4 k5 k6 r c v9 v10) : W.cell? ⟨g,2,none⟩ = some (.int .i64 k2):=(blk_cell H 2).trans rfl
theorem e3 (H : P2 W g k0 k1 k2 k3 k4 k5 k6 r c v9 v10) : W.cell? ⟨g,3,none⟩ = some (.int .i64 k3):=(blk_cell H 3).trans rfl
theorem e4 (H : P2 W g k0 k1 k2 k3 k4 k5 k6 r c v9 v10) : W.cell? ⟨g,4,none⟩ = some (.int .i64 k4):=(blk_cell H 4).trans rfl
theorem e5 (H : P2 W g k0 k1 k2 k3 k4 k5 k6 r c v9 v10) : W.cell? ⟨g,5,none⟩ = some (.int .i64 k5):=(blk_cell H 5).trans rfl
theorem e6 (H : P2 W g k0 k1 k2 k3 k4 k5 k6 r c v9 v10) : W.cell? ⟨g,6,none⟩ = some (.int .i64 k6):=(blk_cell H 6).trans rfl
theorem e7 (H : P2 W g k0 k1 k2 k3 k4 k5 k6 r c v9 v10) : W.cell? ⟨g,7,none⟩ = some (.int .i64 r):=(blk_cell H 7).trans rfl
theorem e8 (H : P2 W g k0 k1 k2 k3 k4 k5 k6 r c v9 v10) : W.cell? ⟨g,8,none⟩ = some (.int .i64 c):=(blk_cell H 8).trans rfl
theorem e9 (H : P2 W g k0 k1 k2 k3 k4 k5 k6 r c v9 v10) : W.cell? ⟨g,9,none⟩ = some (v9):=(blk_cell H 9).trans rfl
theorem e10 (H : P2 W g k0 k1 k2 k3 k4 k5 k6 r c v9 v10) : W.cell? ⟨g,10,none⟩ = some (v10):=(blk_cell H 10).trans rfl
end P2
structure SS (w W : World) (k0 k1 k2 k3 k4 k5 k6 r c : Int) (a9 a10 b9 b10 : Value) : Prop where
 p : P2 W w.heap.size k0 k1 k2 k3 k4 k5 k6 r c a9 a10
 q : P2 W (w.heap.size + 1) k0 k1 k2 k3 k4 k5 k6 r c b9 b10
 b : Below w.heap.size w W
theorem SS.step {w W W' : World} {k0 k1 k2 k3 k4 k5 k6 r c : Int} {a9 a10 b9 b10 : Value} (h : SS w W k0 k1 k2 k3 k4 k5 k6 r c a9 a10 b9 b10) (hb : Below W.heap.size W W') : SS w W' k0 k1 k2 k3 k4 k5 k6 r c a9 a10 b9 b10:=⟨blk_below h.p hb,blk_below h.q hb,below_step h.b hb⟩
set_option maxHeartbeats 2000000 in
set_option maxRecDepth 100000 in
theorem same_calls (k0 k1 k2 k3 k4 k5 k6 r c : Int) (A9 A10 B9 B10 : Option Addr) (c9 c10 d9 d10 : Nat) (v t : List Int) (w : World) (hA9 : Kd.C (Kd.int .u64) w A9 v.length v) (hA10 : Kd.C (Kd.int .i64) w A10 t.length t) (hB9 : Kd.C (Kd.int .u64) w B9 v.length v) (hB10 : Kd.C (Kd.int .i64) w B10 t.length t) (hl : v.length ≤ 100000) (ht : t.length ≤ 100000) :
  Calls Try.prog 19 #[.agg #[.int .i64 k0,.int .i64 k1,.int .i64 k2,.int .i64 k3,.int .i64 k4,.int .i64 k5,.int .i64 k6,.int .i64 r,.int .i64 c,.slice A9 v.length c9,.slice A10 t.length c10],.agg #[.int .i64 k0,.int .i64 k1,.int .i64 k2,.int .i64 k3,.int .i64 k4,.int .i64 k5,.int .i64 k6,.int .i64 r,.int .i64 c,.slice B9 v.length d9,.slice B10 t.length d10]] w fun e w'=>e = .returned (.bool true) ∧ Below w.heap.size w w':=by
 have hu:=Try.underlying27
 have hu2:=Try.underlying23
 have HA9:=Aside0.mk hA9
 have HA10:=Aside0.mk hA10
 have HB9:=Aside0.mk hB9
 have HB10:=Aside0.mk hB10
 obtain ⟨W0,hW0⟩ : ∃ W0,(w.alloc (.cells #[.int .i64 k0,.int .i64 k1,.int .i64 k2,.int .i64 k3,.int .i64 k4,.int .i64 k5,.int .i64 k6,.int .i64 r,.int .i64 c,.slice A9 v.length c9,.slice A10 t.length c10] 27)).alloc (.cells #[.int .i64 k0,.int .i64 k1,.int .i64 k2,.int .i64 k3,.int .i64 k4,.int .i64 k5,.int .i64 k6,.int .i64 r,.int .i64 c,.slice B9 v.length d9,.slice B10 t.length d10] 27) = W0:=⟨_,rfl⟩
 have S0:=Aside0.mk (show SS w W0 k0 k1 k2 k3 k4 k5 k6 r c (.slice A9 v.length c9) (.slice A10 t.length c10) (.slice B9 v.length d9) (.slice B10 t.length d10) from by
  rw [← hW0]
  refine ⟨blk_alloc (blk_new w _) _,?_,below_alloc (below_alloc (Below.refl _ w) _) _⟩
  have:=blk_new (w.alloc (.cells #[.int .i64 k0,.int .i64 k1,.int .i64 k2,.int .i64 k3,.int .i64 k4,.int .i64 k5,.int .i64 k6,.int .i64 r,.int .i64 c,.slice A9 v.length c9,.slice A10 t.length c10] 27)) (.cells #[.int .i64 k0,.int .i64 k1,.int .i64 k2,.int .i64 k3,.int .i64 k4,.int .i64 k5,.int .i64 k6,.int .i64 r,.int .i64 c,.slice B9 v.length d9,.slice B10 t.length d10] 27);rwa [World.size_alloc] at this)
 have HW0:=Aside0.mk hW0
 clear hA9 hA10 hB9 hB10 hW0
 go_enter Try.func19,Try.ntmps19
 go_wp2_with (fail)
 rw [HW0.out]
 clear HW0
 go_loopw [5] (fun v5 w'=>∃ j : Nat,j ≤ v.length ∧ v5 = .int .i64 j ∧ Aside0 (SS w w' k0 k1 k2 k3 k4 k5 k6 r c (.slice A9 v.length c9) (.slice A10 t.length c10) (.slice B9 v.length d9) (.slice B10 t.length d10))) (fun u _=>v.length - (intOf u).toNat)
 case atStart=>exact ⟨0,by omega,rfl,S0⟩
 case round =>
  obtain ⟨j,hj,rfl,SJ⟩:=hrel
  clear S0
  have p9:=SJ.out.p.e9
  by_cases hlt : j < v.length
  ·have d0 : decide ((j : Int) < (v.length : Int)) = true:=decide_eq_true (by omega)
   obtain ⟨ad,ea,hx⟩:=Kd.at_int (Kd.C_below HA9.out SJ.out.b) (j : Int) (by omega) (by omega)
   obtain ⟨bd,eb,hy⟩:=Kd.at_int (Kd.C_below HB9.out SJ.out.b) (j : Int) (by omega) (by omega)
   cases ea
   cases eb
   clear hx hy
   go_upto_region 6 with (fail)
   clear p9
   refine start_ (n:=11) (S:=fun W=>P2 W w.heap.size k0 k1 k2 k3 k4 k5 k6 r c (.slice (some ad) v.length c9) (.slice A10 t.length c10) ∧ P2 W (w.heap.size + 1) k0 k1 k2 k3 k4 k5 k6 r c (.slice (some bd) v.length d9) (.slice B10 t.length d10) ∧ Below w.heap.size w W) (ds:=[]) #[false,false,false,false,false,false,false,false,false,false,false] (by kernel_rfl) rfl rfl ⟨SJ.out.p,SJ.out.q,below_drew1 SJ.out.b⟩ (fun hHeld=>?_)
   refine pure_ (i:=0) (N:=some 51) (v:=?_) (a':=?_) #[true,false,false,false,false,false,false,false,false,false,false] rfl rfl (by kernel_rfl) (fun _ _ _ h=>h) (Or.inl ⟨by rfl,?_⟩) ?_ ?_
   rotate_left
   ·intro w'
    go_simp
    with_reducible rfl
   rotate_left
   ·simp only [Act.put,List.setIfInBounds_toArray,List.set_cons_zero,List.set_cons_succ,i64_w,i32_w]
    rfl
   refine pure_ (i:=2) (N:=some 53) (v:=?_) (a':=?_) #[true,false,true,false,false,false,false,false,false,false,false] rfl rfl (by kernel_rfl) (fun _ _ _ h=>h) (Or.inl ⟨by rfl,?_⟩) ?_ ?_
   rotate_left
   ·intro w'
    go_simp
    with_reducible rfl
   rotate_left
   ·simp only [Act.put,List.setIfInBounds_toArray,List.set_cons_zero,List.set_cons_succ,i64_w,i32_w]
    rfl
   refine pure_ (i:=5) (N:=some 56) (v:=?_) (a':=?_) #[true,false,true,false,false,true,false,false,false,false,false] rfl rfl (by kernel_rfl) (fun _ _ _ h=>h) (Or.inl ⟨by rfl,?_⟩) ?_ ?_
   rotate_left
   ·intro w'
    go_simp
    with_reducible rfl
   rotate_left
   ·simp only [Act.put,List.setIfInBounds_toArray,List.set_cons_zero,List.set_cons_succ,i64_w,i32_w]
    rfl
   refine pure_ (i:=7) (N:=some 58) (v:=?_) (a':=?_) #[true,false,true,false,false,true,false,true,false,false,false] rfl rfl (by kernel_rfl) (fun _ _ _ h=>h) (Or.inl ⟨by rfl,?_⟩) ?_ ?_
   rotate_left
   ·intro w'
    go_simp
    with_reducible rfl
   rotate_left
   ·simp only [Act.put,List.setIfInBounds_toArray,List.set_cons_zero,List.set_cons_succ,i64_w,i32_w]
    rfl
   refine take_ (i:=1) (N:=some 52) (v:=?_) (a':=?_) #[true,true,true,false,false,true,false,true,false,false,false] rfl rfl (by kernel_rfl) (fun _ _ _ h=>h) (Or.inl ⟨by rfl,?_⟩) hHeld ?_ ?_
   rotate_left
   ·intro w' s
    have p9:=s.1.e9
    have q9:=s.2.1.e9
    obtain ⟨ad',e0',hx1⟩:=Kd.at_int (Kd.C_below HA9.out s.2.2) (j : Int) (by omega) (by omega)
    cases e0'
    obtain ⟨bd',e1',hy1⟩:=Kd.at_int (Kd.C_below HB9.out s.2.2) (j : Int) (by omega) (by omega)
    cases e1'
    simp only [Int.toNat_natCast] at hx1 hy1
    clear s
    go_simp
    with_reducible rfl
   rotate_left
   ·simp only [Act.put,List.setIfInBounds_toArray,List.set_cons_zero,List.set_cons_succ,i64_w,i32_w]
    rfl
   refine pure_ (i:=3) (N:=some 54) (v:=?_) (a':=?_) #[true,true,true,true,false,true,false,true,false,false,false] rfl rfl (by kernel_rfl) (fun _ _ _ h=>h) (Or.inl ⟨by rfl,?_⟩) ?_ ?_
   rotate_left
   ·intro w'
    go_simp
    with_reducible rfl
   rotate_left
   ·simp only [Act.put,List.setIfInBounds_toArray,List.set_cons_zero,List.set_cons_succ,i64_w,i32_w]
    rfl
   refine take_ (i:=4) (N:=some 55) (v:=?_) (a':=?_) #[true,true,true,true,true,true,false,true,false,false,false] rfl rfl (by kernel_rfl) (fun _ _ _ h=>h) (Or.inl ⟨by rfl,?_⟩) hHeld ?_ ?_
   rotate_left
   ·intro w' s
    have p9:=s.1.e9
    have q9:=s.2.1.e9
    obtain ⟨ad',e0',hx1⟩:=Kd.at_int (Kd.C_below HA9.out s.2.2) (j : Int) (by omega) (by omega)
    cases e0'
    obtain ⟨bd',e1',hy1⟩:=Kd.at_int (Kd.C_below HB9.out s.2.2) (j : Int) (by omega) (by omega)
    cases e1'
    simp only [Int.toNat_natCast] at hx1 hy1
    clear s
    go_simp
    with_reducible rfl
   rotate_left
   ·simp only [Act.put,List.setIfInBounds_toArray,List.set_cons_zero,List.set_cons_succ,i64_w,i32_w]
    rfl
   refine take_ (i:=6) (N:=some 57) (v:=?_) (a':=?_) #[true,true,true,true,true,true,true,true,false,false,false] rfl rfl (by kernel_rfl) (fun _ _ _ h=>h) (Or.inl ⟨by rfl,?_⟩) hHeld ?_ ?_
   rotate_left
   ·intro w' s
    have p9:=s.1.e9
    have q9:=s.2.1.e9
    obtain ⟨ad',e0',hx1⟩:=Kd.at_int (Kd.C_below HA9.out s.2.2) (j : Int) (by omega) (by omega)
    cases e0'
    obtain ⟨bd',e1',hy1⟩:=Kd.at_int (Kd.C_below HB9.out s.2.2) (j : Int) (by omega) (by omega)
    cases e1'
    simp only [Int.toNat_natCast] at hx1 hy1
    clear s
    go_simp
    with_reducible rfl
   rotate_left
   ·simp only [Act.put,List.setIfInBounds_toArray,List.set_cons_zero,List.set_cons_succ,i64_w,i32_w]
    rfl
   refine pure_ (i:=8) (N:=some 59) (v:=?_) (a':=?_) #[true,true,true,true,true,true,true,true,true,false,false] rfl rfl (by kernel_rfl) (fun _ _ _ h=>h) (Or.inl ⟨by rfl,?_⟩) ?_ ?_
   rotate_left
   ·intro w'
    go_simp
    with_reducible rfl
   rotate_left
   ·simp only [Act.put,List.setIfInBounds_toArray,List.set_cons_zero,List.set_cons_succ,i64_w,i32_w]
    rfl
   refine take_ (i:=9) (N:=some 60) (v:=?_) (a':=?_) #[true,true,true,true,true,true,true,true,true,true,false] rfl rfl (by kernel_rfl) (fun _ _ _ h=>h) (Or.inl ⟨by rfl,?_⟩) hHeld ?_ ?_
   rotate_left
   ·intro w' s
    have p9:=s.1.e9
    have q9:=s.2.1.e9
    obtain ⟨ad',e0',hx1⟩:=Kd.at_int (Kd.C_below HA9.out s.2.2) (j : Int) (by omega) (by omega)
    cases e0'
    obtain ⟨bd',e1',hy1⟩:=Kd.at_int (Kd.C_below HB9.out s.2.2) (j : Int) (by omega) (by omega)
    cases e1'
    simp only [Int.toNat_natCast] at hx1 hy1
    clear s
    go_simp
    with_reducible rfl
   rotate_left
   ·simp only [Act.put,List.setIfInBounds_toArray,List.set_cons_zero,List.set_cons_succ,i64_w,i32_w]
    rfl
   refine pure_ (i:=10) (N:=some 61) (v:=?_) (a':=?_) #[true,true,true,true,true,true,true,true,true,true,true] rfl rfl (by kernel_rfl) (fun _ _ _ h=>h) (Or.inl ⟨by rfl,?_⟩) ?_ ?_
   rotate_left
   ·intro w'
    go_simp
    with_reducible rfl
   rotate_left
   ·simp only [Act.put,List.setIfInBounds_toArray,List.set_cons_zero,List.set_cons_succ,i64_w,i32_w]
    rfl
   refine done_ (by kernel_rfl) ?_
   have SN:=Aside0.mk (SJ.out.step (below_drew (Below.refl _ _)))
   clear SJ hHeld
   go_wp2
   exact ⟨⟨j + 1,by omega,by go_num,SN⟩,by simp [intOf];omega⟩
  ·have d0 : decide ((j : Int) < (v.length : Int)) = false:=decide_eq_false (by omega)
   go_wp2_with (fail)
   clear p9 d0 hj
   have S0:=SJ
   clear SJ
   go_loopw [6] (fun v6 w'=>∃ j : Nat,j ≤ t.length ∧ v6 = .int .i64 j ∧ Aside0 (SS w w' k0 k1 k2 k3 k4 k5 k6 r c (.slice A9 v.length c9) (.slice A10 t.length c10) (.slice B9 v.length d9) (.slice B10 t.length d10))) (fun u _=>t.length - (intOf u).toNat)
   case atStart=>exact ⟨0,by omega,rfl,S0⟩
   case round =>
    obtain ⟨j,hj,rfl,SJ⟩:=hrel
    clear S0
    have p9:=SJ.out.p.e10
    by_cases hlt : j < t.length
    ·have d0 : decide ((j : Int) < (t.length : Int)) = true:=decide_eq_true (by omega)
     obtain ⟨ad,ea,hx⟩:=Kd.at_int (Kd.C_below HA10.out SJ.out.b) (j : Int) (by omega) (by omega)
     obtain ⟨bd,eb,hy⟩:=Kd.at_int (Kd.C_below HB10.out SJ.out.b) (j : Int) (by omega) (by omega)
     cases ea
     cases eb
     clear hx hy
     go_upto_region 11 with (fail)
     clear p9
     refine start_ (n:=11) (S:=fun W=>P2 W w.heap.size k0 k1 k2 k3 k4 k5 k6 r c (.slice A9 v.length c9) (.slice (some ad) t.length c10) ∧ P2 W (w.heap.size + 1) k0 k1 k2 k3 k4 k5 k6 r c (.slice B9 v.length d9) (.slice (some bd) t.length d10) ∧ Below w.heap.size w W) (ds:=[]) #[false,false,false,false,false,false,false,false,false,false,false] (by kernel_rfl) rfl rfl ⟨SJ.out.p,SJ.out.q,below_drew1 SJ.out.b⟩ (fun hHeld=>?_)
     refine pure_ (i:=0) (N:=some 69) (v:=?_) (a':=?_) #[true,false,false,false,false,false,false,false,false,false,false] rfl rfl (by kernel_rfl) (fun _ _ _ h=>h) (Or.inl ⟨by rfl,?_⟩) ?_ ?_
     rotate_left
     ·intro w'
      go_simp
      with_reducible rfl
     rotate_left
     ·simp only [Act.put,List.setIfInBounds_toArray,List.set_cons_zero,List.set_cons_succ,i64_w,i32_w]
      rfl
     refine pure_ (i:=2) (N:=some 71) (v:=?_) (a':=?_) #[true,false,true,false,false,false,false,false,false,false,false] rfl rfl (by kernel_rfl) (fun _ _ _ h=>h) (Or.inl ⟨by rfl,?_⟩) ?_ ?_
     rotate_left
     ·intro w'
      go_simp
      with_reducible rfl
     rotate_left
     ·simp only [Act.put,List.setIfInBounds_toArray,List.set_cons_zero,List.set_cons_succ,i64_w,i32_w]
      rfl
     refine pure_ (i:=5) (N:=some 74) (v:=?_) (a':=?_) #[true,false,true,false,false,true,false,false,false,false,false] rfl rfl (by kernel_rfl) (fun _ _ _ h=>h) (Or.inl ⟨by rfl,?_⟩) ?_ ?_
     rotate_left
     ·intro w'
      go_simp
      with_reducible rfl
     rotate_left
     ·simp only [Act.put,List.setIfInBounds_toArray,List.set_cons_zero,List.set_cons_succ,i64_w,i32_w]
      rfl
     refine pure_ (i:=7) (N:=some 76) (v:=?_) (a':=?_) #[true,false,true,false,false,true,false,true,false,false,false] rfl rfl (by kernel_rfl) (fun _ _ _ h=>h) (Or.inl ⟨by rfl,?_⟩) ?_ ?_
     rotate_left
     ·intro w'
      go_simp
      with_reducible rfl
     rotate_left
     ·simp only [Act.put,List.setIfInBounds_toArray,List.set_cons_zero,List.set_cons_succ,i64_w,i32_w]
      rfl
     refine take_ (i:=1) (N:=some 70) (v:=?_) (a':=?_) #[true,true,true,false,false,true,false,true,false,false,false] rfl rfl (by kernel_rfl) (fun _ _ _ h=>h) (Or.inl ⟨by rfl,?_⟩) hHeld ?_ ?_
     rotate_left
     ·intro w' s
      have p9:=s.1.e10
      have q9:=s.2.1.e10
      obtain ⟨ad',e0',hx1⟩:=Kd.at_int (Kd.C_below HA10.out s.2.2) (j : Int) (by omega) (by omega)
      cases e0'
      obtain ⟨bd',e1',hy1⟩:=Kd.at_int (Kd.C_below HB10.out s.2.2) (j : Int) (by omega) (by omega)
      cases e1'
      simp only [Int.toNat_natCast] at hx1 hy1
      clear s
      go_simp
      with_reducible rfl
     rotate_left
     ·simp only [Act.put,List.setIfInBounds_toArray,List.set_cons_zero,List.set_cons_succ,i64_w,i32_w]
      rfl
     refine pure_ (i:=3) (N:=some 72) (v:=?_) (a':=?_) #[true,true,true,true,false,true,false,true,false,false,false] rfl rfl (by kernel_rfl) (fun _ _ _ h=>h) (Or.inl ⟨by rfl,?_⟩) ?_ ?_
     rotate_left
     ·intro w'
      go_simp
      with_reducible rfl
     rotate_left
     ·simp only [Act.put,List.setIfInBounds_toArray,List.set_cons_zero,List.set_cons_succ,i64_w,i32_w]
      rfl
     refine take_ (i:=4) (N:=some 73) (v:=?_) (a':=?_) #[true,true,true,true,true,true,false,true,false,false,false] rfl rfl (by kernel_rfl) (fun _ _ _ h=>h) (Or.inl ⟨by rfl,?_⟩) hHeld ?_ ?_
     rotate_left
     ·intro w' s
      have p9:=s.1.e10
      have q9:=s.2.1.e10
      obtain ⟨ad',e0',hx1⟩:=Kd.at_int (Kd.C_below HA10.out s.2.2) (j : Int) (by omega) (by omega)
      cases e0'
      obtain ⟨bd',e1',hy1⟩:=Kd.at_int (Kd.C_below HB10.out s.2.2) (j : Int) (by omega) (by omega)
      cases e1'
      simp only [Int.toNat_natCast] at hx1 hy1
      clear s
      go_simp
      with_reducible rfl
     rotate_left
     ·simp only [Act.put,List.setIfInBounds_toArray,List.set_cons_zero,List.set_cons_succ,i64_w,i32_w]
      rfl
     refine take_ (i:=6) (N:=some 75) (v:=?_) (a':=?_) #[true,true,true,true,true,true,true,true,false,false,false] rfl rfl (by kernel_rfl) (fun _ _ _ h=>h) (Or.inl ⟨by rfl,?_⟩) hHeld ?_ ?_
     rotate_left
     ·intro w' s
      have p9:=s.1.e10
      have q9:=s.2.1.e10
      obtain ⟨ad',e0',hx1⟩:=Kd.at_int (Kd.C_below HA10.out s.2.2) (j : Int) (by omega) (by omega)
      cases e0'
      obtain ⟨bd',e1',hy1⟩:=Kd.at_int (Kd.C_below HB10.out s.2.2) (j : Int) (by omega) (by omega)
      cases e1'
      simp only [Int.toNat_natCast] at hx1 hy1
      clear s
      go_simp
      with_reducible rfl
     rotate_left
     ·simp only [Act.put,List.setIfInBounds_toArray,List.set_cons_zero,List.set_cons_succ,i64_w,i32_w]
      rfl
     refine pure_ (i:=8) (N:=some 77) (v:=?_) (a':=?_) #[true,true,true,true,true,true,true,true,true,false,false] rfl rfl (by kernel_rfl) (fun _ _ _ h=>h) (Or.inl ⟨by rfl,?_⟩) ?_ ?_
     rotate_left
     ·intro w'
      go_simp
      with_reducible rfl
     rotate_left
     ·simp only [Act.put,List.setIfInBounds_toArray,List.set_cons_zero,List.set_cons_succ,i64_w,i32_w]
      rfl
     refine take_ (i:=9) (N:=some 78) (v:=?_) (a':=?_) #[true,true,true,true,true,true,true,true,true,true,false] rfl rfl (by kernel_rfl) (fun _ _ _ h=>h) (Or.inl ⟨by rfl,?_⟩) hHeld ?_ ?_
     rotate_left
     ·intro w' s
      have p9:=s.1.e10
      have q9:=s.2.1.e10
      obtain ⟨ad',e0',hx1⟩:=Kd.at_int (Kd.C_below HA10.out s.2.2) (j : Int) (by omega) (by omega)
      cases e0'
      obtain ⟨bd',e1',hy1⟩:=Kd.at_int (Kd.C_below HB10.out s.2.2) (j : Int) (by omega) (by omega)
      cases e1'
      simp only [Int.toNat_natCast] at hx1 hy1
      clear s
      go_simp
      with_reducible rfl
     rotate_left
     ·simp only [Act.put,List.setIfInBounds_toArray,List.set_cons_zero,List.set_cons_succ,i64_w,i32_w]
      rfl
     refine pure_ (i:=10) (N:=some 79) (v:=?_) (a':=?_) #[true,true,true,true,true,true,true,true,true,true,true] rfl rfl (by kernel_rfl) (fun _ _ _ h=>h) (Or.inl ⟨by rfl,?_⟩) ?_ ?_
     rotate_left
     ·intro w'
      go_simp
      with_reducible rfl
     rotate_left
     ·simp only [Act.put,List.setIfInBounds_toArray,List.set_cons_zero,List.set_cons_succ,i64_w,i32_w]
      rfl
     refine done_ (by kernel_rfl) ?_
     have SN:=Aside0.mk (SJ.out.step (below_drew (Below.refl _ _)))
     clear SJ hHeld
     go_wp2
     exact ⟨⟨j + 1,by omega,by go_num,SN⟩,by simp [intOf];omega⟩
    ·have d0 : decide ((j : Int) < (t.length : Int)) = false:=decide_eq_false (by omega)
     go_wp2
     go_ret
     exact ⟨rfl,SJ.out.b⟩
end Go.Proofs.Ytnagfbadjbkhmaa.FSame

namespace Go.Proofs.Ytnagfbadjbkhmaa.FRefPut
open Go.RowKit Go.Shelf Go.Proofs.YtnagfbadjbkhmaaW.PrintWords Go.Proofs.YtnagfbadjbkhmaaW.PrintLast Go.Proofs.YtnagfbadjbkhmaaW.PrintMore Go.Proofs.Ytnagfbadjbkhmaa.Pure Go.Proofs.Ytnagfbadjbkhmaa.PA Go.Proofs.Ytnagfbadjbkhmaa.FTarget Go.Proofs.Ytnagfbadjbkhmaa.PureTake Go.Proofs.Ytnagfbadjbkhmaa.FConfD Go.Proofs.Ytnagfbadjbkhmaa.PureConfRef Go.Proofs.Ytnagfbadjbkhmaa.PureDataGet Go.Proofs.Ytnagfbadjbkhmaa.FData09 Go.Proofs.Ytnagfbadjbkhmaa.FDataGet Go.Proofs.Ytnagfbadjbkhmaa.FRefGet Go.Proofs.Ytnagfbadjbkhmaa.PureDataPut
open Go.Proofs.Ytnagfbadjbkhmaa.FDataOf (Pl)
open Go.Proofs.Ytnagfbadjbkhmaa.FConfGet (chk)
set_option linter.unusedVariables false
set_option linter.unusedSimpArgs false
theorem ref_put_c (g : Nat → Int) (k : Nat) (hk : 30 ≤ k) : hornbeamref08_Put.f k (g 0) (g 1) (g 2) (g 3) (g 4) (g 5) (g 6) = some (if chk g = 0 then strOfNums (bytesC g) else (⟨#[]⟩ : ByteArray)):=by
 unfold hornbeamref08_Put.f
 rw [ref_check_f g k (by omega),Option.bind_some]
 by_cases hc : chk g = 0
 ·obtain ⟨h0,h1,h2,h3,h4,h5,h6,_,_⟩:=chk_zero hc
  rw [if_pos hc,if_pos hc]
  rw [u64_wrap h0.1 (by omega),u64_wrap h1.1 (by omega),u64_wrap (show 0 ≤ g 2 by omega) (by omega),u64_wrap (show 0 ≤ g 3 by omega) (by omega),u64_wrap h4.1 (by omega),u64_wrap (show 0 ≤ g 5 by omega) (by omega),u64_wrap (show 0 ≤ g 6 by omega) (by omega)]
  simp only [ref_put_f _ _ h0.1 (by omega) k (by omega),ref_put_f _ _ h1.1 (by omega) k (by omega),ref_put_f (g 2) _ (by omega) (by omega) k (by omega),ref_put_f (g 3) _ (by omega) (by omega) k (by omega),ref_put_f _ _ h4.1 (by omega) k (by omega),
   ref_put_f (g 5) _ (by omega) (by omega) k (by omega),ref_put_f (g 6) _ (by omega) (by omega) k (by omega),Option.bind_some,← strOf_append,strOf_size,List.length_append,be_len,show cnt 1 = 1 from rfl,show cnt 2 = 2 from rfl,show cnt 4 = 4 from rfl]
  rw [if_pos (by omega),if_pos (by omega),if_pos (by omega),if_pos (by omega),if_pos (by omega),if_pos (by omega)]
  rfl
 ·rw [if_neg hc,if_neg hc]
/-- Words' bytes. -/
def fw (v : List Int) : List Int:=(v.map fun y=>be 8 y).flatten
theorem fw_len : ∀ v : List Int,(fw v).length = 8 * v.length
 | []=>rfl
 | x :: l=>by
  have:=fw_len l
  simp only [fw,List.map_cons,List.flatten_cons,List.length_append,be_len,List.length_cons] at this ⊢
  omega
theorem fw_snoc (v : List Int) (y : Int) : fw (v ++ [y]) = fw v ++ be 8 y:=by simp [fw]
def u64s (t : List Int) : List Int:=t.map fun y=>IntKind.u64.wrap y
/-- A whole dataset's bytes. -/
def whole (g : Nat → Int) (r c : Int) (v t : List Int) : List Int:=be 4 1213157966 ++ bytesC g ++ be 4 (IntKind.u64.wrap r) ++ be 2 (IntKind.u64.wrap c) ++ fw v ++ fw (u64s t)
/-- The document's answer. -/
def rputR (g : Nat → Int) (r c : Int) (v t : List Int) : List Int × Int :=
 if r < 0 ∨ r > 16777216 ∨ c < 0 ∨ c > 16777216 ∨ (v.length : Int) ≠ wrap64 (r * c) ∨ (t.length : Int) ≠ r then ([],8) else if chk g ≠ 0 then ([],chk g) else if r > 1048576 then ([],4) else if r > 0 ∧ c > 1024 then ([],4) else
 if (getR cl (whole g r c v t)).2 ≠ 0 then ([],(getR cl (whole g r c v t)).2) else (whole g r c v t,0)
theorem whole_len (g : Nat → Int) (r c : Int) (v t : List Int) : (whole g r c v t).length = 24 + 8 * v.length + 8 * t.length:=by
 unfold whole u64s
 simp only [List.length_append,be_len,bytesC_len,fw_len,List.length_map]
theorem fw_byte : ∀ v : List Int,∀ x ∈ fw v,0 ≤ x ∧ x < 256:=by
 intro vs x hx
 unfold fw at hx
 obtain ⟨l,hl,hx⟩:=List.mem_flatten.1 hx
 obtain ⟨y,_,rfl⟩:=List.mem_map.1 hl
 exact be_byte _ _ x hx
theorem whole_byte (g : Nat → Int) (r c : Int) (v t : List Int) : ∀ x ∈ whole g r c v t,0 ≤ x ∧ x < 256:=by
 intro x hx
 unfold whole bytesC at hx
 simp only [List.mem_append] at hx
 rcases hx with ((((h|(((((h|h)|h)|h)|h)|h)|h)|h)|h)|h)|h
 all_goals first|exact be_byte _ _ x h|exact fw_byte _ x h
theorem cat (a b : List Int) : strOfNums a ++ strOfNums b = strOfNums (a ++ b):=(strOf_append a b).symm
structure PS (w W : World) (k0 k1 k2 k3 k4 k5 k6 r c : Int) (A9 A10 : Option Addr) (v9 c9 t10 c10 : Nat) : Prop where
 p : Pl W w.heap.size k0 k1 k2 k3 k4 k5 k6 r c (.slice A9 v9 c9) A10 t10 c10
 b : Below w.heap.size w W
theorem PS.step {w W W' : World} {k0 k1 k2 k3 k4 k5 k6 r c : Int} {A9 A10 : Option Addr} {v9 c9 t10 c10 : Nat} (h : PS w W k0 k1 k2 k3 k4 k5 k6 r c A9 A10 v9 c9 t10 c10) (hb : Below W.heap.size W W') : PS w W' k0 k1 k2 k3 k4 k5 k6 r c A9 A10 v9 c9 t10 c10:=⟨blk_below h.p hb,below_step h.b hb⟩
set_option maxHeartbeats 8000000 in
set_option maxRecDepth 100000 in
theorem put_calls (k0 k1 k2 k3 k4 k5 k6 r c : Int) (A9 A10 : Option Addr) (c9 c10 : Nat) (v t : List Int) (w : World) (hr9 : Kd.C (Kd.int .u64) w A9 v.length v) (hc9 : v.length ≤ c9) (hr10 : Kd.C (Kd.int .i64) w A10 t.length t) (hc10 : t.length ≤ c10) (hl : v.length ≤ 500) (ht : t.length ≤ 200) (hv : ∀ y ∈ v,0 ≤ y ∧ y < 18446744073709551616) :
  Calls Try.prog 22 #[.agg #[.int .i64 k0,.int .i64 k1,.int .i64 k2,.int .i64 k3,.int .i64 k4,.int .i64 k5,.int .i64 k6,.int .i64 r,.int .i64 c,.slice A9 v.length c9,.slice A10 t.length c10]] w fun e w'=>e = .returned (.tuple #[.string (strOfNums (rputR (gk k0 k1 k2 k3 k4 k5 k6) r c v t).1),.int .i64 (rputR (gk k0 k1 k2 k3 k4 k5 k6) r c v t).2]) ∧ Below w.heap.size w w':=by
 have hu:=Try.underlying27
 have hu2:=Try.underlying23
 have HR9:=Aside0.mk hr9
 have HR10:=Aside0.mk hr10
 have HV:=Aside0.mk hv
 clear hr9 hc9 hr10 hc10 hv
 have hcase:=trivial
 by_cases h1 : r < 0
 ·have e1 : decide (r < 0) = true:=decide_eq_true h1
  have HRP:=Aside0.mk (show rputR (gk k0 k1 k2 k3 k4 k5 k6) r c v t = ([],8) from if_pos (Or.inl h1))
  clear hcase
  go_enter Try.func22,Try.ntmps22
  go_wp2
  go_ret2
  rw [HRP.out]
  exact ⟨rfl,below_alloc (Below.refl _ w) _⟩
 have e1 : decide (r < 0) = false:=decide_eq_false h1
 by_cases h2 : r > 16777216
 ·have e2 : decide (r > 16777216) = true:=decide_eq_true h2
  have HRP:=Aside0.mk (show rputR (gk k0 k1 k2 k3 k4 k5 k6) r c v t = ([],8) from if_pos (Or.inr (Or.inl h2)))
  clear hcase
  go_enter Try.func22,Try.ntmps22
  go_wp2
  go_ret2
  rw [HRP.out]
  exact ⟨rfl,below_alloc (Below.refl _ w) _⟩
 have e2 : decide (r > 16777216) = false:=decide_eq_false h2
 by_cases h3 : c < 0
 ·have e3 : decide (c < 0) = true:=decide_eq_true h3
  have HRP:=Aside0.mk (show rputR (gk k0 k1 k2 k3 k4 k5 k6) r c v t = ([],8) from if_pos (Or.inr (Or.inr (Or.inl h3))))
  clear hcase
  go_enter Try.func22,Try.ntmps22
  go_wp2
  go_ret2
  rw [HRP.out]
  exact ⟨rfl,below_alloc (Below.refl _ w) _⟩
 have e3 : decide (c < 0) = false:=decide_eq_false h3
 by_cases h4 : c > 16777216
 ·have e4 : decide (c > 16777216) = true:=decide_eq_true h4
  have HRP:=Aside0.mk (show rputR (gk k0 k1 k2 k3 k4 k5 k6) r c v t = ([],8) from if_pos (Or.inr (Or.inr (Or.inr (Or.inl h4)))))
  clear hcase
  go_enter Try.func22,Try.ntmps22
  go_wp2
  go_ret2
  rw [HRP.out]
  exact ⟨rfl,below_alloc (Below.refl _ w) _⟩
 have e4 : decide (c > 16777216) = false:=decide_eq_false h4
 by_cases h5 : (v.length : Int) ≠ wrap64 (r * c)
 ·have e5 : ((v.length : Int) != wrap64 (r * c)) = true:=bne_iff_ne.2 h5
  have HRP:=Aside0.mk (show rputR (gk k0 k1 k2 k3 k4 k5 k6) r c v t = ([],8) from if_pos (Or.inr (Or.inr (Or.inr (Or.inr (Or.inl h5))))))
  clear hcase
  go_enter Try.func22,Try.ntmps22
  go_wp2
  go_ret2
  rw [HRP.out]
  exact ⟨rfl,below_alloc (Below.refl _ w) _⟩
 have e5 : ((v.length : Int) != wrap64 (r * c)) = false:=bne_eq_false_iff_eq.2 (Decidable.not_not.1 h5)
 by_cases h6 : (t.length : Int) ≠ r
 ·have e6 : ((t.length : Int) != r) = true:=bne_iff_ne.2 h6
  have HRP:=Aside0.mk (show rputR (gk k0 k1 k2 k3 k4 k5 k6) r c v t = ([],8) from if_pos (Or.inr (Or.inr (Or.inr (Or.inr (Or.inr h6))))))
  clear hcase
  go_enter Try.func22,Try.ntmps22
  go_wp2
  go_ret2
  rw [HRP.out]
  exact ⟨rfl,below_alloc (Below.refl _ w) _⟩
 have e6 : ((t.length : Int) != r) = false:=bne_eq_false_iff_eq.2 (Decidable.not_not.1 h6)
 have hn : ¬ (r < 0 ∨ r > 16777216 ∨ c < 0 ∨ c > 16777216 ∨ (v.length : Int) ≠ wrap64 (r * c) ∨ (t.length : Int) ≠ r):=fun h=>by rcases h with h|h|h|h|h|h;exact h1 h;exact h2 h;exact h3 h;exact h4 h;exact h5 h;exact h6 h
 have hr200 : r ≤ 200:=by omega
 have hr0 : 0 ≤ r:=by omega
 have hc0 : 0 ≤ c:=by omega
 have hc16 : c ≤ 16777216:=by omega
 have HRP0:=Aside0.mk (show rputR (gk k0 k1 k2 k3 k4 k5 k6) r c v t = _ from if_neg hn)
 clear hn h1 h2 h3 h4 h5 h6 hcase
 obtain ⟨W0,hW0⟩ : ∃ W0,w.alloc (.cells #[.int .i64 k0,.int .i64 k1,.int .i64 k2,.int .i64 k3,.int .i64 k4,.int .i64 k5,.int .i64 k6,.int .i64 r,.int .i64 c,.slice A9 v.length c9,.slice A10 t.length c10] 27) = W0:=⟨_,rfl⟩
 have S0:=Aside0.mk (show PS w W0 k0 k1 k2 k3 k4 k5 k6 r c A9 A10 v.length c9 t.length c10 from by rw [← hW0];exact ⟨blk_new w _,below_alloc (Below.refl _ w) _⟩)
 have HW0:=Aside0.mk hW0
 clear hW0
 have HCK:=Aside0.mk (ref_check_f (gk k0 k1 k2 k3 k4 k5 k6) 20 (by omega))
 go_enter Try.func22,Try.ntmps22
 go_wp2_with (fail)
 rw [HW0.out]
 clear HW0 e1 e2 e3 e4 e5 e6
 obtain ⟨ck,hck⟩ : ∃ ck,chk (gk k0 k1 k2 k3 k4 k5 k6) = ck:=⟨_,rfl⟩
 rw [hck] at HCK
 have HCE:=Aside0.mk hck
 refine (hornbeamref08_Check.calls 20 k0 k1 k2 k3 k4 k5 k6 ck _ HCK.out).mono ?_
 rintro e w1 ⟨rfl,hb⟩
 have S1:=Aside0.mk (S0.out.step hb)
 clear hb S0 HCK hck
 by_cases h7 : ck = 0
 ·subst h7
  have HRP1:=Aside0.mk (HRP0.out.trans (if_neg (fun h=>h HCE.out)))
  have p7:=S1.out.p.c7
  have p8:=S1.out.p.c8
  have e7 : decide (r > 1048576) = false:=decide_eq_false (by omega)
  have HRP2:=Aside0.mk (HRP1.out.trans (if_neg (by omega)))
  clear HRP0 HRP1
  by_cases h8 : r > 0 ∧ c > 1024
  ·have e8 : decide (r > 0) = true:=decide_eq_true h8.1
   have e9 : decide (c > 1024) = true:=decide_eq_true h8.2
   have HRP3:=Aside0.mk (show rputR (gk k0 k1 k2 k3 k4 k5 k6) r c v t = ([],4) from HRP2.out.trans (if_pos h8))
   clear h8 HRP2
   go_wp2
   go_ret2
   rw [HRP3.out]
   exact ⟨rfl,S1.out.b⟩
  have HRP3:=Aside0.mk (HRP2.out.trans (if_neg h8))
  have e89 : (decide (r > 0) = true ∧ decide (c > 1024) = false) ∨ decide (r > 0) = false:=by
   by_cases hh : r > 0
   ·exact .inl ⟨decide_eq_true hh,decide_eq_false (fun h=>h8 ⟨hh,h⟩)⟩
   ·exact .inr (decide_eq_false hh)
  clear h8 HRP2
  have hgo : ∀ K : Prop,(decide (r > 0) = true → decide (c > 1024) = false → K) → (decide (r > 0) = false → K) → K:=fun K a b=>e89.elim (fun h=>a h.1 h.2) b
  clear e89
  obtain ⟨s1,hs1⟩ : ∃ s1,s1 = strOfNums (bytesC (gk k0 k1 k2 k3 k4 k5 k6)):=⟨_,rfl⟩
  obtain ⟨s2,hs2⟩ : ∃ s2,s2 = strOfNums (be 4 r):=⟨_,rfl⟩
  obtain ⟨s3,hs3⟩ : ∃ s3,s3 = strOfNums (be 2 c):=⟨_,rfl⟩
  have HP1:=Aside0.mk (show hornbeamref08_Put.f 40 k0 k1 k2 k3 k4 k5 k6 = some s1 from by rw [hs1];exact (ref_put_c (gk k0 k1 k2 k3 k4 k5 k6) 40 (by omega)).trans (by rw [if_pos HCE.out]))
  have HP2:=Aside0.mk (show hornbeamref07_Put.f 20 r 4 = some s2 from by rw [hs2];exact ref_put_f r 4 hr0 (by omega) 20 (by omega))
  have HP3:=Aside0.mk (show hornbeamref07_Put.f 20 c 2 = some s3 from by rw [hs3];exact ref_put_f c 2 hc0 (by omega) 20 (by omega))
  have z1 : s1.size = 14:=by rw [hs1,strOf_size,bytesC_len]
  have z2 : s2.size = 4:=by rw [hs2,strOf_size,be_len]
  have z3 : s3.size = 2:=by rw [hs3,strOf_size,be_len]
  have hw1 : IntKind.u64.wrap r = r:=u64_wrap hr0 (by omega)
  have hw2 : IntKind.u64.wrap c = c:=u64_wrap hc0 (by omega)
  obtain ⟨s0,hs0⟩ : ∃ s0 : ByteArray,s0 = ⟨#[72,79,82,78]⟩:=⟨_,rfl⟩
  have HSUM:=Aside0.mk (show ((⟨#[72,79,82,78]⟩ : ByteArray) ++ s1 ++ s2 ++ s3) = strOfNums (be 4 1213157966 ++ bytesC (gk k0 k1 k2 k3 k4 k5 k6) ++ be 4 (IntKind.u64.wrap r) ++ be 2 (IntKind.u64.wrap c)) from by
   rw [hs1,hs2,hs3,hw1,hw2,show (⟨#[72,79,82,78]⟩ : ByteArray) = strOfNums (be 4 1213157966) by decide +kernel,cat,cat,cat])
  clear hs1 hs2 hs3
  have a1 : (⟨#[72,79,82,78]⟩ : ByteArray).size + s1.size ≤ 9223372036854775807:=by rw [z1];decide
  have a2 : ((⟨#[72,79,82,78]⟩ : ByteArray) ++ s1).size + s2.size ≤ 9223372036854775807:=by rw [ByteArray.size_append,z1,z2];decide
  have a3 : ((⟨#[72,79,82,78]⟩ : ByteArray) ++ s1 ++ s2).size + s3.size ≤ 9223372036854775807:=by rw [ByteArray.size_append,ByteArray.size_append,z1,z2,z3];decide
  clear hs0 s0
  refine hgo _ (fun e8 e9=>?_) (fun e8=>?_)
  ·go_upto_region 10 with (fail)
   clear e8 e9 e7
   clear p7 p8
   refine start_ (n:=15) (S:=fun W=>Pl W w.heap.size k0 k1 k2 k3 k4 k5 k6 r c (.slice A9 v.length c9) A10 t.length c10) (ds:=[]) #[false,false,false,false,false,false,false,false,false,false,false,false,false,false,false] (by kernel_rfl) rfl rfl S1.out.p (fun hHeld=>?_)
   have S2:=Aside0.mk (S1.out.step (below_drew (Below.refl _ _)))
   clear S1
   generalize w1.drew = w2 at S2 hHeld ⊢
   refine pure_ (i:=0) (N:=some 62) (v:=?_) (a':=?_) #[true,false,false,false,false,false,false,false,false,false,false,false,false,false,false] rfl rfl (by kernel_rfl) (fun _ _ _ h=>h) (Or.inl ⟨by rfl,?_⟩) ?_ ?_
   rotate_left
   ·intro w'
    go_simp
    with_reducible rfl
   rotate_left
   ·simp only [Act.put,List.setIfInBounds_toArray,List.set_cons_zero,List.set_cons_succ,i64_w,i32_w]
    rfl
   refine take_ (i:=1) (N:=some 63) (v:=?_) (a':=?_) #[true,true,false,false,false,false,false,false,false,false,false,false,false,false,false] rfl rfl (by kernel_rfl) (fun _ _ _ h=>h) (Or.inl ⟨by rfl,?_⟩) hHeld ?_ ?_
   rotate_left
   ·intro w' s
    have p0:=s.c0
    have p1:=s.c1
    have p2:=s.c2
    have p3:=s.c3
    have p4:=s.c4
    have p5:=s.c5
    have p6:=s.c6
    clear s
    go_simp
    with_reducible rfl
   rotate_left
   ·simp only [Act.put,List.setIfInBounds_toArray,List.set_cons_zero,List.set_cons_succ,i64_w,i32_w]
    rfl
   refine pure_ (i:=4) (N:=some 66) (v:=?_) (a':=?_) #[true,true,false,false,true,false,false,false,false,false,false,false,false,false,false] rfl rfl (by kernel_rfl) (fun _ _ _ h=>h) (Or.inl ⟨by rfl,?_⟩) ?_ ?_
   rotate_left
   ·intro w'
    go_simp
    with_reducible rfl
   rotate_left
   ·simp only [Act.put,List.setIfInBounds_toArray,List.set_cons_zero,List.set_cons_succ,i64_w,i32_w]
    rfl
   refine take_ (i:=5) (N:=some 67) (v:=?_) (a':=?_) #[true,true,false,false,true,true,false,false,false,false,false,false,false,false,false] rfl rfl (by kernel_rfl) (fun _ _ _ h=>h) (Or.inl ⟨by rfl,?_⟩) hHeld ?_ ?_
   rotate_left
   ·intro w' s
    have p7:=s.c7
    clear s
    go_simp
    with_reducible rfl
   rotate_left
   ·simp only [Act.put,List.setIfInBounds_toArray,List.set_cons_zero,List.set_cons_succ,i64_w,i32_w]
    rfl
   refine pure_ (i:=6) (N:=some 68) (v:=?_) (a':=?_) #[true,true,false,false,true,true,true,false,false,false,false,false,false,false,false] rfl rfl (by kernel_rfl) (fun _ _ _ h=>h) (Or.inl ⟨by rfl,?_⟩) ?_ ?_
   rotate_left
   ·intro w'
    go_simp
    with_reducible rfl
   rotate_left
   ·simp only [Act.put,List.setIfInBounds_toArray,List.set_cons_zero,List.set_cons_succ,i64_w,i32_w]
    rfl
   refine pure_ (i:=9) (N:=some 71) (v:=?_) (a':=?_) #[true,true,false,false,true,true,true,false,false,true,false,false,false,false,false] rfl rfl (by kernel_rfl) (fun _ _ _ h=>h) (Or.inl ⟨by rfl,?_⟩) ?_ ?_
   rotate_left
   ·intro w'
    go_simp
    with_reducible rfl
   rotate_left
   ·simp only [Act.put,List.setIfInBounds_toArray,List.set_cons_zero,List.set_cons_succ,i64_w,i32_w]
    rfl
   refine take_ (i:=10) (N:=some 72) (v:=?_) (a':=?_) #[true,true,false,false,true,true,true,false,false,true,true,false,false,false,false] rfl rfl (by kernel_rfl) (fun _ _ _ h=>h) (Or.inl ⟨by rfl,?_⟩) hHeld ?_ ?_
   rotate_left
   ·intro w' s
    have p8:=s.c8
    clear s
    go_simp
    with_reducible rfl
   rotate_left
   ·simp only [Act.put,List.setIfInBounds_toArray,List.set_cons_zero,List.set_cons_succ,i64_w,i32_w]
    rfl
   refine pure_ (i:=11) (N:=some 73) (v:=?_) (a':=?_) #[true,true,false,false,true,true,true,false,false,true,true,true,false,false,false] rfl rfl (by kernel_rfl) (fun _ _ _ h=>h) (Or.inl ⟨by rfl,?_⟩) ?_ ?_
   rotate_left
   ·intro w'
    go_simp
    with_reducible rfl
   rotate_left
   ·simp only [Act.put,List.setIfInBounds_toArray,List.set_cons_zero,List.set_cons_succ,i64_w,i32_w]
    rfl
   refine one_ (i:=2) (N:=some 64) #[true,true,true,false,true,true,true,false,false,true,true,true,false,false,false] rfl rfl (by kernel_rfl) (by decide) (fun K hK=>?_)
   refine goes_ Try.func57 (by kernel_rfl) rfl #[.agg #[.int .i64 k0,.int .i64 k1,.int .i64 k2,.int .i64 k3,.int .i64 k4,.int .i64 k5,.int .i64 k6]] (by rfl) rfl rfl (by (try simp only [List.map_toArray,List.map_cons,List.map_nil]);first|done|rfl) ?_
   refine (hornbeamref08_Put.calls 40 k0 k1 k2 k3 k4 k5 k6 s1 _ HP1.out).mono ?_
   rintro e w3 ⟨rfl,hb⟩
   refine ⟨_,rfl,?_⟩
   have S3:=Aside0.mk (S2.out.step hb)
   clear hb hHeld S2
   refine hK.out _ _ S3.out.p (fun hHeld=>?_)
   clear hK K
   refine norm_ (a':=?_) ?_ ?_
   rotate_left
   ·show Act.put _ (some 64) _ = _
    simp only [Act.put,List.setIfInBounds_toArray,List.set_cons_zero,List.set_cons_succ,i64_w,i32_w]
    rfl
   refine pure_ (i:=3) (N:=some 65) (v:=?_) (a':=?_) #[true,true,true,true,true,true,true,false,false,true,true,true,false,false,false] rfl rfl (by kernel_rfl) (fun _ _ _ h=>h) (Or.inl ⟨by rfl,?_⟩) ?_ ?_
   rotate_left
   ·intro w'
    go_simp
    with_reducible rfl
   rotate_left
   ·simp only [Act.put,List.setIfInBounds_toArray,List.set_cons_zero,List.set_cons_succ,i64_w,i32_w]
    rfl
   refine one_ (i:=7) (N:=some 69) #[true,true,true,true,true,true,true,true,false,true,true,true,false,false,false] rfl rfl (by kernel_rfl) (by decide) (fun K hK=>?_)
   refine goes_ Try.func58 (by kernel_rfl) rfl #[.int .u64 r,.int .i64 4] (by rfl) rfl rfl (by (try simp only [List.map_toArray,List.map_cons,List.map_nil]);first|done|rfl) ?_
   refine (hornbeamref07_Put.calls 20 r 4 s2 _ HP2.out).mono ?_
   rintro e w3 ⟨rfl,hb⟩
   refine ⟨_,rfl,?_⟩
   have S4:=Aside0.mk (S3.out.step hb)
   clear hb hHeld S3
   refine hK.out _ _ S4.out.p (fun hHeld=>?_)
   clear hK K
   refine norm_ (a':=?_) ?_ ?_
   rotate_left
   ·show Act.put _ (some 69) _ = _
    simp only [Act.put,List.setIfInBounds_toArray,List.set_cons_zero,List.set_cons_succ,i64_w,i32_w]
    rfl
   refine pure_ (i:=8) (N:=some 70) (v:=?_) (a':=?_) #[true,true,true,true,true,true,true,true,true,true,true,true,false,false,false] rfl rfl (by kernel_rfl) (fun _ _ _ h=>h) (Or.inl ⟨by rfl,?_⟩) ?_ ?_
   rotate_left
   ·intro w'
    go_simp
    with_reducible rfl
   rotate_left
   ·simp only [Act.put,List.setIfInBounds_toArray,List.set_cons_zero,List.set_cons_succ,i64_w,i32_w]
    rfl
   refine one_ (i:=12) (N:=some 74) #[true,true,true,true,true,true,true,true,true,true,true,true,true,false,false] rfl rfl (by kernel_rfl) (by decide) (fun K hK=>?_)
   refine goes_ Try.func58 (by kernel_rfl) rfl #[.int .u64 c,.int .i64 2] (by rfl) rfl rfl (by (try simp only [List.map_toArray,List.map_cons,List.map_nil]);first|done|rfl) ?_
   refine (hornbeamref07_Put.calls 20 c 2 s3 _ HP3.out).mono ?_
   rintro e w3 ⟨rfl,hb⟩
   refine ⟨_,rfl,?_⟩
   have S5:=Aside0.mk (S4.out.step hb)
   clear hb hHeld S4
   refine hK.out _ _ S5.out.p (fun hHeld=>?_)
   clear hK K
   refine norm_ (a':=?_) ?_ ?_
   rotate_left
   ·show Act.put _ (some 74) _ = _
    simp only [Act.put,List.setIfInBounds_toArray,List.set_cons_zero,List.set_cons_succ,i64_w,i32_w]
    rfl
   refine pure_ (i:=13) (N:=some 75) (v:=?_) (a':=?_) #[true,true,true,true,true,true,true,true,true,true,true,true,true,true,false] rfl rfl (by kernel_rfl) (fun _ _ _ h=>h) (Or.inl ⟨by rfl,?_⟩) ?_ ?_
   rotate_left
   ·intro w'
    go_simp
    with_reducible rfl
   rotate_left
   ·simp only [Act.put,List.setIfInBounds_toArray,List.set_cons_zero,List.set_cons_succ,i64_w,i32_w]
    rfl
   refine pure_ (i:=14) (N:=some 5) (v:=?_) (a':=?_) #[true,true,true,true,true,true,true,true,true,true,true,true,true,true,true] rfl rfl (by kernel_rfl) (fun _ _ _ h=>h) (Or.inl ⟨by rfl,?_⟩) ?_ ?_
   rotate_left
   ·intro w'
    go_simp
    with_reducible rfl
   rotate_left
   ·simp only [Act.put,List.setIfInBounds_toArray,List.set_cons_zero,List.set_cons_succ,i64_w,i32_w]
    rfl
   refine done_ (by kernel_rfl) ?_
   have HSUM2:=HSUM
   obtain ⟨S,hS⟩ : ∃ S,(⟨#[72,79,82,78]⟩ : ByteArray) ++ s1 ++ s2 ++ s3 = S:=⟨_,rfl⟩
   rw [hS] at HSUM2 ⊢
   clear hS a1 a2 a3 HP1 HP2 HP3 HSUM hHeld z1 z2 z3
   go_wp2_with (fail)
   obtain ⟨w6,hw6⟩ : ∃ w6,w6 = w3:=⟨_,rfl⟩
   rw [← hw6] at S5 ⊢
   clear hw6
   go_loopw [6,5] (fun v6 v5 w'=>∃ (i : Nat) (s : ByteArray),i ≤ v.length ∧ v6 = .int .i64 i ∧ v5 = .string s ∧ s.size = 24 + 8 * i ∧ Aside0 (s = strOfNums (be 4 1213157966 ++ bytesC (gk k0 k1 k2 k3 k4 k5 k6) ++ be 4 (IntKind.u64.wrap r) ++ be 2 (IntKind.u64.wrap c) ++ fw (v.take i))) ∧ Aside0 (PS w w' k0 k1 k2 k3 k4 k5 k6 r c A9 A10 v.length c9 t.length c10)) (fun u _ _=>v.length - (intOf u).toNat)
   case atStart=>exact ⟨0,S,by omega,rfl,rfl,by rw [HSUM2.out];simp [strOf_size,be_len,bytesC_len],⟨by rw [HSUM2.out];simp [fw]⟩,S5⟩
   case round =>
    obtain ⟨i,s,hi,rfl,rfl,hsz,HSS,SI⟩:=hrel
    clear S5
    have q9:=SI.out.p.c9
    by_cases hlt : i < v.length
    ·have d0 : decide ((i : Int) < (v.length : Int)) = true:=decide_eq_true (by omega)
     obtain ⟨ad,ea,hx⟩:=Kd.at_int (Kd.C_below HR9.out SI.out.b) (i : Int) (by omega) (by omega)
     cases ea
     simp only [Int.toNat_natCast] at hx
     obtain ⟨y,hy⟩ : ∃ y,rd v (i : Int) = y:=⟨_,rfl⟩
     rw [hy] at hx
     have hyb : 0 ≤ y ∧ y < 18446744073709551616:=by rw [← hy,rd_nat v i hlt];exact HV.out _ (List.getElem_mem hlt)
     have htk : v.take (i + 1) = v.take i ++ [y]:=by rw [List.take_succ_eq_append_getElem hlt,← hy,rd_nat v i hlt]
     have HTK:=Aside0.mk htk
     obtain ⟨sy,hsy⟩ : ∃ sy,sy = strOfNums (be 8 y):=⟨_,rfl⟩
     have HPY:=Aside0.mk (show hornbeamref07_Put.f 20 y 8 = some sy from by rw [hsy];exact ref_put_f y 8 hyb.1 hyb.2 20 (by omega))
     have hzy : sy.size = 8:=by rw [hsy,strOf_size,be_len]
     have HSY:=Aside0.mk hsy
     clear hy htk hyb hsy
     go_wp2_with (fail)
     refine (hornbeamref07_Put.calls 20 y 8 sy _ HPY.out).mono ?_
     rintro e w8 ⟨rfl,hb⟩
     have S8:=Aside0.mk (SI.out.step hb)
     have b1 : s.size + sy.size ≤ 9223372036854775807:=by omega
     have HSN:=Aside0.mk (show s ++ sy = strOfNums (be 4 1213157966 ++ bytesC (gk k0 k1 k2 k3 k4 k5 k6) ++ be 4 (IntKind.u64.wrap r) ++ be 2 (IntKind.u64.wrap c) ++ fw (v.take (i + 1))) from by rw [HSS.out,HSY.out,cat,HTK.out,fw_snoc,List.append_assoc])
     have hzn : (s ++ sy).size = 24 + 8 * (i + 1):=by rw [ByteArray.size_append];omega
     have HZN:=Aside0.mk hzn
     clear hb SI HPY hx q9 HSS HTK HSY hzn
     go_wp2
     exact ⟨⟨i + 1,s ++ sy,by omega,by go_num,rfl,HZN.out,HSN,S8⟩,by simp [intOf];omega⟩
    ·have d0 : decide ((i : Int) < (v.length : Int)) = false:=decide_eq_false (by omega)
     have hvi : v.take i = v:=List.take_of_length_le (by omega)
     rw [hvi] at HSS
     have hszv : s.size = 24 + 8 * v.length:=by omega
     clear hvi hsz
     go_wp2_with (fail)
     clear q9 d0
     go_loopw [7,5] (fun v7 v5 w'=>∃ (n : Nat) (s : ByteArray),n ≤ t.length ∧ v7 = .int .i64 n ∧ v5 = .string s ∧ s.size = 24 + 8 * v.length + 8 * n ∧ Aside0 (s = strOfNums (be 4 1213157966 ++ bytesC (gk k0 k1 k2 k3 k4 k5 k6) ++ be 4 (IntKind.u64.wrap r) ++ be 2 (IntKind.u64.wrap c) ++ fw v ++ fw (u64s (t.take n)))) ∧ Aside0 (PS w w' k0 k1 k2 k3 k4 k5 k6 r c A9 A10 v.length c9 t.length c10)) (fun u _ _=>t.length - (intOf u).toNat)
     case atStart=>exact ⟨0,s,by omega,rfl,rfl,by omega,⟨by rw [HSS.out];simp [fw,u64s]⟩,SI⟩
     case round =>
      clear hszv HSS SI
      obtain ⟨n,s,hn,rfl,rfl,hsz,HSS,SJ⟩:=hrel
      have q10:=SJ.out.p.c10
      by_cases hlt : n < t.length
      ·have d0 : decide ((n : Int) < (t.length : Int)) = true:=decide_eq_true (by omega)
       obtain ⟨ad,ea,hx⟩:=Kd.at_int (Kd.C_below HR10.out SJ.out.b) (n : Int) (by omega) (by omega)
       cases ea
       simp only [Int.toNat_natCast] at hx
       obtain ⟨y,hy⟩ : ∃ y,rd t (n : Int) = y:=⟨_,rfl⟩
       rw [hy] at hx
       have htk : t.take (n + 1) = t.take n ++ [y]:=by rw [List.take_succ_eq_append_getElem hlt,← hy,rd_nat t n hlt]
       have HTK:=Aside0.mk htk
       have hyb : 0 ≤ IntKind.u64.wrap y ∧ IntKind.u64.wrap y < 18446744073709551616:=by
        simp only [IntKind.wrap,IntKind.bits,IntKind.signed]
        simp
        omega
       obtain ⟨sy,hsy⟩ : ∃ sy,sy = strOfNums (be 8 (IntKind.u64.wrap y)):=⟨_,rfl⟩
       have HPY:=Aside0.mk (show hornbeamref07_Put.f 20 (IntKind.u64.wrap y) 8 = some sy from by rw [hsy];exact ref_put_f _ 8 hyb.1 hyb.2 20 (by omega))
       have hzy : sy.size = 8:=by rw [hsy,strOf_size,be_len]
       have HSY:=Aside0.mk hsy
       clear hy htk hyb hsy
       go_wp2_with (fail)
       refine (hornbeamref07_Put.calls 20 (IntKind.u64.wrap y) 8 sy _ HPY.out).mono ?_
       rintro e w8 ⟨rfl,hb⟩
       have S8:=Aside0.mk (SJ.out.step hb)
       have b1 : s.size + sy.size ≤ 9223372036854775807:=by omega
       have HSN:=Aside0.mk (show s ++ sy = strOfNums (be 4 1213157966 ++ bytesC (gk k0 k1 k2 k3 k4 k5 k6) ++ be 4 (IntKind.u64.wrap r) ++ be 2 (IntKind.u64.wrap c) ++ fw v ++ fw (u64s (t.take (n + 1)))) from by rw [HSS.out,HSY.out,cat,HTK.out,show u64s (t.take n ++ [y]) = u64s (t.take n) ++ [IntKind.u64.wrap y] by simp [u64s],fw_snoc,List.append_assoc])
       have hzn : (s ++ sy).size = 24 + 8 * v.length + 8 * (n + 1):=by rw [ByteArray.size_append];omega
       have HZN:=Aside0.mk hzn
       clear hb SJ HPY hx q10 HSS HTK HSY hzn
       go_wp2
       exact ⟨⟨n + 1,s ++ sy,by omega,by go_num,rfl,HZN.out,HSN,S8⟩,by simp [intOf];omega⟩
      ·have d0 : decide ((n : Int) < (t.length : Int)) = false:=decide_eq_false (by omega)
       have htn : t.take n = t:=List.take_of_length_le (by omega)
       rw [htn] at HSS
       have hse : s = strOfNums (whole (gk k0 k1 k2 k3 k4 k5 k6) r c v t):=HSS.out
       have HSE:=Aside0.mk hse
       have hwl : (whole (gk k0 k1 k2 k3 k4 k5 k6) r c v t).length ≤ 1000000:=by rw [whole_len];omega
       have HWL:=Aside0.mk hwl
       clear htn HSS hsz hse hwl
       go_wp2_with (fail)
       have G:=FRefGet.get_calls (whole (gk k0 k1 k2 k3 k4 k5 k6) r c v t) (whole_byte _ r c v t) HWL.out wr
       rw [← HSE.out] at G
       refine G.mono ?_
       rintro e w9 ⟨av,tv,rfl,hU,hT,hb⟩
       have S9:=Aside0.mk (SJ.out.step hb)
       obtain ⟨gc,hgc⟩ : ∃ gc,(getR cl (whole (gk k0 k1 k2 k3 k4 k5 k6) r c v t)).2 = gc:=⟨_,rfl⟩
       have HRPF:=Aside0.mk (show rputR (gk k0 k1 k2 k3 k4 k5 k6) r c v t = if gc ≠ 0 then ([],gc) else (whole (gk k0 k1 k2 k3 k4 k5 k6) r c v t,0) from by rw [← hgc];exact HRP3.out)
       rw [hgc]
       clear hb hU hT SJ G HWL HRP3 q10 d0 hgc
       by_cases hg0 : gc = 0
       ·subst hg0
        have HF:=Aside0.mk (show rputR (gk k0 k1 k2 k3 k4 k5 k6) r c v t = (whole (gk k0 k1 k2 k3 k4 k5 k6) r c v t,0) from HRPF.out.trans (if_neg (fun h=>h rfl)))
        clear HRPF
        go_wp2
        go_ret2
        rw [HF.out,HSE.out]
        exact ⟨rfl,S9.out.b⟩
       ·have dg : (gc != 0) = true:=bne_iff_ne.2 hg0
        have HF:=Aside0.mk (show rputR (gk k0 k1 k2 k3 k4 k5 k6) r c v t = ([],gc) from HRPF.out.trans (if_pos hg0))
        clear HRPF hg0
        go_wp2
        go_ret2
        rw [HF.out]
        exact ⟨rfl,S9.out.b⟩
  ·go_upto_region 10 with (fail)
   clear e8 e7
   clear p7 p8
   refine start_ (n:=15) (S:=fun W=>Pl W w.heap.size k0 k1 k2 k3 k4 k5 k6 r c (.slice A9 v.length c9) A10 t.length c10) (ds:=[]) #[false,false,false,false,false,false,false,false,false,false,false,false,false,false,false] (by kernel_rfl) rfl rfl S1.out.p (fun hHeld=>?_)
   have S2:=Aside0.mk (S1.out.step (below_drew (Below.refl _ _)))
   clear S1
   generalize w1.drew = w2 at S2 hHeld ⊢
   refine pure_ (i:=0) (N:=some 62) (v:=?_) (a':=?_) #[true,false,false,false,false,false,false,false,false,false,false,false,false,false,false] rfl rfl (by kernel_rfl) (fun _ _ _ h=>h) (Or.inl ⟨by rfl,?_⟩) ?_ ?_
   rotate_left
   ·intro w'
    go_simp
    with_reducible rfl
   rotate_left
   ·simp only [Act.put,List.setIfInBounds_toArray,List.set_cons_zero,List.set_cons_succ,i64_w,i32_w]
    rfl
   refine take_ (i:=1) (N:=some 63) (v:=?_) (a':=?_) #[true,true,false,false,false,false,false,false,false,false,false,false,false,false,false] rfl rfl (by kernel_rfl) (fun _ _ _ h=>h) (Or.inl ⟨by rfl,?_⟩) hHeld ?_ ?_
   rotate_left
   ·intro w' s
    have p0:=s.c0
    have p1:=s.c1
    have p2:=s.c2
    have p3:=s.c3
    have p4:=s.c4
    have p5:=s.c5
    have p6:=s.c6
    clear s
    go_simp
    with_reducible rfl
   rotate_left
   ·simp only [Act.put,List.setIfInBounds_toArray,List.set_cons_zero,List.set_cons_succ,i64_w,i32_w]
    rfl
   refine pure_ (i:=4) (N:=some 66) (v:=?_) (a':=?_) #[true,true,false,false,true,false,false,false,false,false,false,false,false,false,false] rfl rfl (by kernel_rfl) (fun _ _ _ h=>h) (Or.inl ⟨by rfl,?_⟩) ?_ ?_
   rotate_left
   ·intro w'
    go_simp
    with_reducible rfl
   rotate_left
   ·simp only [Act.put,List.setIfInBounds_toArray,List.set_cons_zero,List.set_cons_succ,i64_w,i32_w]
    rfl
   refine take_ (i:=5) (N:=some 67) (v:=?_) (a':=?_) #[true,true,false,false,true,true,false,false,false,false,false,false,false,false,false] rfl rfl (by kernel_rfl) (fun _ _ _ h=>h) (Or.inl ⟨by rfl,?_⟩) hHeld ?_ ?_
   rotate_left
   ·intro w' s
    have p7:=s.c7
    clear s
    go_simp
    with_reducible rfl
   rotate_left
   ·simp only [Act.put,List.setIfInBounds_toArray,List.set_cons_zero,List.set_cons_succ,i64_w,i32_w]
    rfl
   refine pure_ (i:=6) (N:=some 68) (v:=?_) (a':=?_) #[true,true,false,false,true,true,true,false,false,false,false,false,false,false,false] rfl rfl (by kernel_rfl) (fun _ _ _ h=>h) (Or.inl ⟨by rfl,?_⟩) ?_ ?_
   rotate_left
   ·intro w'
    go_simp
    with_reducible rfl
   rotate_left
   ·simp only [Act.put,List.setIfInBounds_toArray,List.set_cons_zero,List.set_cons_succ,i64_w,i32_w]
    rfl
   refine pure_ (i:=9) (N:=some 71) (v:=?_) (a':=?_) #[true,true,false,false,true,true,true,false,false,true,false,false,false,false,false] rfl rfl (by kernel_rfl) (fun _ _ _ h=>h) (Or.inl ⟨by rfl,?_⟩) ?_ ?_
   rotate_left
   ·intro w'
    go_simp
    with_reducible rfl
   rotate_left
   ·simp only [Act.put,List.setIfInBounds_toArray,List.set_cons_zero,List.set_cons_succ,i64_w,i32_w]
    rfl
   refine take_ (i:=10) (N:=some 72) (v:=?_) (a':=?_) #[true,true,false,false,true,true,true,false,false,true,true,false,false,false,false] rfl rfl (by kernel_rfl) (fun _ _ _ h=>h) (Or.inl ⟨by rfl,?_⟩) hHeld ?_ ?_
   rotate_left
   ·intro w' s
    have p8:=s.c8
    clear s
    go_simp
    with_reducible rfl
   rotate_left
   ·simp only [Act.put,List.setIfInBounds_toArray,List.set_cons_zero,List.set_cons_succ,i64_w,i32_w]
    rfl
   refine pure_ (i:=11) (N:=some 73) (v:=?_) (a':=?_) #[true,true,false,false,true,true,true,false,false,true,true,true,false,false,false] rfl rfl (by kernel_rfl) (fun _ _ _ h=>h) (Or.inl ⟨by rfl,?_⟩) ?_ ?_
   rotate_left
   ·intro w'
    go_simp
    with_reducible rfl
   rotate_left
   ·simp only [Act.put,List.setIfInBounds_toArray,List.set_cons_zero,List.set_cons_succ,i64_w,i32_w]
    rfl
   refine one_ (i:=2) (N:=some 64) #[true,true,true,false,true,true,true,false,false,true,true,true,false,false,false] rfl rfl (by kernel_rfl) (by decide) (fun K hK=>?_)
   refine goes_ Try.func57 (by kernel_rfl) rfl #[.agg #[.int .i64 k0,.int .i64 k1,.int .i64 k2,.int .i64 k3,.int .i64 k4,.int .i64 k5,.int .i64 k6]] (by rfl) rfl rfl (by (try simp only [List.map_toArray,List.map_cons,List.map_nil]);first|done|rfl) ?_
   refine (hornbeamref08_Put.calls 40 k0 k1 k2 k3 k4 k5 k6 s1 _ HP1.out).mono ?_
   rintro e w3 ⟨rfl,hb⟩
   refine ⟨_,rfl,?_⟩
   have S3:=Aside0.mk (S2.out.step hb)
   clear hb hHeld S2
   refine hK.out _ _ S3.out.p (fun hHeld=>?_)
   clear hK K
   refine norm_ (a':=?_) ?_ ?_
   rotate_left
   ·show Act.put _ (some 64) _ = _
    simp only [Act.put,List.setIfInBounds_toArray,List.set_cons_zero,List.set_cons_succ,i64_w,i32_w]
    rfl
   refine pure_ (i:=3) (N:=some 65) (v:=?_) (a':=?_) #[true,true,true,true,true,true,true,false,false,true,true,true,false,false,false] rfl rfl (by kernel_rfl) (fun _ _ _ h=>h) (Or.inl ⟨by rfl,?_⟩) ?_ ?_
   rotate_left
   ·intro w'
    go_simp
    with_reducible rfl
   rotate_left
   ·simp only [Act.put,List.setIfInBounds_toArray,List.set_cons_zero,List.set_cons_succ,i64_w,i32_w]
    rfl
   refine one_ (i:=7) (N:=some 69) #[true,true,true,true,true,true,true,true,false,true,true,true,false,false,false] rfl rfl (by kernel_rfl) (by decide) (fun K hK=>?_)
   refine goes_ Try.func58 (by kernel_rfl) rfl #[.int .u64 r,.int .i64 4] (by rfl) rfl rfl (by (try simp only [List.map_toArray,List.map_cons,List.map_nil]);first|done|rfl) ?_
   refine (hornbeamref07_Put.calls 20 r 4 s2 _ HP2.out).mono ?_
   rintro e w3 ⟨rfl,hb⟩
   refine ⟨_,rfl,?_⟩
   have S4:=Aside0.mk (S3.out.step hb)
   clear hb hHeld S3
   refine hK.out _ _ S4.out.p (fun hHeld=>?_)
   clear hK K
   refine norm_ (a':=?_) ?_ ?_
   rotate_left
   ·show Act.put _ (some 69) _ = _
    simp only [Act.put,List.setIfInBounds_toArray,List.set_cons_zero,List.set_cons_succ,i64_w,i32_w]
    rfl
   refine pure_ (i:=8) (N:=some 70) (v:=?_) (a':=?_) #[true,true,true,true,true,true,true,true,true,true,true,true,false,false,false] rfl rfl (by kernel_rfl) (fun _ _ _ h=>h) (Or.inl ⟨by rfl,?_⟩) ?_ ?_
   rotate_left
   ·intro w'
    go_simp
    with_reducible rfl
   rotate_left
   ·simp only [Act.put,List.setIfInBounds_toArray,List.set_cons_zero,List.set_cons_succ,i64_w,i32_w]
    rfl
   refine one_ (i:=12) (N:=some 74) #[true,true,true,true,true,true,true,true,true,true,true,true,true,false,false] rfl rfl (by kernel_rfl) (by decide) (fun K hK=>?_)
   refine goes_ Try.func58 (by kernel_rfl) rfl #[.int .u64 c,.int .i64 2] (by rfl) rfl rfl (by (try simp only [List.map_toArray,List.map_cons,List.map_nil]);first|done|rfl) ?_
   refine (hornbeamref07_Put.calls 20 c 2 s3 _ HP3.out).mono ?_
   rintro e w3 ⟨rfl,hb⟩
   refine ⟨_,rfl,?_⟩
   have S5:=Aside0.mk (S4.out.step hb)
   clear hb hHeld S4
   refine hK.out _ _ S5.out.p (fun hHeld=>?_)
   clear hK K
   refine norm_ (a':=?_) ?_ ?_
   rotate_left
   ·show Act.put _ (some 74) _ = _
    simp only [Act.put,List.setIfInBounds_toArray,List.set_cons_zero,List.set_cons_succ,i64_w,i32_w]
    rfl
   refine pure_ (i:=13) (N:=some 75) (v:=?_) (a':=?_) #[true,true,true,true,true,true,true,true,true,true,true,true,true,true,false] rfl rfl (by kernel_rfl) (fun _ _ _ h=>h) (Or.inl ⟨by rfl,?_⟩) ?_ ?_
   rotate_left
   ·intro w'
    go_simp
    with_reducible rfl
   rotate_left
   ·simp only [Act.put,List.setIfInBounds_toArray,List.set_cons_zero,List.set_cons_succ,i64_w,i32_w]
    rfl
   refine pure_ (i:=14) (N:=some 5) (v:=?_) (a':=?_) #[true,true,true,true,true,true,true,true,true,true,true,true,true,true,true] rfl rfl (by kernel_rfl) (fun _ _ _ h=>h) (Or.inl ⟨by rfl,?_⟩) ?_ ?_
   rotate_left
   ·intro w'
    go_simp
    with_reducible rfl
   rotate_left
   ·simp only [Act.put,List.setIfInBounds_toArray,List.set_cons_zero,List.set_cons_succ,i64_w,i32_w]
    rfl
   refine done_ (by kernel_rfl) ?_
   have HSUM2:=HSUM
   obtain ⟨S,hS⟩ : ∃ S,(⟨#[72,79,82,78]⟩ : ByteArray) ++ s1 ++ s2 ++ s3 = S:=⟨_,rfl⟩
   rw [hS] at HSUM2 ⊢
   clear hS a1 a2 a3 HP1 HP2 HP3 HSUM hHeld z1 z2 z3
   go_wp2_with (fail)
   obtain ⟨w6,hw6⟩ : ∃ w6,w6 = w3:=⟨_,rfl⟩
   rw [← hw6] at S5 ⊢
   clear hw6
   go_loopw [6,5] (fun v6 v5 w'=>∃ (i : Nat) (s : ByteArray),i ≤ v.length ∧ v6 = .int .i64 i ∧ v5 = .string s ∧ s.size = 24 + 8 * i ∧ Aside0 (s = strOfNums (be 4 1213157966 ++ bytesC (gk k0 k1 k2 k3 k4 k5 k6) ++ be 4 (IntKind.u64.wrap r) ++ be 2 (IntKind.u64.wrap c) ++ fw (v.take i))) ∧ Aside0 (PS w w' k0 k1 k2 k3 k4 k5 k6 r c A9 A10 v.length c9 t.length c10)) (fun u _ _=>v.length - (intOf u).toNat)
   case atStart=>exact ⟨0,S,by omega,rfl,rfl,by rw [HSUM2.out];simp [strOf_size,be_len,bytesC_len],⟨by rw [HSUM2.out];simp [fw]⟩,S5⟩
   case round =>
    obtain ⟨i,s,hi,rfl,rfl,hsz,HSS,SI⟩:=hrel
    clear S5
    have q9:=SI.out.p.c9
    by_cases hlt : i < v.length
    ·have d0 : decide ((i : Int) < (v.length : Int)) = true:=decide_eq_true (by omega)
     obtain ⟨ad,ea,hx⟩:=Kd.at_int (Kd.C_below HR9.out SI.out.b) (i : Int) (by omega) (by omega)
     cases ea
     simp only [Int.toNat_natCast] at hx
     obtain ⟨y,hy⟩ : ∃ y,rd v (i : Int) = y:=⟨_,rfl⟩
     rw [hy] at hx
     have hyb : 0 ≤ y ∧ y < 18446744073709551616:=by rw [← hy,rd_nat v i hlt];exact HV.out _ (List.getElem_mem hlt)
     have htk : v.take (i + 1) = v.take i ++ [y]:=by rw [List.take_succ_eq_append_getElem hlt,← hy,rd_nat v i hlt]
     have HTK:=Aside0.mk htk
     obtain ⟨sy,hsy⟩ : ∃ sy,sy = strOfNums (be 8 y):=⟨_,rfl⟩
     have HPY:=Aside0.mk (show hornbeamref07_Put.f 20 y 8 = some sy from by rw [hsy];exact ref_put_f y 8 hyb.1 hyb.2 20 (by omega))
     have hzy : sy.size = 8:=by rw [hsy,strOf_size,be_len]
     have HSY:=Aside0.mk hsy
     clear hy htk hyb hsy
     go_wp2_with (fail)
     refine (hornbeamref07_Put.calls 20 y 8 sy _ HPY.out).mono ?_
     rintro e w8 ⟨rfl,hb⟩
     have S8:=Aside0.mk (SI.out.step hb)
     have b1 : s.size + sy.size ≤ 9223372036854775807:=by omega
     have HSN:=Aside0.mk (show s ++ sy = strOfNums (be 4 1213157966 ++ bytesC (gk k0 k1 k2 k3 k4 k5 k6) ++ be 4 (IntKind.u64.wrap r) ++ be 2 (IntKind.u64.wrap c) ++ fw (v.take (i + 1))) from by rw [HSS.out,HSY.out,cat,HTK.out,fw_snoc,List.append_assoc])
     have hzn : (s ++ sy).size = 24 + 8 * (i + 1):=by rw [ByteArray.size_append];omega
     have HZN:=Aside0.mk hzn
     clear hb SI HPY hx q9 HSS HTK HSY hzn
     go_wp2
     exact ⟨⟨i + 1,s ++ sy,by omega,by go_num,rfl,HZN.out,HSN,S8⟩,by simp [intOf];omega⟩
    ·have d0 : decide ((i : Int) < (v.length : Int)) = false:=decide_eq_false (by omega)
     have hvi : v.take i = v:=List.take_of_length_le (by omega)
     rw [hvi] at HSS
     have hszv : s.size = 24 + 8 * v.length:=by omega
     clear hvi hsz
     go_wp2_with (fail)
     clear q9 d0
     go_loopw [7,5] (fun v7 v5 w'=>∃ (n : Nat) (s : ByteArray),n ≤ t.length ∧ v7 = .int .i64 n ∧ v5 = .string s ∧ s.size = 24 + 8 * v.length + 8 * n ∧ Aside0 (s = strOfNums (be 4 1213157966 ++ bytesC (gk k0 k1 k2 k3 k4 k5 k6) ++ be 4 (IntKind.u64.wrap r) ++ be 2 (IntKind.u64.wrap c) ++ fw v ++ fw (u64s (t.take n)))) ∧ Aside0 (PS w w' k0 k1 k2 k3 k4 k5 k6 r c A9 A10 v.length c9 t.length c10)) (fun u _ _=>t.length - (intOf u).toNat)
     case atStart=>exact ⟨0,s,by omega,rfl,rfl,by omega,⟨by rw [HSS.out];simp [fw,u64s]⟩,SI⟩
     case round =>
      clear hszv HSS SI
      obtain ⟨n,s,hn,rfl,rfl,hsz,HSS,SJ⟩:=hrel
      have q10:=SJ.out.p.c10
      by_cases hlt : n < t.length
      ·have d0 : decide ((n : Int) < (t.length : Int)) = true:=decide_eq_true (by omega)
       obtain ⟨ad,ea,hx⟩:=Kd.at_int (Kd.C_below HR10.out SJ.out.b) (n : Int) (by omega) (by omega)
       cases ea
       simp only [Int.toNat_natCast] at hx
       obtain ⟨y,hy⟩ : ∃ y,rd t (n : Int) = y:=⟨_,rfl⟩
       rw [hy] at hx
       have htk : t.take (n + 1) = t.take n ++ [y]:=by rw [List.take_succ_eq_append_getElem hlt,← hy,rd_nat t n hlt]
       have HTK:=Aside0.mk htk
       have hyb : 0 ≤ IntKind.u64.wrap y ∧ IntKind.u64.wrap y < 18446744073709551616:=by
        simp only [IntKind.wrap,IntKind.bits,IntKind.signed]
        simp
        omega
       obtain ⟨sy,hsy⟩ : ∃ sy,sy = strOfNums (be 8 (IntKind.u64.wrap y)):=⟨_,rfl⟩
       have HPY:=Aside0.mk (show hornbeamref07_Put.f 20 (IntKind.u64.wrap y) 8 = some sy from by rw [hsy];exact ref_put_f _ 8 hyb.1 hyb.2 20 (by omega))
       have hzy : sy.size = 8:=by rw [hsy,strOf_size,be_len]
       have HSY:=Aside0.mk hsy
       clear hy htk hyb hsy
       go_wp2_with (fail)
       refine (hornbeamref07_Put.calls 20 (IntKind.u64.wrap y) 8 sy _ HPY.out).mono ?_
       rintro e w8 ⟨rfl,hb⟩
       have S8:=Aside0.mk (SJ.out.step hb)
       have b1 : s.size + sy.size ≤ 9223372036854775807:=by omega
       have HSN:=Aside0.mk (show s ++ sy = strOfNums (be 4 1213157966 ++ bytesC (gk k0 k1 k2 k3 k4 k5 k6) ++ be 4 (IntKind.u64.wrap r) ++ be 2 (IntKind.u64.wrap c) ++ fw v ++ fw (u64s (t.take (n + 1)))) from by rw [HSS.out,HSY.out,cat,HTK.out,show u64s (t.take n ++ [y]) = u64s (t.take n) ++ [IntKind.u64.wrap y] by simp [u64s],fw_snoc,List.append_assoc])
       have hzn : (s ++ sy).size = 24 + 8 * v.length + 8 * (n + 1):=by rw [ByteArray.size_append];omega
       have HZN:=Aside0.mk hzn
       clear hb SJ HPY hx q10 HSS HTK HSY hzn
       go_wp2
       exact ⟨⟨n + 1,s ++ sy,by omega,by go_num,rfl,HZN.out,HSN,S8⟩,by simp [intOf];omega⟩
      ·have d0 : decide ((n : Int) < (t.length : Int)) = false:=decide_eq_false (by omega)
       have htn : t.take n = t:=List.take_of_length_le (by omega)
       rw [htn] at HSS
       have hse : s = strOfNums (whole (gk k0 k1 k2 k3 k4 k5 k6) r c v t):=HSS.out
       have HSE:=Aside0.mk hse
       have hwl : (whole (gk k0 k1 k2 k3 k4 k5 k6) r c v t).length ≤ 1000000:=by rw [whole_len];omega
       have HWL:=Aside0.mk hwl
       clear htn HSS hsz hse hwl
       go_wp2_with (fail)
       have G:=FRefGet.get_calls (whole (gk k0 k1 k2 k3 k4 k5 k6) r c v t) (whole_byte _ r c v t) HWL.out wr
       rw [← HSE.out] at G
       refine G.mono ?_
       rintro e w9 ⟨av,tv,rfl,hU,hT,hb⟩
       have S9:=Aside0.mk (SJ.out.step hb)
       obtain ⟨gc,hgc⟩ : ∃ gc,(getR cl (whole (gk k0 k1 k2 k3 k4 k5 k6) r c v t)).2 = gc:=⟨_,rfl⟩
       have HRPF:=Aside0.mk (show rputR (gk k0 k1 k2 k3 k4 k5 k6) r c v t = if gc ≠ 0 then ([],gc) else (whole (gk k0 k1 k2 k3 k4 k5 k6) r c v t,0) from by rw [← hgc];exact HRP3.out)
       rw [hgc]
       clear hb hU hT SJ G HWL HRP3 q10 d0 hgc
       by_cases hg0 : gc = 0
       ·subst hg0
        have HF:=Aside0.mk (show rputR (gk k0 k1 k2 k3 k4 k5 k6) r c v t = (whole (gk k0 k1 k2 k3 k4 k5 k6) r c v t,0) from HRPF.out.trans (if_neg (fun h=>h rfl)))
        clear HRPF
        go_wp2
        go_ret2
        rw [HF.out,HSE.out]
        exact ⟨rfl,S9.out.b⟩
       ·have dg : (gc != 0) = true:=bne_iff_ne.2 hg0
        have HF:=Aside0.mk (show rputR (gk k0 k1 k2 k3 k4 k5 k6) r c v t = ([],gc) from HRPF.out.trans (if_pos hg0))
        clear HRPF hg0
        go_wp2
        go_ret2
        rw [HF.out]
        exact ⟨rfl,S9.out.b⟩
 ·have e7 : (ck != 0) = true:=bne_iff_ne.2 h7
  have HRP1:=Aside0.mk (show rputR (gk k0 k1 k2 k3 k4 k5 k6) r c v t = ([],ck) from (HRP0.out.trans (if_pos (by rw [HCE.out];exact h7))).trans (by rw [HCE.out]))
  clear h7 HRP0
  go_wp2
  go_ret2
  rw [HRP1.out]
  exact ⟨rfl,S1.out.b⟩
end Go.Proofs.Ytnagfbadjbkhmaa.FRefPut

namespace Go.Proofs.Ytnagfbadjbkhmaa.PureRefPut
open Go.RowKit Go.Shelf Go.Proofs.YtnagfbadjbkhmaaW.PrintWords Go.Proofs.YtnagfbadjbkhmaaW.PrintLast Go.Proofs.YtnagfbadjbkhmaaW.PrintMore Go.Proofs.Ytnagfbadjbkhmaa.Pure Go.Proofs.Ytnagfbadjbkhmaa.PA Go.Proofs.Ytnagfbadjbkhmaa.FTake Go.Proofs.Ytnagfbadjbkhmaa.FTarget Go.Proofs.Ytnagfbadjbkhmaa.PureVal Go.Proofs.Ytnagfbadjbkhmaa.FConfD Go.Proofs.Ytnagfbadjbkhmaa.PureDataGet Go.Proofs.Ytnagfbadjbkhmaa.PureDataParts Go.Proofs.Ytnagfbadjbkhmaa.FData09 Go.Proofs.Ytnagfbadjbkhmaa.FDataPut Go.Proofs.Ytnagfbadjbkhmaa.FDataGet Go.Proofs.Ytnagfbadjbkhmaa.PureDataPut Go.Proofs.Ytnagfbadjbkhmaa.FRefPut
open Go.Proofs.Ytnagfbadjbkhmaa.PureTake (be be_len u64_wrap)
open Go.Proofs.Ytnagfbadjbkhmaa.FConfGet (chk)
set_option linter.unusedVariables false
set_option linter.unusedSimpArgs false
theorem values_res : ∀ (vs : List Nat) (out : List Nat) (rest bs : List Int),(∀ x ∈ vs,x < 18446744073709551616) → values cl vs.length out (fv vs ++ rest) = (match vbs cl vs bs with|.error e=>.error e|.ok _=>.ok (out ++ vs,rest))
 | [],out,rest,bs,_=>by
  show Except.ok (out,[] ++ rest) = Except.ok (out ++ [],rest)
  simp
 | x :: l,out,rest,bs,h=>by
  have h2:=h x (by simp)
  have hn : number 8 (fv (x :: l) ++ rest) = .ok (Flt.ubits x,fv l ++ rest):=by
   have:=num_be 8 (Flt.ubits x) (by unfold Flt.ubits;omega) 8 rfl (by omega) (fv l ++ rest)
   rw [p8,Int.emod_eq_of_lt (by unfold Flt.ubits;omega) (by unfold Flt.ubits;omega)] at this
   rw [← this];simp [fv]
  have hb : Flt.fbits (Flt.ubits x) = x:=by unfold Flt.fbits Flt.ubits;omega
  refine (seq_ok hn).trans ?_
  rw [hb]
  unfold vbs
  by_cases hc : cl x = true
  ·rw [if_pos hc]
   refine (guard_neg (by rw [hc];simp)).trans ?_
   rw [values_res l _ rest (bs ++ be 8 (Flt.ubits x)) (fun y hy=>h y (by simp [hy]))]
   cases vbs cl l (bs ++ be 8 (Flt.ubits x)) with
   | error e=>rfl
   | ok b=>simp
  ·rw [if_neg hc]
   exact guard_pos (by simpa using hc)
theorem targets_res (k0 k1 : Int) : ∀ (ts : List Int) (out : List Int) (rest bs : List Int),(∀ x ∈ ts,-9223372036854775808 ≤ x ∧ x ≤ 9223372036854775807) → targets k0 k1 ts.length out (ft ts ++ rest) = (match tbs k0 k1 ts bs with|.error e=>.error e|.ok _=>.ok (out ++ ts,rest))
 | [],out,rest,bs,_=>by
  show Except.ok (out,[] ++ rest) = Except.ok (out ++ [],rest)
  simp
 | x :: l,out,rest,bs,h=>by
  obtain ⟨h2,h3⟩:=h x (by simp)
  have hu : 0 ≤ IntKind.u64.wrap x ∧ IntKind.u64.wrap x < 18446744073709551616 ∧ wrap64 (IntKind.u64.wrap x) = x:=by
   simp only [IntKind.wrap,IntKind.bits,IntKind.signed,wrap64]
   simp
   omega
  have hn : number 8 (ft (x :: l) ++ rest) = .ok (IntKind.u64.wrap x,ft l ++ rest):=by
   have:=num_be 8 (IntKind.u64.wrap x) hu.1 8 rfl (by omega) (ft l ++ rest)
   rw [p8,Int.emod_eq_of_lt hu.1 hu.2.1] at this
   rw [← this];simp [ft]
  refine (seq_ok hn).trans ?_
  rw [hu.2.2]
  unfold tbs
  by_cases hc : may k0 k1 x = 0
  ·rw [if_pos hc]
   refine (guard_neg (fun h=>h hc)).trans ?_
   rw [targets_res k0 k1 l _ rest (bs ++ be 8 (IntKind.u64.wrap x)) (fun y hy=>h y (by simp [hy]))]
   cases tbs k0 k1 l (bs ++ be 8 (IntKind.u64.wrap x)) with
   | error e=>rfl
   | ok b=>simp
  ·rw [if_neg hc]
   exact guard_pos hc
theorem count_zero (m : Nat) (k : Int) (hk : FTake.cnt k = m) (h8 : m ≤ 4) (most : Int) (rest : List Int) : count k most (be m (IntKind.u64.wrap 0) ++ rest) = .error 3:=by
 have hn:=num_be k 0 (by omega) m hk (by omega) rest
 rw [Int.zero_emod] at hn
 rw [show IntKind.u64.wrap 0 = 0 by decide]
 exact (seq_ok hn).trans (guard_pos rfl)
section
variable (k0 k1 k2 k3 k4 k5 k6 r c : Int) (v t : List Int)
theorem whole_eq (hv : ∀ y ∈ v,0 ≤ y ∧ y < 18446744073709551616) (hc : chk (gk k0 k1 k2 k3 k4 k5 k6) = 0) : whole (gk k0 k1 k2 k3 k4 k5 k6) r c v t = headB (gk k0 k1 k2 k3 k4 k5 k6) r c ++ fv (v.map Flt.fbits) ++ ft t:=by
 have e1 : fv (v.map Flt.fbits) = fw v:=by
  unfold fv fw
  rw [List.map_map]
  congr 1
  refine List.map_congr_left fun y hy=>?_
  have:=hv y hy
  show be 8 (Flt.ubits (Flt.fbits y)) = be 8 y
  rw [show Flt.ubits (Flt.fbits y) = y by unfold Flt.ubits Flt.fbits;omega]
 have e2 : ft t = fw (u64s t):=by
  unfold ft fw u64s
  rw [List.map_map];rfl
 unfold whole headB
 rw [if_pos hc,e1,e2]
theorem put_same (hl : v.length ≤ 500) (ht : t.length ≤ 200) (hv : ∀ y ∈ v,0 ≤ y ∧ y < 18446744073709551616) (htw : ∀ y ∈ t,-9223372036854775808 ≤ y ∧ y ≤ 9223372036854775807) :
  putD k0 k1 k2 k3 k4 k5 k6 r c (v.map Flt.fbits) t = rputR (gk k0 k1 k2 k3 k4 k5 k6) r c v t:=by
 have hlen : (v.map Flt.fbits).length = v.length:=List.length_map _
 unfold putD putR rputR
 by_cases hs : shp r c (v.map Flt.fbits).length = true ∧ (t.length : Int) = r
 ·rw [if_pos hs]
  obtain ⟨hs1,hs2⟩:=hs
  have hs3:=hs1
  simp only [shp,Bool.and_eq_true,decide_eq_true_eq,hlen] at hs3
  obtain ⟨⟨⟨⟨a1,a2⟩,a3⟩,a4⟩,a5⟩:=hs3
  have hrc:=(shp_is hs1).2.2.2.2
  rw [hlen] at hrc
  have hA : ¬ (r < 0 ∨ r > 16777216 ∨ c < 0 ∨ c > 16777216 ∨ (v.length : Int) ≠ wrap64 (r * c) ∨ (t.length : Int) ≠ r):=by
   rintro (h|h|h|h|h|h)
   ·omega
   ·omega
   ·omega
   ·omega
   ·exact h a5
   ·exact h hs2
  rw [if_neg hA]
  by_cases hc : chk (gk k0 k1 k2 k3 k4 k5 k6) = 0
  ·have hB : ¬ (chk (gk k0 k1 k2 k3 k4 k5 k6) ≠ 0):=fun h=>h hc
   have hD : ¬ (r > 1048576):=by omega
   rw [if_neg hB,if_neg hB,if_neg hD]
   rw [whole_eq k0 k1 k2 k3 k4 k5 k6 r c v t hv hc]
   have hvs : ∀ x ∈ v.map Flt.fbits,x < 18446744073709551616:=by
    intro x hx
    obtain ⟨y,hy,rfl⟩:=List.mem_map.1 hx
    have:=hv y hy
    unfold Flt.fbits;omega
   obtain ⟨L,hL⟩ : ∃ L,headB (gk k0 k1 k2 k3 k4 k5 k6) r c ++ fv (v.map Flt.fbits) ++ ft t = L:=⟨_,rfl⟩
   have hhead : L = be 4 1213157966 ++ (bytesC (gk k0 k1 k2 k3 k4 k5 k6) ++ (be 4 (IntKind.u64.wrap r) ++ (be 2 (IntKind.u64.wrap c) ++ (fv (v.map Flt.fbits) ++ ft t)))):=by
    rw [← hL];unfold headB;rw [if_pos hc];simp only [List.append_assoc]
   have hn1:=num_be 4 1213157966 (by omega) 4 rfl (by omega) (bytesC (gk k0 k1 k2 k3 k4 k5 k6) ++ (be 4 (IntKind.u64.wrap r) ++ (be 2 (IntKind.u64.wrap c) ++ (fv (v.map Flt.fbits) ++ ft t))))
   rw [show (1213157966 : Int) % 256 ^ 4 = 1213157966 by decide,← hhead] at hn1
   have G1 : get cl L = _:=(show get cl L = _ from seq_ok hn1).trans (guard_neg (fun h=>h rfl))
   have G2:=G1.trans (seq_ok (conf_back (gk k0 k1 k2 k3 k4 k5 k6) hc _))
   rw [hL]
   by_cases hr : r = 0
   ·subst hr
    have hcn : cnts 0 c ≠ 0:=by unfold cnts;rw [if_pos rfl];decide
    rw [if_pos hcn,if_neg (show ¬ ((0 : Int) > 0 ∧ c > 1024) by omega)]
    have G3:=G2.trans (seq_err (count_zero 4 4 rfl (by omega) 1048576 _))
    rw [getR_err G3,if_pos (by decide)]
    rfl
   ·have G3:=G2.trans (seq_ok (count_back 4 4 rfl (by omega) 1048576 r (by omega) (by omega) (by decide) _))
    by_cases hc0 : c = 0
    ·subst hc0
     have hcn : cnts r 0 = 3:=by unfold cnts;rw [if_neg hr,if_neg (by omega),if_pos rfl]
     rw [hcn,if_pos (show (3 : Int) ≠ 0 by decide),if_neg (show ¬ (r > 0 ∧ (0 : Int) > 1024) by omega)]
     have G4:=G3.trans (seq_err (count_zero 2 2 rfl (by omega) 1024 _))
     rw [getR_err G4,if_pos (by decide)]
    ·by_cases hc1 : c > 1024
     ·have hcn : cnts r c = 4:=by unfold cnts;rw [if_neg hr,if_neg (by omega),if_neg hc0,if_pos hc1]
      rw [hcn,if_pos (by decide),if_pos ⟨by omega,hc1⟩]
     ·have hcn : cnts r c = 0:=by unfold cnts;rw [if_neg hr,if_neg (by omega),if_neg hc0,if_neg hc1,if_neg (by rw [← a5];omega)]
      rw [hcn,if_neg (show ¬ ((0 : Int) ≠ 0) by decide),if_neg (show ¬ (r > 0 ∧ c > 1024) by omega)]
      have G4:=(G3.trans (seq_ok (count_back 2 2 rfl (by omega) 1024 c (by omega) (by omega) (by decide) _))).trans (guard_neg (by omega))
      have e1 : (r * c).toNat = (v.map Flt.fbits).length:=by rw [hlen];omega
      have e2 : r.toNat = t.length:=by omega
      rw [e1,e2] at G4
      have V:=values_res (v.map Flt.fbits) [] (ft t) (headB (gk k0 k1 k2 k3 k4 k5 k6) r c) hvs
      cases hb : vbs cl (v.map Flt.fbits) (headB (gk k0 k1 k2 k3 k4 k5 k6) r c) with
      | error e =>
       rw [hb] at V
       have G5:=G4.trans (seq_err V)
       rw [getR_err G5,if_pos (vbs_ne _ _ e hb)]
      | ok b1 =>
       rw [hb] at V
       have G5:=G4.trans (seq_ok V)
       have T:=targets_res k0 k1 t [] [] b1 htw
       rw [List.append_nil] at T
       simp only
       cases hb2 : tbs k0 k1 t b1 with
       | error e =>
        rw [hb2] at T
        have G6:=G5.trans (seq_err T)
        rw [getR_err G6,if_pos (tbs_ne _ _ _ _ e hb2)]
       | ok b2 =>
        rw [hb2] at T
        have G6 : get cl L = .ok (_,[]):=G5.trans (seq_ok T)
        rw [getR_whole G6 (by simp)]
        rw [if_neg (fun h=>h rfl)]
        obtain ⟨f1,_⟩:=vbs_ok _ _ _ hb
        obtain ⟨f2,_⟩:=tbs_ok _ _ _ _ _ hb2
        rw [f2,f1,hL]
  ·rw [if_pos hc,if_pos hc]
 ·have hA : r < 0 ∨ r > 16777216 ∨ c < 0 ∨ c > 16777216 ∨ (v.length : Int) ≠ wrap64 (r * c) ∨ (t.length : Int) ≠ r:=by
   simp only [shp,Bool.and_eq_true,decide_eq_true_eq,hlen] at hs
   by_cases b1 : (v.length : Int) = wrap64 (r * c)
   ·by_cases b2 : (t.length : Int) = r
    ·have b3 : ¬ (((0 ≤ r ∧ r ≤ 16777216) ∧ 0 ≤ c) ∧ c ≤ 16777216):=fun h=>hs ⟨⟨h,b1⟩,b2⟩
     omega
    ·exact .inr (.inr (.inr (.inr (.inr b2))))
   ·exact .inr (.inr (.inr (.inr (.inl b1))))
  rw [if_neg hs,if_pos hA]
end
end Go.Proofs.Ytnagfbadjbkhmaa.PureRefPut

namespace Go.Proofs.Ytnagfbadjbkhmaa.FDatasetPuts
open Go.RowKit Go.Shelf Go.Proofs.YtnagfbadjbkhmaaW.PrintWords Go.Proofs.YtnagfbadjbkhmaaW.PrintLast Go.Proofs.YtnagfbadjbkhmaaW.PrintMore Go.Proofs.Ytnagfbadjbkhmaa.Pure Go.Proofs.Ytnagfbadjbkhmaa.PA Go.Proofs.Ytnagfbadjbkhmaa.FTake Go.Proofs.Ytnagfbadjbkhmaa.FTarget Go.Proofs.Ytnagfbadjbkhmaa.FConfD Go.Proofs.Ytnagfbadjbkhmaa.PureDataGet Go.Proofs.Ytnagfbadjbkhmaa.PureDataParts Go.Proofs.Ytnagfbadjbkhmaa.FData09 Go.Proofs.Ytnagfbadjbkhmaa.FDataPut Go.Proofs.Ytnagfbadjbkhmaa.FDataGet Go.Proofs.Ytnagfbadjbkhmaa.PureDataPut Go.Proofs.Ytnagfbadjbkhmaa.FRefPut Go.Proofs.Ytnagfbadjbkhmaa.PureRefPut
open Go.Proofs.Ytnagfbadjbkhmaa.FDataOf (Pl)
open Go.Proofs.Ytnagfbadjbkhmaa.FConfGet (chk)
set_option linter.unusedVariables false
set_option linter.unusedSimpArgs false
structure PS (w W : World) (k0 k1 k2 k3 k4 k5 k6 r c : Int) (A9 A10 : Option Addr) (v9 c9 t10 c10 : Nat) : Prop where
 p : Pl W w.heap.size k0 k1 k2 k3 k4 k5 k6 r c (.slice A9 v9 c9) A10 t10 c10
 b : Below w.heap.size w W
theorem PS.step {w W W' : World} {k0 k1 k2 k3 k4 k5 k6 r c : Int} {A9 A10 : Option Addr} {v9 c9 t10 c10 : Nat} (h : PS w W k0 k1 k2 k3 k4 k5 k6 r c A9 A10 v9 c9 t10 c10) (hb : Below W.heap.size W W') : PS w W' k0 k1 k2 k3 k4 k5 k6 r c A9 A10 v9 c9 t10 c10:=⟨blk_below h.p hb,below_step h.b hb⟩
set_option maxHeartbeats 8000000 in
set_option maxRecDepth 100000 in
theorem law_calls (k0 k1 k2 k3 k4 k5 k6 r c : Int) (A9 A10 : Option Addr) (c9 c10 : Nat) (v t : List Int) (w : World) (hr9 : Kd.C (Kd.int .u64) w A9 v.length v) (hc9 : v.length ≤ c9) (hr10 : Kd.C (Kd.int .i64) w A10 t.length t) (hc10 : t.length ≤ c10) (hv : ∀ y ∈ v,(Lit.int .u64 y).wf = true) (ht : ∀ y ∈ t,(Lit.int .i64 y).wf = true) :
  Calls Try.prog 4 #[.agg #[.int .i64 k0,.int .i64 k1,.int .i64 k2,.int .i64 k3,.int .i64 k4,.int .i64 k5,.int .i64 k6,.int .i64 r,.int .i64 c,.slice A9 v.length c9,.slice A10 t.length c10]] w fun e w'=>e = .returned (.bool true) ∧ Below w.heap.size w w':=by
 have hu:=Try.underlying32
 have hu2:=Try.underlying23
 have hu3:=Try.underlying27
 have HR9:=Aside0.mk hr9
 have HC9:=Aside0.mk hc9
 have HR10:=Aside0.mk hr10
 have HC10:=Aside0.mk hc10
 have HV:=Aside0.mk hv
 have HT:=Aside0.mk ht
 obtain ⟨W0,hW0⟩ : ∃ W0,w.alloc (.cells #[.int .i64 k0,.int .i64 k1,.int .i64 k2,.int .i64 k3,.int .i64 k4,.int .i64 k5,.int .i64 k6,.int .i64 r,.int .i64 c,.slice A9 v.length c9,.slice A10 t.length c10] 27) = W0:=⟨_,rfl⟩
 have S0:=Aside0.mk (show PS w W0 k0 k1 k2 k3 k4 k5 k6 r c A9 A10 v.length c9 t.length c10 from by rw [← hW0];exact ⟨blk_new w _,below_alloc (Below.refl _ w) _⟩)
 have HW0:=Aside0.mk hW0
 clear hr9 hc9 hr10 hc10 hv ht hW0
 by_cases hg : (decide (500 < v.length) || decide (200 < t.length)) = true
 ·have HG:=Aside0.mk (show hornbeamlaw09_Great.f k0 k1 k2 k3 k4 k5 k6 r c v t = some true from by rw [great_f,hg])
  clear hg
  go_enter Try.func4,Try.ntmps4
  go_wp2_with (fail)
  rw [HW0.out]
  refine (hornbeamlaw09_Great.calls k0 k1 k2 k3 k4 k5 k6 r c A9 c9 v A10 c10 t true _ (Kd.C_below HR9.out S0.out.b) HC9.out (Kd.C_below HR10.out S0.out.b) HC10.out HG.out).mono ?_
  rintro e w1 ⟨rfl,hb⟩
  have S1:=Aside0.mk (S0.out.step hb)
  clear hb S0 HG HW0
  go_wp2_with (fail)
  refine (FData09.fixed_calls _).mono ?_
  rintro e w2 ⟨rfl,hb⟩
  have S2:=Aside0.mk (S1.out.step hb)
  clear hb S1
  go_wp2
  go_ret
  exact ⟨rfl,S2.out.b⟩
 ·have hl : v.length ≤ 500:=by simp at hg;omega
  have ht : t.length ≤ 200:=by simp at hg;omega
  have HG:=Aside0.mk (show hornbeamlaw09_Great.f k0 k1 k2 k3 k4 k5 k6 r c v t = some false from by rw [great_f];congr 1;exact Bool.eq_false_iff.mpr hg)
  have HL:=Aside0.mk (And.intro hl ht)
  clear hg hl ht
  go_enter Try.func4,Try.ntmps4
  go_wp2_with (fail)
  rw [HW0.out]
  refine (hornbeamlaw09_Great.calls k0 k1 k2 k3 k4 k5 k6 r c A9 c9 v A10 c10 t false _ (Kd.C_below HR9.out S0.out.b) HC9.out (Kd.C_below HR10.out S0.out.b) HC10.out HG.out).mono ?_
  rintro e w1 ⟨rfl,hb⟩
  have S1:=Aside0.mk (S0.out.step hb)
  clear hb S0 HG HW0
  have p0:=S1.out.p.c0
  have p1:=S1.out.p.c1
  have p2:=S1.out.p.c2
  have p3:=S1.out.p.c3
  have p4:=S1.out.p.c4
  have p5:=S1.out.p.c5
  have p6:=S1.out.p.c6
  have p7:=S1.out.p.c7
  have p8:=S1.out.p.c8
  have p9:=S1.out.p.c9
  have p10:=S1.out.p.c10
  go_wp2_with (fail)
  clear p0 p1 p2 p3 p4 p5 p6 p7 p8 p9 p10
  obtain ⟨vs,hvs⟩ : ∃ vs,vs = v.map Flt.fbits:=⟨_,rfl⟩
  have hvl : vs.length = v.length:=by rw [hvs,List.length_map]
  have HVS:=Aside0.mk hvs
  have HF:=Aside0.mk (show hornbeamref09_Plain_Full.f 600 k0 k1 k2 k3 k4 k5 k6 r c v t = some (k0,k1,k2,k3,k4,k5,k6,r,c,vs,t) from by rw [hvs];exact full_f k0 k1 k2 k3 k4 k5 k6 r c v t 600 (by have:=HL.out;omega) (by have:=HL.out;omega) (by have:=HL.out;omega))
  have HVV:=Aside0.mk hvl
  clear hvs hvl
  refine (hornbeamref09_Plain_Full.calls 600 k0 k1 k2 k3 k4 k5 k6 r c A9 c9 v A10 c10 t k0 k1 k2 k3 k4 k5 k6 r c vs t _ (Kd.C_below HR9.out S1.out.b) HC9.out (Kd.C_below HR10.out S1.out.b) HC10.out HF.out).mono ?_
  rintro e w2 ⟨u9,u10,rfl,hR9,hR10,hb⟩
  obtain ⟨Av,cv,rfl,hcv,hCv⟩:=Kd.R_reads hR9
  obtain ⟨At,ct,rfl,hct,hCt⟩:=Kd.R_reads hR10
  have S2:=Aside0.mk (S1.out.step hb)
  have HCV:=Aside0.mk (And.intro hcv hCv)
  have HCT:=Aside0.mk (And.intro hct hCt)
  clear hR9 hR10 hcv hCv hct hCt hb S1 HF
  go_wp2_with (fail)
  have hput:=put_calls cl cl_some k0 k1 k2 k3 k4 k5 k6 r c Av At cv ct vs t (shp r c vs.length) (chk (gk k0 k1 k2 k3 k4 k5 k6)) (cnts r c) (headB (gk k0 k1 k2 k3 k4 k5 k6) r c) w2 HCV.out.2 HCV.out.1 HCT.out.2 HCT.out.1 (by have:=HVV.out;have:=HL.out;omega) (by have:=HL.out;omega)
   (shaped_f k0 k1 k2 k3 k4 k5 k6 r c vs t) (check_f (gk k0 k1 k2 k3 k4 k5 k6) 20 (by omega)) (counts_f k0 k1 k2 k3 k4 k5 k6 r c vs t) (if chk (gk k0 k1 k2 k3 k4 k5 k6) = 0 then PureTake.be 4 1213157966 ++ bytesC (gk k0 k1 k2 k3 k4 k5 k6) else PureTake.be 4 1213157966) (put_c (gk k0 k1 k2 k3 k4 k5 k6) (PureTake.be 4 1213157966) (by simp [PureTake.be_len]) 40 (by omega)) rfl (by split <;> simp [PureTake.be_len,bytesC_len])
  have HVB:=Aside0.mk (show ∀ y ∈ v,0 ≤ y ∧ y < 18446744073709551616 from fun y hy=>by have:=wf_u64 (HV.out y hy);omega)
  have HTB:=Aside0.mk (show ∀ y ∈ t,-9223372036854775808 ≤ y ∧ y ≤ 9223372036854775807 from fun y hy=>wf_i64 (HT.out y hy))
  obtain ⟨Q,hQ⟩ : ∃ Q,putD k0 k1 k2 k3 k4 k5 k6 r c vs t = Q:=⟨_,rfl⟩
  have hQ2 : rputR (gk k0 k1 k2 k3 k4 k5 k6) r c v t = Q:=by rw [← hQ,HVS.out];exact (put_same k0 k1 k2 k3 k4 k5 k6 r c v t HL.out.1 HL.out.2 HVB.out HTB.out).symm
  rw [show putR cl k0 k1 (shp r c vs.length) (chk (gk k0 k1 k2 k3 k4 k5 k6)) (cnts r c) r vs t (headB (gk k0 k1 k2 k3 k4 k5 k6) r c) = Q from hQ] at hput
  obtain ⟨L,code⟩:=Q
  have HPUT:=Aside0.mk hput
  have HQ:=Aside0.mk hQ
  have HQ2:=Aside0.mk hQ2
  clear hput hQ hQ2
  refine HPUT.out.mono ?_
  rintro e w3 ⟨A,cc,rfl,hcc,hC,hb⟩
  simp only at hcc hC ⊢
  have S3:=Aside0.mk (S2.out.step hb)
  have HCC:=Aside0.mk (And.intro hcc hC)
  clear hb hcc hC HPUT S2 HCV HCT
  have p0:=S3.out.p.c0
  have p1:=S3.out.p.c1
  have p2:=S3.out.p.c2
  have p3:=S3.out.p.c3
  have p4:=S3.out.p.c4
  have p5:=S3.out.p.c5
  have p6:=S3.out.p.c6
  have p7:=S3.out.p.c7
  have p8:=S3.out.p.c8
  have p9:=S3.out.p.c9
  have p10:=S3.out.p.c10
  go_wp2_with (fail)
  clear p0 p1 p2 p3 p4 p5 p6 p7 p8 p9 p10
  have hrp:=FRefPut.put_calls k0 k1 k2 k3 k4 k5 k6 r c A9 A10 c9 c10 v t w3 (Kd.C_below HR9.out S3.out.b) HC9.out (Kd.C_below HR10.out S3.out.b) HC10.out HL.out.1 HL.out.2 HVB.out
  rw [HQ2.out] at hrp
  refine hrp.mono ?_
  clear hrp
  rintro e w4 ⟨rfl,hb⟩
  simp only
  have S4:=Aside0.mk (S3.out.step hb)
  have HC4:=Aside0.mk (Kd.C_below HCC.out.2 hb)
  clear hb S3
  have hst:=Kd.C_string (P:=Try.prog) (A:=A) (c:=cc) Try.underlying42 Try.underlying5 Try.underlying9 HC4.out
  have dcc : (code != code) = false:=by simp
  by_cases h0 : code = 0
  ·subst h0
   have hlL : L.length ≤ 1000000:=by
    have h1:=(putD_ok k0 k1 k2 k3 k4 k5 k6 r c vs t (by rw [HQ.out])).2.2.2.2.2.2
    rw [HQ.out] at h1
    have h2 : L = _:=h1
    have hL1:=HL.out
    have hL2:=HVV.out
    have h3 : rputR (gk k0 k1 k2 k3 k4 k5 k6) r c v t = (L,0):=HQ2.out
    have h4 : L = whole (gk k0 k1 k2 k3 k4 k5 k6) r c v t ∨ L = []:=by
     unfold rputR at h3
     repeat' split at h3
     all_goals first|(right;exact (congrArg Prod.fst h3).symm)|(left;exact (congrArg Prod.fst h3).symm)
    rcases h4 with h4|h4
    ·rw [h4,whole_len];omega
    ·rw [h4];simp
   have HBY:=Aside0.mk (show ∀ y ∈ L,0 ≤ y ∧ y < 256 from by
    have h3 : rputR (gk k0 k1 k2 k3 k4 k5 k6) r c v t = (L,0):=HQ2.out
    have h4 : L = whole (gk k0 k1 k2 k3 k4 k5 k6) r c v t ∨ L = []:=by
     unfold rputR at h3
     repeat' split at h3
     all_goals first|(right;exact (congrArg Prod.fst h3).symm)|(left;exact (congrArg Prod.fst h3).symm)
    rcases h4 with h4|h4
    ·rw [h4];exact whole_byte _ _ _ _ _
    ·rw [h4];simp)
   have HLL:=Aside0.mk hlL
   have HGET:=Aside0.mk (show get cl L = .ok (⟨[k0,k1,k2,k3,k4,k5,k6],r,c,vs,t⟩,[]) from by
    have h1:=put_get k0 k1 k2 k3 k4 k5 k6 r c vs t (by rw [HQ.out]) (fun y hy=>by
     rw [HVS.out] at hy
     obtain ⟨z,hz,rfl⟩:=List.mem_map.1 hy
     have:=HVB.out z hz
     unfold Flt.fbits;omega) HTB.out
    rw [HQ.out] at h1
    exact h1)
   clear hlL
   go_wp2_with (fail)
   clear hst dcc
   have G1:=dget_calls A cc L w4 HC4.out HCC.out.1 HBY.out HLL.out
   rw [getR_whole HGET.out (by simp)] at G1
   have G1' : Calls Try.prog 23 #[.slice A L.length cc] w4 fun e w'=>∃ av tv,e = .returned (.tuple #[.agg #[.int .i64 k0,.int .i64 k1,.int .i64 k2,.int .i64 k3,.int .i64 k4,.int .i64 k5,.int .i64 k6,.int .i64 r,.int .i64 c,av,tv],.int .i64 0]) ∧ VR w4.heap.size w' av vs ∧ TR w4.heap.size w' tv t ∧ Below w4.heap.size w4 w':=G1
   refine G1'.mono ?_
   clear G1 G1'
   rintro e w5 ⟨av,tv,rfl,hV,hTs,hb⟩
   obtain ⟨A4,c4,rfl,hc4,hC4⟩:=Kd.R_reads hV
   obtain ⟨A5,c5,rfl,hc5,hC5⟩:=Kd.R_reads hTs
   have S5:=Aside0.mk (S4.out.step hb)
   have HV5:=Aside0.mk (And.intro hc4 hC4)
   have HT5:=Aside0.mk (And.intro hc5 hC5)
   clear hb hV hTs hc4 hC4 hc5 hC5 S4 HC4 HCC
   go_upto_region 10 with (fail)
   obtain ⟨g7,hg7⟩ : ∃ g7,w5.heap.size = g7:=⟨_,rfl⟩
   obtain ⟨W6,hW6⟩ : ∃ W6,w5.alloc (.cells #[.int .i64 k0,.int .i64 k1,.int .i64 k2,.int .i64 k3,.int .i64 k4,.int .i64 k5,.int .i64 k6,.int .i64 r,.int .i64 c,.slice A4 vs.length c4,.slice A5 t.length c5] 32) = W6:=⟨_,rfl⟩
   have D6:=Aside0.mk (show Dat W6 g7 k0 k1 k2 k3 k4 k5 k6 r c A4 A5 vs.length c4 t.length c5 from by rw [← hW6,← hg7];exact blk_new w5 _)
   have S6:=Aside0.mk (show PS w W6 k0 k1 k2 k3 k4 k5 k6 r c A9 A10 v.length c9 t.length c10 from by rw [← hW6];exact S5.out.step (below_alloc (Below.refl _ _) _))
   have HV6:=Aside0.mk (show vs.length ≤ c4 ∧ Kd.C Flt.kf W6 A4 vs.length vs from ⟨HV5.out.1,by rw [← hW6];exact Kd.C_below HV5.out.2 (below_alloc (Below.refl _ _) _)⟩)
   have HT6:=Aside0.mk (show t.length ≤ c5 ∧ Kd.C (Kd.int .i64) W6 A5 t.length t from ⟨HT5.out.1,by rw [← hW6];exact Kd.C_below HT5.out.2 (below_alloc (Below.refl _ _) _)⟩)
   rw [hW6,hg7]
   clear hW6 hg7 S5 HV5 HT5
   have HBK:=Aside0.mk (show vs.map Flt.ubits = v from by
    rw [HVS.out,List.map_map]
    refine (List.map_congr_left fun y hy=>?_).trans (List.map_id v)
    have:=HVB.out y hy
    show ((y.toNat : Nat) : Int) = y
    omega)
   refine start_ (n:=12) (S:=fun W=>Pl W w.heap.size k0 k1 k2 k3 k4 k5 k6 r c (.slice A9 v.length c9) A10 t.length c10 ∧ Dat W g7 k0 k1 k2 k3 k4 k5 k6 r c A4 A5 vs.length c4 t.length c5) (ds:=[]) #[false,false,false,false,false,false,false,false,false,false,false,false] (by kernel_rfl) rfl rfl ⟨S6.out.p,D6.out⟩ (fun hHeld=>?_)
   have n1_:=Aside0.mk (S6.out.step (below_drew (Below.refl _ _)))
   have n2_:=Aside0.mk (show Dat W6.drew g7 k0 k1 k2 k3 k4 k5 k6 r c A4 A5 vs.length c4 t.length c5 from blk_below D6.out (below_drew (Below.refl _ _)))
   have n3_:=Aside0.mk (And.intro HV6.out.1 (Kd.C_below HV6.out.2 (below_drew (Below.refl _ _))))
   have n4_:=Aside0.mk (And.intro HT6.out.1 (Kd.C_below HT6.out.2 (below_drew (Below.refl _ _))))
   clear S6 D6 HV6 HT6
   have S6:=n1_
   have D6:=n2_
   have HV6:=n3_
   have HT6:=n4_
   clear n1_ n2_ n3_ n4_
   generalize W6.drew = w6 at S6 D6 HV6 HT6 hHeld ⊢
   refine one_ (i:=0) (N:=some 40) #[true,false,false,false,false,false,false,false,false,false,false,false] rfl rfl (by kernel_rfl) (by decide) (fun K hK=>?_)
   refine goes_ Try.func13 (by kernel_rfl) rfl #[] (by rfl) rfl rfl (by (try simp only [List.map_toArray,List.map_cons,List.map_nil]);first|done|rfl) ?_
   refine (FData09.fixed_calls _).mono ?_
   rintro e w7 ⟨rfl,hb⟩
   refine ⟨_,rfl,?_⟩
   have n1_:=Aside0.mk (S6.out.step hb)
   have n2_:=Aside0.mk (show Dat _ g7 k0 k1 k2 k3 k4 k5 k6 r c A4 A5 vs.length c4 t.length c5 from blk_below D6.out hb)
   have n3_:=Aside0.mk (And.intro HV6.out.1 (Kd.C_below HV6.out.2 hb))
   have n4_:=Aside0.mk (And.intro HT6.out.1 (Kd.C_below HT6.out.2 hb))
   clear S6 D6 HV6 HT6
   have S6:=n1_
   have D6:=n2_
   have HV6:=n3_
   have HT6:=n4_
   clear n1_ n2_ n3_ n4_ hHeld
   clear hb
   refine hK.out _ _ ⟨S6.out.p,D6.out⟩ (fun hHeld=>?_)
   clear hK K
   refine norm_ (a':=?_) ?_ ?_
   rotate_left
   ·show Act.put _ (some 40) _ = _
    simp only [Act.put,List.setIfInBounds_toArray,List.set_cons_zero,List.set_cons_succ,i64_w,i32_w]
    rfl
   refine pure_ (i:=1) (N:=some 41) (v:=?_) (a':=?_) #[true,true,false,false,false,false,false,false,false,false,false,false] rfl rfl (by kernel_rfl) (fun _ _ _ h=>h) (Or.inl ⟨by rfl,?_⟩) ?_ ?_
   rotate_left
   ·intro w'
    go_simp
    with_reducible rfl
   rotate_left
   ·simp only [Act.put,List.setIfInBounds_toArray,List.set_cons_zero,List.set_cons_succ,i64_w,i32_w]
    rfl
   refine pure_ (i:=2) (N:=some 42) (v:=?_) (a':=?_) #[true,true,true,false,false,false,false,false,false,false,false,false] rfl rfl (by kernel_rfl) (fun _ _ _ h=>h) (Or.inl ⟨by rfl,?_⟩) ?_ ?_
   rotate_left
   ·intro w'
    go_simp
    with_reducible rfl
   rotate_left
   ·simp only [Act.put,List.setIfInBounds_toArray,List.set_cons_zero,List.set_cons_succ,i64_w,i32_w]
    rfl
   refine pure_ (i:=3) (N:=some 43) (v:=?_) (a':=?_) #[true,true,true,true,false,false,false,false,false,false,false,false] rfl rfl (by kernel_rfl) (fun _ _ _ h=>h) (Or.inl ⟨by rfl,?_⟩) ?_ ?_
   rotate_left
   ·intro w'
    go_simp
    with_reducible rfl
   rotate_left
   ·simp only [Act.put,List.setIfInBounds_toArray,List.set_cons_zero,List.set_cons_succ,i64_w,i32_w]
    rfl
   refine pure_ (i:=4) (N:=some 44) (v:=?_) (a':=?_) #[true,true,true,true,true,false,false,false,false,false,false,false] rfl rfl (by kernel_rfl) (fun _ _ _ h=>h) (Or.inl ⟨by rfl,?_⟩) ?_ ?_
   rotate_left
   ·intro w'
    go_simp
    with_reducible rfl
   rotate_left
   ·simp only [Act.put,List.setIfInBounds_toArray,List.set_cons_zero,List.set_cons_succ,i64_w,i32_w]
    rfl
   refine pure_ (i:=5) (N:=some 45) (v:=?_) (a':=?_) #[true,true,true,true,true,true,false,false,false,false,false,false] rfl rfl (by kernel_rfl) (fun _ _ _ h=>h) (Or.inl ⟨by rfl,?_⟩) ?_ ?_
   rotate_left
   ·intro w'
    go_simp
    with_reducible rfl
   rotate_left
   ·simp only [Act.put,List.setIfInBounds_toArray,List.set_cons_zero,List.set_cons_succ,i64_w,i32_w]
    rfl
   refine take_ (i:=6) (N:=some 46) (v:=?_) (a':=?_) #[true,true,true,true,true,true,true,false,false,false,false,false] rfl rfl (by kernel_rfl) (fun _ _ _ h=>h) (Or.inl ⟨by rfl,?_⟩) hHeld ?_ ?_
   rotate_left
   ·intro w' s
    have q0:=s.2.c0
    have q1:=s.2.c1
    have q2:=s.2.c2
    have q3:=s.2.c3
    have q4:=s.2.c4
    have q5:=s.2.c5
    have q6:=s.2.c6
    have q7:=s.2.c7
    have q8:=s.2.c8
    have q9:=s.2.c9
    have q10:=s.2.c10
    clear s
    go_simp
    with_reducible rfl
   rotate_left
   ·simp only [Act.put,List.setIfInBounds_toArray,List.set_cons_zero,List.set_cons_succ,i64_w,i32_w]
    rfl
   refine take_ (i:=8) (N:=some 48) (v:=?_) (a':=?_) #[true,true,true,true,true,true,true,false,true,false,false,false] rfl rfl (by kernel_rfl) (fun _ _ _ h=>h) (Or.inl ⟨by rfl,?_⟩) hHeld ?_ ?_
   rotate_left
   ·intro w' s
    have p0:=s.1.c0
    have p1:=s.1.c1
    have p2:=s.1.c2
    have p3:=s.1.c3
    have p4:=s.1.c4
    have p5:=s.1.c5
    have p6:=s.1.c6
    have p7:=s.1.c7
    have p8:=s.1.c8
    have p9:=s.1.c9
    have p10:=s.1.c10
    clear s
    go_simp
    with_reducible rfl
   rotate_left
   ·simp only [Act.put,List.setIfInBounds_toArray,List.set_cons_zero,List.set_cons_succ,i64_w,i32_w]
    rfl
   refine one_ (i:=7) (N:=some 47) #[true,true,true,true,true,true,true,true,true,false,false,false] rfl rfl (by kernel_rfl) (by decide) (fun K hK=>?_)
   refine goes_ Try.func20 (by kernel_rfl) rfl #[.agg #[.int .i64 k0,.int .i64 k1,.int .i64 k2,.int .i64 k3,.int .i64 k4,.int .i64 k5,.int .i64 k6,.int .i64 r,.int .i64 c,.slice A4 vs.length c4,.slice A5 t.length c5]] (by rfl) rfl rfl (by (try simp only [List.map_toArray,List.map_cons,List.map_nil]);first|done|rfl) ?_
   refine (FDataOf.of_calls k0 k1 k2 k3 k4 k5 k6 r c A4 A5 c4 c5 t.length vs _ HV6.out.2 HV6.out.1 (by have:=HVV.out;have:=HL.out;omega)).mono ?_
   rintro e w8 ⟨u6,rfl,hR6,hb⟩
   obtain ⟨A6,c6,rfl,hc6,hC6⟩:=Kd.R_reads hR6
   rw [HBK.out] at hc6 hC6 ⊢
   have HC6:=Aside0.mk hC6
   clear hR6 hC6
   refine ⟨_,rfl,?_⟩
   have n1_:=Aside0.mk (S6.out.step hb)
   have n2_:=Aside0.mk (show Dat _ g7 k0 k1 k2 k3 k4 k5 k6 r c A4 A5 vs.length c4 t.length c5 from blk_below D6.out hb)
   have n3_:=Aside0.mk (And.intro HV6.out.1 (Kd.C_below HV6.out.2 hb))
   have n4_:=Aside0.mk (And.intro HT6.out.1 (Kd.C_below HT6.out.2 hb))
   clear S6 D6 HV6 HT6
   have S6:=n1_
   have D6:=n2_
   have HV6:=n3_
   have HT6:=n4_
   clear n1_ n2_ n3_ n4_ hHeld
   clear hb
   refine hK.out _ _ ⟨S6.out.p,D6.out⟩ (fun hHeld=>?_)
   clear hK K
   refine norm_ (a':=?_) ?_ ?_
   rotate_left
   ·show Act.put _ (some 47) _ = _
    simp only [Act.put,List.setIfInBounds_toArray,List.set_cons_zero,List.set_cons_succ,i64_w,i32_w]
    rfl
   refine one_ (i:=9) (N:=some 49) #[true,true,true,true,true,true,true,true,true,true,false,false] rfl rfl (by kernel_rfl) (by decide) (fun K hK=>?_)
   refine goes_ Try.func19 (by kernel_rfl) rfl #[.agg #[.int .i64 k0,.int .i64 k1,.int .i64 k2,.int .i64 k3,.int .i64 k4,.int .i64 k5,.int .i64 k6,.int .i64 r,.int .i64 c,.slice A6 v.length c6,.slice A5 t.length c5],.agg #[.int .i64 k0,.int .i64 k1,.int .i64 k2,.int .i64 k3,.int .i64 k4,.int .i64 k5,.int .i64 k6,.int .i64 r,.int .i64 c,.slice A9 v.length c9,.slice A10 t.length c10]] (by rfl) rfl rfl (by (try simp only [List.map_toArray,List.map_cons,List.map_nil]);first|done|rfl) ?_
   refine (FSame.same_calls k0 k1 k2 k3 k4 k5 k6 r c A6 A5 A9 A10 c6 c5 c9 c10 v t _ HC6.out HT6.out.2 (Kd.C_below HR9.out S6.out.b) (Kd.C_below HR10.out S6.out.b) (by have:=HL.out;omega) (by have:=HL.out;omega)).mono ?_
   rintro e w9 ⟨rfl,hb⟩
   refine ⟨_,rfl,?_⟩
   have n1_:=Aside0.mk (S6.out.step hb)
   have n2_:=Aside0.mk (show Dat _ g7 k0 k1 k2 k3 k4 k5 k6 r c A4 A5 vs.length c4 t.length c5 from blk_below D6.out hb)
   have n3_:=Aside0.mk (And.intro HV6.out.1 (Kd.C_below HV6.out.2 hb))
   have n4_:=Aside0.mk (And.intro HT6.out.1 (Kd.C_below HT6.out.2 hb))
   clear S6 D6 HV6 HT6
   have S6:=n1_
   have D6:=n2_
   have HV6:=n3_
   have HT6:=n4_
   clear n1_ n2_ n3_ n4_ hHeld
   clear hb
   refine hK.out _ _ ⟨S6.out.p,D6.out⟩ (fun hHeld=>?_)
   clear hK K
   refine norm_ (a':=?_) ?_ ?_
   rotate_left
   ·show Act.put _ (some 49) _ = _
    simp only [Act.put,List.setIfInBounds_toArray,List.set_cons_zero,List.set_cons_succ,i64_w,i32_w]
    rfl
   refine pure_ (i:=10) (N:=some 50) (v:=?_) (a':=?_) #[true,true,true,true,true,true,true,true,true,true,true,false] rfl rfl (by kernel_rfl) (fun _ _ _ h=>h) (Or.inl ⟨by rfl,?_⟩) ?_ ?_
   rotate_left
   ·intro w'
    go_simp
    with_reducible rfl
   rotate_left
   ·simp only [Act.put,List.setIfInBounds_toArray,List.set_cons_zero,List.set_cons_succ,i64_w,i32_w]
    rfl
   refine pure_ (i:=11) (N:=some 2) (v:=?_) (a':=?_) #[true,true,true,true,true,true,true,true,true,true,true,true] rfl rfl (by kernel_rfl) (fun _ _ _ h=>h) (Or.inl ⟨by rfl,?_⟩) ?_ ?_
   rotate_left
   ·intro w'
    go_simp
    with_reducible rfl
   rotate_left
   ·simp only [Act.put,List.setIfInBounds_toArray,List.set_cons_zero,List.set_cons_succ,i64_w,i32_w]
    rfl
   refine done_ (by kernel_rfl) ?_
   go_wp2
   go_ret
   exact ⟨rfl,S6.out.b⟩
  ·have d0 : (code != 0) = true:=bne_iff_ne.mpr h0
   clear h0
   go_wp2_with (fail)
   refine (FData09.fixed_calls _).mono ?_
   rintro e w5 ⟨rfl,hb⟩
   have S5:=Aside0.mk (S4.out.step hb)
   clear hb S4
   go_wp2
   go_ret
   exact ⟨rfl,S5.out.b⟩
end Go.Proofs.Ytnagfbadjbkhmaa.FDatasetPuts
