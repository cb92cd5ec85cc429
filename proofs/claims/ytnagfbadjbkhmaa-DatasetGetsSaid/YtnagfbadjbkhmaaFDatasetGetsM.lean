/- hornbeamref09.Of by a walk: a dataset whose values are told by their bits. -/
import Derived.Test.YtnagfbadjbkhmaaFDataPut
import Derived.Test.YtnagfbadjbkhmaaPureKit
import Derived.Test.YtnagfbadjbkhmaaPureTake
import Derived.Test.YtnagfbadjbkhmaaFRefGet
import Derived.Test.YtnagfbadjbkhmaaPureDataPut
namespace Go.Proofs.Ytnagfbadjbkhmaa.FDataOf
open Go.RowKit Go.Shelf Go.Proofs.YtnagfbadjbkhmaaW.PrintWords Go.Proofs.YtnagfbadjbkhmaaW.PrintLast Go.Proofs.YtnagfbadjbkhmaaW.PrintMore Go.Proofs.Ytnagfbadjbkhmaa.PA Go.Proofs.Ytnagfbadjbkhmaa.FDataPut
attribute [local go_sem high] Flt.run_bits Flt.run_frombits
set_option linter.unusedVariables false
set_option linter.unusedSimpArgs false
theorem info_u64 : (Try.prog.info? 37).map (fun i=>(i.zero,i.size,i.bytes)) = some (some (.int .u64 0),1,8):=by kernel_rfl
def Pl (W : World) (g : Nat) (k0 k1 k2 k3 k4 k5 k6 rows cols : Int) (v : Value) (At : Option Addr) (tn ct : Nat) : Prop:=W.heap[g]? = some (.cells #[.int .i64 k0,.int .i64 k1,.int .i64 k2,.int .i64 k3,.int .i64 k4,.int .i64 k5,.int .i64 k6,.int .i64 rows,.int .i64 cols,v,.slice At tn ct] 27 (0,0))
namespace Pl
variable {W : World} {g : Nat} {k0 k1 k2 k3 k4 k5 k6 rows cols : Int} {v : Value} {At : Option Addr} {tn ct : Nat}
theorem c0 (H : Pl W g k0 k1 k2 k3 k4 k5 k6 rows cols v At tn ct) : W.cell? ⟨g,0,none⟩ = some (.int .i64 k0):=(blk_cell H 0).trans rfl
theorem c1 (H : Pl W g k0 k1 k2 k3 k4 k5 k6 rows cols v At tn ct) : W.cell? ⟨g,1,none⟩ = some (.int .i64 k1):=(blk_cell H 1).trans rfl
theorem c2 (H : Pl W g k0 k1 k2 k3 k4 k5 k6 rows cols v At tn ct) : W.cell? ⟨g,2,none⟩ = some (.int .i64 k2):=(blk_cell H 2).trans rfl
theorem c3 (H : Pl W g k0 k1 k2 k3 k4 k5 k6 rows cols v At tn ct) : W.cell? ⟨g,3,none⟩ = some (.int .i64 k3):=(blk_cell H 3).trans rfl
theorem c4 (H : Pl W g k0 k1 k2 k3 k4 k5 k6 rows cols v At tn ct) : W.cell? ⟨g,4,none⟩ = some (.int .i64 k4):=(blk_cell H 4).trans rfl
theorem c5 (H : Pl W g k0 k1 k2 k3 k4 k5 k6 rows cols v At tn ct) : W.cell? ⟨g,5,none⟩ = some (.int .i64 k5):=(blk_cell H 5).trans rfl
theorem c6 (H : Pl W g k0 k1 k2 k3 k4 k5 k6 rows cols v At tn ct) : W.cell? ⟨g,6,none⟩ = some (.int .i64 k6):=(blk_cell H 6).trans rfl
theorem c7 (H : Pl W g k0 k1 k2 k3 k4 k5 k6 rows cols v At tn ct) : W.cell? ⟨g,7,none⟩ = some (.int .i64 rows):=(blk_cell H 7).trans rfl
theorem c8 (H : Pl W g k0 k1 k2 k3 k4 k5 k6 rows cols v At tn ct) : W.cell? ⟨g,8,none⟩ = some (.int .i64 cols):=(blk_cell H 8).trans rfl
theorem c9 (H : Pl W g k0 k1 k2 k3 k4 k5 k6 rows cols v At tn ct) : W.cell? ⟨g,9,none⟩ = some v:=(blk_cell H 9).trans rfl
theorem c10 (H : Pl W g k0 k1 k2 k3 k4 k5 k6 rows cols v At tn ct) : W.cell? ⟨g,10,none⟩ = some (.slice At tn ct):=(blk_cell H 10).trans rfl
theorem put (H : Pl W g k0 k1 k2 k3 k4 k5 k6 rows cols v At tn ct) (v' : Value) : Pl (W.setCell ⟨g,9,none⟩ v') g k0 k1 k2 k3 k4 k5 k6 rows cols v' At tn ct:=blk_put H 9 _ rfl
end Pl
/-- How far it is. -/
structure St (w W : World) (k0 k1 k2 k3 k4 k5 k6 rows cols : Int) (Av At : Option Addr) (vn cv tn ct : Nat) (v : Value) (bs : List Int) : Prop where
 d : Dat W w.heap.size k0 k1 k2 k3 k4 k5 k6 rows cols Av At vn cv tn ct
 z : W.heap[w.heap.size + 1]? = some (.cells #[.int .i64 0,.int .i64 0,.int .i64 0,.int .i64 0,.int .i64 0,.int .i64 0,.int .i64 0,.int .i64 0,.int .i64 0,.slice none 0 0,.slice none 0 0] 27 (0,0))
 p : Pl W (w.heap.size + 2) k0 k1 k2 k3 k4 k5 k6 rows cols v At tn ct
 r : W.ownsRow (w.heap.size + 3) 37 1 v bs.length (bs.map (Value.int .u64))
 b : Below w.heap.size w W
theorem row_ge {w : World} {base : Nat} {e : TypeId} {size : Nat} {v : Value} {n : Nat} {xs : List Value} (h : w.ownsRow base e size v n xs) (k : Nat) (hk : k < base) : some k ≠ v.ownBlock:=fun he=>by have:=(h.lt k he.symm).1;omega
set_option maxHeartbeats 3000000 in
set_option maxRecDepth 100000 in
theorem of_calls (k0 k1 k2 k3 k4 k5 k6 rows cols : Int) (Av At : Option Addr) (cv ct tn : Nat) (vs : List Nat) (w : World) (hrv : Kd.C Flt.kf w Av vs.length vs) (hcv : vs.length ≤ cv) (hv : vs.length ≤ 100000) :
  Calls Try.prog 20 #[.agg #[.int .i64 k0,.int .i64 k1,.int .i64 k2,.int .i64 k3,.int .i64 k4,.int .i64 k5,.int .i64 k6,.int .i64 rows,.int .i64 cols,.slice Av vs.length cv,.slice At tn ct]] w fun e w'=>∃ v,e = .returned (.agg #[.int .i64 k0,.int .i64 k1,.int .i64 k2,.int .i64 k3,.int .i64 k4,.int .i64 k5,.int .i64 k6,.int .i64 rows,.int .i64 cols,v,.slice At tn ct]) ∧ Kd.R (Kd.int .u64) 37 w' w.heap.size (fun _=>True) v (vs.map Flt.ubits) ∧ Below w.heap.size w w':=by
 have hu:=Try.underlying32
 have hu2:=Try.underlying23
 have hu3:=Try.underlying27
 have HRV:=Aside0.mk hrv
 clear hrv
 go_enter Try.func20,Try.ntmps20
 go_wp2_with (fail)
 obtain ⟨W0,hW0⟩ : ∃ W0,((w.alloc (.cells #[.int .i64 k0,.int .i64 k1,.int .i64 k2,.int .i64 k3,.int .i64 k4,.int .i64 k5,.int .i64 k6,.int .i64 rows,.int .i64 cols,.slice Av vs.length cv,.slice At tn ct] 32)).alloc (.cells #[.int .i64 0,.int .i64 0,.int .i64 0,.int .i64 0,.int .i64 0,.int .i64 0,.int .i64 0,.int .i64 0,.int .i64 0,.slice none 0 0,.slice none 0 0] 27)).alloc (.cells #[.int .i64 k0,.int .i64 k1,.int .i64 k2,.int .i64 k3,.int .i64 k4,.int .i64 k5,.int .i64 k6,.int .i64 rows,.int .i64 cols,.slice none 0 0,.slice At tn ct] 27) = W0:=⟨_,rfl⟩
 have S0:=Aside0.mk (show St w W0 k0 k1 k2 k3 k4 k5 k6 rows cols Av At vs.length cv tn ct (.slice none 0 0) [] from by
  rw [← hW0]
  refine ⟨blk_alloc (blk_alloc (blk_new w _) _) _,blk_alloc ?_ _,?_,World.ownsRow_nil _ _ _ _,below_alloc (below_alloc (below_alloc (Below.refl _ w) _) _) _⟩
  ·have:=blk_new (w.alloc (.cells #[.int .i64 k0,.int .i64 k1,.int .i64 k2,.int .i64 k3,.int .i64 k4,.int .i64 k5,.int .i64 k6,.int .i64 rows,.int .i64 cols,.slice Av vs.length cv,.slice At tn ct] 32)) (.cells #[.int .i64 0,.int .i64 0,.int .i64 0,.int .i64 0,.int .i64 0,.int .i64 0,.int .i64 0,.int .i64 0,.int .i64 0,.slice none 0 0,.slice none 0 0] 27);rwa [World.size_alloc] at this
  ·have:=blk_new ((w.alloc (.cells #[.int .i64 k0,.int .i64 k1,.int .i64 k2,.int .i64 k3,.int .i64 k4,.int .i64 k5,.int .i64 k6,.int .i64 rows,.int .i64 cols,.slice Av vs.length cv,.slice At tn ct] 32)).alloc (.cells #[.int .i64 0,.int .i64 0,.int .i64 0,.int .i64 0,.int .i64 0,.int .i64 0,.int .i64 0,.int .i64 0,.int .i64 0,.slice none 0 0,.slice none 0 0] 27)) (.cells #[.int .i64 k0,.int .i64 k1,.int .i64 k2,.int .i64 k3,.int .i64 k4,.int .i64 k5,.int .i64 k6,.int .i64 rows,.int .i64 cols,.slice none 0 0,.slice At tn ct] 27);rwa [World.size_alloc,World.size_alloc] at this)
 rw [hW0]
 clear hW0
 go_loopw [4] (fun v4 w'=>∃ (j : Nat) (v : Value),j ≤ vs.length ∧ v4 = .int .i64 j ∧ Aside0 (St w w' k0 k1 k2 k3 k4 k5 k6 rows cols Av At vs.length cv tn ct v ((vs.take j).map Flt.ubits))) (fun u _=>vs.length - (intOf u).toNat)
 case atStart=>exact ⟨0,_,by omega,rfl,S0⟩
 case round =>
  obtain ⟨j,v,hj,rfl,SJ⟩:=hrel
  clear S0
  have q9:=SJ.out.d.c9
  by_cases hlt : j < vs.length
  ·have d0 : decide ((j : Int) < (vs.length : Int)) = true:=decide_eq_true (by omega)
   obtain ⟨ad,e0,hx1⟩:=Flt.at_kf (Kd.C_below HRV.out SJ.out.b) (j : Int) (by omega) (by omega)
   cases e0
   clear hx1
   go_wp2_with (fail)
   clear q9
   have htk : vs.take (j + 1) = vs.take j ++ [rdOf 0 vs (j : Int)]:=by
    rw [List.take_succ_eq_append_getElem hlt];congr 1;simp [rdOf,hlt]
   have HTK:=Aside0.mk htk
   clear htk
   refine start_ (n:=12) (S:=fun w'=>Dat w' w.heap.size k0 k1 k2 k3 k4 k5 k6 rows cols (some ad) At vs.length cv tn ct ∧ Pl w' (w.heap.size + 2) k0 k1 k2 k3 k4 k5 k6 rows cols v At tn ct ∧ Below w.heap.size w w') (ds:=[11]) #[false,false,false,false,false,false,false,false,false,false,false,false] (by kernel_rfl) rfl rfl ⟨SJ.out.d,SJ.out.p,below_drew1 SJ.out.b⟩ (fun hHeld=>?_)
   refine take_ (i:=0) (N:=some 21) (v:=?_) (a':=?_) #[true,false,false,false,false,false,false,false,false,false,false,false] rfl rfl (by kernel_rfl) (fun _ _ _ h=>h) (Or.inl ⟨by rfl,?_⟩) hHeld ?_ ?_
   rotate_left
   ·intro w' s
    have q9:=s.1.c9;have p9:=s.2.1.c9;obtain ⟨ad',e0',hx1⟩:=Flt.at_kf (Kd.C_below HRV.out s.2.2) (j : Int) (by omega) (by omega);cases e0';simp only [Int.toNat_natCast] at hx1
    clear s
    go_simp
    with_reducible rfl
   rotate_left
   ·simp only [Act.put,List.setIfInBounds_toArray,List.set_cons_zero,List.set_cons_succ,i64_w,i32_w]
    rfl
   refine take_ (i:=1) (N:=some 22) (v:=?_) (a':=?_) #[true,true,false,false,false,false,false,false,false,false,false,false] rfl rfl (by kernel_rfl) (fun _ _ _ h=>h) (Or.inl ⟨by rfl,?_⟩) hHeld ?_ ?_
   rotate_left
   ·intro w' s
    have q9:=s.1.c9;have p9:=s.2.1.c9;obtain ⟨ad',e0',hx1⟩:=Flt.at_kf (Kd.C_below HRV.out s.2.2) (j : Int) (by omega) (by omega);cases e0';simp only [Int.toNat_natCast] at hx1
    clear s
    go_simp
    with_reducible rfl
   rotate_left
   ·simp only [Act.put,List.setIfInBounds_toArray,List.set_cons_zero,List.set_cons_succ,i64_w,i32_w]
    rfl
   refine take_ (i:=2) (N:=some 23) (v:=?_) (a':=?_) #[true,true,true,false,false,false,false,false,false,false,false,false] rfl rfl (by kernel_rfl) (fun _ _ _ h=>h) (Or.inl ⟨by rfl,?_⟩) hHeld ?_ ?_
   rotate_left
   ·intro w' s
    have q9:=s.1.c9;have p9:=s.2.1.c9;obtain ⟨ad',e0',hx1⟩:=Flt.at_kf (Kd.C_below HRV.out s.2.2) (j : Int) (by omega) (by omega);cases e0';simp only [Int.toNat_natCast] at hx1
    clear s
    go_simp
    with_reducible rfl
   rotate_left
   ·simp only [Act.put,List.setIfInBounds_toArray,List.set_cons_zero,List.set_cons_succ,i64_w,i32_w]
    rfl
   refine take_ (i:=3) (N:=some 24) (v:=?_) (a':=?_) #[true,true,true,true,false,false,false,false,false,false,false,false] rfl rfl (by kernel_rfl) (fun _ _ _ h=>h) (Or.inl ⟨by rfl,?_⟩) hHeld ?_ ?_
   rotate_left
   ·intro w' s
    have q9:=s.1.c9;have p9:=s.2.1.c9;obtain ⟨ad',e0',hx1⟩:=Flt.at_kf (Kd.C_below HRV.out s.2.2) (j : Int) (by omega) (by omega);cases e0';simp only [Int.toNat_natCast] at hx1
    clear s
    go_simp
    with_reducible rfl
   rotate_left
   ·simp only [Act.put,List.setIfInBounds_toArray,List.set_cons_zero,List.set_cons_succ,i64_w,i32_w]
    rfl
   refine take_ (i:=4) (N:=some 25) (v:=?_) (a':=?_) #[true,true,true,true,true,false,false,false,false,false,false,false] rfl rfl (by kernel_rfl) (fun _ _ _ h=>h) (Or.inl ⟨by rfl,?_⟩) hHeld ?_ ?_
   rotate_left
   ·intro w' s
    have q9:=s.1.c9;have p9:=s.2.1.c9;obtain ⟨ad',e0',hx1⟩:=Flt.at_kf (Kd.C_below HRV.out s.2.2) (j : Int) (by omega) (by omega);cases e0';simp only [Int.toNat_natCast] at hx1
    clear s
    go_simp
    with_reducible rfl
   rotate_left
   ·simp only [Act.put,List.setIfInBounds_toArray,List.set_cons_zero,List.set_cons_succ,i64_w,i32_w]
    rfl
   refine take_ (i:=5) (N:=some 26) (v:=?_) (a':=?_) #[true,true,true,true,true,true,false,false,false,false,false,false] rfl rfl (by kernel_rfl) (fun _ _ _ h=>h) (Or.inl ⟨by rfl,?_⟩) hHeld ?_ ?_
   rotate_left
   ·intro w' s
    have q9:=s.1.c9;have p9:=s.2.1.c9;obtain ⟨ad',e0',hx1⟩:=Flt.at_kf (Kd.C_below HRV.out s.2.2) (j : Int) (by omega) (by omega);cases e0';simp only [Int.toNat_natCast] at hx1
    clear s
    go_simp
    with_reducible rfl
   rotate_left
   ·simp only [Act.put,List.setIfInBounds_toArray,List.set_cons_zero,List.set_cons_succ,i64_w,i32_w]
    rfl
   refine take_ (i:=6) (N:=some 27) (v:=?_) (a':=?_) #[true,true,true,true,true,true,true,false,false,false,false,false] rfl rfl (by kernel_rfl) (fun _ _ _ h=>h) (Or.inl ⟨by rfl,?_⟩) hHeld ?_ ?_
   rotate_left
   ·intro w' s
    have q9:=s.1.c9;have p9:=s.2.1.c9;obtain ⟨ad',e0',hx1⟩:=Flt.at_kf (Kd.C_below HRV.out s.2.2) (j : Int) (by omega) (by omega);cases e0';simp only [Int.toNat_natCast] at hx1
    clear s
    go_simp
    with_reducible rfl
   rotate_left
   ·simp only [Act.put,List.setIfInBounds_toArray,List.set_cons_zero,List.set_cons_succ,i64_w,i32_w]
    rfl
   refine take_ (i:=7) (N:=some 28) (v:=?_) (a':=?_) #[true,true,true,true,true,true,true,true,false,false,false,false] rfl rfl (by kernel_rfl) (fun _ _ _ h=>h) (Or.inl ⟨by rfl,?_⟩) hHeld ?_ ?_
   rotate_left
   ·intro w' s
    have q9:=s.1.c9;have p9:=s.2.1.c9;obtain ⟨ad',e0',hx1⟩:=Flt.at_kf (Kd.C_below HRV.out s.2.2) (j : Int) (by omega) (by omega);cases e0';simp only [Int.toNat_natCast] at hx1
    clear s
    go_simp
    with_reducible rfl
   rotate_left
   ·simp only [Act.put,List.setIfInBounds_toArray,List.set_cons_zero,List.set_cons_succ,i64_w,i32_w]
    rfl
   have SD:=Aside0.mk (show St w wr.drew k0 k1 k2 k3 k4 k5 k6 rows cols (some ad) At vs.length cv tn ct v ((vs.take j).map Flt.ubits) from ⟨SJ.out.d,SJ.out.z,SJ.out.p,SJ.out.r,below_drew1 SJ.out.b⟩)
   clear SJ
   generalize wr.drew = w1 at SD hHeld ⊢
   have HS1:=Aside0.mk (show w.heap.size + 3 ≤ w1.heap.size from blk_lt SD.out.p)
   refine one_ (i:=8) (N:=some 29) #[true,true,true,true,true,true,true,true,true,false,false,false] rfl rfl (by kernel_rfl) (by decide) (fun K hK=>?_)
   refine value_ (w1:=w1.alloc (.cells #[.int .u64 (Flt.ubits (rdOf 0 vs (j : Int)))] 37)) (v:=.slice (some ⟨w1.heap.size,0,none⟩) 1 1) (by rfl) rfl (by go_simp) ?_
   have hA:=below_alloc (Below.refl w1.heap.size w1) (.cells #[.int .u64 (Flt.ubits (rdOf 0 vs (j : Int)))] 37)
   refine hK.out _ _ ⟨blk_below SD.out.d hA,blk_below SD.out.p hA,below_step SD.out.b hA⟩ (fun hHeld2=>?_)
   clear hK K hA
   refine norm_ (a':=?_) ?_ ?_
   rotate_left
   ·show Act.put _ (some 29) _ = _
    simp only [Act.put,List.setIfInBounds_toArray,List.set_cons_zero,List.set_cons_succ,i64_w,i32_w]
    rfl
   obtain ⟨i0,hi,hz0,hz1,hz2⟩:=info_parts info_u64
   refine one_ (i:=9) (N:=some 30) #[true,true,true,true,true,true,true,true,true,true,false,false] rfl rfl (by kernel_rfl) (by decide) (fun K hK=>?_)
   have hlen : ((vs.take j).map Flt.ubits).length = j:=by rw [List.length_map,List.length_take];omega
   refine step_append_lies _ rfl (.tmp 22) (.tmp 29) 24 (by rfl) (w.heap.size + 3) 37 i0 (.int .u64 0) 1 8 Try.underlying24 hi hz0 hz1 hz2 rfl (by decide) v _ _ (by rfl) (SD.out.r.alloc _) ⟨w1.heap.size,0,none⟩ 1 1 [.int .u64 (Flt.ubits (rdOf 0 vs (j : Int)))] (by rfl) rfl
    (World.news_of_block (World.alloc_heap_new w1 _)) (by simp [Value.oneCell']) (by decide) (by rw [hlen];unfold maxLen;omega) (by rw [hlen];omega) (by have:=HS1.out;simp;omega) (w1.heap.size + 1) (by simp) ?_
   intro g cap w2 hown hgrow hat hglt
   have hk : ∀ k,k < w.heap.size + 3 → w2.heap[k]? = w1.heap[k]?:=fun k hk=>(hgrow.block k (by have:=HS1.out;simp;omega) (row_ge SD.out.r k hk)).trans (Below.heap_alloc _ _ _ (by have:=HS1.out;omega))
   have hb2 : Below w.heap.size w w2:=(below_alloc SD.out.b _).grown hgrow (by have:=HS1.out;simp;omega) (fun k e=>by have:=(SD.out.r.lt k e).1;omega)
   have S2:=Aside0.mk (show Dat w2 w.heap.size k0 k1 k2 k3 k4 k5 k6 rows cols (some ad) At vs.length cv tn ct ∧ w2.heap[w.heap.size + 1]? = some (.cells #[.int .i64 0,.int .i64 0,.int .i64 0,.int .i64 0,.int .i64 0,.int .i64 0,.int .i64 0,.int .i64 0,.int .i64 0,.slice none 0 0,.slice none 0 0] 27 (0,0)) ∧ Pl w2 (w.heap.size + 2) k0 k1 k2 k3 k4 k5 k6 rows cols v At tn ct ∧ Below w.heap.size w w2 from ⟨(hk _ (by omega)).trans SD.out.d,(hk _ (by omega)).trans SD.out.z,(hk _ (by omega)).trans SD.out.p,hb2⟩)
   have HOW:=Aside0.mk hown
   clear hown hgrow hat hglt hk hb2 hHeld2
   refine hK.out _ _ ⟨S2.out.1,S2.out.2.2.1,S2.out.2.2.2⟩ (fun hHeld=>?_)
   clear hK K
   refine norm_ (a':=?_) ?_ ?_
   rotate_left
   ·show Act.put _ (some 30) _ = _
    simp only [Act.put,List.setIfInBounds_toArray,List.set_cons_zero,List.set_cons_succ,i64_w,i32_w]
    rfl
   refine take_ (i:=10) (N:=some 31) (v:=?_) (a':=?_) #[true,true,true,true,true,true,true,true,true,true,true,false] rfl rfl (by kernel_rfl) (fun _ _ _ h=>h) (Or.inl ⟨by rfl,?_⟩) hHeld ?_ ?_
   rotate_left
   ·intro w' s
    have q9:=s.1.c9
    clear s
    go_simp
    with_reducible rfl
   rotate_left
   ·simp only [Act.put,List.setIfInBounds_toArray,List.set_cons_zero,List.set_cons_succ,i64_w,i32_w]
    rfl
   refine last_ (i:=11) (N:=none) #[true,true,true,true,true,true,true,true,true,true,true,true] rfl rfl (by kernel_rfl) (by decide) (fun K hK=>?_)
   have c2:=S2.out.2.2.1.c9
   have f2:=blk_frozen S2.out.2.2.1 9
   refine skip_ (w1:=w2.setCell ⟨w.heap.size + 2,9,none⟩ (.slice (some ⟨g,0,none⟩) (((vs.take j).map Flt.ubits).length + 1) cap)) (by rfl) rfl (by go_simp) ?_
   refine hK.out _ _ ?_
   clear hK K c2 f2
   refine done_ (by kernel_rfl) ?_
   have S3:=Aside0.mk (show St w (w2.setCell ⟨w.heap.size + 2,9,none⟩ (.slice (some ⟨g,0,none⟩) (((vs.take j).map Flt.ubits).length + 1) cap)) k0 k1 k2 k3 k4 k5 k6 rows cols (some ad) At vs.length cv tn ct (.slice (some ⟨g,0,none⟩) (((vs.take j).map Flt.ubits).length + 1) cap) ((vs.take (j + 1)).map Flt.ubits) from
    ⟨blk_far S2.out.1 (show w.heap.size ≠ w.heap.size + 2 by omega) _,blk_far S2.out.2.1 (show w.heap.size + 1 ≠ w.heap.size + 2 by omega) _,S2.out.2.2.1.put _,by
     rw [HTK.out,List.map_append,List.length_append,List.map_append]
     exact ownsRow_setCell_below HOW.out (a:=⟨w.heap.size + 2,9,none⟩) (show w.heap.size + 2 < w.heap.size + 3 by omega) _,below_set S2.out.2.2.2 (show w.heap.size ≤ w.heap.size + 2 by omega)⟩)
   clear HOW S2 SD hHeld
   rw [hlen] at S3 ⊢
   go_wp2_with (fail)
   exact ⟨⟨j + 1,_,by omega,by go_num,S3⟩,by simp [intOf];omega⟩
  ·obtain rfl : j = vs.length:=by omega
   have d0 : decide ((vs.length : Int) < (vs.length : Int)) = false:=by simp
   obtain ⟨A,c,hA,hc,hC⟩:=Kd.R_reads (Kd.R_of_own (ok:=fun k=>w.heap.size + 3 ≤ k) (enc:=Value.int .u64) (h1:=fun _=>rfl) SJ.out.r (fun k hk=>(SJ.out.r.lt k hk).1))
   have hRR:=Kd.R_of_own (ok:=fun k=>w.heap.size + 3 ≤ k) (enc:=Value.int .u64) (h1:=fun _=>rfl) SJ.out.r (fun k hk=>(SJ.out.r.lt k hk).1)
   subst hA
   rw [List.take_length] at hRR
   have HRR:=Aside0.mk hRR
   clear hRR
   rw [List.take_length] at SJ hc hC
   have hlm : (vs.map Flt.ubits).length = vs.length:=List.length_map _
   rw [hlm] at SJ hc hC
   have p0:=SJ.out.p.c0
   have p1:=SJ.out.p.c1
   have p2:=SJ.out.p.c2
   have p3:=SJ.out.p.c3
   have p4:=SJ.out.p.c4
   have p5:=SJ.out.p.c5
   have p6:=SJ.out.p.c6
   have p7:=SJ.out.p.c7
   have p8:=SJ.out.p.c8
   have p9:=SJ.out.p.c9
   have p10:=SJ.out.p.c10
   have z9:=SJ.out.z
   have HC:=Aside0.mk hC
   clear hC
   go_wp2_with ((with_reducible refine gate_store (t:=27) (p:=2) rfl ?_);refine FStore.store_all (w.heap.size + 1) 27 27 2 _ #[.int .i64 0,.int .i64 0,.int .i64 0,.int .i64 0,.int .i64 0,.int .i64 0,.int .i64 0,.int .i64 0,.int .i64 0,.slice none 0 0,.slice none 0 0] #[.int .i64 k0,.int .i64 k1,.int .i64 k2,.int .i64 k3,.int .i64 k4,.int .i64 k5,.int .i64 k6,.int .i64 rows,.int .i64 cols,.slice A vs.length c,.slice At tn ct] rfl rfl rfl rfl rfl z9 (by kernel_rfl) rfl (by simp [Value.oneCell']) ?_;intro w9 hb9 hB9 hk9)
   refine bodyPost_ret (results_cell_row rfl _ _ (w.heap.size + 1) 27 #[.int .i64 k0,.int .i64 k1,.int .i64 k2,.int .i64 k3,.int .i64 k4,.int .i64 k5,.int .i64 k6,.int .i64 rows,.int .i64 cols,.slice A vs.length c,.slice At tn ct] (0,0) _ rfl hb9 Try.underlying27 rfl (by kernel_rfl)) rfl ?_
   refine ⟨.slice A vs.length c,rfl,?_,hB9 _ _ (by omega) SJ.out.b⟩
   have h2:=Kd.R_mono (ok':=fun _=>True) (Kd.R_step HRR.out (fun k hk _=>hk9 k (by omega))) (fun _ _=>trivial)
   rw [hlm] at h2
   exact Kd.R_lower h2 (by omega)
end Go.Proofs.Ytnagfbadjbkhmaa.FDataOf

namespace Go.Proofs.Ytnagfbadjbkhmaa.FSame
open Go.RowKit Go.Shelf Go.Proofs.YtnagfbadjbkhmaaW.PrintWords Go.Proofs.YtnagfbadjbkhmaaW.PrintLast Go.Proofs.YtnagfbadjbkhmaaW.PrintMore Go.Proofs.Ytnagfbadjbkhmaa.PA
set_option linter.unusedVariables false
set_option linter.unusedSimpArgs false
theorem eqC (d : Nat) (w : World) (x0 y0 : Int) (x1 y1 : Int) (x2 y2 : Int) (x3 y3 : Int) (x4 y4 : Int) (x5 y5 : Int) (x6 y6 : Int) :
  (Op.equalIn (d + 2) 23 (.agg #[.int .i64 x0,.int .i64 x1,.int .i64 x2,.int .i64 x3,.int .i64 x4,.int .i64 x5,.int .i64 x6]) (.agg #[.int .i64 y0,.int .i64 y1,.int .i64 y2,.int .i64 y3,.int .i64 y4,.int .i64 y5,.int .i64 y6])).run Try.prog w = .ok (x0 == y0 && (x1 == y1 && (x2 == y2 && (x3 == y3 && (x4 == y4 && (x5 == y5 && (x6 == y6))))))) w:=by
 refine eqA_of Try.underlying23 (by kernel_rfl) ?_
 refine eqf_cons (by rfl) (by go_simp;rfl) (by go_simp;rfl) (by go_simp) ?_
 refine eqf_cons (by rfl) (by go_simp;rfl) (by go_simp;rfl) (by go_simp) ?_
 refine eqf_cons (by rfl) (by go_simp;rfl) (by go_simp;rfl) (by go_simp) ?_
 refine eqf_cons (by rfl) (by go_simp;rfl) (by go_simp;rfl) (by go_simp) ?_
 refine eqf_cons (by rfl) (by go_simp;rfl) (by go_simp;rfl) (by go_simp) ?_
 refine eqf_cons (by rfl) (by go_simp;rfl) (by go_simp;rfl) (by go_simp) ?_
 exact eqf_last (by rfl) (by go_simp;rfl) (by go_simp;rfl) (by go_simp)
attribute [local go_sem high] eqC
def P2 (W : World) (g : Nat) (k0 k1 k2 k3 k4 k5 k6 r c : Int) (v9 v10 : Value) : Prop:=W.heap[g]? = some (.cells #[.int .i64 k0,.int .i64 k1,.int .i64 k2,.int .i64 k3,.int .i64 k4,.int .i64 k5,.int .i64 k6,.int .i64 r,.int .i64 c,v9,v10] 27 (0,0))
namespace P2
variable {W : World} {g : Nat} {k0 k1 k2 k3 k4 k5 k6 r c : Int} {v9 v10 : Value}
theorem e0 (H : P2 W g k0 k1 k2 k3 k4 k5 k6 r c v9 v10) : W.cell? ⟨g,0,none⟩ = some (.int .i64 k0):=(blk_cell H 0).trans rfl
theorem e1 (H : P2 W g k0 k1 k2 k3 k4 k5 k6 r c v9 v10) : W.cell? ⟨g,1,none⟩ = some (.int .i64 k1):=(blk_cell H 1).trans rfl
theorem e2 (H : P2 W g k0 k1 k2 k3 k4 k5 k6 r c v9 v10) : W.cell? ⟨g,2,none⟩ = some (.int .i64 k2):=(blk_cell H 2).trans rfl
theorem e3 (H : P2 W g k0 k1 k2 k3 k4 k5 k6 r c v9 v10) : W.cell? ⟨g,3,none⟩ = some (.int .i64 k3):=(blk_cell H 3).trans rfl
theorem e4 (H : P2 W g k0 k1 k2 k3 k4 k5 k6 r c v9 v10) : W.cell? ⟨g,4,none⟩ = some (.int .i64 k4):=(blk_cell H 4).trans rfl
theorem e5 (H : P2 W g k0 k1 k2 k3 k4 k5 k6 r c v9 v10) : W.cell? ⟨g,5,none⟩ = some (.int .i64 k5):=(blk_cell H 5).trans rfl
theorem e6 (H : P2 W g k0 k1 k2 k3 k4 k5 k6 r c v9 v10) : W.cell? ⟨g,6,none⟩ = some (.int .i64 k6):=(blk_cell H 6).trans rfl
theorem e7 (H : P2 W g k0 k1 k2 k3 k4 k5 k6 r c v9 v10) : W.cell? ⟨g,7,none⟩ = some (.int .i64 r):=(blk_cell H 7).trans rfl
theorem e8 (H : P2 W g k0 k1 k2 k3 k4 k5 k6 r c v9 v10) : W.cell? ⟨g,8,none⟩ = some (.int .i64 c):=(blk_cell H 8).trans rfl
theorem e9 (H : P2 W g k0 k1 k2 k3 k4 k5 k6 r c v9 v10) : W.cell? ⟨g,9,none⟩ = some (v9):=(blk_cell H 9).trans rfl
theorem e10 (H : P2 W g k0 k1 k2 k3 k4 k5 k6 r c v9 v10) : W.cell? ⟨g,10,none⟩ = some (v10):=(blk_cell H 10).trans rfl
end P2
structure SS (w W : World) (k0 k1 k2 k3 k4 k5 k6 r c : Int) (a9 a10 b9 b10 : Value) : Prop where
 p : P2 W w.heap.size k0 k1 k2 k3 k4 k5 k6 r c a9 a10
 q : P2 W (w.heap.size + 1) k0 k1 k2 k3 k4 k5 k6 r c b9 b10
 b : Below w.heap.size w W
theorem SS.step {w W W' : World} {k0 k1 k2 k3 k4 k5 k6 r c : Int} {a9 a10 b9 b10 : Value} (h : SS w W k0 k1 k2 k3 k4 k5 k6 r c a9 a10 b9 b10) (hb : Below W.heap.size W W') : SS w W' k0 k1 k2 k3 k4 k5 k6 r c a9 a10 b9 b10:=⟨blk_below h.p hb,blk_below h.q hb,below_step h.b hb⟩
set_option maxHeartbeats 2000000 in
set_option maxRecDepth 100000 in
theorem same_calls (k0 k1 k2 k3 k4 k5 k6 r c : Int) (A9 A10 B9 B10 : Option Addr) (c9 c10 d9 d10 : Nat) (v t : List Int) (w : World) (hA9 : Kd.C (Kd.int .u64) w A9 v.length v) (hA10 : Kd.C (Kd.int .i64) w A10 t.length t) (hB9 : Kd.C (Kd.int .u64) w B9 v.length v) (hB10 : Kd.C (Kd.int .i64) w B10 t.length t) (hl : v.length ≤ 100000) (ht : t.length ≤ 100000) :
  Calls Try.prog 19 #[.agg #[.int .i64 k0,.int .i64 k1,.int .i64 k2,.int .i64 k3,.int .i64 k4,.int .i64 k5,.int .i64 k6,.int .i64 r,.int .i64 c,.slice A9 v.length c9,.slice A10 t.length c10],.agg #[.int .i64 k0,.int .i64 k1,.int .i64 k2,.int .i64 k3,.int .i64 k4,.int .i64 k5,.int .i64 k6,.int .i64 r,.int .i64 c,.slice B9 v.length d9,.slice B10 t.length d10]] w fun e w'=>e = .returned (.bool true) ∧ Below w.heap.size w w':=by
 have hu:=Try.underlying27
 have hu2:=Try.underlying23
 have HA9:=Aside0.mk hA9
 have HA10:=Aside0.mk hA10
 have HB9:=Aside0.mk hB9
 have HB10:=Aside0.mk hB10
 obtain ⟨W0,hW0⟩ : ∃ W0,(w.alloc (.cells #[.int .i64 k0,.int .i64 k1,.int .i64 k2,.int .i64 k3,.int .i64 k4,.int .i64 k5,.int .i64 k6,.int .i64 r,.int .i64 c,.slice A9 v.length c9,.slice A10 t.length c10] 27)).alloc (.cells #[.int .i64 k0,.int .i64 k1,.int .i64 k2,.int .i64 k3,.int .i64 k4,.int .i64 k5,.int .i64 k6,.int .i64 r,.int .i64 c,.slice B9 v.length d9,.slice B10 t.length d10] 27) = W0:=⟨_,rfl⟩
 have S0:=Aside0.mk (show SS w W0 k0 k1 k2 k3 k4 k5 k6 r c (.slice A9 v.length c9) (.slice A10 t.length c10) (.slice B9 v.length d9) (.slice B10 t.length d10) from by
  rw [← hW0]
  refine ⟨blk_alloc (blk_new w _) _,?_,below_alloc (below_alloc (Below.refl _ w) _) _⟩
  have:=blk_new (w.alloc (.cells #[.int .i64 k0,.int .i64 k1,.int .i64 k2,.int .i64 k3,.int .i64 k4,.int .i64 k5,.int .i64 k6,.int .i64 r,.int .i64 c,.slice A9 v.length c9,.slice A10 t.length c10] 27)) (.cells #[.int .i64 k0,.int .i64 k1,.int .i64 k2,.int .i64 k3,.int .i64 k4,.int .i64 k5,.int .i64 k6,.int .i64 r,.int .i64 c,.slice B9 v.length d9,.slice B10 t.length d10] 27);rwa [World.size_alloc] at this)
 have HW0:=Aside0.mk hW0
 clear hA9 hA10 hB9 hB10 hW0
 go_enter Try.func19,Try.ntmps19
 go_wp2_with (fail)
 rw [HW0.out]
 clear HW0
 go_loopw [5] (fun v5 w'=>∃ j : Nat,j ≤ v.length ∧ v5 = .int .i64 j ∧ Aside0 (SS w w' k0 k1 k2 k3 k4 k5 k6 r c (.slice A9 v.length c9) (.slice A10 t.length c10) (.slice B9 v.length d9) (.slice B10 t.length d10))) (fun u _=>v.length - (intOf u).toNat)
 case atStart=>exact ⟨0,by omega,rfl,S0⟩
 case round =>
  obtain ⟨j,hj,rfl,SJ⟩:=hrel
  clear S0
  have p9:=SJ.out.p.e9
  by_cases hlt : j < v.length
  ·have d0 : decide ((j : Int) < (v.length : Int)) = true:=decide_eq_true (by omega)
   obtain ⟨ad,ea,hx⟩:=Kd.at_int (Kd.C_below HA9.out SJ.out.b) (j : Int) (by omega) (by omega)
   obtain ⟨bd,eb,hy⟩:=Kd.at_int (Kd.C_below HB9.out SJ.out.b) (j : Int) (by omega) (by omega)
   cases ea
   cases eb
   clear hx hy
   go_upto_region 6 with (fail)
   clear p9
   refine start_ (n:=11) (S:=fun W=>P2 W w.heap.size k0 k1 k2 k3 k4 k5 k6 r c (.slice (some ad) v.length c9) (.slice A10 t.length c10) ∧ P2 W (w.heap.size + 1) k0 k1 k2 k3 k4 k5 k6 r c (.slice (some bd) v.length d9) (.slice B10 t.length d10) ∧ Below w.heap.size w W) (ds:=[]) #[false,false,false,false,false,false,false,false,false,false,false] (by kernel_rfl) rfl rfl ⟨SJ.out.p,SJ.out.q,below_drew1 SJ.out.b⟩ (fun hHeld=>?_)
   refine pure_ (i:=0) (N:=some 51) (v:=?_) (a':=?_) #[true,false,false,false,false,false,false,false,false,false,false] rfl rfl (by kernel_rfl) (fun _ _ _ h=>h) (Or.inl ⟨by rfl,?_⟩) ?_ ?_
   rotate_left
   ·intro w'
    go_simp
    with_reducible rfl
   rotate_left
   ·simp only [Act.put,List.setIfInBounds_toArray,List.set_cons_zero,List.set_cons_succ,i64_w,i32_w]
    rfl
   refine pure_ (i:=2) (N:=some 53) (v:=?_) (a':=?_) #[true,false,true,false,false,false,false,false,false,false,false] rfl rfl (by kernel_rfl) (fun _ _ _ h=>h) (Or.inl ⟨by rfl,?_⟩) ?_ ?_
   rotate_left
   ·intro w'
    go_simp
    with_reducible rfl
   rotate_left
   ·simp only [Act.put,List.setIfInBounds_toArray,List.set_cons_zero,List.set_cons_succ,i64_w,i32_w]
    rfl
   refine pure_ (i:=5) (N:=some 56) (v:=?_) (a':=?_) #[true,false,true,false,false,true,false,false,false,false,false] rfl rfl (by kernel_rfl) (fun _ _ _ h=>h) (Or.inl ⟨by rfl,?_⟩) ?_ ?_
   rotate_left
   ·intro w'
    go_simp
    with_reducible rfl
   rotate_left
   ·simp only [Act.put,List.setIfInBounds_toArray,List.set_cons_zero,List.set_cons_succ,i64_w,i32_w]
    rfl
   refine pure_ (i:=7) (N:=some 58) (v:=?_) (a':=?_) #[true,false,true,false,false,true,false,true,false,false,false] rfl rfl (by kernel_rfl) (fun _ _ _ h=>h) (Or.inl ⟨by rfl,?_⟩) ?_ ?_
   rotate_left
   ·intro w'
    go_simp
    with_reducible rfl
   rotate_left
   ·simp only [Act.put,List.setIfInBounds_toArray,List.set_cons_zero,List.set_cons_succ,i64_w,i32_w]
    rfl
   refine take_ (i:=1) (N:=some 52) (v:=?_) (a':=?_) #[true,true,true,false,false,true,false,true,false,false,false] rfl rfl (by kernel_rfl) (fun _ _ _ h=>h) (Or.inl ⟨by rfl,?_⟩) hHeld ?_ ?_
   rotate_left
   ·intro w' s
    have p9:=s.1.e9
    have q9:=s.2.1.e9
    obtain ⟨ad',e0',hx1⟩:=Kd.at_int (Kd.C_below HA9.out s.2.2) (j : Int) (by omega) (by omega)
    cases e0'
    obtain ⟨bd',e1',hy1⟩:=Kd.at_int (Kd.C_below HB9.out s.2.2) (j : Int) (by omega) (by omega)
    cases e1'
    simp only [Int.toNat_natCast] at hx1 hy1
    clear s
    go_simp
    with_reducible rfl
   rotate_left
   ·simp only [Act.put,List.setIfInBounds_toArray,List.set_cons_zero,List.set_cons_succ,i64_w,i32_w]
    rfl
   refine pure_ (i:=3) (N:=some 54) (v:=?_) (a':=?_) #[true,true,true,true,false,true,false,true,false,false,false] rfl rfl (by kernel_rfl) (fun _ _ _ h=>h) (Or.inl ⟨by rfl,?_⟩) ?_ ?_
   rotate_left
   ·intro w'
    go_simp
    with_reducible rfl
   rotate_left
   ·simp only [Act.put,List.setIfInBounds_toArray,List.set_cons_zero,List.set_cons_succ,i64_w,i32_w]
    rfl
   refine take_ (i:=4) (N:=some 55) (v:=?_) (a':=?_) #[true,true,true,true,true,true,false,true,false,false,false] rfl rfl (by kernel_rfl) (fun _ _ _ h=>h) (Or.inl ⟨by rfl,?_⟩) hHeld ?_ ?_
   rotate_left
   ·intro w' s
    have p9:=s.1.e9
    have q9:=s.2.1.e9
    obtain ⟨ad',e0',hx1⟩:=Kd.at_int (Kd.C_below HA9.out s.2.2) (j : Int) (by omega) (by omega)
    cases e0'
    obtain ⟨bd',e1',hy1⟩:=Kd.at_int (Kd.C_below HB9.out s.2.2) (j : Int) (by omega) (by omega)
    cases e1'
    simp only [Int.toNat_natCast] at hx1 hy1
    clear s
    go_simp
    with_reducible rfl
   rotate_left
   ·simp only [Act.put,List.setIfInBounds_toArray,List.set_cons_zero,List.set_cons_succ,i64_w,i32_w]
    rfl
   refine take_ (i:=6) (N:=some 57) (v:=?_) (a':=?_) #[true,true,true,true,true,true,true,true,false,false,false] rfl rfl (by kernel_rfl) (fun _ _ _ h=>h) (Or.inl ⟨by rfl,?_⟩) hHeld ?_ ?_
   rotate_left
   ·intro w' s
    have p9:=s.1.e9
    have q9:=s.2.1.e9
    obtain ⟨ad',e0',hx1⟩:=Kd.at_int (Kd.C_below HA9.out s.2.2) (j : Int) (by omega) (by omega)
    cases e0'
    obtain ⟨bd',e1',hy1⟩:=Kd.at_int (Kd.C_below HB9.out s.2.2) (j : Int) (by omega) (by omega)
    cases e1'
    simp only [Int.toNat_natCast] at hx1 hy1
    clear s
    go_simp
    with_reducible rfl
   rotate_left
   ·simp only [Act.put,List.setIfInBounds_toArray,List.set_cons_zero,List.set_cons_succ,i64_w,i32_w]
    rfl
   refine pure_ (i:=8) (N:=some 59) (v:=?_) (a':=?_) #[true,true,true,true,true,true,true,true,true,false,false] rfl rfl (by kernel_rfl) (fun _ _ _ h=>h) (Or.inl ⟨by rfl,?_⟩) ?_ ?_
   rotate_left
   ·intro w'
    go_simp
    with_reducible rfl
   rotate_left
   ·simp only [Act.put,List.setIfInBounds_toArray,List.set_cons_zero,List.set_cons_succ,i64_w,i32_w]
    rfl
   refine take_ (i:=9) (N:=some 60) (v:=?_) (a':=?_) #[true,true,true,true,true,true,true,true,true,true,false] rfl rfl (by kernel_rfl) (fun _ _ _ h=>h) (Or.inl ⟨by rfl,?_⟩) hHeld ?_ ?_
   rotate_left
   ·intro w' s
    have p9:=s.1.e9
    have q9:=s.2.1.e9
    obtain ⟨ad',e0',hx1⟩:=Kd.at_int (Kd.C_below HA9.out s.2.2) (j : Int) (by omega) (by omega)
    cases e0'
    obtain ⟨bd',e1',hy1⟩:=Kd.at_int (Kd.C_below HB9.out s.2.2) (j : Int) (by omega) (by omega)
    cases e1'
    simp only [Int.toNat_natCast] at hx1 hy1
    clear s
    go_simp
    with_reducible rfl
   rotate_left
   ·simp only [Act.put,List.setIfInBounds_toArray,List.set_cons_zero,List.set_cons_succ,i64_w,i32_w]
    rfl
   refine pure_ (i:=10) (N:=some 61) (v:=?_) (a':=?_) #[true,true,true,true,true,true,true,true,true,true,true] rfl rfl (by kernel_rfl) (fun _ _ _ h=>h) (Or.inl ⟨by rfl,?_⟩) ?_ ?_
   rotate_left
   ·intro w'
    go_simp
    with_reducible rfl
   rotate_left
   ·simp only [Act.put,List.setIfInBounds_toArray,List.set_cons_zero,List.set_cons_succ,i64_w,i32_w]
    rfl
   refine done_ (by kernel_rfl) ?_
   have SN:=Aside0.mk (SJ.out.step (below_drew (Below.refl _ _)))
   clear SJ hHeld
   go_wp2
   exact ⟨⟨j + 1,by omega,by go_num,SN⟩,by simp [intOf];omega⟩
  ·have d0 : decide ((j : Int) < (v.length : Int)) = false:=decide_eq_false (by omega)
   go_wp2_with (fail)
   clear p9 d0 hj
   have S0:=SJ
   clear SJ
   go_loopw [6] (fun v6 w'=>∃ j : Nat,j ≤ t.length ∧ v6 = .int .i64 j ∧ Aside0 (SS w w' k0 k1 k2 k3 k4 k5 k6 r c (.slice A9 v.length c9) (.slice A10 t.length c10) (.slice B9 v.length d9) (.slice B10 t.length d10))) (fun u _=>t.length - (intOf u).toNat)
   case atStart=>exact ⟨0,by omega,rfl,S0⟩
   case round =>
    obtain ⟨j,hj,rfl,SJ⟩:=hrel
    clear S0
    have p9:=SJ.out.p.e10
    by_cases hlt : j < t.length
    ·have d0 : decide ((j : Int) < (t.length : Int)) = true:=decide_eq_true (by omega)
     obtain ⟨ad,ea,hx⟩:=Kd.at_int (Kd.C_below HA10.out SJ.out.b) (j : Int) (by omega) (by omega)
     obtain ⟨bd,eb,hy⟩:=Kd.at_int (Kd.C_below HB10.out SJ.out.b) (j : Int) (by omega) (by omega)
     cases ea
     cases eb
     clear hx hy
     go_upto_region 11 with (fail)
     clear p9
     refine start_ (n:=11) (S:=fun W=>P2 W w.heap.size k0 k1 k2 k3 k4 k5 k6 r c (.slice A9 v.length c9) (.slice (some ad) t.length c10) ∧ P2 W (w.heap.size + 1) k0 k1 k2 k3 k4 k5 k6 r c (.slice B9 v.length d9) (.slice (some bd) t.length d10) ∧ Below w.heap.size w W) (ds:=[]) #[false,false,false,false,false,false,false,false,false,false,false] (by kernel_rfl) rfl rfl ⟨SJ.out.p,SJ.out.q,below_drew1 SJ.out.b⟩ (fun hHeld=>?_)
     refine pure_ (i:=0) (N:=some 69) (v:=?_) (a':=?_) #[true,false,false,false,false,false,false,false,false,false,false] rfl rfl (by kernel_rfl) (fun _ _ _ h=>h) (Or.inl ⟨by rfl,?_⟩) ?_ ?_
     rotate_left
     ·intro w'
      go_simp
      with_reducible rfl
     rotate_left
     ·simp only [Act.put,List.setIfInBounds_toArray,List.set_cons_zero,List.set_cons_succ,i64_w,i32_w]
      rfl
     refine pure_ (i:=2) (N:=some 71) (v:=?_) (a':=?_) #[true,false,true,false,false,false,false,false,false,false,false] rfl rfl (by kernel_rfl) (fun _ _ _ h=>h) (Or.inl ⟨by rfl,?_⟩) ?_ ?_
     rotate_left
     ·intro w'
      go_simp
      with_reducible rfl
     rotate_left
     ·simp only [Act.put,List.setIfInBounds_toArray,List.set_cons_zero,List.set_cons_succ,i64_w,i32_w]
      rfl
     refine pure_ (i:=5) (N:=some 74) (v:=?_) (a':=?_) #[true,false,true,false,false,true,false,false,false,false,false] rfl rfl (by kernel_rfl) (fun _ _ _ h=>h) (Or.inl ⟨by rfl,?_⟩) ?_ ?_
     rotate_left
     ·intro w'
      go_simp
      with_reducible rfl
     rotate_left
     ·simp only [Act.put,List.setIfInBounds_toArray,List.set_cons_zero,List.set_cons_succ,i64_w,i32_w]
      rfl
     refine pure_ (i:=7) (N:=some 76) (v:=?_) (a':=?_) #[true,false,true,false,false,true,false,true,false,false,false] rfl rfl (by kernel_rfl) (fun _ _ _ h=>h) (Or.inl ⟨by rfl,?_⟩) ?_ ?_
     rotate_left
     ·intro w'
      go_simp
      with_reducible rfl
     rotate_left
     ·simp only [Act.put,List.setIfInBounds_toArray,List.set_cons_zero,List.set_cons_succ,i64_w,i32_w]
      rfl
     refine take_ (i:=1) (N:=some 70) (v:=?_) (a':=?_) #[true,true,true,false,false,true,false,true,false,false,false] rfl rfl (by kernel_rfl) (fun _ _ _ h=>h) (Or.inl ⟨by rfl,?_⟩) hHeld ?_ ?_
     rotate_left
     ·intro w' s
      have p9:=s.1.e10
      have q9:=s.2.1.e10
      obtain ⟨ad',e0',hx1⟩:=Kd.at_int (Kd.C_below HA10.out s.2.2) (j : Int) (by omega) (by omega)
      cases e0'
      obtain ⟨bd',e1',hy1⟩:=Kd.at_int (Kd.C_below HB10.out s.2.2) (j : Int) (by omega) (by omega)
      cases e1'
      simp only [Int.toNat_natCast] at hx1 hy1
      clear s
      go_simp
      with_reducible rfl
     rotate_left
     ·simp only [Act.put,List.setIfInBounds_toArray,List.set_cons_zero,List.set_cons_succ,i64_w,i32_w]
      rfl
     refine pure_ (i:=3) (N:=some 72) (v:=?_) (a':=?_) #[true,true,true,true,false,true,false,true,false,false,false] rfl rfl (by kernel_rfl) (fun _ _ _ h=>h) (Or.inl ⟨by rfl,?_⟩) ?_ ?_
     rotate_left
     ·intro w'
      go_simp
      with_reducible rfl
     rotate_left
     ·simp only [Act.put,List.setIfInBounds_toArray,List.set_cons_zero,List.set_cons_succ,i64_w,i32_w]
      rfl
     refine take_ (i:=4) (N:=some 73) (v:=?_) (a':=?_) #[true,true,true,true,true,true,false,true,false,false,false] rfl rfl (by kernel_rfl) (fun _ _ _ h=>h) (Or.inl ⟨by rfl,?_⟩) hHeld ?_ ?_
     rotate_left
     ·intro w' s
      have p9:=s.1.e10
      have q9:=s.2.1.e10
      obtain ⟨ad',e0',hx1⟩:=Kd.at_int (Kd.C_below HA10.out s.2.2) (j : Int) (by omega) (by omega)
      cases e0'
      obtain ⟨bd',e1',hy1⟩:=Kd.at_int (Kd.C_below HB10.out s.2.2) (j : Int) (by omega) (by omega)
      cases e1'
      simp only [Int.toNat_natCast] at hx1 hy1
      clear s
      go_simp
      with_reducible rfl
     rotate_left
     ·simp only [Act.put,List.setIfInBounds_toArray,List.set_cons_zero,List.set_cons_succ,i64_w,i32_w]
      rfl
     refine take_ (i:=6) (N:=some 75) (v:=?_) (a':=?_) #[true,true,true,true,true,true,true,true,false,false,false] rfl rfl (by kernel_rfl) (fun _ _ _ h=>h) (Or.inl ⟨by rfl,?_⟩) hHeld ?_ ?_
     rotate_left
     ·intro w' s
      have p9:=s.1.e10
      have q9:=s.2.1.e10
      obtain ⟨ad',e0',hx1⟩:=Kd.at_int (Kd.C_below HA10.out s.2.2) (j : Int) (by omega) (by omega)
      cases e0'
      obtain ⟨bd',e1',hy1⟩:=Kd.at_int (Kd.C_below HB10.out s.2.2) (j : Int) (by omega) (by omega)
      cases e1'
      simp only [Int.toNat_natCast] at hx1 hy1
      clear s
      go_simp
      with_reducible rfl
     rotate_left
     ·simp only [Act.put,List.setIfInBounds_toArray,List.set_cons_zero,List.set_cons_succ,i64_w,i32_w]
      rfl
     refine pure_ (i:=8) (N:=some 77) (v:=?_) (a':=?_) #[true,true,true,true,true,true,true,true,true,false,false] rfl rfl (by kernel_rfl) (fun _ _ _ h=>h) (Or.inl ⟨by rfl,?_⟩) ?_ ?_
     rotate_left
     ·intro w'
      go_simp
      with_reducible rfl
     rotate_left
     ·simp only [Act.put,List.setIfInBounds_toArray,List.set_cons_zero,List.set_cons_succ,i64_w,i32_w]
      rfl
     refine take_ (i:=9) (N:=some 78) (v:=?_) (a':=?_) #[true,true,true,true,true,true,true,true,true,true,false] rfl rfl (by kernel_rfl) (fun _ _ _ h=>h) (Or.inl ⟨by rfl,?_⟩) hHeld ?_ ?_
     rotate_left
     ·intro w' s
      have p9:=s.1.e10
      have q9:=s.2.1.e10
      obtain ⟨ad',e0',hx1⟩:=Kd.at_int (Kd.C_below HA10.out s.2.2) (j : Int) (by omega) (by omega)
      cases e0'
      obtain ⟨bd',e1',hy1⟩:=Kd.at_int (Kd.C_below HB10.out s.2.2) (j : Int) (by omega) (by omega)
      cases e1'
      simp only [Int.toNat_natCast] at hx1 hy1
      clear s
      go_simp
      with_reducible rfl
     rotate_left
     ·simp only [Act.put,List.setIfInBounds_toArray,List.set_cons_zero,List.set_cons_succ,i64_w,i32_w]
      rfl
     refine pure_ (i:=10) (N:=some 79) (v:=?_) (a':=?_) #[true,true,true,true,true,true,true,true,true,true,true] rfl rfl (by kernel_rfl) (fun _ _ _ h=>h) (Or.inl ⟨by rfl,?_⟩) ?_ ?_
     rotate_left
     ·intro w'
      go_simp
      with_reducible rfl
     rotate_left
     ·simp only [Act.put,List.setIfInBounds_toArray,List.set_cons_zero,List.set_cons_succ,i64_w,i32_w]
      rfl
     refine done_ (by kernel_rfl) ?_
     have SN:=Aside0.mk (SJ.out.step (below_drew (Below.refl _ _)))
     clear SJ hHeld
     go_wp2
     exact ⟨⟨j + 1,by omega,by go_num,SN⟩,by simp [intOf];omega⟩
    ·have d0 : decide ((j : Int) < (t.length : Int)) = false:=decide_eq_false (by omega)
     go_wp2
     go_ret
     exact ⟨rfl,SJ.out.b⟩
end Go.Proofs.Ytnagfbadjbkhmaa.FSame

namespace Go.Proofs.Ytnagfbadjbkhmaa.PureDataBack
open Go.RowKit Go.Shelf Go.Proofs.YtnagfbadjbkhmaaW.PrintWords Go.Proofs.YtnagfbadjbkhmaaW.PrintLast Go.Proofs.YtnagfbadjbkhmaaW.PrintMore Go.Proofs.Ytnagfbadjbkhmaa.Pure Go.Proofs.Ytnagfbadjbkhmaa.PA Go.Proofs.Ytnagfbadjbkhmaa.FTake Go.Proofs.Ytnagfbadjbkhmaa.FTarget Go.Proofs.Ytnagfbadjbkhmaa.PureVal Go.Proofs.Ytnagfbadjbkhmaa.FConfD Go.Proofs.Ytnagfbadjbkhmaa.PureConfRef Go.Proofs.Ytnagfbadjbkhmaa.PureDataGet Go.Proofs.Ytnagfbadjbkhmaa.PureDataParts Go.Proofs.Ytnagfbadjbkhmaa.FData09 Go.Proofs.Ytnagfbadjbkhmaa.FDataPut Go.Proofs.Ytnagfbadjbkhmaa.FDataGet Go.Proofs.Ytnagfbadjbkhmaa.FRefGet Go.Proofs.Ytnagfbadjbkhmaa.PureDataPut
open Go.Proofs.Ytnagfbadjbkhmaa.PureTake (be be_len u64_wrap)
open Go.Proofs.Ytnagfbadjbkhmaa.PureGet (Bytes byte_drop byte_take)
open Go.Proofs.Ytnagfbadjbkhmaa.FConfGet (chk)
set_option linter.unusedVariables false
set_option linter.unusedSimpArgs false
theorem be_shift : ∀ (m : Nat) (x y : Int) (j : Nat),m ≤ j → be m (x + y * 256 ^ j) = be m x
 | 0,_,_,_,_=>rfl
 | m + 1,x,y,j,h=>by
  have hq : (0 : Int) < 256 ^ m:=Int.pow_pos (by omega)
  obtain ⟨d,rfl⟩ : ∃ d,j = m + (d + 1):=⟨j - m - 1,by omega⟩
  have e : x + y * 256 ^ (m + (d + 1)) = x + (y * 256 ^ d * 256) * 256 ^ m:=by
   rw [Int.pow_add,Int.pow_succ,← Int.mul_assoc,Int.mul_assoc y,Int.mul_comm (256 ^ m),← Int.mul_assoc,← Int.mul_assoc]
  simp only [be]
  rw [e,Int.add_mul_ediv_right _ _ (by omega),Int.add_mul_emod_self_right,← e,be_shift m x y _ (by omega)]
theorem be_val : ∀ (l : List Int),Bytes l → be l.length (val l) = l
 | [],_=>rfl
 | y :: l,h=>by
  have hy:=h y (by simp)
  have hl : Bytes l:=fun x hx=>h x (by simp [hx])
  have hb:=val_bound l hl
  have hq : (0 : Int) < 256 ^ l.length:=Int.pow_pos (by omega)
  rw [val_cons,List.length_cons]
  simp only [be]
  rw [Int.add_comm,be_shift l.length _ _ _ (Nat.le_refl _),be_val l hl,Int.add_mul_ediv_right _ _ (by omega),Int.ediv_eq_zero_of_lt hb.1 hb.2,Int.zero_add,Int.emod_eq_of_lt hy.1 hy.2]
theorem num_inv {n v : Int} {r r1 : List Int} (hb : Bytes r) (h : number n r = .ok (v,r1)) : r = be (FTake.cnt n) v ++ r1 ∧ 0 ≤ v ∧ v < 256 ^ FTake.cnt n ∧ Bytes r1:=by
 unfold number at h
 split at h
 ·rename_i hc
  simp only [Except.ok.injEq,Prod.mk.injEq] at h
  have ht : Bytes (r.take (FTake.cnt n)):=fun x hx=>hb x (List.mem_of_mem_take hx)
  have hlen : (r.take (FTake.cnt n)).length = FTake.cnt n:=by rw [List.length_take];omega
  have e:=be_val _ ht
  have bd:=val_bound _ ht
  rw [hlen] at e bd
  rw [← h.1,← h.2,e]
  exact ⟨(List.take_append_drop _ _).symm,bd.1,bd.2,fun x hx=>hb x (List.mem_of_mem_drop hx)⟩
 ·cases h
theorem be_mod8 (x : Int) : be 8 (x % 18446744073709551616) = be 8 x:=by
 have e : x = x % 18446744073709551616 + (x / 18446744073709551616) * 256 ^ 8:=by rw [show (256 : Int) ^ 8 = 18446744073709551616 from rfl];omega
 conv=>rhs;rw [e]
 rw [be_shift 8 _ _ 8 (by omega)]
theorem seq_inv {α β : Type} {p : P α} {q : α → P β} {l r : List Int} {y : β} (h : seq p q l = .ok (y,r)) : ∃ x r1,p l = .ok (x,r1) ∧ q x r1 = .ok (y,r):=by
 change (match p l with|.error c=>Except.error c|.ok (x,r)=>q x r) = _ at h
 cases h1 : p l with
 | error c=>rw [h1] at h;cases h
 | ok z=>rw [h1] at h;exact ⟨z.1,z.2,rfl,h⟩
theorem guard_inv {β : Type} {c : Prop} [Decidable c] {e : Int} {q : P β} {l r : List Int} {y : β} (h : guard c e q l = .ok (y,r)) : ¬ c ∧ q l = .ok (y,r):=by
 by_cases hc : c
 ·have : (Except.error e : Except Int (β × List Int)) = .ok (y,r):=(if_pos hc).symm.trans h
  cases this
 ·exact ⟨hc,(if_neg hc).symm.trans h⟩
theorem done_inv {α : Type} {x y : α} {l r : List Int} (h : done x l = .ok (y,r)) : y = x ∧ r = l:=by
 cases h;exact ⟨rfl,rfl⟩
theorem values_inv : ∀ (n : Nat) (out : List Nat) (l : List Int) (vs : List Nat) (r : List Int),Bytes l → values cl n out l = .ok (vs,r) → ∃ xs : List Nat,vs = out ++ xs ∧ xs.length = n ∧ l = fv xs ++ r ∧ Bytes r ∧ (∀ x ∈ xs,cl x = true ∧ x < 18446744073709551616)
 | 0,out,l,vs,r,hb,h=>by
  obtain ⟨e1,e2⟩:=done_inv h
  exact ⟨[],by simp [e1],rfl,by simp [fv,e2],by rw [e2];exact hb,by simp⟩
 | n + 1,out,l,vs,r,hb,h=>by
  obtain ⟨x,r1,h1,h2⟩:=seq_inv h
  obtain ⟨hc,h3⟩:=guard_inv h2
  obtain ⟨e1,b0,b1,hb1⟩:=num_inv hb h1
  rw [show FTake.cnt 8 = 8 from rfl] at e1 b1
  rw [p8] at b1
  obtain ⟨xs,f1,f2,f3,f4,f5⟩:=values_inv n _ r1 vs r hb1 h3
  have hu : Flt.ubits (Flt.fbits x) = x:=by unfold Flt.ubits Flt.fbits;omega
  refine ⟨Flt.fbits x :: xs,by rw [f1];simp,by simp [f2],by rw [e1,f3];simp [fv,hu],f4,?_⟩
  intro y hy
  rcases List.mem_cons.1 hy with rfl|hy
  ·exact ⟨by simpa using hc,by unfold Flt.fbits;omega⟩
  ·exact f5 y hy
theorem targets_inv (k0 k1 : Int) : ∀ (n : Nat) (out : List Int) (l : List Int) (ts : List Int) (r : List Int),Bytes l → targets k0 k1 n out l = .ok (ts,r) → ∃ xs : List Int,ts = out ++ xs ∧ xs.length = n ∧ l = ft xs ++ r ∧ Bytes r ∧ (∀ x ∈ xs,may k0 k1 x = 0)
 | 0,out,l,ts,r,hb,h=>by
  obtain ⟨e1,e2⟩:=done_inv h
  exact ⟨[],by simp [e1],rfl,by simp [ft,e2],by rw [e2];exact hb,by simp⟩
 | n + 1,out,l,ts,r,hb,h=>by
  obtain ⟨x,r1,h1,h2⟩:=seq_inv h
  obtain ⟨hc,h3⟩:=guard_inv h2
  obtain ⟨e1,b0,b1,hb1⟩:=num_inv hb h1
  rw [show FTake.cnt 8 = 8 from rfl] at e1 b1
  rw [p8] at b1
  obtain ⟨xs,f1,f2,f3,f4,f5⟩:=targets_inv k0 k1 n _ r1 ts r hb1 h3
  have hu : IntKind.u64.wrap (wrap64 x) = x:=by
   simp only [IntKind.wrap,IntKind.bits,IntKind.signed,wrap64]
   simp
   omega
  refine ⟨wrap64 x :: xs,by rw [f1];simp,by simp [f2],by rw [e1,f3];simp [ft,hu],f4,?_⟩
  intro y hy
  rcases List.mem_cons.1 hy with rfl|hy
  ·exact Decidable.not_not.1 hc
  ·exact f5 y hy
theorem count_inv {m : Nat} {k most n : Int} {l r : List Int} (hk : FTake.cnt k = m) (hb : Bytes l) (h : count k most l = .ok (n,r)) : l = be m n ++ r ∧ Bytes r ∧ 0 ≤ n ∧ n ≠ 0 ∧ n ≤ most ∧ n < 256 ^ m:=by
 obtain ⟨x,r1,h1,h2⟩:=seq_inv h
 obtain ⟨hc,h3⟩:=guard_inv h2
 obtain ⟨hd,h4⟩:=guard_inv h3
 obtain ⟨e1,e2⟩:=done_inv h4
 subst e1
 subst e2
 obtain ⟨f1,b0,b1,hb1⟩:=num_inv hb h1
 rw [hk] at f1 b1
 exact ⟨f1,hb1,b0,hc,by omega,b1⟩
theorem conf_inv {l xs r : List Int} (hb : Bytes l) (h : FConfGet.get l = .ok (xs,r)) : l = bytesC (FConfGet.fld xs) ++ r ∧ chk (FConfGet.fld xs) = 0:=by
 obtain ⟨e1,h14⟩:=conf_rest h
 obtain ⟨q,n1,n2,n3⟩:=nums_ok FConfGet.szs (l.take 14) (by rw [szs_sum,List.length_take];omega)
 obtain ⟨q',m1,m2,m3⟩:=nums_ok FConfGet.szs l (by rw [szs_sum];omega)
 unfold FConfGet.get at h
 rw [m1] at h
 simp only at h
 split at h
 ·rename_i hc
  simp only [Except.ok.injEq,Prod.mk.injEq] at h
  have hg:=(Good.nums FConfGet.szs) (l.take 14) q.1 q.2 n1
  obtain ⟨u,eu,hu⟩:=hg
  have hq2 : q.2 = []:=by rw [n3,szs_sum];apply List.drop_eq_nil_of_le;rw [List.length_take];omega
  rw [hq2,List.append_nil] at eu
  have h2:=hu.1 (l.drop 14)
  rw [← eu,List.take_append_drop,m1] at h2
  have h3 : q'.1 = q.1:=by
   have:=congrArg (fun z=>match z with|.ok (y : List Int × List Int)=>y.1|.error _=>[]) h2
   exact this
  have hbk:=bytes_back (l.take 14) (fun x hx=>hb x (List.mem_of_mem_take hx)) (by rw [List.length_take];omega) q n1
  have hx : xs = q.1:=by rw [← h.1,h3]
  refine ⟨?_,by rw [← h.1];exact hc⟩
  rw [hx,hbk,e1,List.take_append_drop]
 ·cases h
/-- What is read whole is put as these bytes. -/
theorem get_put {l : List Int} {d : D} (hb : Bytes l) (h : get cl l = .ok (d,[])) : putD (FConfGet.fld d.g 0) (FConfGet.fld d.g 1) (FConfGet.fld d.g 2) (FConfGet.fld d.g 3) (FConfGet.fld d.g 4) (FConfGet.fld d.g 5) (FConfGet.fld d.g 6) d.rows d.cols d.vs d.ts = (l,0):=by
 obtain ⟨a,r0,h1,h2⟩:=seq_inv (show seq _ _ l = _ from h)
 obtain ⟨ha,h3⟩:=guard_inv h2
 obtain ⟨g,r1,h4,h5⟩:=seq_inv h3
 obtain ⟨rows,r2,h6,h7⟩:=seq_inv h5
 obtain ⟨cols,r3,h8,h9⟩:=seq_inv h7
 obtain ⟨hm,h10⟩:=guard_inv h9
 obtain ⟨vs,r4,h11,h12⟩:=seq_inv h10
 obtain ⟨ts,r5,h13,h14⟩:=seq_inv h12
 obtain ⟨e1,e2⟩:=done_inv h14
 subst e1
 subst e2
 obtain ⟨f1,_,_,hb0⟩:=num_inv hb h1
 obtain ⟨f2,hck⟩:=conf_inv hb0 h4
 have hb1 : Bytes r1:=by obtain ⟨e,_⟩:=conf_rest h4;rw [e];exact byte_drop hb0 14
 obtain ⟨f3,hb2,p0,p1,p2,_⟩:=count_inv (m:=4) rfl hb1 h6
 obtain ⟨f4,hb3,q0,q1,q2,_⟩:=count_inv (m:=2) rfl hb2 h8
 obtain ⟨xs,g1,g2,g3,hb4,g5⟩:=values_inv _ _ _ _ _ hb3 h11
 obtain ⟨ys,k1,k2,k3,hb5,k5⟩:=targets_inv _ _ _ _ _ _ _ hb4 h13
 rw [List.nil_append] at g1 k1
 subst g1
 subst k1
 rw [List.append_nil] at k3
 have ha' : a = 1213157966:=Decidable.not_not.1 ha
 have hm0 : 0 ≤ rows * cols:=Int.mul_nonneg p0 q0
 have hmx : rows * cols ≤ 1048576 * 1024:=Int.mul_le_mul p2 q2 q0 (by decide)
 have hgk : ∀ f : (Nat → Int) → Int,(∀ g1 g2 : Nat → Int,(∀ i,i < 7 → g1 i = g2 i) → f g1 = f g2) → True:=fun _ _=>trivial
 have hsh : shp rows cols vs.length = true:=by
  simp only [shp,Bool.and_eq_true,decide_eq_true_eq]
  rw [wrap_in (by omega) (by omega)]
  exact ⟨⟨⟨⟨by omega,by omega⟩,by omega⟩,by omega⟩,by omega⟩
 have hcn : cnts rows cols = 0:=by
  unfold cnts
  rw [if_neg p1,if_neg (show ¬ rows > 1048576 by omega),if_neg q1,if_neg (show ¬ cols > 1024 by omega),if_neg (by rw [wrap_in (by omega) (by omega)];exact hm)]
 obtain ⟨hd,hhd⟩ : ∃ hd,headB (gk (FConfGet.fld g 0) (FConfGet.fld g 1) (FConfGet.fld g 2) (FConfGet.fld g 3) (FConfGet.fld g 4) (FConfGet.fld g 5) (FConfGet.fld g 6)) rows cols = hd:=⟨_,rfl⟩
 have hck' : chk (gk (FConfGet.fld g 0) (FConfGet.fld g 1) (FConfGet.fld g 2) (FConfGet.fld g 3) (FConfGet.fld g 4) (FConfGet.fld g 5) (FConfGet.fld g 6)) = 0:=hck
 have hl : l = hd ++ fv vs ++ ft ts:=by
  rw [← hhd]
  unfold headB
  rw [if_pos hck',u64_wrap p0 (by omega),u64_wrap q0 (by omega)]
  rw [f1,f2,f3,f4,g3,k3,ha',show FTake.cnt 4 = 4 from rfl]
  simp only [List.append_assoc]
  rfl
 have hV : ∀ (zs : List Nat) (bs : List Int),(∀ x ∈ zs,cl x = true) → vbs cl zs bs = .ok (bs ++ fv zs):=by
  intro zs
  induction zs with
  | nil=>intro bs _;simp [vbs,fv]
  | cons z zs ih =>
   intro bs hz
   unfold vbs
   rw [if_pos (hz z (by simp)),ih _ (fun x hx=>hz x (by simp [hx]))]
   simp [fv]
 have hT : ∀ (zs : List Int) (bs : List Int),(∀ x ∈ zs,may (FConfGet.fld g 0) (FConfGet.fld g 1) x = 0) → tbs (FConfGet.fld g 0) (FConfGet.fld g 1) zs bs = .ok (bs ++ ft zs):=by
  intro zs
  induction zs with
  | nil=>intro bs _;simp [tbs,ft]
  | cons z zs ih =>
   intro bs hz
   unfold tbs
   rw [if_pos (hz z (by simp)),ih _ (fun x hx=>hz x (by simp [hx]))]
   simp [ft]
 unfold putD putR
 simp only
 rw [if_pos ⟨hsh,by omega⟩,if_neg (fun h=>h hck'),if_neg (by rw [hcn];simp),hhd,hV vs hd (fun x hx=>(g5 x hx).1)]
 simp only
 rw [hT ts _ k5,hl]
end Go.Proofs.Ytnagfbadjbkhmaa.PureDataBack

namespace Go.Proofs.Ytnagfbadjbkhmaa.FDatasetGets
open Go.RowKit Go.Shelf Go.Proofs.YtnagfbadjbkhmaaW.PrintWords Go.Proofs.YtnagfbadjbkhmaaW.PrintLast Go.Proofs.YtnagfbadjbkhmaaW.PrintMore Go.Proofs.Ytnagfbadjbkhmaa.Pure Go.Proofs.Ytnagfbadjbkhmaa.PA Go.Proofs.Ytnagfbadjbkhmaa.FTake Go.Proofs.Ytnagfbadjbkhmaa.FTarget Go.Proofs.Ytnagfbadjbkhmaa.FConfD Go.Proofs.Ytnagfbadjbkhmaa.PureDataGet Go.Proofs.Ytnagfbadjbkhmaa.PureDataParts Go.Proofs.Ytnagfbadjbkhmaa.FData09 Go.Proofs.Ytnagfbadjbkhmaa.FDataPut Go.Proofs.Ytnagfbadjbkhmaa.FDataGet Go.Proofs.Ytnagfbadjbkhmaa.PureDataPut Go.Proofs.Ytnagfbadjbkhmaa.PureDataBack
open Go.Proofs.Ytnagfbadjbkhmaa.FDataOf (Pl)
open Go.Proofs.Ytnagfbadjbkhmaa.FConfGet (chk)
set_option linter.unusedVariables false
set_option linter.unusedSimpArgs false
/-- What is read in full: its numbers, values, targets; and the error. -/
theorem values_lt {l : List Int} (hl : l.length ≤ 5000) : (getR cl l).1.vs.length ≤ 100000 ∧ (getR cl l).1.ts.length ≤ 100000:=by
 have hv : ∀ (n : Nat) (out : List Nat) (l : List Int) (vs : List Nat) (r : List Int),values cl n out l = .ok (vs,r) → vs.length + r.length ≤ out.length + l.length:=by
  intro n
  induction n with
  | zero=>intro out l vs r h;obtain ⟨e1,e2⟩:=done_inv h;rw [e1,e2];omega
  | succ n ih =>
   intro out l vs r h
   obtain ⟨x,r1,h1,h2⟩:=seq_inv h
   obtain ⟨_,h3⟩:=guard_inv h2
   have hi:=ih _ _ _ _ h3
   obtain ⟨e1,e2⟩:=FRefGet.num_ok h1
   have e3 : r1.length = l.length - 8:=by rw [e1,List.length_drop];rfl
   have e4 : 8 ≤ l.length:=e2
   rw [List.length_append,List.length_singleton] at hi
   omega
 have ht : ∀ (k0 k1 : Int) (n : Nat) (out : List Int) (l : List Int) (ts : List Int) (r : List Int),targets k0 k1 n out l = .ok (ts,r) → ts.length + r.length ≤ out.length + l.length:=by
  intro k0 k1 n
  induction n with
  | zero=>intro out l vs r h;obtain ⟨e1,e2⟩:=done_inv h;rw [e1,e2];omega
  | succ n ih =>
   intro out l vs r h
   obtain ⟨x,r1,h1,h2⟩:=seq_inv h
   obtain ⟨_,h3⟩:=guard_inv h2
   have hi:=ih _ _ _ _ h3
   obtain ⟨e1,e2⟩:=FRefGet.num_ok h1
   have e3 : r1.length = l.length - 8:=by rw [e1,List.length_drop];rfl
   have e4 : 8 ≤ l.length:=e2
   rw [List.length_append,List.length_singleton] at hi
   omega
 unfold getR
 cases h : get cl l with
 | error c=>simp
 | ok z =>
  obtain ⟨d,r⟩:=z
  simp only
  split
  ·simp
  ·obtain ⟨a,r0,h1,h2⟩:=seq_inv (show seq _ _ l = _ from h)
   obtain ⟨ha,h3⟩:=guard_inv h2
   obtain ⟨g,r1,h4,h5⟩:=seq_inv h3
   obtain ⟨rows,r2,h6,h7⟩:=seq_inv h5
   obtain ⟨cols,r3,h8,h9⟩:=seq_inv h7
   obtain ⟨hm,h10⟩:=guard_inv h9
   obtain ⟨vs,r4,h11,h12⟩:=seq_inv h10
   obtain ⟨ts,r5,h13,h14⟩:=seq_inv h12
   obtain ⟨e1,e2⟩:=done_inv h14
   subst e1
   have g1:=hv _ _ _ _ _ h11
   have g2:=ht _ _ _ _ _ _ _ h13
   have g3 : r3.length ≤ l.length:=by
    obtain ⟨u1,f1,_⟩:=Good.number _ _ _ _ h1
    obtain ⟨u2,f2,_⟩:=Good.conf _ _ _ h4
    obtain ⟨u3,f3,_⟩:=Good.count _ _ _ _ _ h6
    obtain ⟨u4,f4,_⟩:=Good.count _ _ _ _ _ h8
    rw [f1,f2,f3,f4];simp only [List.length_append];omega
   simp only [List.length_nil] at g1 g2
   exact ⟨by show vs.length ≤ _;omega,by show ts.length ≤ _;omega⟩
structure GS (w W : World) (g h : Nat) (k0 k1 k2 k3 k4 k5 k6 r c : Int) (a9 a10 b9 b10 : Value) : Prop where
 d : W.heap[g]? = some (.cells #[.int .i64 k0,.int .i64 k1,.int .i64 k2,.int .i64 k3,.int .i64 k4,.int .i64 k5,.int .i64 k6,.int .i64 r,.int .i64 c,a9,a10] 32 (0,0))
 p : FSame.P2 W h k0 k1 k2 k3 k4 k5 k6 r c b9 b10
 b : Below w.heap.size w W
theorem GS.step {w W W' : World} {g h : Nat} {k0 k1 k2 k3 k4 k5 k6 r c : Int} {a9 a10 b9 b10 : Value} (H : GS w W g h k0 k1 k2 k3 k4 k5 k6 r c a9 a10 b9 b10) (hb : Below W.heap.size W W') : GS w W' g h k0 k1 k2 k3 k4 k5 k6 r c a9 a10 b9 b10:=⟨blk_below H.d hb,blk_below H.p hb,below_step H.b hb⟩
set_option maxHeartbeats 8000000 in
set_option maxRecDepth 100000 in
theorem law_calls (A : Option Addr) (cc : Nat) (l : List Int) (w : World) (hr : Kd.C (Kd.int .u8) w A l.length l) (hc : l.length ≤ cc) (hx : ∀ x ∈ l,0 ≤ x ∧ x < 256) :
  Calls Try.prog 5 #[.slice A l.length cc] w fun e w'=>e = .returned (.bool true) ∧ Below w.heap.size w w':=by
 have hu:=Try.underlying32
 have hu2:=Try.underlying23
 have hu3:=Try.underlying27
 have HR:=Aside0.mk hr
 have HC:=Aside0.mk hc
 have HX:=Aside0.mk hx
 clear hr hc hx
 by_cases hbig : (l.length : Int) > 5000
 ·have d0 : decide ((l.length : Int) > 5000) = true:=decide_eq_true hbig
  clear hbig
  go_enter Try.func5,Try.ntmps5
  go_wp2_with (fail)
  refine (FData09.fixed_calls _).mono ?_
  rintro e w1 ⟨rfl,hb⟩
  have HB:=Aside0.mk hb
  clear hb
  go_wp2
  go_ret
  exact ⟨rfl,HB.out⟩
 ·have d0 : decide ((l.length : Int) > 5000) = false:=decide_eq_false hbig
  have hl5 : l.length ≤ 5000:=by omega
  have HL5:=Aside0.mk hl5
  have HVL:=Aside0.mk (values_lt hl5)
  obtain ⟨Q,hQ⟩ : ∃ Q,getR cl l = Q:=⟨_,rfl⟩
  have hst0 : ∀ W,Below w.heap.size w W → (convert 42 9 (.slice A l.length cc)).run Try.prog W = .ok (.string (strOfNums l)) W:=fun W hW=>Kd.C_string (P:=Try.prog) (A:=A) (c:=cc) Try.underlying42 Try.underlying5 Try.underlying9 (Kd.C_below HR.out hW)
  have HST:=Aside0.mk hst0
  have G:=dget_calls A cc l w HR.out HC.out HX.out (by omega)
  rw [hQ] at G HVL
  obtain ⟨⟨g0,r,c,vs,ts⟩,code⟩:=Q
  have HQ:=Aside0.mk hQ
  obtain ⟨k0,hk0⟩ : ∃ k,FConfGet.fld g0 0 = k:=⟨_,rfl⟩
  obtain ⟨k1,hk1⟩ : ∃ k,FConfGet.fld g0 1 = k:=⟨_,rfl⟩
  obtain ⟨k2,hk2⟩ : ∃ k,FConfGet.fld g0 2 = k:=⟨_,rfl⟩
  obtain ⟨k3,hk3⟩ : ∃ k,FConfGet.fld g0 3 = k:=⟨_,rfl⟩
  obtain ⟨k4,hk4⟩ : ∃ k,FConfGet.fld g0 4 = k:=⟨_,rfl⟩
  obtain ⟨k5,hk5⟩ : ∃ k,FConfGet.fld g0 5 = k:=⟨_,rfl⟩
  obtain ⟨k6,hk6⟩ : ∃ k,FConfGet.fld g0 6 = k:=⟨_,rfl⟩
  have HK:=Aside0.mk (And.intro hk0 (And.intro hk1 (And.intro hk2 (And.intro hk3 (And.intro hk4 (And.intro hk5 hk6))))))
  have G' : Calls Try.prog 23 #[.slice A l.length cc] w fun e w'=>∃ av tv,e = .returned (.tuple #[.agg #[.int .i64 k0,.int .i64 k1,.int .i64 k2,.int .i64 k3,.int .i64 k4,.int .i64 k5,.int .i64 k6,.int .i64 r,.int .i64 c,av,tv],.int .i64 code]) ∧ VR w.heap.size w' av vs ∧ TR w.heap.size w' tv ts ∧ Below w.heap.size w w':=by
   rw [← hk0,← hk1,← hk2,← hk3,← hk4,← hk5,← hk6];exact G
  have G2 : ∀ W,Calls Try.prog 24 #[.string (strOfNums l)] W fun e w'=>∃ av tv,e = .returned (.tuple #[.agg #[.int .i64 k0,.int .i64 k1,.int .i64 k2,.int .i64 k3,.int .i64 k4,.int .i64 k5,.int .i64 k6,.int .i64 r,.int .i64 c,av,tv],.int .i64 code]) ∧ FRefGet.UR W.heap.size w' av (vs.map Flt.ubits) ∧ TR W.heap.size w' tv ts ∧ Below W.heap.size W w':=by
   intro W
   have h:=FRefGet.get_calls l HX.out (by omega) W
   rw [hQ] at h
   rw [← hk0,← hk1,← hk2,← hk3,← hk4,← hk5,← hk6];exact h
  have HG1:=Aside0.mk G'
  have HG2:=Aside0.mk G2
  clear G G' G2 hk0 hk1 hk2 hk3 hk4 hk5 hk6 hQ hst0 hbig hl5
  go_enter Try.func5,Try.ntmps5
  go_wp2_with (fail)
  clear d0
  refine HG1.out.mono ?_
  rintro e w1 ⟨av,tv,rfl,hV,hT,hb⟩
  obtain ⟨A4,c4,rfl,hc4,hC4⟩:=Kd.R_reads hV
  obtain ⟨A5,c5,rfl,hc5,hC5⟩:=Kd.R_reads hT
  obtain ⟨g,hgg⟩ : ∃ g,w1.heap.size = g:=⟨_,rfl⟩
  obtain ⟨W2,hW2⟩ : ∃ W2,w1.alloc (.cells #[.int .i64 k0,.int .i64 k1,.int .i64 k2,.int .i64 k3,.int .i64 k4,.int .i64 k5,.int .i64 k6,.int .i64 r,.int .i64 c,.slice A4 vs.length c4,.slice A5 ts.length c5] 32) = W2:=⟨_,rfl⟩
  have D2:=Aside0.mk (show W2.heap[g]? = some (.cells #[.int .i64 k0,.int .i64 k1,.int .i64 k2,.int .i64 k3,.int .i64 k4,.int .i64 k5,.int .i64 k6,.int .i64 r,.int .i64 c,.slice A4 vs.length c4,.slice A5 ts.length c5] 32 (0,0)) from by rw [← hW2,← hgg];exact blk_new w1 _)
  have B2:=Aside0.mk (show Below w.heap.size w W2 from by rw [← hW2];exact below_alloc hb _)
  have HV2:=Aside0.mk (show vs.length ≤ c4 ∧ Kd.C Flt.kf W2 A4 vs.length vs from ⟨hc4,by rw [← hW2];exact Kd.C_below hC4 (below_alloc (Below.refl _ _) _)⟩)
  have HT2:=Aside0.mk (show ts.length ≤ c5 ∧ Kd.C (Kd.int .i64) W2 A5 ts.length ts from ⟨hc5,by rw [← hW2];exact Kd.C_below hC5 (below_alloc (Below.refl _ _) _)⟩)
  have hst:=HST.out W2 B2.out
  rw [← hW2] at hst
  have HW2:=Aside0.mk hW2
  have HGG:=Aside0.mk hgg
  clear hV hT hb hc4 hC4 hc5 hC5 HG1 hW2 hgg
  go_wp2_with (fail)
  rw [HW2.out,HGG.out]
  clear hst HW2 HGG
  refine (HG2.out W2).mono ?_
  rintro e w3 ⟨av,tv,rfl,hU,hT,hb⟩
  obtain ⟨us,hus⟩ : ∃ us,vs.map Flt.ubits = us:=⟨_,rfl⟩
  rw [hus] at hU
  have HUS:=Aside0.mk hus
  have HUL:=Aside0.mk (show us.length = vs.length by rw [← hus,List.length_map])
  obtain ⟨A6,c6,rfl,hc6,hC6⟩:=Kd.R_reads hU
  obtain ⟨A7,c7,rfl,hc7,hC7⟩:=Kd.R_reads hT
  obtain ⟨h,hhh⟩ : ∃ h,w3.heap.size = h:=⟨_,rfl⟩
  obtain ⟨W4,hW4⟩ : ∃ W4,w3.alloc (.cells #[.int .i64 k0,.int .i64 k1,.int .i64 k2,.int .i64 k3,.int .i64 k4,.int .i64 k5,.int .i64 k6,.int .i64 r,.int .i64 c,.slice A6 us.length c6,.slice A7 ts.length c7] 27) = W4:=⟨_,rfl⟩
  have S4:=Aside0.mk (show GS w W4 g h k0 k1 k2 k3 k4 k5 k6 r c (.slice A4 vs.length c4) (.slice A5 ts.length c5) (.slice A6 us.length c6) (.slice A7 ts.length c7) from by
   rw [← hW4,← hhh]
   exact ⟨blk_alloc (blk_below D2.out hb) _,blk_new w3 _,below_alloc (below_step B2.out hb) _⟩)
  have HV4:=Aside0.mk (show vs.length ≤ c4 ∧ Kd.C Flt.kf W4 A4 vs.length vs from ⟨HV2.out.1,by rw [← hW4];exact Kd.C_below (Kd.C_below HV2.out.2 hb) (below_alloc (Below.refl _ _) _)⟩)
  have HT4:=Aside0.mk (show ts.length ≤ c5 ∧ Kd.C (Kd.int .i64) W4 A5 ts.length ts from ⟨HT2.out.1,by rw [← hW4];exact Kd.C_below (Kd.C_below HT2.out.2 hb) (below_alloc (Below.refl _ _) _)⟩)
  have HP4:=Aside0.mk (show Kd.C (Kd.int .u64) W4 A6 us.length us ∧ Kd.C (Kd.int .i64) W4 A7 ts.length ts from ⟨by rw [← hW4];exact Kd.C_below hC6 (below_alloc (Below.refl _ _) _),by rw [← hW4];exact Kd.C_below hC7 (below_alloc (Below.refl _ _) _)⟩)
  have HW4:=Aside0.mk hW4
  have HHH:=Aside0.mk hhh
  clear hU hT hb hc6 hC6 hc7 hC7 D2 B2 HV2 HT2 HG2 hus hW4 hhh
  go_upto_region 5 with (fail)
  rw [HW4.out,HHH.out]
  clear HW4 HHH
  have dcc : (code != code) = false:=by simp
  refine start_ (n:=10) (S:=fun W=>W.heap[g]? = some (.cells #[.int .i64 k0,.int .i64 k1,.int .i64 k2,.int .i64 k3,.int .i64 k4,.int .i64 k5,.int .i64 k6,.int .i64 r,.int .i64 c,.slice A4 vs.length c4,.slice A5 ts.length c5] 32 (0,0)) ∧ FSame.P2 W h k0 k1 k2 k3 k4 k5 k6 r c (.slice A6 us.length c6) (.slice A7 ts.length c7)) (ds:=[]) #[false,false,false,false,false,false,false,false,false,false] (by kernel_rfl) rfl rfl ⟨S4.out.d,S4.out.p⟩ (fun hHeld=>?_)
  have n1_:=Aside0.mk (S4.out.step (below_drew (Below.refl _ W4)))
  have n2_:=Aside0.mk (And.intro HV4.out.1 (Kd.C_below HV4.out.2 (below_drew (Below.refl _ W4))))
  have n3_:=Aside0.mk (And.intro HT4.out.1 (Kd.C_below HT4.out.2 (below_drew (Below.refl _ W4))))
  have n4_:=Aside0.mk (And.intro (Kd.C_below HP4.out.1 (below_drew (Below.refl _ W4))) (Kd.C_below HP4.out.2 (below_drew (Below.refl _ W4))))
  clear S4 HV4 HT4 HP4
  have S4:=n1_
  have HV4:=n2_
  have HT4:=n3_
  have HP4:=n4_
  clear n1_ n2_ n3_ n4_
  generalize W4.drew = w5 at S4 HV4 HT4 HP4 hHeld ⊢
  refine pure_ (i:=0) (N:=some 24) (v:=?_) (a':=?_) #[true,false,false,false,false,false,false,false,false,false] rfl rfl (by kernel_rfl) (fun _ _ _ h=>h) (Or.inl ⟨by rfl,?_⟩) ?_ ?_
  rotate_left
  ·intro w'
   go_simp
   with_reducible rfl
  rotate_left
  ·simp only [Act.put,List.setIfInBounds_toArray,List.set_cons_zero,List.set_cons_succ,i64_w,i32_w]
   rfl
  refine pure_ (i:=1) (N:=some 25) (v:=?_) (a':=?_) #[true,true,false,false,false,false,false,false,false,false] rfl rfl (by kernel_rfl) (fun _ _ _ h=>h) (Or.inl ⟨by rfl,?_⟩) ?_ ?_
  rotate_left
  ·intro w'
   go_simp
   with_reducible rfl
  rotate_left
  ·simp only [Act.put,List.setIfInBounds_toArray,List.set_cons_zero,List.set_cons_succ,i64_w,i32_w]
   rfl
  refine pure_ (i:=2) (N:=some 26) (v:=?_) (a':=?_) #[true,true,true,false,false,false,false,false,false,false] rfl rfl (by kernel_rfl) (fun _ _ _ h=>h) (Or.inl ⟨by rfl,?_⟩) ?_ ?_
  rotate_left
  ·intro w'
   go_simp
   with_reducible rfl
  rotate_left
  ·simp only [Act.put,List.setIfInBounds_toArray,List.set_cons_zero,List.set_cons_succ,i64_w,i32_w]
   rfl
  refine pure_ (i:=3) (N:=some 27) (v:=?_) (a':=?_) #[true,true,true,true,false,false,false,false,false,false] rfl rfl (by kernel_rfl) (fun _ _ _ h=>h) (Or.inl ⟨by rfl,?_⟩) ?_ ?_
  rotate_left
  ·intro w'
   go_simp
   with_reducible rfl
  rotate_left
  ·simp only [Act.put,List.setIfInBounds_toArray,List.set_cons_zero,List.set_cons_succ,i64_w,i32_w]
   rfl
  refine take_ (i:=4) (N:=some 28) (v:=?_) (a':=?_) #[true,true,true,true,true,false,false,false,false,false] rfl rfl (by kernel_rfl) (fun _ _ _ h=>h) (Or.inl ⟨by rfl,?_⟩) hHeld ?_ ?_
  rotate_left
  ·intro w' s
   have q0:=(blk_cell s.1 0).trans (rfl : _ = some _)
   have q1:=(blk_cell s.1 1).trans (rfl : _ = some _)
   have q2:=(blk_cell s.1 2).trans (rfl : _ = some _)
   have q3:=(blk_cell s.1 3).trans (rfl : _ = some _)
   have q4:=(blk_cell s.1 4).trans (rfl : _ = some _)
   have q5:=(blk_cell s.1 5).trans (rfl : _ = some _)
   have q6:=(blk_cell s.1 6).trans (rfl : _ = some _)
   have q7:=(blk_cell s.1 7).trans (rfl : _ = some _)
   have q8:=(blk_cell s.1 8).trans (rfl : _ = some _)
   have q9:=(blk_cell s.1 9).trans (rfl : _ = some _)
   have q10:=(blk_cell s.1 10).trans (rfl : _ = some _)
   clear s
   go_simp
   with_reducible rfl
  rotate_left
  ·simp only [Act.put,List.setIfInBounds_toArray,List.set_cons_zero,List.set_cons_succ,i64_w,i32_w]
   rfl
  refine take_ (i:=6) (N:=some 30) (v:=?_) (a':=?_) #[true,true,true,true,true,false,true,false,false,false] rfl rfl (by kernel_rfl) (fun _ _ _ h=>h) (Or.inl ⟨by rfl,?_⟩) hHeld ?_ ?_
  rotate_left
  ·intro w' s
   have q0:=s.2.e0
   have q1:=s.2.e1
   have q2:=s.2.e2
   have q3:=s.2.e3
   have q4:=s.2.e4
   have q5:=s.2.e5
   have q6:=s.2.e6
   have q7:=s.2.e7
   have q8:=s.2.e8
   have q9:=s.2.e9
   have q10:=s.2.e10
   clear s
   go_simp
   with_reducible rfl
  rotate_left
  ·simp only [Act.put,List.setIfInBounds_toArray,List.set_cons_zero,List.set_cons_succ,i64_w,i32_w]
   rfl
  refine one_ (i:=5) (N:=some 29) #[true,true,true,true,true,true,true,false,false,false] rfl rfl (by kernel_rfl) (by decide) (fun K hK=>?_)
  refine goes_ Try.func20 (by kernel_rfl) rfl #[.agg #[.int .i64 k0,.int .i64 k1,.int .i64 k2,.int .i64 k3,.int .i64 k4,.int .i64 k5,.int .i64 k6,.int .i64 r,.int .i64 c,.slice A4 vs.length c4,.slice A5 ts.length c5]] (by rfl) rfl rfl (by (try simp only [List.map_toArray,List.map_cons,List.map_nil]);first|done|rfl) ?_
  refine (FDataOf.of_calls k0 k1 k2 k3 k4 k5 k6 r c A4 A5 c4 c5 ts.length vs _ HV4.out.2 HV4.out.1 HVL.out.1).mono ?_
  rintro e w6 ⟨u6,rfl,hR6,hb⟩
  rw [HUS.out] at hR6
  obtain ⟨A8,c8,rfl,hc8,hC8⟩:=Kd.R_reads hR6
  have HC8:=Aside0.mk hC8
  clear hR6 hC8
  refine ⟨_,rfl,?_⟩
  have n1_:=Aside0.mk (S4.out.step hb)
  have n2_:=Aside0.mk (And.intro HV4.out.1 (Kd.C_below HV4.out.2 hb))
  have n3_:=Aside0.mk (And.intro HT4.out.1 (Kd.C_below HT4.out.2 hb))
  have n4_:=Aside0.mk (And.intro (Kd.C_below HP4.out.1 hb) (Kd.C_below HP4.out.2 hb))
  clear S4 HV4 HT4 HP4
  have S4:=n1_
  have HV4:=n2_
  have HT4:=n3_
  have HP4:=n4_
  clear n1_ n2_ n3_ n4_
  clear hHeld
  clear hb
  refine hK.out _ _ ⟨S4.out.d,S4.out.p⟩ (fun hHeld=>?_)
  clear hK K
  refine norm_ (a':=?_) ?_ ?_
  rotate_left
  ·show Act.put _ (some 29) _ = _
   simp only [Act.put,List.setIfInBounds_toArray,List.set_cons_zero,List.set_cons_succ,i64_w,i32_w]
   rfl
  refine one_ (i:=7) (N:=some 31) #[true,true,true,true,true,true,true,true,false,false] rfl rfl (by kernel_rfl) (by decide) (fun K hK=>?_)
  refine goes_ Try.func19 (by kernel_rfl) rfl #[.agg #[.int .i64 k0,.int .i64 k1,.int .i64 k2,.int .i64 k3,.int .i64 k4,.int .i64 k5,.int .i64 k6,.int .i64 r,.int .i64 c,.slice A8 us.length c8,.slice A5 ts.length c5],.agg #[.int .i64 k0,.int .i64 k1,.int .i64 k2,.int .i64 k3,.int .i64 k4,.int .i64 k5,.int .i64 k6,.int .i64 r,.int .i64 c,.slice A6 us.length c6,.slice A7 ts.length c7]] (by rfl) rfl rfl (by (try simp only [List.map_toArray,List.map_cons,List.map_nil]);first|done|rfl) ?_
  refine (FSame.same_calls k0 k1 k2 k3 k4 k5 k6 r c A8 A5 A6 A7 c8 c5 c6 c7 us ts _ HC8.out HT4.out.2 HP4.out.1 HP4.out.2 (by have:=HVL.out.1;have:=HUL.out;omega) HVL.out.2).mono ?_
  rintro e w7 ⟨rfl,hb⟩
  refine ⟨_,rfl,?_⟩
  have n1_:=Aside0.mk (S4.out.step hb)
  have n2_:=Aside0.mk (And.intro HV4.out.1 (Kd.C_below HV4.out.2 hb))
  have n3_:=Aside0.mk (And.intro HT4.out.1 (Kd.C_below HT4.out.2 hb))
  have n4_:=Aside0.mk (And.intro (Kd.C_below HP4.out.1 hb) (Kd.C_below HP4.out.2 hb))
  clear S4 HV4 HT4 HP4
  have S4:=n1_
  have HV4:=n2_
  have HT4:=n3_
  have HP4:=n4_
  clear n1_ n2_ n3_ n4_
  clear hHeld
  clear hb
  refine hK.out _ _ ⟨S4.out.d,S4.out.p⟩ (fun hHeld=>?_)
  clear hK K
  refine norm_ (a':=?_) ?_ ?_
  rotate_left
  ·show Act.put _ (some 31) _ = _
   simp only [Act.put,List.setIfInBounds_toArray,List.set_cons_zero,List.set_cons_succ,i64_w,i32_w]
   rfl
  refine pure_ (i:=8) (N:=some 32) (v:=?_) (a':=?_) #[true,true,true,true,true,true,true,true,true,false] rfl rfl (by kernel_rfl) (fun _ _ _ h=>h) (Or.inl ⟨by rfl,?_⟩) ?_ ?_
  rotate_left
  ·intro w'
   go_simp
   with_reducible rfl
  rotate_left
  ·simp only [Act.put,List.setIfInBounds_toArray,List.set_cons_zero,List.set_cons_succ,i64_w,i32_w]
   rfl
  refine pure_ (i:=9) (N:=some 33) (v:=?_) (a':=?_) #[true,true,true,true,true,true,true,true,true,true] rfl rfl (by kernel_rfl) (fun _ _ _ h=>h) (Or.inl ⟨by rfl,?_⟩) ?_ ?_
  rotate_left
  ·intro w'
   go_simp
   with_reducible rfl
  rotate_left
  ·simp only [Act.put,List.setIfInBounds_toArray,List.set_cons_zero,List.set_cons_succ,i64_w,i32_w]
   rfl
  refine done_ (by kernel_rfl) ?_
  clear hHeld dcc
  by_cases h0 : code = 0
  ·subst h0
   have HGET:=Aside0.mk (show get cl l = .ok (⟨g0,r,c,vs,ts⟩,[]) from by
    have h:=HQ.out
    unfold getR at h
    cases hg : get cl l with
    | error e=>rw [hg] at h;have h2:=congrArg Prod.snd h;simp only at h2;exact absurd h2 (Ne.get l e hg)
    | ok z =>
     obtain ⟨d,rr⟩:=z
     rw [hg] at h
     simp only at h
     split at h
     ·have h2:=congrArg Prod.snd h;simp only at h2;exact absurd h2 (by decide)
     ·rename_i hn
      have h2 : d = ⟨g0,r,c,vs,ts⟩:=congrArg Prod.fst h
      have h3 : rr = []:=List.eq_nil_of_length_eq_zero (by omega)
      rw [h2,h3])
   have hpt:=get_put HX.out HGET.out
   simp only at hpt
   obtain ⟨e0,e1,e2,e3,e4,e5,e6⟩:=HK.out
   rw [e0,e1,e2,e3,e4,e5,e6] at hpt
   have HPT:=Aside0.mk hpt
   clear e0 e1 e2 e3 e4 e5 e6 hpt
   have q0:=(blk_cell S4.out.d 0).trans (rfl : _ = some _)
   have q1:=(blk_cell S4.out.d 1).trans (rfl : _ = some _)
   have q2:=(blk_cell S4.out.d 2).trans (rfl : _ = some _)
   have q3:=(blk_cell S4.out.d 3).trans (rfl : _ = some _)
   have q4:=(blk_cell S4.out.d 4).trans (rfl : _ = some _)
   have q5:=(blk_cell S4.out.d 5).trans (rfl : _ = some _)
   have q6:=(blk_cell S4.out.d 6).trans (rfl : _ = some _)
   have q7:=(blk_cell S4.out.d 7).trans (rfl : _ = some _)
   have q8:=(blk_cell S4.out.d 8).trans (rfl : _ = some _)
   have q9:=(blk_cell S4.out.d 9).trans (rfl : _ = some _)
   have q10:=(blk_cell S4.out.d 10).trans (rfl : _ = some _)
   go_wp2_with (fail)
   clear q0 q1 q2 q3 q4 q5 q6 q7 q8 q9 q10
   have hput:=put_calls cl cl_some k0 k1 k2 k3 k4 k5 k6 r c A4 A5 c4 c5 vs ts (shp r c vs.length) (chk (gk k0 k1 k2 k3 k4 k5 k6)) (cnts r c) (headB (gk k0 k1 k2 k3 k4 k5 k6) r c) _ HV4.out.2 HV4.out.1 HT4.out.2 HT4.out.1 HVL.out.1 HVL.out.2
    (shaped_f k0 k1 k2 k3 k4 k5 k6 r c vs ts) (check_f (gk k0 k1 k2 k3 k4 k5 k6) 20 (by omega)) (counts_f k0 k1 k2 k3 k4 k5 k6 r c vs ts) (if chk (gk k0 k1 k2 k3 k4 k5 k6) = 0 then PureTake.be 4 1213157966 ++ bytesC (gk k0 k1 k2 k3 k4 k5 k6) else PureTake.be 4 1213157966) (put_c (gk k0 k1 k2 k3 k4 k5 k6) (PureTake.be 4 1213157966) (by simp [PureTake.be_len]) 40 (by omega)) rfl (by split <;> simp [PureTake.be_len,bytesC_len])
   rw [show putR cl k0 k1 (shp r c vs.length) (chk (gk k0 k1 k2 k3 k4 k5 k6)) (cnts r c) r vs ts (headB (gk k0 k1 k2 k3 k4 k5 k6) r c) = (l,0) from HPT.out] at hput
   refine hput.mono ?_
   clear hput
   rintro e w8 ⟨A9,c9,rfl,hc9,hC9,hb⟩
   simp only at hc9 hC9 ⊢
   have B8:=Aside0.mk (below_step S4.out.b hb)
   have HC9:=Aside0.mk hC9
   clear hb hC9 S4 HV4 HT4 HP4
   go_wp2_with (fail)
   refine (FData09.fixed_calls _).mono ?_
   rintro e w9 ⟨rfl,hb⟩
   have B9:=Aside0.mk (below_step B8.out hb)
   have hs1:=Kd.C_string (P:=Try.prog) (A:=A9) (c:=c9) Try.underlying42 Try.underlying5 Try.underlying9 (Kd.C_below HC9.out hb)
   have hs2:=HST.out w9 B9.out
   clear hb B8
   go_wp2
   go_ret
   exact ⟨rfl,B9.out⟩
  ·have dc : (code != 0) = true:=bne_iff_ne.mpr h0
   clear h0
   go_wp2_with (fail)
   refine (FData09.fixed_calls _).mono ?_
   rintro e w8 ⟨rfl,hb⟩
   have B8:=Aside0.mk (below_step S4.out.b hb)
   clear hb S4
   go_wp2
   go_ret
   exact ⟨rfl,B8.out⟩
end Go.Proofs.Ytnagfbadjbkhmaa.FDatasetGets
