/- hornbeamref09.Get by a walk: it answers what dataset.Get does. -/
import Derived.Test.YtnagfbadjbkhmaaFDataGet
import Derived.Test.YtnagfbadjbkhmaaPureClean
import Derived.Test.YtnagfbadjbkhmaaPureConfRef
namespace Go.Proofs.Ytnagfbadjbkhmaa.FRefGet
open Go.RowKit Go.Shelf Go.Proofs.YtnagfbadjbkhmaaW.PrintWords Go.Proofs.YtnagfbadjbkhmaaW.PrintLast Go.Proofs.YtnagfbadjbkhmaaW.PrintMore Go.Proofs.Ytnagfbadjbkhmaa.Pure Go.Proofs.Ytnagfbadjbkhmaa.PA Go.Proofs.Ytnagfbadjbkhmaa.FTake Go.Proofs.Ytnagfbadjbkhmaa.FTarget Go.Proofs.Ytnagfbadjbkhmaa.FConfD Go.Proofs.Ytnagfbadjbkhmaa.PureConfRef Go.Proofs.Ytnagfbadjbkhmaa.PureDataGet Go.Proofs.Ytnagfbadjbkhmaa.FData09 Go.Proofs.Ytnagfbadjbkhmaa.FDataGet Go.Proofs.Ytnagfbadjbkhmaa.PureClean
open Go.Proofs.Ytnagfbadjbkhmaa.PureGet (Bytes ref_get_f byte_drop byte_take)
attribute [local go_sem high] Flt.run_bits Flt.run_frombits
open Go.Proofs.Ytnagfbadjbkhmaa.FConfGet (chk)
set_option linter.unusedVariables false
set_option linter.unusedSimpArgs false
theorem info_u64 : (Try.prog.info? 37).map (fun i=>(i.zero,i.size,i.bytes)) = some (some (.int .u64 0),1,8):=by kernel_rfl
theorem info_i64 : (Try.prog.info? 2).map (fun i=>(i.zero,i.size,i.bytes)) = some (some (.int .i64 0),1,8):=by kernel_rfl
abbrev UR (n : Nat) (W : World) (v : Value) (l : List Int) : Prop:=Kd.R (Kd.int .u64) 37 W n (fun _=>True) v l
def Zp (W : World) (g : Nat) : Prop:=W.heap[g]? = some (.cells #[.int .i64 0,.int .i64 0,.int .i64 0,.int .i64 0,.int .i64 0,.int .i64 0,.int .i64 0,.int .i64 0,.int .i64 0,.slice none 0 0,.slice none 0 0] 27 (0,0))
def Cg (W : World) (g : Nat) (xs : List Int) : Prop:=W.heap[g]? = some (.cells #[.int .i64 (FConfGet.fld xs 0),.int .i64 (FConfGet.fld xs 1),.int .i64 (FConfGet.fld xs 2),.int .i64 (FConfGet.fld xs 3),.int .i64 (FConfGet.fld xs 4),.int .i64 (FConfGet.fld xs 5),.int .i64 (FConfGet.fld xs 6)] 23 (0,0))
def Pg (W : World) (g : Nat) (xs : List Int) (rows cols : Int) (av tv : Value) : Prop:=W.heap[g]? = some (.cells #[.int .i64 (FConfGet.fld xs 0),.int .i64 (FConfGet.fld xs 1),.int .i64 (FConfGet.fld xs 2),.int .i64 (FConfGet.fld xs 3),.int .i64 (FConfGet.fld xs 4),.int .i64 (FConfGet.fld xs 5),.int .i64 (FConfGet.fld xs 6),.int .i64 rows,.int .i64 cols,av,tv] 27 (0,0))
namespace Pg
variable {W : World} {g : Nat} {xs : List Int} {rows cols : Int} {av tv : Value}
theorem c0 (H : Pg W g xs rows cols av tv) : W.cell? ⟨g,0,none⟩ = some (.int .i64 (FConfGet.fld xs 0)):=(blk_cell H 0).trans rfl
theorem c1 (H : Pg W g xs rows cols av tv) : W.cell? ⟨g,1,none⟩ = some (.int .i64 (FConfGet.fld xs 1)):=(blk_cell H 1).trans rfl
theorem c2 (H : Pg W g xs rows cols av tv) : W.cell? ⟨g,2,none⟩ = some (.int .i64 (FConfGet.fld xs 2)):=(blk_cell H 2).trans rfl
theorem c3 (H : Pg W g xs rows cols av tv) : W.cell? ⟨g,3,none⟩ = some (.int .i64 (FConfGet.fld xs 3)):=(blk_cell H 3).trans rfl
theorem c4 (H : Pg W g xs rows cols av tv) : W.cell? ⟨g,4,none⟩ = some (.int .i64 (FConfGet.fld xs 4)):=(blk_cell H 4).trans rfl
theorem c5 (H : Pg W g xs rows cols av tv) : W.cell? ⟨g,5,none⟩ = some (.int .i64 (FConfGet.fld xs 5)):=(blk_cell H 5).trans rfl
theorem c6 (H : Pg W g xs rows cols av tv) : W.cell? ⟨g,6,none⟩ = some (.int .i64 (FConfGet.fld xs 6)):=(blk_cell H 6).trans rfl
theorem c7 (H : Pg W g xs rows cols av tv) : W.cell? ⟨g,7,none⟩ = some (.int .i64 rows):=(blk_cell H 7).trans rfl
theorem c8 (H : Pg W g xs rows cols av tv) : W.cell? ⟨g,8,none⟩ = some (.int .i64 cols):=(blk_cell H 8).trans rfl
theorem c9 (H : Pg W g xs rows cols av tv) : W.cell? ⟨g,9,none⟩ = some (av):=(blk_cell H 9).trans rfl
theorem c10 (H : Pg W g xs rows cols av tv) : W.cell? ⟨g,10,none⟩ = some (tv):=(blk_cell H 10).trans rfl
theorem put9 (H : Pg W g xs rows cols av tv) (v : Value) : Pg (W.setCell ⟨g,9,none⟩ v) g xs rows cols v tv:=blk_put H 9 _ rfl
theorem put10 (H : Pg W g xs rows cols av tv) (v : Value) : Pg (W.setCell ⟨g,10,none⟩ v) g xs rows cols av v:=blk_put H 10 _ rfl
theorem put7 (H : Pg W g xs rows cols av tv) (v : Int) : Pg (W.setCell ⟨g,7,none⟩ (.int .i64 v)) g xs v cols av tv:=blk_put H 7 _ rfl
theorem put8 (H : Pg W g xs rows cols av tv) (v : Int) : Pg (W.setCell ⟨g,8,none⟩ (.int .i64 v)) g xs rows v av tv:=blk_put H 8 _ rfl
theorem fr (H : Pg W g xs rows cols av tv) (k : Nat) : W.frozen? ⟨g,k,none⟩ = false:=blk_frozen H k
end Pg
/-- How far it is. -/
structure RS (w W : World) (h g : Nat) (xs : List Int) (rows cols : Int) (av tv : Value) (us ts : List Int) : Prop where
 z : Zp W w.heap.size
 k : Cg W h xs
 d : Pg W g xs rows cols av tv
 U : UR w.heap.size W av us
 T : TR w.heap.size W tv ts
 b : Below w.heap.size w W
 hl : w.heap.size < h
 gl : h < g
section
variable {w W W' : World} {h g : Nat} {xs : List Int} {rows cols : Int} {av tv : Value} {us ts : List Int}
theorem RS.below (H : RS w W h g xs rows cols av tv us ts) (hb : Below W.heap.size W W') : RS w W' h g xs rows cols av tv us ts :=
 ⟨blk_below H.z hb,blk_below H.k hb,blk_below H.d hb,Kd.R_below H.U hb,Kd.R_below H.T hb,below_step H.b hb,H.hl,H.gl⟩
theorem RS.appU {v1 : Value} {us1 : List Int} (H : RS w W h g xs rows cols av tv us ts) (hR : UR w.heap.size W' v1 us1) (hb : Below w.heap.size W W') (hg : W.grownBy W' av.ownBlock) :
  Zp W' w.heap.size ∧ Cg W' h xs ∧ Pg W' g xs rows cols av tv ∧ UR w.heap.size W' v1 us1 ∧ TR w.heap.size W' tv ts ∧ Below w.heap.size w W' :=
 ⟨blk_grown H.z hg (Kd.R_ne H.U H.z (by decide)),blk_grown H.k hg (Kd.R_ne H.U H.k (by decide)),blk_grown H.d hg (Kd.R_ne H.U H.d (by decide)),hR,Kd.R_over H.T H.U (by decide) hg,H.b.trans hb⟩
theorem RS.appT {v1 : Value} {ts1 : List Int} (H : RS w W h g xs rows cols av tv us ts) (hR : TR w.heap.size W' v1 ts1) (hb : Below w.heap.size W W') (hg : W.grownBy W' tv.ownBlock) :
  Zp W' w.heap.size ∧ Cg W' h xs ∧ Pg W' g xs rows cols av tv ∧ UR w.heap.size W' av us ∧ TR w.heap.size W' v1 ts1 ∧ Below w.heap.size w W' :=
 ⟨blk_grown H.z hg (Kd.R_ne H.T H.z (by decide)),blk_grown H.k hg (Kd.R_ne H.T H.k (by decide)),blk_grown H.d hg (Kd.R_ne H.T H.d (by decide)),Kd.R_over H.U H.T (by decide) hg,hR,H.b.trans hb⟩
theorem put_rest {av' tv' : Value} (k : Nat) (u : Value) (hgl : w.heap.size < h ∧ h < g) (H : Zp W w.heap.size ∧ Cg W h xs ∧ Pg W g xs rows cols av tv ∧ UR w.heap.size W av' us ∧ TR w.heap.size W tv' ts ∧ Below w.heap.size w W) :
  Zp (W.setCell ⟨g,k,none⟩ u) w.heap.size ∧ Cg (W.setCell ⟨g,k,none⟩ u) h xs ∧ UR w.heap.size (W.setCell ⟨g,k,none⟩ u) av' us ∧ TR w.heap.size (W.setCell ⟨g,k,none⟩ u) tv' ts ∧ Below w.heap.size w (W.setCell ⟨g,k,none⟩ u):=by
 obtain ⟨hz,hk,hd,hU,hT,hb⟩:=H
 exact ⟨blk_far hz (show w.heap.size ≠ g by omega) _,blk_far hk (show h ≠ g by omega) _,Kd.R_mono (Kd.R_set hU hd (by decide) k u) (fun _ _=>trivial),Kd.R_mono (Kd.R_set hT hd (by decide) k u) (fun _ _=>trivial),below_set hb (show w.heap.size ≤ g by omega)⟩
end
/-- What comes out. -/
def Out (n : Nat) (x : D × Int) (w : World) (e : Ending) (w' : World) : Prop:=∃ av tv,e = .returned (.tuple #[.agg (cs x.1.g x.1.rows x.1.cols av tv),.int .i64 x.2]) ∧ UR n w' av (x.1.vs.map Flt.ubits) ∧ TR n w' tv x.1.ts ∧ Below n w w'
theorem out_bad {n : Nat} {x : D × Int} {c : Int} {w w' : World} (hx : x = (⟨[],0,0,[],[]⟩,c)) (hb : Below n w w') : Out n x w (.returned (.tuple #[.agg #[.int .i64 0,.int .i64 0,.int .i64 0,.int .i64 0,.int .i64 0,.int .i64 0,.int .i64 0,.int .i64 0,.int .i64 0,.slice none 0 0,.slice none 0 0],.int .i64 c])) w':=by
 rw [hx];exact ⟨.slice none 0 0,.slice none 0 0,rfl,Kd.R_nil _ _ _ _ _,Kd.R_nil _ _ _ _ _,hb⟩
theorem str_cut (l : List Int) (a b : Nat) : (strOfNums l).extract a b = strOfNums ((l.take b).drop a):=by
 apply ByteArray.ext
 rw [ByteArray.data_extract]
 apply Array.ext'
 rw [Array.toList_extract,strOfNums_data,strOfNums_data,List.extract_eq_drop_take',List.map_drop,List.map_take]
theorem horn_iff (l : List Int) (hb : Bytes l) (h4 : 4 ≤ l.length) : ((strOfNums l).extract 0 4).toList = ([72,79,82,78] : List UInt8) ↔ val (l.take 4) = 1213157966:=by
 obtain ⟨a,b,c,d,r,rfl⟩ : ∃ a b c d r,l = a :: b :: c :: d :: r:=by
  rcases l with _|⟨a,_|⟨b,_|⟨c,_|⟨d,r⟩⟩⟩⟩
  ·simp at h4
  ·simp at h4
  ·simp at h4
  ·simp at h4
  ·exact ⟨a,b,c,d,r,rfl⟩
 rw [str_cut,ByteArray.toList_eq,strOfNums_data]
 have ha:=hb a (by simp);have hb':=hb b (by simp);have hc:=hb c (by simp);have hd:=hb d (by simp)
 have e : ∀ x y : Int,0 ≤ x → x < 256 → 0 ≤ y → y < 256 → (UInt8.ofNat x.toNat = UInt8.ofNat y.toNat ↔ x = y):=by
  intro x y h1 h2 h3 h4
  constructor
  ·intro h
   have:=congrArg UInt8.toNat h
   simp at this
   omega
  ·intro h;rw [h]
 have e1:=e a 72 ha.1 ha.2 (by decide) (by decide);have e2:=e b 79 hb'.1 hb'.2 (by decide) (by decide);have e3:=e c 82 hc.1 hc.2 (by decide) (by decide);have e4:=e d 78 hd.1 hd.2 (by decide) (by decide)
 rw [show UInt8.ofNat (72 : Int).toNat = 72 from rfl] at e1
 rw [show UInt8.ofNat (79 : Int).toNat = 79 from rfl] at e2
 rw [show UInt8.ofNat (82 : Int).toNat = 82 from rfl] at e3
 rw [show UInt8.ofNat (78 : Int).toNat = 78 from rfl] at e4
 simp only [List.take_succ_cons,List.take_zero,List.drop_zero,List.map_cons,List.map_nil,List.cons.injEq,and_true,e1,e2,e3,e4,val,List.foldl_cons,List.foldl_nil]
 omega
/-- The document's config of bytes. -/
theorem ref8_f (l : List Int) (hb : Bytes l) (hl : l.length ≤ 1000000) : hornbeamref08_Get.f 40 (strOfNums l) = some (match FConfGet.get l with|.error c=>(0,0,0,0,0,0,0,c)|.ok (xs,_)=>(FConfGet.fld xs 0,FConfGet.fld xs 1,FConfGet.fld xs 2,FConfGet.fld xs 3,FConfGet.fld xs 4,FConfGet.fld xs 5,FConfGet.fld xs 6,0)):=by
 by_cases h : 14 ≤ l.length
 ·obtain ⟨q,e1,e2,e3⟩:=nums_ok FConfGet.szs l (by rw [szs_sum];omega)
  rw [ref_get l hb hl h q e1 e2 40 (by omega)]
  unfold FConfGet.get
  rw [e1]
  simp only
  split <;> rfl
 ·unfold hornbeamref08_Get.f
  rw [if_pos (by rw [PureTake.strOf_size];omega)]
  unfold FConfGet.get
  rw [nums_few _ _ (by rw [szs_sum];omega)]
theorem conf_rest {l xs r : List Int} (h : FConfGet.get l = .ok (xs,r)) : r = l.drop 14 ∧ 14 ≤ l.length:=by
 by_cases hl : 14 ≤ l.length
 ·obtain ⟨q,e1,e2,e3⟩:=nums_ok FConfGet.szs l (by rw [szs_sum];omega)
  unfold FConfGet.get at h
  rw [e1] at h
  simp only at h
  split at h
  ·simp only [Except.ok.injEq,Prod.mk.injEq] at h
   rw [← h.2,e3,szs_sum];exact ⟨rfl,hl⟩
  ·cases h
 ·unfold FConfGet.get at h
  rw [nums_few _ _ (by rw [szs_sum];omega)] at h
  cases h
theorem conf_kind {l xs r : List Int} (h : FConfGet.get l = .ok (xs,r)) : (FConfGet.fld xs 0 = 0 ∨ FConfGet.fld xs 0 = 1) ∧ (FConfGet.fld xs 0 = 0 → FConfGet.fld xs 1 ≤ 256):=by
 unfold FConfGet.get at h
 cases hn : FConfGet.nums FConfGet.szs l with
 | error c=>rw [hn] at h;cases h
 | ok q =>
  rw [hn] at h
  simp only at h
  split at h
  ·rename_i hc
   simp only [Except.ok.injEq,Prod.mk.injEq] at h
   obtain ⟨h0,h1,_⟩:=chk_zero (g:=FConfGet.fld q.1) hc
   rw [← h.1];exact ⟨by omega,fun _=>by omega⟩
  ·cases h
theorem num_ok {n x : Int} {l r : List Int} (h : number n l = .ok (x,r)) : r = l.drop (cnt n) ∧ cnt n ≤ l.length:=by
 unfold number at h
 split at h
 ·rename_i hc
  simp only [Except.ok.injEq,Prod.mk.injEq] at h
  exact ⟨h.2.symm,hc⟩
 ·cases h
theorem num_err {n c : Int} {l : List Int} (h : number n l = .error c) : c = 2:=by
 unfold number at h
 split at h
 ·cases h
 ·cases h;rfl
theorem num_lt {n x : Int} {l r : List Int} (hb : Bytes l) (h : number n l = .ok (x,r)) : 0 ≤ x ∧ x < 18446744073709551616:=by
 unfold number at h
 split at h
 ·simp only [Except.ok.injEq,Prod.mk.injEq] at h
  have h1:=val_bound (l.take (cnt n)) (byte_take hb _)
  have h2 : (l.take (cnt n)).length ≤ 8:=by rw [List.length_take];have:=cnt_le n;omega
  have h3 : (256 : Int) ^ (l.take (cnt n)).length ≤ 18446744073709551616:=by
   have : ∀ m : Nat,m ≤ 8 → (256 : Int) ^ m ≤ 18446744073709551616:=by
    intro m hm
    have : m = 0 ∨ m = 1 ∨ m = 2 ∨ m = 3 ∨ m = 4 ∨ m = 5 ∨ m = 6 ∨ m = 7 ∨ m = 8:=by omega
    rcases this with rfl|rfl|rfl|rfl|rfl|rfl|rfl|rfl|rfl <;> decide
   exact this _ h2
  rw [← h.1];omega
 ·cases h
set_option maxHeartbeats 8000000 in
set_option maxRecDepth 100000 in
theorem get_calls (l : List Int) (hb : Bytes l) (hl : l.length ≤ 1000000) (w : World) :
  Calls Try.prog 24 #[.string (strOfNums l)] w (Out w.heap.size (getR cl l) w):=by
 have hu:=Try.underlying27
 have hu2:=Try.underlying23
 have HB:=Aside0.mk hb
 have HL:=Aside0.mk hl
 obtain ⟨s,hs⟩ : ∃ s,s = strOfNums l:=⟨_,rfl⟩
 have HS:=Aside0.mk hs
 have hsz : s.size = l.length:=by rw [hs];exact PureTake.strOf_size l
 rw [← hs]
 obtain ⟨N,hN⟩ : ∃ N,l.length = N:=⟨_,rfl⟩
 rw [hN] at hsz hl
 have HN:=Aside0.mk hN
 clear hb hs hN
 by_cases h4 : N < 4
 ·have d0 : decide ((N : Int) < 4) = true:=decide_eq_true (by omega)
  have HG:=Aside0.mk (getR_err (show get cl l = .error 2 from seq_err (show number 4 l = .error 2 by unfold number;rw [if_neg (by rw [HN.out];show ¬ 4 ≤ N;omega)])))
  have z9:=(blk_new w (.cells #[.int .i64 0,.int .i64 0,.int .i64 0,.int .i64 0,.int .i64 0,.int .i64 0,.int .i64 0,.int .i64 0,.int .i64 0,.slice none 0 0,.slice none 0 0] 27) : Zp (w.alloc (.cells #[.int .i64 0,.int .i64 0,.int .i64 0,.int .i64 0,.int .i64 0,.int .i64 0,.int .i64 0,.int .i64 0,.int .i64 0,.slice none 0 0,.slice none 0 0] 27)) w.heap.size)
  unfold Zp at z9
  go_enter Try.func24,Try.ntmps24
  go_wp2_with ((with_reducible refine gate_store (t:=27) (p:=2) rfl ?_);refine FStore.store_all w.heap.size 27 27 2 _ #[.int .i64 0,.int .i64 0,.int .i64 0,.int .i64 0,.int .i64 0,.int .i64 0,.int .i64 0,.int .i64 0,.int .i64 0,.slice none 0 0,.slice none 0 0] #[.int .i64 0,.int .i64 0,.int .i64 0,.int .i64 0,.int .i64 0,.int .i64 0,.int .i64 0,.int .i64 0,.int .i64 0,.slice none 0 0,.slice none 0 0] rfl rfl rfl rfl rfl z9 (by kernel_rfl) rfl (by simp [Value.oneCell']) ?_;intro w99 hb99 hB99 hk99)
  refine bodyPost_ret (results_two rfl _ _ w.heap.size 27 #[.int .i64 0,.int .i64 0,.int .i64 0,.int .i64 0,.int .i64 0,.int .i64 0,.int .i64 0,.int .i64 0,.int .i64 0,.slice none 0 0,.slice none 0 0] (0,0) _ _ rfl rfl hb99 Try.underlying27 rfl (by kernel_rfl)) rfl ?_
  exact out_bad (HG.out) (hB99 _ _ (Nat.le_refl _) (below_alloc (Below.refl _ w) _))
 have d0 : decide ((N : Int) < 4) = false:=decide_eq_false (by omega)
 have h1 : number 4 l = .ok (val (l.take 4),l.drop 4):=by unfold number;rw [if_pos (by rw [HN.out];show 4 ≤ N;omega)];rfl
 have HG1:=Aside0.mk (show get cl l = _ from seq_ok h1)
 have hiff:=horn_iff l HB.out (by rw [HN.out];omega)
 rw [← HS.out] at hiff
 by_cases ha : (s.extract 0 4).toList = ([72,79,82,78] : List UInt8)
 ·have da : ((s.extract 0 4).toList == ([72,79,82,78] : List UInt8)) = true:=beq_iff_eq.mpr ha
  have HG2:=Aside0.mk (HG1.out.trans (guard_neg (fun h=>h (hiff.1 ha))))
  have hx4 : s.extract 4 N = strOfNums (l.drop 4):=by
   rw [HS.out,str_cut,List.take_of_length_le (by rw [HN.out];exact Nat.le_refl _)]
  have HX4:=Aside0.mk hx4
  clear h1 hiff ha HG1 hx4
  obtain ⟨W0,hW0⟩ : ∃ W0,w.alloc (.cells #[.int .i64 0,.int .i64 0,.int .i64 0,.int .i64 0,.int .i64 0,.int .i64 0,.int .i64 0,.int .i64 0,.int .i64 0,.slice none 0 0,.slice none 0 0] 27) = W0:=⟨_,rfl⟩
  have Z0:=Aside0.mk (show Zp W0 w.heap.size from by rw [← hW0];exact blk_new w _)
  have B0:=Aside0.mk (show Below w.heap.size w W0 from by rw [← hW0];exact below_alloc (Below.refl _ w) _)
  have HW0:=Aside0.mk hW0
  clear hW0
  have h8:=ref8_f (l.drop 4) (byte_drop HB.out 4) (by rw [List.length_drop];have:=HL.out;omega)
  rw [← HX4.out] at h8
  have H8:=Aside0.mk h8
  clear h8
  go_enter Try.func24,Try.ntmps24
  go_wp2_with (fail)
  rw [HW0.out]
  clear HW0
  cases h2 : FConfGet.get (l.drop 4) with
  | error c =>
   rw [h2] at H8
   refine (hornbeamref08_Get.calls 40 _ 0 0 0 0 0 0 0 c _ H8.out).mono ?_
   rintro e w1 ⟨rfl,hb⟩
   have dc : (c != 0) = true:=bne_iff_ne.mpr (FConfGet.get_ne h2)
   have HG3:=Aside0.mk (getR_err (HG2.out.trans (seq_err h2)))
   have B1:=Aside0.mk (below_step B0.out hb)
   have Z1:=Aside0.mk (show Zp w1 w.heap.size from blk_below Z0.out hb)
   clear hb h2 B0 Z0
   have hzz:=Aside0.mk (show Zp (w1.alloc (.cells #[.int .i64 0,.int .i64 0,.int .i64 0,.int .i64 0,.int .i64 0,.int .i64 0,.int .i64 0] 23)) w.heap.size from blk_alloc Z1.out _)
   have z9:=hzz.out
   unfold Zp at z9
   go_wp2_with ((with_reducible refine gate_store (t:=27) (p:=2) rfl ?_);refine FStore.store_all w.heap.size 27 27 2 _ #[.int .i64 0,.int .i64 0,.int .i64 0,.int .i64 0,.int .i64 0,.int .i64 0,.int .i64 0,.int .i64 0,.int .i64 0,.slice none 0 0,.slice none 0 0] #[.int .i64 0,.int .i64 0,.int .i64 0,.int .i64 0,.int .i64 0,.int .i64 0,.int .i64 0,.int .i64 0,.int .i64 0,.slice none 0 0,.slice none 0 0] rfl rfl rfl rfl rfl z9 (by kernel_rfl) rfl (by simp [Value.oneCell']) ?_;intro w99 hb99 hB99 hk99)
   refine bodyPost_ret (results_two rfl _ _ w.heap.size 27 #[.int .i64 0,.int .i64 0,.int .i64 0,.int .i64 0,.int .i64 0,.int .i64 0,.int .i64 0,.int .i64 0,.int .i64 0,.slice none 0 0,.slice none 0 0] (0,0) _ _ rfl rfl hb99 Try.underlying27 rfl (by kernel_rfl)) rfl ?_
   exact out_bad (HG3.out) (hB99 _ _ (Nat.le_refl _) (below_alloc B1.out _))
  | ok q =>
   obtain ⟨xs,r1⟩:=q
   rw [h2] at H8
   refine (hornbeamref08_Get.calls 40 _ _ _ _ _ _ _ _ 0 _ H8.out).mono ?_
   rintro e w1 ⟨rfl,hb⟩
   obtain ⟨e1,h18⟩:=conf_rest h2
   rw [List.length_drop,HN.out] at h18
   have HK:=Aside0.mk (conf_kind h2)
   have HG3:=Aside0.mk (HG2.out.trans (seq_ok h2))
   rw [show r1 = l.drop 18 by rw [e1,List.drop_drop]] at HG3
   have B1:=Aside0.mk (below_step B0.out hb)
   have Z1:=Aside0.mk (show Zp w1 w.heap.size from blk_below Z0.out hb)
   clear hb h2 B0 Z0 e1 H8 HG2
   obtain ⟨h,hh⟩ : ∃ h,w1.heap.size = h:=⟨_,rfl⟩
   obtain ⟨W3,hW3⟩ : ∃ W3,(w1.alloc (.cells #[.int .i64 (FConfGet.fld xs 0),.int .i64 (FConfGet.fld xs 1),.int .i64 (FConfGet.fld xs 2),.int .i64 (FConfGet.fld xs 3),.int .i64 (FConfGet.fld xs 4),.int .i64 (FConfGet.fld xs 5),.int .i64 (FConfGet.fld xs 6)] 23)).alloc (.cells #[.int .i64 (FConfGet.fld xs 0),.int .i64 (FConfGet.fld xs 1),.int .i64 (FConfGet.fld xs 2),.int .i64 (FConfGet.fld xs 3),.int .i64 (FConfGet.fld xs 4),.int .i64 (FConfGet.fld xs 5),.int .i64 (FConfGet.fld xs 6),.int .i64 0,.int .i64 0,.slice none 0 0,.slice none 0 0] 27) = W3:=⟨_,rfl⟩
   have S3:=Aside0.mk (show RS w W3 h (h + 1) xs 0 0 (.slice none 0 0) (.slice none 0 0) [] [] from by
    rw [← hW3,← hh]
    refine ⟨blk_alloc (blk_alloc Z1.out _) _,blk_alloc (blk_new w1 _) _,?_,Kd.R_nil _ _ _ _ _,Kd.R_nil _ _ _ _ _,below_alloc (below_alloc B1.out _) _,blk_lt Z1.out,by omega⟩
    have:=blk_new (w1.alloc (.cells #[.int .i64 (FConfGet.fld xs 0),.int .i64 (FConfGet.fld xs 1),.int .i64 (FConfGet.fld xs 2),.int .i64 (FConfGet.fld xs 3),.int .i64 (FConfGet.fld xs 4),.int .i64 (FConfGet.fld xs 5),.int .i64 (FConfGet.fld xs 6)] 23)) (.cells #[.int .i64 (FConfGet.fld xs 0),.int .i64 (FConfGet.fld xs 1),.int .i64 (FConfGet.fld xs 2),.int .i64 (FConfGet.fld xs 3),.int .i64 (FConfGet.fld xs 4),.int .i64 (FConfGet.fld xs 5),.int .i64 (FConfGet.fld xs 6),.int .i64 0,.int .i64 0,.slice none 0 0,.slice none 0 0] 27);rwa [World.size_alloc] at this)
   have HW3:=Aside0.mk hW3
   have HH:=Aside0.mk hh
   clear hW3 hh B1 Z1
   go_upto_region 9 with (fail)
   rw [HW3.out,HH.out]
   clear HW3 HH
   have hR:=ref_get_f l HB.out 18 4 (by rw [HN.out];omega) HL.out 20 (by omega)
   rw [← HS.out] at hR
   go_wp2_with (fail)
   cases h3 : number 4 (l.drop 18) with
   | error c =>
    rw [h3] at hR
    refine (hornbeamref07_Get.calls 20 s 18 4 _ _ _ _ hR).mono ?_
    rintro e w4 ⟨rfl,nd,rfl⟩
    have S4:=Aside0.mk (S3.out.below (below_drewN (Below.refl _ _) nd))
    have HG4:=Aside0.mk (getR_err (HG3.out.trans (seq_err (show count 4 1048576 (l.drop 18) = .error c from seq_err h3))))
    rw [num_err h3] at HG4
    generalize W3.drewN nd = w4 at S4 ⊢
    clear S3 hR h3
    have z9:=S4.out.z
    unfold Zp at z9
    go_wp2_with ((with_reducible refine gate_store (t:=27) (p:=2) rfl ?_);refine FStore.store_all w.heap.size 27 27 2 _ #[.int .i64 0,.int .i64 0,.int .i64 0,.int .i64 0,.int .i64 0,.int .i64 0,.int .i64 0,.int .i64 0,.int .i64 0,.slice none 0 0,.slice none 0 0] #[.int .i64 0,.int .i64 0,.int .i64 0,.int .i64 0,.int .i64 0,.int .i64 0,.int .i64 0,.int .i64 0,.int .i64 0,.slice none 0 0,.slice none 0 0] rfl rfl rfl rfl rfl z9 (by kernel_rfl) rfl (by simp [Value.oneCell']) ?_;intro w99 hb99 hB99 hk99)
    refine bodyPost_ret (results_two rfl _ _ w.heap.size 27 #[.int .i64 0,.int .i64 0,.int .i64 0,.int .i64 0,.int .i64 0,.int .i64 0,.int .i64 0,.int .i64 0,.int .i64 0,.slice none 0 0,.slice none 0 0] (0,0) _ _ rfl rfl hb99 Try.underlying27 rfl (by kernel_rfl)) rfl ?_
    exact out_bad (HG4.out) (hB99 _ _ (Nat.le_refl _) (S4.out.b))
   | ok q =>
    obtain ⟨rows,r2⟩:=q
    rw [h3] at hR
    refine (hornbeamref07_Get.calls 20 s 18 4 _ _ _ _ hR).mono ?_
    rintro e w4 ⟨rfl,nd,rfl⟩
    simp only
    obtain ⟨er2,hc22⟩:=num_ok h3
    rw [List.drop_drop] at er2
    rw [List.length_drop,HN.out] at hc22
    have h22 : 22 ≤ N:=by have : cnt 4 = 4:=rfl;omega
    obtain ⟨hr0,hr1⟩:=num_lt (byte_drop HB.out 18) h3
    have S4:=Aside0.mk (S3.out.below (below_drewN (Below.refl _ _) nd))
    have HCR:=Aside0.mk (show count 4 1048576 (l.drop 18) = _ from seq_ok h3)
    generalize W3.drewN nd = w4 at S4 ⊢
    clear S3 hR h3 hc22
    subst er2
    have e22 : (((18 + PureTake.cnt 4 : Nat) : Int)) = 22:=rfl
    rw [e22]
    clear e22
    by_cases hz : rows = 0
    ·subst hz
     have HG4:=Aside0.mk (getR_err (HG3.out.trans (seq_err (HCR.out.trans (guard_pos rfl)))))
     have z9:=S4.out.z
     unfold Zp at z9
     go_wp2_with ((with_reducible refine gate_store (t:=27) (p:=2) rfl ?_);refine FStore.store_all w.heap.size 27 27 2 _ #[.int .i64 0,.int .i64 0,.int .i64 0,.int .i64 0,.int .i64 0,.int .i64 0,.int .i64 0,.int .i64 0,.int .i64 0,.slice none 0 0,.slice none 0 0] #[.int .i64 0,.int .i64 0,.int .i64 0,.int .i64 0,.int .i64 0,.int .i64 0,.int .i64 0,.int .i64 0,.int .i64 0,.slice none 0 0,.slice none 0 0] rfl rfl rfl rfl rfl z9 (by kernel_rfl) rfl (by simp [Value.oneCell']) ?_;intro w99 hb99 hB99 hk99)
     refine bodyPost_ret (results_two rfl _ _ w.heap.size 27 #[.int .i64 0,.int .i64 0,.int .i64 0,.int .i64 0,.int .i64 0,.int .i64 0,.int .i64 0,.int .i64 0,.int .i64 0,.slice none 0 0,.slice none 0 0] (0,0) _ _ rfl rfl hb99 Try.underlying27 rfl (by kernel_rfl)) rfl ?_
     exact out_bad (HG4.out) (hB99 _ _ (Nat.le_refl _) (S4.out.b))
    have dz : (rows == 0) = false:=beq_eq_false_iff_ne.2 hz
    by_cases hm : rows > 1048576
    ·have dm : decide (rows > 1048576) = true:=decide_eq_true hm
     have HG4:=Aside0.mk (getR_err (HG3.out.trans (seq_err ((HCR.out.trans (guard_neg hz)).trans (guard_pos hm)))))
     have z9:=S4.out.z
     unfold Zp at z9
     go_wp2_with ((with_reducible refine gate_store (t:=27) (p:=2) rfl ?_);refine FStore.store_all w.heap.size 27 27 2 _ #[.int .i64 0,.int .i64 0,.int .i64 0,.int .i64 0,.int .i64 0,.int .i64 0,.int .i64 0,.int .i64 0,.int .i64 0,.slice none 0 0,.slice none 0 0] #[.int .i64 0,.int .i64 0,.int .i64 0,.int .i64 0,.int .i64 0,.int .i64 0,.int .i64 0,.int .i64 0,.int .i64 0,.slice none 0 0,.slice none 0 0] rfl rfl rfl rfl rfl z9 (by kernel_rfl) rfl (by simp [Value.oneCell']) ?_;intro w99 hb99 hB99 hk99)
     refine bodyPost_ret (results_two rfl _ _ w.heap.size 27 #[.int .i64 0,.int .i64 0,.int .i64 0,.int .i64 0,.int .i64 0,.int .i64 0,.int .i64 0,.int .i64 0,.int .i64 0,.slice none 0 0,.slice none 0 0] (0,0) _ _ rfl rfl hb99 Try.underlying27 rfl (by kernel_rfl)) rfl ?_
     exact out_bad (HG4.out) (hB99 _ _ (Nat.le_refl _) (S4.out.b))
    have dm : decide (rows > 1048576) = false:=decide_eq_false hm
    have HG4:=Aside0.mk (HG3.out.trans (seq_ok (show count 4 1048576 (l.drop 18) = .ok (rows,l.drop 22) from (HCR.out.trans (guard_neg hz)).trans (guard_neg hm))))
    clear HCR HG3
    have hR:=ref_get_f l HB.out 22 2 (by rw [HN.out];omega) HL.out 20 (by omega)
    rw [← HS.out] at hR
    go_wp2_with (fail)
    cases h4' : number 2 (l.drop 22) with
    | error c =>
     rw [h4'] at hR
     refine (hornbeamref07_Get.calls 20 s 22 2 _ _ _ _ hR).mono ?_
     rintro e w5 ⟨rfl,nd,rfl⟩
     have S5:=Aside0.mk (S4.out.below (below_drewN (Below.refl _ _) nd))
     have HG5:=Aside0.mk (getR_err (HG4.out.trans (seq_err (show count 2 1024 (l.drop 22) = .error c from seq_err h4'))))
     rw [num_err h4'] at HG5
     generalize w4.drewN nd = w5 at S5 ⊢
     clear S4 hR h4'
     have z9:=S5.out.z
     unfold Zp at z9
     go_wp2_with ((with_reducible refine gate_store (t:=27) (p:=2) rfl ?_);refine FStore.store_all w.heap.size 27 27 2 _ #[.int .i64 0,.int .i64 0,.int .i64 0,.int .i64 0,.int .i64 0,.int .i64 0,.int .i64 0,.int .i64 0,.int .i64 0,.slice none 0 0,.slice none 0 0] #[.int .i64 0,.int .i64 0,.int .i64 0,.int .i64 0,.int .i64 0,.int .i64 0,.int .i64 0,.int .i64 0,.int .i64 0,.slice none 0 0,.slice none 0 0] rfl rfl rfl rfl rfl z9 (by kernel_rfl) rfl (by simp [Value.oneCell']) ?_;intro w99 hb99 hB99 hk99)
     refine bodyPost_ret (results_two rfl _ _ w.heap.size 27 #[.int .i64 0,.int .i64 0,.int .i64 0,.int .i64 0,.int .i64 0,.int .i64 0,.int .i64 0,.int .i64 0,.int .i64 0,.slice none 0 0,.slice none 0 0] (0,0) _ _ rfl rfl hb99 Try.underlying27 rfl (by kernel_rfl)) rfl ?_
     exact out_bad (HG5.out) (hB99 _ _ (Nat.le_refl _) (S5.out.b))
    | ok q =>
     obtain ⟨cols,r3⟩:=q
     rw [h4'] at hR
     refine (hornbeamref07_Get.calls 20 s 22 2 _ _ _ _ hR).mono ?_
     rintro e w5 ⟨rfl,nd,rfl⟩
     simp only
     obtain ⟨er3,hc24⟩:=num_ok h4'
     rw [List.drop_drop] at er3
     rw [List.length_drop,HN.out] at hc24
     have h24 : 24 ≤ N:=by have : cnt 2 = 2:=rfl;omega
     obtain ⟨hk0,hk1⟩:=num_lt (byte_drop HB.out 22) h4'
     have S5:=Aside0.mk (S4.out.below (below_drewN (Below.refl _ _) nd))
     have HCC:=Aside0.mk (show count 2 1024 (l.drop 22) = _ from seq_ok h4')
     generalize w4.drewN nd = w5 at S5 ⊢
     clear S4 hR h4' hc24
     subst er3
     have e24 : (((22 + PureTake.cnt 2 : Nat) : Int)) = 24:=rfl
     rw [e24]
     clear e24
     by_cases hz2 : cols = 0
     ·subst hz2
      have HG5:=Aside0.mk (getR_err (HG4.out.trans (seq_err (HCC.out.trans (guard_pos rfl)))))
      have z9:=S5.out.z
      unfold Zp at z9
      go_wp2_with ((with_reducible refine gate_store (t:=27) (p:=2) rfl ?_);refine FStore.store_all w.heap.size 27 27 2 _ #[.int .i64 0,.int .i64 0,.int .i64 0,.int .i64 0,.int .i64 0,.int .i64 0,.int .i64 0,.int .i64 0,.int .i64 0,.slice none 0 0,.slice none 0 0] #[.int .i64 0,.int .i64 0,.int .i64 0,.int .i64 0,.int .i64 0,.int .i64 0,.int .i64 0,.int .i64 0,.int .i64 0,.slice none 0 0,.slice none 0 0] rfl rfl rfl rfl rfl z9 (by kernel_rfl) rfl (by simp [Value.oneCell']) ?_;intro w99 hb99 hB99 hk99)
      refine bodyPost_ret (results_two rfl _ _ w.heap.size 27 #[.int .i64 0,.int .i64 0,.int .i64 0,.int .i64 0,.int .i64 0,.int .i64 0,.int .i64 0,.int .i64 0,.int .i64 0,.slice none 0 0,.slice none 0 0] (0,0) _ _ rfl rfl hb99 Try.underlying27 rfl (by kernel_rfl)) rfl ?_
      exact out_bad (HG5.out) (hB99 _ _ (Nat.le_refl _) (S5.out.b))
     have dz2 : (cols == 0) = false:=beq_eq_false_iff_ne.2 hz2
     by_cases hm2 : cols > 1024
     ·have dm2 : decide (cols > 1024) = true:=decide_eq_true hm2
      have HG5:=Aside0.mk (getR_err (HG4.out.trans (seq_err ((HCC.out.trans (guard_neg hz2)).trans (guard_pos hm2)))))
      have z9:=S5.out.z
      unfold Zp at z9
      go_wp2_with ((with_reducible refine gate_store (t:=27) (p:=2) rfl ?_);refine FStore.store_all w.heap.size 27 27 2 _ #[.int .i64 0,.int .i64 0,.int .i64 0,.int .i64 0,.int .i64 0,.int .i64 0,.int .i64 0,.int .i64 0,.int .i64 0,.slice none 0 0,.slice none 0 0] #[.int .i64 0,.int .i64 0,.int .i64 0,.int .i64 0,.int .i64 0,.int .i64 0,.int .i64 0,.int .i64 0,.int .i64 0,.slice none 0 0,.slice none 0 0] rfl rfl rfl rfl rfl z9 (by kernel_rfl) rfl (by simp [Value.oneCell']) ?_;intro w99 hb99 hB99 hk99)
      refine bodyPost_ret (results_two rfl _ _ w.heap.size 27 #[.int .i64 0,.int .i64 0,.int .i64 0,.int .i64 0,.int .i64 0,.int .i64 0,.int .i64 0,.int .i64 0,.int .i64 0,.slice none 0 0,.slice none 0 0] (0,0) _ _ rfl rfl hb99 Try.underlying27 rfl (by kernel_rfl)) rfl ?_
      exact out_bad (HG5.out) (hB99 _ _ (Nat.le_refl _) (S5.out.b))
     have dm2 : decide (cols > 1024) = false:=decide_eq_false hm2
     have HG5:=Aside0.mk (HG4.out.trans (seq_ok (show count 2 1024 (l.drop 22) = .ok (cols,l.drop 24) from (HCC.out.trans (guard_neg hz2)).trans (guard_neg hm2))))
     have hm0 : 0 ≤ rows * cols:=Int.mul_nonneg hr0 hk0
     have hm1 : rows * cols ≤ 1048576 * 1024:=Int.mul_le_mul (by omega) (by omega) hk0 (by decide)
     obtain ⟨M,hM⟩:=Int.eq_ofNat_of_zero_le hm0
     have hmu : IntKind.u64.wrap (rows * cols) = (M : Int):=by rw [PureTake.u64_wrap hm0 (by omega),hM]
     have hmul : wrap64 (rows * cols) = (M : Int):=by rw [hM] at hm1 ⊢;unfold wrap64;omega
     have hwr : wrap64 rows = rows:=by unfold wrap64;omega
     have hwc : wrap64 cols = cols:=by unfold wrap64;omega
     have HM:=Aside0.mk hM
     clear HCC HG4 hm1 hm0 hM
     by_cases hbig : (M : Int) > 16777216
     ·have db : decide ((M : Int) > 16777216) = true:=decide_eq_true hbig
      have HG6:=Aside0.mk (getR_err (HG5.out.trans (guard_pos (by rw [HM.out];exact hbig))))
      have z9:=S5.out.z
      unfold Zp at z9
      go_wp2_with ((with_reducible refine gate_store (t:=27) (p:=2) rfl ?_);refine FStore.store_all w.heap.size 27 27 2 _ #[.int .i64 0,.int .i64 0,.int .i64 0,.int .i64 0,.int .i64 0,.int .i64 0,.int .i64 0,.int .i64 0,.int .i64 0,.slice none 0 0,.slice none 0 0] #[.int .i64 0,.int .i64 0,.int .i64 0,.int .i64 0,.int .i64 0,.int .i64 0,.int .i64 0,.int .i64 0,.int .i64 0,.slice none 0 0,.slice none 0 0] rfl rfl rfl rfl rfl z9 (by kernel_rfl) rfl (by simp [Value.oneCell']) ?_;intro w99 hb99 hB99 hk99)
      refine bodyPost_ret (results_two rfl _ _ w.heap.size 27 #[.int .i64 0,.int .i64 0,.int .i64 0,.int .i64 0,.int .i64 0,.int .i64 0,.int .i64 0,.int .i64 0,.int .i64 0,.slice none 0 0,.slice none 0 0] (0,0) _ _ rfl rfl hb99 Try.underlying27 rfl (by kernel_rfl)) rfl ?_
      exact out_bad (HG6.out) (hB99 _ _ (Nat.le_refl _) (S5.out.b))
     have db : decide ((M : Int) > 16777216) = false:=decide_eq_false hbig
     have HG6:=Aside0.mk (HG5.out.trans (guard_neg (by rw [HM.out];exact hbig)))
     rw [HM.out,Int.toNat_natCast] at HG6
     have hmb : M ≤ 16777216:=by omega
     obtain ⟨Rn,rfl⟩:=Int.eq_ofNat_of_zero_le hr0
     have hrb : Rn ≤ 1048576:=by omega
     rw [Int.toNat_natCast] at HG6
     have q7:=S5.out.d.c7
     have q8:=S5.out.d.c8
     have f7:=S5.out.d.fr 7
     have f8:=S5.out.d.fr 8
     have S7:=Aside0.mk (show RS w ((w5.setCell ⟨h + 1,7,none⟩ (.int .i64 (Rn : Int))).setCell ⟨h + 1,8,none⟩ (.int .i64 cols)) h (h + 1) xs (Rn : Int) cols (.slice none 0 0) (.slice none 0 0) [] [] from by
      obtain ⟨a1,a2,a3,a4,a5⟩:=put_rest 7 (.int .i64 (Rn : Int)) ⟨S5.out.hl,S5.out.gl⟩ ⟨S5.out.z,S5.out.k,S5.out.d,S5.out.U,S5.out.T,S5.out.b⟩
      obtain ⟨b1,b2,b3,b4,b5⟩:=put_rest 8 (.int .i64 cols) ⟨S5.out.hl,S5.out.gl⟩ ⟨a1,a2,S5.out.d.put7 (Rn : Int),a3,a4,a5⟩
      exact ⟨b1,b2,(S5.out.d.put7 (Rn : Int)).put8 cols,b3,b4,b5,S5.out.hl,S5.out.gl⟩)
     clear S5 HG5 hbig hz hm hz2 hm2 h4 h18 h22
     go_wp2_with (fail)
     try rw [hwc]
     try rw [hwr]
     try rw [hmu]
     clear hwc hwr hmu
     generalize ((w5.setCell ⟨h + 1,7,none⟩ (.int .i64 (Rn : Int))).setCell ⟨h + 1,8,none⟩ (.int .i64 cols)) = w7 at S7 ⊢
     clear q7 q8 f7 f8 db dm dm2 dz dz2 da d0
     have hl' : N ≤ 1000000:=hl
     have h24' : 24 ≤ N:=h24
     go_loopw [11,8] (fun v11 v8 w'=>∃ (i : Nat) (av : Value) (out : List Nat),i ≤ M ∧ v11 = .int .i64 i ∧ v8 = .int .i64 ((24 + 8 * i : Nat) : Int) ∧ out.length = i ∧ 24 + 8 * i ≤ N ∧ Aside0 (RS w w' h (h + 1) xs (Rn : Int) cols av (.slice none 0 0) (out.map Flt.ubits) []) ∧ Aside0 (values cl (M - i) out (l.drop (24 + 8 * i)) = values cl M [] (l.drop 24))) (fun u _ _=>M - (intOf u).toNat)
     case atStart=>exact ⟨0,_,[],by omega,rfl,rfl,rfl,by omega,S7,⟨rfl⟩⟩
     case round =>
      obtain ⟨i,av,out,hi,rfl,rfl,hol,hiN,SI,HI⟩:=hrel
      clear S7
      obtain ⟨a,hae⟩ : ∃ a,24 + 8 * i = a:=⟨_,rfl⟩
      rw [hae] at HI hiN ⊢
      have k7:=SI.out.d.c7
      have k8:=SI.out.d.c8
      by_cases hlt : i < M
      ·have e0 : decide ((i : Int) < (M : Int)) = true:=decide_eq_true (by omega)
       have hstep : values cl (M - i) out (l.drop a) = seq (number 8) (fun x=>guard (cl (Flt.fbits x) = false) 3 (values cl (M - (i + 1)) (out ++ [Flt.fbits x]))) (l.drop a):=by
        rw [show M - i = (M - (i + 1)) + 1 by omega];rfl
       rw [hstep] at HI
       clear hstep
       have hR:=ref_get_f l HB.out a 8 (by rw [HN.out];omega) HL.out 20 (by omega)
       rw [← HS.out] at hR
       go_wp2_with (fail)
       cases h5 : number 8 (l.drop a) with
       | error c =>
        rw [h5] at hR
        refine (hornbeamref07_Get.calls 20 s a 8 _ _ _ _ hR).mono ?_
        rintro e w8 ⟨rfl,nd,rfl⟩
        have S8:=Aside0.mk (SI.out.below (below_drewN (Below.refl _ _) nd))
        have HG7:=Aside0.mk (getR_err (HG6.out.trans (seq_err (HI.out.symm.trans (seq_err h5)))))
        rw [num_err h5] at HG7
        generalize wr.drewN nd = w8 at S8 ⊢
        clear SI hR h5 k7 k8
        have z9:=S8.out.z
        unfold Zp at z9
        go_wp2_with ((with_reducible refine gate_store (t:=27) (p:=2) rfl ?_);refine FStore.store_all w.heap.size 27 27 2 _ #[.int .i64 0,.int .i64 0,.int .i64 0,.int .i64 0,.int .i64 0,.int .i64 0,.int .i64 0,.int .i64 0,.int .i64 0,.slice none 0 0,.slice none 0 0] #[.int .i64 0,.int .i64 0,.int .i64 0,.int .i64 0,.int .i64 0,.int .i64 0,.int .i64 0,.int .i64 0,.int .i64 0,.slice none 0 0,.slice none 0 0] rfl rfl rfl rfl rfl z9 (by kernel_rfl) rfl (by simp [Value.oneCell']) ?_;intro w99 hb99 hB99 hk99)
        refine bodyPost_ret (results_two rfl _ _ w.heap.size 27 #[.int .i64 0,.int .i64 0,.int .i64 0,.int .i64 0,.int .i64 0,.int .i64 0,.int .i64 0,.int .i64 0,.int .i64 0,.slice none 0 0,.slice none 0 0] (0,0) _ _ rfl rfl hb99 Try.underlying27 rfl (by kernel_rfl)) rfl ?_
        exact out_bad (HG7.out) (hB99 _ _ (Nat.le_refl _) (S8.out.b))
       | ok q =>
        obtain ⟨y,r4⟩:=q
        rw [h5] at hR
        refine (hornbeamref07_Get.calls 20 s a 8 _ _ _ _ hR).mono ?_
        rintro e w8 ⟨rfl,nd,rfl⟩
        simp only
        obtain ⟨er4,hc8⟩:=num_ok h5
        rw [List.drop_drop] at er4
        rw [List.length_drop,HN.out] at hc8
        have h8N : a + 8 ≤ N:=by have : cnt 8 = 8:=rfl;omega
        obtain ⟨hy0,hy1⟩:=num_lt (byte_drop HB.out a) h5
        have S8:=Aside0.mk (SI.out.below (below_drewN (Below.refl _ _) nd))
        have HI1:=Aside0.mk (HI.out.symm.trans (seq_ok h5))
        rw [show r4 = l.drop (a + 8) from er4] at HI1
        generalize wr.drewN nd = w8 at S8 ⊢
        clear SI hR h5 k7 k8 HI hc8 er4
        rw [show (((a + PureTake.cnt 8 : Nat) : Int)) = ((a + 8 : Nat) : Int) from rfl]
        have hub : Flt.ubits (Flt.fbits y) = y:=by unfold Flt.ubits Flt.fbits;omega
        obtain ⟨x,hx⟩ : ∃ x,Flt.fbits y = x:=⟨_,rfl⟩
        rw [hx] at HI1 hub
        go_wp2_with (fail)
        try rw [hx]
        refine (hornbeamref06_Bits.calls x _ _ (ref_bits x)).mono ?_
        rintro e w9 ⟨rfl,nd2,rfl⟩
        have S9:=Aside0.mk (S8.out.below (below_drewN (Below.refl _ _) nd2))
        generalize w8.drewN nd2 = w9 at S9 ⊢
        clear S8
        have hclx:=cl_eq x
        by_cases hcl : clean x = x
        ·have hyx : (clean x : Int) = y:=by rw [hcl];exact hub
         have dcl : ((clean x : Int) != y) = false:=bne_eq_false_iff_eq.mpr hyx
         have HI2:=Aside0.mk (HI1.out.trans (guard_neg (by rw [hclx];simp [hcl])))
         have hs9:=blk_lt S9.out.z
         have q9:=S9.out.d.c9
         have HUB:=Aside0.mk hub
         clear hcl HI1 hclx hyx hub hx
         go_wp2_with (first|((with_reducible refine gate_builtin (b:=.append) (xs:=#[.tmp 110,.tmp 112]) rfl ?_);at_builtin;refine Kd.R_append (Kd.int .u64) (w0:=w9) w.heap.size rfl (.tmp 110) (.tmp 112) 24 37 (.int .u64 0) 8 rfl Try.underlying24 info_u64 rfl (by decide) (by omega) av (out.map Flt.ubits) y [.int .u64 y] (fun _=>True) (fun _=>False) rfl rfl ?aP (fun _ hk=>hk.elim) (fun _ _=>trivial) S9.out.U (Below.refl _ _) (by omega) (by rw [List.length_map];omega) ?_;(case aP=>exact rfl);intro v1 w10 hR1 hb1 hg1 ha1;have A10:=Aside0.mk (S9.out.appU hR1 hb1 hg1);obtain ⟨Ab,cb,hv1⟩:=Kd.R_slice hR1;obtain ⟨n1,hn1⟩ : ∃ n1,(out.map Flt.ubits ++ [y]).length = n1:=⟨_,rfl⟩;rw [hn1] at hv1;subst hv1;clear hn1;have hq10:=A10.out.2.2.1.c9;have hf10:=A10.out.2.2.1.fr 9;clear hR1 hb1 hg1 ha1))
         have S10:=Aside0.mk (show RS w (w10.setCell ⟨h + 1,9,none⟩ (.slice Ab n1 cb)) h (h + 1) xs (Rn : Int) cols (.slice Ab n1 cb) (.slice none 0 0) ((out ++ [x]).map Flt.ubits) [] from by
          obtain ⟨a1,a2,a3,a4,a5⟩:=put_rest 9 (.slice Ab n1 cb) ⟨S9.out.hl,S9.out.gl⟩ A10.out
          rw [List.map_append,show [x].map Flt.ubits = [y] by simp [HUB.out]]
          exact ⟨a1,a2,A10.out.2.2.1.put9 _,a3,a4,a5,S9.out.hl,S9.out.gl⟩)
         clear A10 S9
         have HI3:=Aside0.mk (show values cl (M - (i + 1)) (out ++ [x]) (l.drop (24 + 8 * (i + 1))) = values cl M [] (l.drop 24) from by rw [show 24 + 8 * (i + 1) = a + 8 by omega];exact HI2.out.symm)
         go_roundw
         case rel=>exact ⟨i + 1,_,out ++ [x],by omega,by go_num,by rw [show 24 + 8 * (i + 1) = a + 8 by omega];go_num,by rw [List.length_append,hol];rfl,by omega,S10,HI3⟩
         case measure=>simp [intOf];omega
        ·have dcl : ((clean x : Int) != y) = true:=bne_iff_ne.mpr (fun h=>hcl (by have : Flt.ubits x = (x : Int):=rfl;omega))
         have HG7:=Aside0.mk (getR_err (HG6.out.trans (seq_err (HI1.out.trans (guard_pos (by rw [hclx];simp [hcl]))))))
         clear hcl HI1 hclx hub hx
         have z9:=S9.out.z
         unfold Zp at z9
         go_wp2_with ((with_reducible refine gate_store (t:=27) (p:=2) rfl ?_);refine FStore.store_all w.heap.size 27 27 2 _ #[.int .i64 0,.int .i64 0,.int .i64 0,.int .i64 0,.int .i64 0,.int .i64 0,.int .i64 0,.int .i64 0,.int .i64 0,.slice none 0 0,.slice none 0 0] #[.int .i64 0,.int .i64 0,.int .i64 0,.int .i64 0,.int .i64 0,.int .i64 0,.int .i64 0,.int .i64 0,.int .i64 0,.slice none 0 0,.slice none 0 0] rfl rfl rfl rfl rfl z9 (by kernel_rfl) rfl (by simp [Value.oneCell']) ?_;intro w99 hb99 hB99 hk99)
         refine bodyPost_ret (results_two rfl _ _ w.heap.size 27 #[.int .i64 0,.int .i64 0,.int .i64 0,.int .i64 0,.int .i64 0,.int .i64 0,.int .i64 0,.int .i64 0,.int .i64 0,.slice none 0 0,.slice none 0 0] (0,0) _ _ rfl rfl hb99 Try.underlying27 rfl (by kernel_rfl)) rfl ?_
         exact out_bad (HG7.out) (hB99 _ _ (Nat.le_refl _) (S9.out.b))
      ·obtain ⟨e0,HV6⟩ : decide ((i : Int) < (M : Int)) = false ∧ values cl M [] (l.drop 24) = .ok (out,l.drop a):=⟨decide_eq_false (by omega),by have h:=HI.out;rw [show M - i = 0 by omega] at h;exact h.symm⟩
       have HG7:=Aside0.mk (HG6.out.trans (seq_ok HV6))
       have HOL:=Aside0.mk hol
       clear HV6 HG6 HI hae hol
       go_wp2_with (fail)
       clear k7 k8 e0
       try rw [hmul]
       clear hmul
       obtain ⟨a0,ha0⟩ : ∃ a0,a0 = a:=⟨_,rfl⟩
       rw [← ha0] at HG7
       have HA0:=Aside0.mk ha0
       clear ha0
       go_loopw [15,8] (fun v15 v8 w'=>∃ (n p : Nat) (tv : Value) (ts : List Int),n ≤ Rn ∧ v15 = .int .i64 n ∧ v8 = .int .i64 (p : Int) ∧ p ≤ N ∧ ts.length = n ∧ Aside0 (p = a0 + 8 * n) ∧ Aside0 (RS w w' h (h + 1) xs (Rn : Int) cols av tv (out.map Flt.ubits) ts) ∧ Aside0 (targets (FConfGet.fld xs 0) (FConfGet.fld xs 1) (Rn - n) ts (l.drop p) = targets (FConfGet.fld xs 0) (FConfGet.fld xs 1) Rn [] (l.drop a0))) (fun u _ _=>Rn - (intOf u).toNat)
       case atStart=>exact ⟨0,a,_,[],by omega,rfl,rfl,by omega,rfl,⟨by rw [HA0.out];omega⟩,SI,⟨by rw [HA0.out];rfl⟩⟩
       case round =>
        obtain ⟨n,p,tv,ts,hn,rfl,rfl,hpN,htl,HPP,SJ,HJ⟩:=hrel
        clear SI
        have k7:=SJ.out.d.c7
        by_cases hlt2 : n < Rn
        ·have e0 : decide ((n : Int) < (Rn : Int)) = true:=decide_eq_true (by omega)
         have hstep : targets (FConfGet.fld xs 0) (FConfGet.fld xs 1) (Rn - n) ts (l.drop p) = seq (number 8) (fun x=>guard (may (FConfGet.fld xs 0) (FConfGet.fld xs 1) (wrap64 x) ≠ 0) (may (FConfGet.fld xs 0) (FConfGet.fld xs 1) (wrap64 x)) (targets (FConfGet.fld xs 0) (FConfGet.fld xs 1) (Rn - (n + 1)) (ts ++ [wrap64 x]))) (l.drop p):=by
          rw [show Rn - n = (Rn - (n + 1)) + 1 by omega];rfl
         rw [hstep] at HJ
         clear hstep
         have hR:=ref_get_f l HB.out p 8 (by rw [HN.out];omega) HL.out 20 (by omega)
         rw [← HS.out] at hR
         go_wp2_with (fail)
         cases h6 : number 8 (l.drop p) with
         | error c =>
          rw [h6] at hR
          refine (hornbeamref07_Get.calls 20 s p 8 _ _ _ _ hR).mono ?_
          rintro e w8 ⟨rfl,nd,rfl⟩
          have S8:=Aside0.mk (SJ.out.below (below_drewN (Below.refl _ _) nd))
          have HG8:=Aside0.mk (getR_err (HG7.out.trans (seq_err (HJ.out.symm.trans (seq_err h6)))))
          rw [num_err h6] at HG8
          generalize wr.drewN nd = w8 at S8 ⊢
          clear SJ hR h6 k7
          have z9:=S8.out.z
          unfold Zp at z9
          go_wp2_with ((with_reducible refine gate_store (t:=27) (p:=2) rfl ?_);refine FStore.store_all w.heap.size 27 27 2 _ #[.int .i64 0,.int .i64 0,.int .i64 0,.int .i64 0,.int .i64 0,.int .i64 0,.int .i64 0,.int .i64 0,.int .i64 0,.slice none 0 0,.slice none 0 0] #[.int .i64 0,.int .i64 0,.int .i64 0,.int .i64 0,.int .i64 0,.int .i64 0,.int .i64 0,.int .i64 0,.int .i64 0,.slice none 0 0,.slice none 0 0] rfl rfl rfl rfl rfl z9 (by kernel_rfl) rfl (by simp [Value.oneCell']) ?_;intro w99 hb99 hB99 hk99)
          refine bodyPost_ret (results_two rfl _ _ w.heap.size 27 #[.int .i64 0,.int .i64 0,.int .i64 0,.int .i64 0,.int .i64 0,.int .i64 0,.int .i64 0,.int .i64 0,.int .i64 0,.slice none 0 0,.slice none 0 0] (0,0) _ _ rfl rfl hb99 Try.underlying27 rfl (by kernel_rfl)) rfl ?_
          exact out_bad (HG8.out) (hB99 _ _ (Nat.le_refl _) (S8.out.b))
         | ok q =>
          obtain ⟨y,r6⟩:=q
          rw [h6] at hR
          refine (hornbeamref07_Get.calls 20 s p 8 _ _ _ _ hR).mono ?_
          rintro e w8 ⟨rfl,nd,rfl⟩
          simp only
          obtain ⟨er6,hc8⟩:=num_ok h6
          rw [List.drop_drop] at er6
          rw [List.length_drop,HN.out] at hc8
          have h8N : p + 8 ≤ N:=by have : cnt 8 = 8:=rfl;omega
          have S8:=Aside0.mk (SJ.out.below (below_drewN (Below.refl _ _) nd))
          have HJ1:=Aside0.mk (HJ.out.symm.trans (seq_ok h6))
          rw [show r6 = l.drop (p + 8) from er6] at HJ1
          generalize wr.drewN nd = w8 at S8 ⊢
          clear SJ hR h6 k7 HJ hc8 er6
          rw [show (((p + PureTake.cnt 8 : Nat) : Int)) = ((p + 8 : Nat) : Int) from rfl]
          obtain ⟨x,hx⟩ : ∃ x,wrap64 y = x:=⟨_,rfl⟩
          rw [hx] at HJ1
          have j0 : w8.cell? ⟨h,0,none⟩ = some (.int .i64 (FConfGet.fld xs 0)):=(blk_cell S8.out.k 0).trans rfl
          have j1 : w8.cell? ⟨h,1,none⟩ = some (.int .i64 (FConfGet.fld xs 1)):=(blk_cell S8.out.k 1).trans rfl
          have j2 : w8.cell? ⟨h,2,none⟩ = some (.int .i64 (FConfGet.fld xs 2)):=(blk_cell S8.out.k 2).trans rfl
          have j3 : w8.cell? ⟨h,3,none⟩ = some (.int .i64 (FConfGet.fld xs 3)):=(blk_cell S8.out.k 3).trans rfl
          have j4 : w8.cell? ⟨h,4,none⟩ = some (.int .i64 (FConfGet.fld xs 4)):=(blk_cell S8.out.k 4).trans rfl
          have j5 : w8.cell? ⟨h,5,none⟩ = some (.int .i64 (FConfGet.fld xs 5)):=(blk_cell S8.out.k 5).trans rfl
          have j6 : w8.cell? ⟨h,6,none⟩ = some (.int .i64 (FConfGet.fld xs 6)):=(blk_cell S8.out.k 6).trans rfl
          go_wp2_with (fail)
          try rw [hx]
          clear j0 j1 j2 j3 j4 j5 j6 hx
          have HTG:=Aside0.mk (target_f (FConfGet.fld xs 0) (FConfGet.fld xs 1) (FConfGet.fld xs 2) (FConfGet.fld xs 3) (FConfGet.fld xs 4) (FConfGet.fld xs 5) (FConfGet.fld xs 6) x HK.out.1 HK.out.2)
          generalize may (FConfGet.fld xs 0) (FConfGet.fld xs 1) x = mm at HTG HJ1
          refine (hornbeamref09_Target.calls 9 _ _ _ _ _ _ _ x mm _ HTG.out).mono ?_
          rintro e w9 ⟨rfl,hb⟩
          have S9:=Aside0.mk (S8.out.below hb)
          clear hb S8 HTG
          by_cases hm : mm = 0
          ·subst hm
           have HJ2:=Aside0.mk (HJ1.out.trans (guard_neg (fun h=>h rfl)))
           have hs9:=blk_lt S9.out.z
           have q10:=S9.out.d.c10
           clear HJ1
           go_wp2_with (first|((with_reducible refine gate_builtin (b:=.append) (xs:=#[.tmp 142,.tmp 144]) rfl ?_);at_builtin;refine Kd.R_append (Kd.int .i64) (w0:=w9) w.heap.size rfl (.tmp 142) (.tmp 144) 25 2 (.int .i64 0) 8 rfl Try.underlying25 info_i64 rfl (by decide) (by omega) tv ts x [.int .i64 x] (fun _=>True) (fun _=>False) rfl rfl ?aP (fun _ hk=>hk.elim) (fun _ _=>trivial) S9.out.T (Below.refl _ _) (by omega) (by omega) ?_;(case aP=>exact rfl);intro v1 w10 hR1 hb1 hg1 ha1;have A10:=Aside0.mk (S9.out.appT hR1 hb1 hg1);obtain ⟨Ab,cb,hv1⟩:=Kd.R_slice hR1;obtain ⟨n1,hn1⟩ : ∃ n1,(ts ++ [x]).length = n1:=⟨_,rfl⟩;rw [hn1] at hv1;subst hv1;clear hn1;have hq10:=A10.out.2.2.1.c10;have hf10:=A10.out.2.2.1.fr 10;clear hR1 hb1 hg1 ha1))
           have S10:=Aside0.mk (show RS w (w10.setCell ⟨h + 1,10,none⟩ (.slice Ab n1 cb)) h (h + 1) xs (Rn : Int) cols av (.slice Ab n1 cb) (out.map Flt.ubits) (ts ++ [x]) from by
            obtain ⟨a1,a2,a3,a4,a5⟩:=put_rest 10 (.slice Ab n1 cb) ⟨S9.out.hl,S9.out.gl⟩ A10.out
            exact ⟨a1,a2,A10.out.2.2.1.put10 _,a3,a4,a5,S9.out.hl,S9.out.gl⟩)
           clear A10 S9
           have HPP2:=Aside0.mk (show p + 8 = a0 + 8 * (n + 1) by have:=HPP.out;omega)
           go_roundw
           case rel=>exact ⟨n + 1,p + 8,_,ts ++ [x],by omega,by go_num,by go_num,by omega,by rw [List.length_append,htl];rfl,HPP2,S10,⟨HJ2.out.symm⟩⟩
           case measure=>simp [intOf];omega
          ·have dm : (mm != 0) = true:=bne_iff_ne.2 hm
           have HG8:=Aside0.mk (getR_err (HG7.out.trans (seq_err (HJ1.out.trans (guard_pos hm)))))
           clear HJ1 hm
           have z9:=S9.out.z
           unfold Zp at z9
           go_wp2_with ((with_reducible refine gate_store (t:=27) (p:=2) rfl ?_);refine FStore.store_all w.heap.size 27 27 2 _ #[.int .i64 0,.int .i64 0,.int .i64 0,.int .i64 0,.int .i64 0,.int .i64 0,.int .i64 0,.int .i64 0,.int .i64 0,.slice none 0 0,.slice none 0 0] #[.int .i64 0,.int .i64 0,.int .i64 0,.int .i64 0,.int .i64 0,.int .i64 0,.int .i64 0,.int .i64 0,.int .i64 0,.slice none 0 0,.slice none 0 0] rfl rfl rfl rfl rfl z9 (by kernel_rfl) rfl (by simp [Value.oneCell']) ?_;intro w99 hb99 hB99 hk99)
           refine bodyPost_ret (results_two rfl _ _ w.heap.size 27 #[.int .i64 0,.int .i64 0,.int .i64 0,.int .i64 0,.int .i64 0,.int .i64 0,.int .i64 0,.int .i64 0,.int .i64 0,.slice none 0 0,.slice none 0 0] (0,0) _ _ rfl rfl hb99 Try.underlying27 rfl (by kernel_rfl)) rfl ?_
           exact out_bad (HG8.out) (hB99 _ _ (Nat.le_refl _) (S9.out.b))
        ·obtain ⟨e0,HV7⟩ : decide ((n : Int) < (Rn : Int)) = false ∧ targets (FConfGet.fld xs 0) (FConfGet.fld xs 1) Rn [] (l.drop a0) = .ok (ts,l.drop p):=⟨decide_eq_false (by omega),by have h:=HJ.out;rw [show Rn - n = 0 by omega] at h;exact h.symm⟩
         have HG8:=Aside0.mk (HG7.out.trans (seq_ok HV7))
         clear HV7 HG7 HJ
         by_cases hend : p < N
         ·have e1 : decide ((p : Int) < (N : Int)) = true:=decide_eq_true (by omega)
          have HG9:=Aside0.mk (getR_long HG8.out (by rw [List.length_drop,HN.out];omega))
          have z9:=SJ.out.z
          unfold Zp at z9
          go_wp2_with ((with_reducible refine gate_store (t:=27) (p:=2) rfl ?_);refine FStore.store_all w.heap.size 27 27 2 _ #[.int .i64 0,.int .i64 0,.int .i64 0,.int .i64 0,.int .i64 0,.int .i64 0,.int .i64 0,.int .i64 0,.int .i64 0,.slice none 0 0,.slice none 0 0] #[.int .i64 0,.int .i64 0,.int .i64 0,.int .i64 0,.int .i64 0,.int .i64 0,.int .i64 0,.int .i64 0,.int .i64 0,.slice none 0 0,.slice none 0 0] rfl rfl rfl rfl rfl z9 (by kernel_rfl) rfl (by simp [Value.oneCell']) ?_;intro w99 hb99 hB99 hk99)
          refine bodyPost_ret (results_two rfl _ _ w.heap.size 27 #[.int .i64 0,.int .i64 0,.int .i64 0,.int .i64 0,.int .i64 0,.int .i64 0,.int .i64 0,.int .i64 0,.int .i64 0,.slice none 0 0,.slice none 0 0] (0,0) _ _ rfl rfl hb99 Try.underlying27 rfl (by kernel_rfl)) rfl ?_
          exact out_bad (HG9.out) (hB99 _ _ (Nat.le_refl _) (SJ.out.b))
         ·have e1 : decide ((p : Int) < (N : Int)) = false:=decide_eq_false (by omega)
          have HG9:=Aside0.mk (getR_whole HG8.out (by rw [List.length_drop,HN.out];omega))
          have j0:=SJ.out.d.c0
          have j1:=SJ.out.d.c1
          have j2:=SJ.out.d.c2
          have j3:=SJ.out.d.c3
          have j4:=SJ.out.d.c4
          have j5:=SJ.out.d.c5
          have j6:=SJ.out.d.c6
          have j8:=SJ.out.d.c8
          have j9:=SJ.out.d.c9
          have j10:=SJ.out.d.c10
          have z9:=SJ.out.z
          unfold Zp at z9
          go_wp2_with ((with_reducible refine gate_store (t:=27) (p:=2) rfl ?_);refine FStore.store_all w.heap.size 27 27 2 _ #[.int .i64 0,.int .i64 0,.int .i64 0,.int .i64 0,.int .i64 0,.int .i64 0,.int .i64 0,.int .i64 0,.int .i64 0,.slice none 0 0,.slice none 0 0] #[.int .i64 (FConfGet.fld xs 0),.int .i64 (FConfGet.fld xs 1),.int .i64 (FConfGet.fld xs 2),.int .i64 (FConfGet.fld xs 3),.int .i64 (FConfGet.fld xs 4),.int .i64 (FConfGet.fld xs 5),.int .i64 (FConfGet.fld xs 6),.int .i64 (Rn : Int),.int .i64 cols,av,tv] rfl rfl rfl rfl rfl z9 (by kernel_rfl) rfl ?_ ?_;rotate_left;intro w99 hb99 hB99 hk99)
          ·refine bodyPost_ret (results_two rfl _ _ w.heap.size 27 #[.int .i64 (FConfGet.fld xs 0),.int .i64 (FConfGet.fld xs 1),.int .i64 (FConfGet.fld xs 2),.int .i64 (FConfGet.fld xs 3),.int .i64 (FConfGet.fld xs 4),.int .i64 (FConfGet.fld xs 5),.int .i64 (FConfGet.fld xs 6),.int .i64 (Rn : Int),.int .i64 cols,av,tv] (0,0) _ _ rfl rfl hb99 Try.underlying27 rfl (by kernel_rfl)) rfl ?_
           rw [HG9.out]
           refine ⟨av,tv,rfl,?_,?_,hB99 _ _ (Nat.le_refl _) SJ.out.b⟩
           ·exact Kd.R_mono (Kd.R_step (Kd.R_types SJ.out.U SJ.out.z (by decide)) (fun k hk _=>hk99 k hk.2)) (fun _ _=>trivial)
           ·exact Kd.R_mono (Kd.R_step (Kd.R_types SJ.out.T SJ.out.z (by decide)) (fun k hk _=>hk99 k hk.2)) (fun _ _=>trivial)
          ·have h1:=(Kd.R_val SJ.out.U).2
           have h2:=(Kd.R_val SJ.out.T).2
           simp only [Value.oneCell'] at h1 h2
           simp [Value.oneCell']
           exact ⟨h1,h2⟩
 ·have da : ((s.extract 0 4).toList == ([72,79,82,78] : List UInt8)) = false:=beq_eq_false_iff_ne.2 ha
  have HG2:=Aside0.mk (getR_err (HG1.out.trans (guard_pos (fun h=>ha (hiff.2 h)))))
  clear h1 hiff ha HG1
  have z9:=(blk_new w (.cells #[.int .i64 0,.int .i64 0,.int .i64 0,.int .i64 0,.int .i64 0,.int .i64 0,.int .i64 0,.int .i64 0,.int .i64 0,.slice none 0 0,.slice none 0 0] 27) : Zp (w.alloc (.cells #[.int .i64 0,.int .i64 0,.int .i64 0,.int .i64 0,.int .i64 0,.int .i64 0,.int .i64 0,.int .i64 0,.int .i64 0,.slice none 0 0,.slice none 0 0] 27)) w.heap.size)
  unfold Zp at z9
  go_enter Try.func24,Try.ntmps24
  go_wp2_with ((with_reducible refine gate_store (t:=27) (p:=2) rfl ?_);refine FStore.store_all w.heap.size 27 27 2 _ #[.int .i64 0,.int .i64 0,.int .i64 0,.int .i64 0,.int .i64 0,.int .i64 0,.int .i64 0,.int .i64 0,.int .i64 0,.slice none 0 0,.slice none 0 0] #[.int .i64 0,.int .i64 0,.int .i64 0,.int .i64 0,.int .i64 0,.int .i64 0,.int .i64 0,.int .i64 0,.int .i64 0,.slice none 0 0,.slice none 0 0] rfl rfl rfl rfl rfl z9 (by kernel_rfl) rfl (by simp [Value.oneCell']) ?_;intro w99 hb99 hB99 hk99)
  refine bodyPost_ret (results_two rfl _ _ w.heap.size 27 #[.int .i64 0,.int .i64 0,.int .i64 0,.int .i64 0,.int .i64 0,.int .i64 0,.int .i64 0,.int .i64 0,.int .i64 0,.slice none 0 0,.slice none 0 0] (0,0) _ _ rfl rfl hb99 Try.underlying27 rfl (by kernel_rfl)) rfl ?_
  exact out_bad (HG2.out) (hB99 _ _ (Nat.le_refl _) (below_alloc (Below.refl _ w) _))
end Go.Proofs.Ytnagfbadjbkhmaa.FRefGet
