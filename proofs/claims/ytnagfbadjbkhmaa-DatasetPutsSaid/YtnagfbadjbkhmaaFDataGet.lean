/- dataset.get and dataset.Get by walks: a dataset out of bytes, or why there is none. -/
import Derived.Test.YtnagfbadjbkhmaaPureDataGet
import Derived.Test.YtnagfbadjbkhmaaFData09
namespace Go.Proofs.Ytnagfbadjbkhmaa.FDataGet
open Go.RowKit Go.Shelf Go.Proofs.YtnagfbadjbkhmaaW.PrintWords Go.Proofs.YtnagfbadjbkhmaaW.PrintLast Go.Proofs.YtnagfbadjbkhmaaW.PrintMore Go.Proofs.Ytnagfbadjbkhmaa.PA Go.Proofs.Ytnagfbadjbkhmaa.FTake Go.Proofs.Ytnagfbadjbkhmaa.FTarget Go.Proofs.Ytnagfbadjbkhmaa.PureDataGet Go.Proofs.Ytnagfbadjbkhmaa.FData09
set_option linter.unusedVariables false
set_option linter.unusedSimpArgs false
theorem seq_err {α β : Type} {p : P α} {q : α → P β} {l : List Int} {c : Int} (h : p l = .error c) : seq p q l = .error c:=by
 show (match p l with|.error c=>Except.error c|.ok (x,r)=>q x r) = _
 rw [h]
theorem seq_ok {α β : Type} {p : P α} {q : α → P β} {l r : List Int} {x : α} (h : p l = .ok (x,r)) : seq p q l = q x r:=by
 show (match p l with|.error c=>Except.error c|.ok (x,r)=>q x r) = _
 rw [h]
theorem guard_pos {β : Type} {c : Prop} [Decidable c] {e : Int} {q : P β} {l : List Int} (h : c) : guard c e q l = .error e:=if_pos h
theorem guard_neg {β : Type} {c : Prop} [Decidable c] {e : Int} {q : P β} {l : List Int} (h : ¬ c) : guard c e q l = q l:=if_neg h
theorem fin_err {α : Type} {ok : Nat → Prop} {B : Nat} {w W : World} {c : Int} {x : Except Int (α × List Int)} {Q : α → Value → World → Prop} (hx : x = .error c) (ho : Off B w W) : Gives ok B w x Q (.panicked (fault c)) W:=by rw [hx];exact ⟨ho,rfl⟩
theorem rdr_bytes {ok : Nat → Prop} {w : World} {B : Nat} {l : List Int} (h : Rdr ok w B l) : ∀ x ∈ l,0 ≤ x ∧ x < 256:=by obtain ⟨_,_,_,_,_,hx⟩:=h;exact hx
theorem num_nn {n a : Int} {l r : List Int} (hx : ∀ x ∈ l,0 ≤ x ∧ x < 256) (h : number n l = .ok (a,r)) : 0 ≤ a ∧ r.length + cnt n = l.length:=by
 unfold number at h
 split at h
 ·simp only [Except.ok.injEq,Prod.mk.injEq] at h
  rw [← h.1,← h.2,List.length_drop]
  exact ⟨(val_bound _ (fun x hx'=>hx x (List.mem_of_mem_take hx'))).1,by omega⟩
 ·cases h
set_option maxHeartbeats 2000000 in
theorem count_calls (ok : Nat → Prop) (B : Nat) (n most : Int) (l : List Int) (w : World) (h : Rdr ok w B l) (hn : ∀ k,ok k → k ≠ B) (hm : most ≤ 1048576) :
  Calls Try.prog 88 #[.pointer (some ⟨B,0,none⟩),.int .i64 n,.int .u64 most] w (Gives ok B w (count n most l) (fun a v _=>v = .int .i64 a ∧ 0 ≤ a ∧ a ≤ most)):=by
 have H:=Aside0.mk (number_calls ok B n l w h hn)
 have HX:=Aside0.mk (rdr_bytes h)
 clear h
 cases hx : number n l with
 | error c =>
  rw [hx] at H
  have HC:=Aside0.mk (show count n most l = .error c from seq_err hx)
  clear hx
  go_enter Try.func88,Try.ntmps88
  go_wp2_with (fail)
  refine H.out.mono ?_
  rintro e w1 ⟨ho,rfl⟩
  exact ⟨rfl,fin_err HC.out ho⟩
 | ok q =>
  obtain ⟨a,r⟩:=q
  rw [hx] at H
  have h0:=(num_nn HX.out hx).1
  have HS:=Aside0.mk (show count n most l = guard (a = 0) 3 (guard (a > most) 4 (done a)) r from seq_ok hx)
  clear hx
  by_cases ha : a = 0
  ·subst ha
   have HC:=Aside0.mk (HS.out.trans (guard_pos rfl))
   go_enter Try.func88,Try.ntmps88
   go_wp2_with (fail)
   refine H.out.mono ?_
   rintro e w1 ⟨ho,hr,_,rfl,rfl⟩
   have HO:=Aside0.mk ho
   clear ho hr
   go_wp2_with (fail)
   refine (fail_calls (some ⟨B,0,none⟩) 3 w1).mono ?_
   rintro e w2 ⟨rfl,rfl⟩
   exact ⟨rfl,fin_err HC.out HO.out⟩
  ·have d0 : (a == 0) = false:=beq_eq_false_iff_ne.2 ha
   by_cases hb : a > most
   ·have d1 : decide (a > most) = true:=decide_eq_true hb
    have HC:=Aside0.mk ((HS.out.trans (guard_neg ha)).trans (guard_pos hb))
    clear ha hb
    go_enter Try.func88,Try.ntmps88
    go_wp2_with (fail)
    refine H.out.mono ?_
    rintro e w1 ⟨ho,hr,_,rfl,rfl⟩
    have HO:=Aside0.mk ho
    clear ho hr
    go_wp2_with (fail)
    refine (fail_calls (some ⟨B,0,none⟩) 4 w1).mono ?_
    rintro e w2 ⟨rfl,rfl⟩
    exact ⟨rfl,fin_err HC.out HO.out⟩
   ·have d1 : decide (a > most) = false:=decide_eq_false hb
    have HC:=Aside0.mk (show count n most l = .ok (a,r) from (HS.out.trans (guard_neg ha)).trans (guard_neg hb))
    have HW:=Aside0.mk (show IntKind.i64.wrap a = a from by rw [i64_w];unfold wrap64;omega)
    have HB:=Aside0.mk (show a ≤ most from by omega)
    clear ha hb
    go_enter Try.func88,Try.ntmps88
    go_wp2_with (fail)
    refine H.out.mono ?_
    rintro e w1 ⟨ho,hr,_,rfl,rfl⟩
    have HO:=Aside0.mk ho
    have HR:=Aside0.mk hr
    clear ho hr
    go_wp2
    go_ret
    rw [HC.out]
    exact ⟨HO.out,HR.out,_,rfl,by first|exact congrArg _ HW.out|(have h1:=HB.out;simp [wrap64];omega),h0,HB.out⟩
def cs (xs : List Int) (rows cols : Int) (av tv : Value) : Array Value:=#[.int .i64 (FConfGet.fld xs 0),.int .i64 (FConfGet.fld xs 1),.int .i64 (FConfGet.fld xs 2),.int .i64 (FConfGet.fld xs 3),.int .i64 (FConfGet.fld xs 4),.int .i64 (FConfGet.fld xs 5),.int .i64 (FConfGet.fld xs 6),.int .i64 rows,.int .i64 cols,av,tv]
def Dg (W : World) (g : Nat) (xs : List Int) (rows cols : Int) (av tv : Value) : Prop:=W.heap[g]? = some (.cells #[.int .i64 (FConfGet.fld xs 0),.int .i64 (FConfGet.fld xs 1),.int .i64 (FConfGet.fld xs 2),.int .i64 (FConfGet.fld xs 3),.int .i64 (FConfGet.fld xs 4),.int .i64 (FConfGet.fld xs 5),.int .i64 (FConfGet.fld xs 6),.int .i64 rows,.int .i64 cols,av,tv] 32 (0,0))
namespace Dg
variable {W : World} {g : Nat} {xs : List Int} {rows cols : Int} {av tv : Value}
theorem c0 (H : Dg W g xs rows cols av tv) : W.cell? ⟨g,0,none⟩ = some (.int .i64 (FConfGet.fld xs 0)):=(blk_cell H 0).trans rfl
theorem c1 (H : Dg W g xs rows cols av tv) : W.cell? ⟨g,1,none⟩ = some (.int .i64 (FConfGet.fld xs 1)):=(blk_cell H 1).trans rfl
theorem c2 (H : Dg W g xs rows cols av tv) : W.cell? ⟨g,2,none⟩ = some (.int .i64 (FConfGet.fld xs 2)):=(blk_cell H 2).trans rfl
theorem c3 (H : Dg W g xs rows cols av tv) : W.cell? ⟨g,3,none⟩ = some (.int .i64 (FConfGet.fld xs 3)):=(blk_cell H 3).trans rfl
theorem c4 (H : Dg W g xs rows cols av tv) : W.cell? ⟨g,4,none⟩ = some (.int .i64 (FConfGet.fld xs 4)):=(blk_cell H 4).trans rfl
theorem c5 (H : Dg W g xs rows cols av tv) : W.cell? ⟨g,5,none⟩ = some (.int .i64 (FConfGet.fld xs 5)):=(blk_cell H 5).trans rfl
theorem c6 (H : Dg W g xs rows cols av tv) : W.cell? ⟨g,6,none⟩ = some (.int .i64 (FConfGet.fld xs 6)):=(blk_cell H 6).trans rfl
theorem c7 (H : Dg W g xs rows cols av tv) : W.cell? ⟨g,7,none⟩ = some (.int .i64 rows):=(blk_cell H 7).trans rfl
theorem c8 (H : Dg W g xs rows cols av tv) : W.cell? ⟨g,8,none⟩ = some (.int .i64 cols):=(blk_cell H 8).trans rfl
theorem c9 (H : Dg W g xs rows cols av tv) : W.cell? ⟨g,9,none⟩ = some (av):=(blk_cell H 9).trans rfl
theorem c10 (H : Dg W g xs rows cols av tv) : W.cell? ⟨g,10,none⟩ = some (tv):=(blk_cell H 10).trans rfl
theorem put7 (H : Dg W g xs rows cols av tv) (v : Int) : Dg (W.setCell ⟨g,7,none⟩ (.int .i64 v)) g xs v cols av tv:=blk_put H 7 _ rfl
theorem put8 (H : Dg W g xs rows cols av tv) (v : Int) : Dg (W.setCell ⟨g,8,none⟩ (.int .i64 v)) g xs rows v av tv:=blk_put H 8 _ rfl
theorem put9 (H : Dg W g xs rows cols av tv) (v : Value) : Dg (W.setCell ⟨g,9,none⟩ v) g xs rows cols v tv:=blk_put H 9 _ rfl
theorem put10 (H : Dg W g xs rows cols av tv) (v : Value) : Dg (W.setCell ⟨g,10,none⟩ v) g xs rows cols av v:=blk_put H 10 _ rfl
theorem fr (H : Dg W g xs rows cols av tv) (k : Nat) : W.frozen? ⟨g,k,none⟩ = false:=blk_frozen H k
end Dg
/-- The zero dataset in a block. -/
def Zd (W : World) (g : Nat) : Prop:=W.heap[g]? = some (.cells #[.int .i64 0,.int .i64 0,.int .i64 0,.int .i64 0,.int .i64 0,.int .i64 0,.int .i64 0,.int .i64 0,.int .i64 0,.slice none 0 0,.slice none 0 0] 32 (0,0))
abbrev VR (n : Nat) (W : World) (v : Value) (l : List Nat) : Prop:=Kd.R Flt.kf 36 W n (fun _=>True) v l
abbrev TR (n : Nat) (W : World) (v : Value) (l : List Int) : Prop:=Kd.R (Kd.int .i64) 2 W n (fun _=>True) v l
/-- How far the taking is. -/
structure GS (ok : Nat → Prop) (B g : Nat) (w W : World) (xs : List Int) (rows cols : Int) (av tv : Value) (vs : List Nat) (ts r : List Int) : Prop where
 z : Zd W w.heap.size
 d : Dg W g xs rows cols av tv
 V : VR w.heap.size W av vs
 T : TR w.heap.size W tv ts
 rd : Rdr ok W B r
 off : Off B w W
 gl : w.heap.size < g
section
variable {ok : Nat → Prop} {B g : Nat} {w W W' : World} {xs : List Int} {rows cols : Int} {av tv : Value} {vs : List Nat} {ts r r' : List Int}
theorem GS.step (h : GS ok B g w W xs rows cols av tv vs ts r) (hB : B < w.heap.size) (ho : Off B W W') (hr : Rdr ok W' B r') : GS ok B g w W' xs rows cols av tv vs ts r':=by
 have hg:=h.gl
 exact ⟨(ho.block _ (blk_lt h.z) (by omega)).trans h.z,(ho.block _ (blk_lt h.d) (by omega)).trans h.d,
  Kd.R_mono (Kd.R_step (Kd.R_bound h.V) (fun k hk hlt=>ho.block k hlt (by have:=hk.2.1;omega))) (fun _ _=>trivial),
  Kd.R_mono (Kd.R_step (Kd.R_bound h.T) (fun k hk hlt=>ho.block k hlt (by have:=hk.2.1;omega))) (fun _ _=>trivial),hr,h.off.trans ho,hg⟩
theorem GS.below (h : GS ok B g w W xs rows cols av tv vs ts r) (hB : B < w.heap.size) (hb : Below W.heap.size W W') : GS ok B g w W' xs rows cols av tv vs ts r:=h.step hB (Off.of_below hb) (h.rd.below hb)
theorem rd_app (h : Rdr ok W B r) (hok : ∀ k,ok k → k < w.heap.size) (hB : B < w.heap.size) (hb : Below w.heap.size W W') : Rdr ok W' B r:=by
 obtain ⟨A,c,hbx,hl,hF,hx⟩:=h
 exact ⟨A,c,(hb.block B hB).trans hbx,hl,Kd.F_step hF (fun k hk _=>hb.block k (hok k hk)),hx⟩
theorem off_app (h : Off B w W) (hb : Below w.heap.size W W') : Off B w W':=⟨hb.os.trans h.os,hb.tape.trans h.tape,hb.output.trans h.output,Nat.le_trans h.size hb.size,fun k hk hne=>(hb.block k hk).trans (h.block k hk hne)⟩
/-- Behind an append to the values, not yet stored. -/
theorem GS.appV {v1 : Value} {vs1 : List Nat} (h : GS ok B g w W xs rows cols av tv vs ts r) (hB : B < w.heap.size) (hok : ∀ k,ok k → k < w.heap.size) (hR : VR w.heap.size W' v1 vs1) (hb : Below w.heap.size W W') (hg : W.grownBy W' av.ownBlock) :
  Zd W' w.heap.size ∧ Dg W' g xs rows cols av tv ∧ VR w.heap.size W' v1 vs1 ∧ TR w.heap.size W' tv ts ∧ Rdr ok W' B r ∧ Off B w W' :=
 ⟨blk_grown h.z hg (Kd.R_ne h.V h.z (by decide)),blk_grown h.d hg (Kd.R_ne h.V h.d (by decide)),hR,Kd.R_over h.T h.V (by decide) hg,rd_app h.rd hok hB hb,off_app h.off hb⟩
theorem GS.appT {v1 : Value} {ts1 : List Int} (h : GS ok B g w W xs rows cols av tv vs ts r) (hB : B < w.heap.size) (hok : ∀ k,ok k → k < w.heap.size) (hR : TR w.heap.size W' v1 ts1) (hb : Below w.heap.size W W') (hg : W.grownBy W' tv.ownBlock) :
  Zd W' w.heap.size ∧ Dg W' g xs rows cols av tv ∧ VR w.heap.size W' av vs ∧ TR w.heap.size W' v1 ts1 ∧ Rdr ok W' B r ∧ Off B w W' :=
 ⟨blk_grown h.z hg (Kd.R_ne h.T h.z (by decide)),blk_grown h.d hg (Kd.R_ne h.T h.d (by decide)),Kd.R_over h.V h.T (by decide) hg,hR,rd_app h.rd hok hB hb,off_app h.off hb⟩
/-- A store into the dataset's block. -/
theorem put_rest {av' tv' : Value} (k : Nat) (u : Value) (hgl : w.heap.size < g) (hB : B < w.heap.size) (hok : ∀ k,ok k → k < w.heap.size) (h : Zd W w.heap.size ∧ Dg W g xs rows cols av tv ∧ VR w.heap.size W av' vs ∧ TR w.heap.size W tv' ts ∧ Rdr ok W B r ∧ Off B w W) :
  Zd (W.setCell ⟨g,k,none⟩ u) w.heap.size ∧ VR w.heap.size (W.setCell ⟨g,k,none⟩ u) av' vs ∧ TR w.heap.size (W.setCell ⟨g,k,none⟩ u) tv' ts ∧ Rdr ok (W.setCell ⟨g,k,none⟩ u) B r ∧ Off B w (W.setCell ⟨g,k,none⟩ u):=by
 obtain ⟨hz,hd,hV,hT,hr,ho⟩:=h
 exact ⟨blk_far hz (show w.heap.size ≠ g by omega) _,Kd.R_mono (Kd.R_set hV hd (by decide) k u) (fun _ _=>trivial),Kd.R_mono (Kd.R_set hT hd (by decide) k u) (fun _ _=>trivial),
  hr.off ((Off.refl g W).setCell k _) (by omega) (fun j hj=>by have:=hok j hj;omega),ho.setNew (show w.heap.size ≤ g by omega) _⟩
end
/-- What the taking hands out. -/
def PP (n : Nat) (d : D) (v : Value) (W : World) : Prop:=∃ av tv,v = .agg (cs d.g d.rows d.cols av tv) ∧ VR n W av d.vs ∧ TR n W tv d.ts
set_option maxHeartbeats 8000000 in
set_option maxRecDepth 100000 in
theorem get_calls (ok : Nat → Prop) (B : Nat) (l : List Int) (w : World) (h : Rdr ok w B l) (hn : ∀ k,ok k → k ≠ B) (hok : ∀ k,ok k → k < w.heap.size) (hl : l.length ≤ 1000000) :
  Calls Try.prog 61 #[.pointer (some ⟨B,0,none⟩)] w (Gives ok B w (get cl l) (PP w.heap.size)):=by
 have hu:=Try.underlying32
 have hu2:=Try.underlying23
 have hB : B < w.heap.size:=by obtain ⟨A,c,hb,_⟩:=h;exact hb.lt
 have HN:=Aside0.mk hn
 have HOK:=Aside0.mk hok
 have HL:=Aside0.mk hl
 obtain ⟨W0,hW0⟩ : ∃ W0,w.alloc (.cells #[.int .i64 0,.int .i64 0,.int .i64 0,.int .i64 0,.int .i64 0,.int .i64 0,.int .i64 0,.int .i64 0,.int .i64 0,.slice none 0 0,.slice none 0 0] 32) = W0:=⟨_,rfl⟩
 have Z0:=Aside0.mk (show Zd W0 w.heap.size from by rw [← hW0];exact blk_new w _)
 have O0:=Aside0.mk (show Off B w W0 from by rw [← hW0];exact (Off.refl B w).alloc _)
 have R0:=Aside0.mk (show Rdr ok W0 B l from by rw [← hW0];exact h.below (below_alloc (Below.refl _ w) _))
 have HW0:=Aside0.mk hW0
 clear h hn hok hl hW0
 have HC1:=Aside0.mk (number_calls ok B 4 l W0 R0.out HN.out)
 go_enter Try.func61,Try.ntmps61
 go_wp2_with (fail)
 rw [HW0.out]
 clear HW0
 refine HC1.out.mono ?_
 cases h1 : number 4 l with
 | error c =>
  rintro e w1 ⟨ho,rfl⟩
  exact ⟨rfl,fin_err (show get cl l = .error c from seq_err h1) (O0.out.trans ho)⟩
 | ok q =>
  obtain ⟨a,r0⟩:=q
  rintro e w1 ⟨ho,hr1,_,rfl,rfl⟩
  have hlen1:=(num_nn (rdr_bytes R0.out) h1).2
  have HG1:=Aside0.mk (show get cl l = _ from seq_ok h1)
  have Z1:=Aside0.mk (show Zd w1 w.heap.size from (ho.block _ (blk_lt Z0.out) (by omega)).trans Z0.out)
  have O1:=Aside0.mk (O0.out.trans ho)
  have R1:=Aside0.mk hr1
  clear ho hr1 Z0 O0 R0 HC1 h1
  by_cases ha : a = 1213157966
  ·have da : (a != 1213157966) = false:=bne_eq_false_iff_eq.mpr ha
   have HG2:=Aside0.mk (HG1.out.trans (guard_neg (fun h=>h ha)))
   clear ha HG1
   have HC2:=Aside0.mk (FConfGet.gives ok B r0 w1 R1.out HN.out (fun k hk=>Nat.lt_of_lt_of_le (HOK.out k hk) O1.out.size))
   go_wp2_with (fail)
   refine HC2.out.mono ?_
   cases h2 : FConfGet.get r0 with
   | error c =>
    rintro e w2 ⟨ho,rfl⟩
    exact ⟨rfl,fin_err (HG2.out.trans (seq_err h2)) (O1.out.trans ho)⟩
   | ok q =>
    obtain ⟨xs,r1⟩:=q
    rintro e w2 ⟨ho,hr2,_,rfl,rfl⟩
    have HG3:=Aside0.mk (HG2.out.trans (seq_ok h2))
    have hlen2 : r1.length ≤ r0.length:=by
     obtain ⟨u,e,_⟩:=Good.conf _ _ _ h2
     rw [e,List.length_append];omega
    have HLEN:=Aside0.mk (show r1.length ≤ 1000000 by have:=HL.out;omega)
    have Z2:=Aside0.mk (show Zd w2 w.heap.size from (ho.block _ (blk_lt Z1.out) (by omega)).trans Z1.out)
    have O2:=Aside0.mk (O1.out.trans ho)
    have R2:=Aside0.mk hr2
    clear ho hr2 Z1 O1 R1 HC2 HG2 h2 hlen1 hlen2 da
    unfold FConfGet.cells
    obtain ⟨g,hgg⟩ : ∃ g,w2.heap.size = g:=⟨_,rfl⟩
    obtain ⟨W3,hW3⟩ : ∃ W3,w2.alloc (.cells #[.int .i64 (FConfGet.fld xs 0),.int .i64 (FConfGet.fld xs 1),.int .i64 (FConfGet.fld xs 2),.int .i64 (FConfGet.fld xs 3),.int .i64 (FConfGet.fld xs 4),.int .i64 (FConfGet.fld xs 5),.int .i64 (FConfGet.fld xs 6),.int .i64 0,.int .i64 0,.slice none 0 0,.slice none 0 0] 32) = W3:=⟨_,rfl⟩
    have S3:=Aside0.mk (show GS ok B g w W3 xs 0 0 (.slice none 0 0) (.slice none 0 0) [] [] r1 from by
     rw [← hW3,← hgg]
     exact ⟨blk_alloc Z2.out _,blk_new w2 _,Kd.R_nil _ _ _ _ _,Kd.R_nil _ _ _ _ _,R2.out.below (below_alloc (Below.refl _ w2) _),O2.out.alloc _,blk_lt Z2.out⟩)
    have HW3:=Aside0.mk hW3
    have HGG:=Aside0.mk hgg
    clear hW3 hgg
    go_wp2_with (fail)
    rw [HW3.out,HGG.out]
    clear HW3 HGG Z2 O2 R2
    have HC3:=Aside0.mk (count_calls ok B 4 1048576 r1 W3 S3.out.rd HN.out (by omega))
    refine HC3.out.mono ?_
    cases h3 : count 4 1048576 r1 with
    | error c =>
     rintro e w4 ⟨ho,rfl⟩
     exact ⟨rfl,fin_err (HG3.out.trans (seq_err h3)) (S3.out.off.trans ho)⟩
    | ok q =>
     obtain ⟨rows,r2⟩:=q
     rintro e w4 ⟨ho,hr,_,rfl,rfl,hrow0,hrow1⟩
     have HG4:=Aside0.mk (HG3.out.trans (seq_ok h3))
     have hlen3 : r2.length ≤ r1.length:=by
      obtain ⟨u,e,_⟩:=Good.count _ _ _ _ _ h3
      rw [e,List.length_append];omega
     have S4:=Aside0.mk (S3.out.step hB ho hr)
     have hq7:=S4.out.d.c7
     have hf7:=S4.out.d.fr 7
     clear ho hr S3 HC3 HG3 h3
     have S5:=Aside0.mk (show GS ok B g w (w4.setCell ⟨g,7,none⟩ (.int .i64 rows)) xs rows 0 (.slice none 0 0) (.slice none 0 0) [] [] r2 from by
      obtain ⟨a1,a2,a3,a4,a5⟩:=put_rest 7 (.int .i64 rows) S4.out.gl hB HOK.out ⟨S4.out.z,S4.out.d,S4.out.V,S4.out.T,S4.out.rd,S4.out.off⟩
      exact ⟨a1,S4.out.d.put7 rows,a2,a3,a4,a5,S4.out.gl⟩)
     have HC4:=Aside0.mk (count_calls ok B 2 1024 r2 (w4.setCell ⟨g,7,none⟩ (.int .i64 rows)) S5.out.rd HN.out (by omega))
     clear S4
     go_wp2_with (fail)
     clear hq7 hf7
     refine HC4.out.mono ?_
     generalize w4.setCell ⟨g,7,none⟩ (.int .i64 rows) = w5 at S5
     clear HC4
     cases h4 : count 2 1024 r2 with
     | error c =>
      rintro e w6 ⟨ho,rfl⟩
      exact ⟨rfl,fin_err (HG4.out.trans (seq_err h4)) (S5.out.off.trans ho)⟩
     | ok q =>
      obtain ⟨cols,r3⟩:=q
      rintro e w6 ⟨ho,hr,_,rfl,rfl,hcol0,hcol1⟩
      have HG5:=Aside0.mk (HG4.out.trans (seq_ok h4))
      have hlen4 : r3.length ≤ r2.length:=by
       obtain ⟨u,e,_⟩:=Good.count _ _ _ _ _ h4
       rw [e,List.length_append];omega
      have S6:=Aside0.mk (S5.out.step hB ho hr)
      clear ho hr S5 HG4 h4
      have S7:=Aside0.mk (show GS ok B g w (w6.setCell ⟨g,8,none⟩ (.int .i64 cols)) xs rows cols (.slice none 0 0) (.slice none 0 0) [] [] r3 from by
       obtain ⟨a1,a2,a3,a4,a5⟩:=put_rest 8 (.int .i64 cols) S6.out.gl hB HOK.out ⟨S6.out.z,S6.out.d,S6.out.V,S6.out.T,S6.out.rd,S6.out.off⟩
       exact ⟨a1,S6.out.d.put8 cols,a2,a3,a4,a5,S6.out.gl⟩)
      have hq8:=S6.out.d.c8
      have hf8:=S6.out.d.fr 8
      have p7:=S7.out.d.c7
      have p8:=S7.out.d.c8
      have hm0 : 0 ≤ rows * cols:=Int.mul_nonneg hrow0 hcol0
      have hm1 : rows * cols ≤ 1048576 * 1024:=Int.mul_le_mul hrow1 hcol1 hcol0 (by decide)
      obtain ⟨M,hM⟩:=Int.eq_ofNat_of_zero_le hm0
      have hmul : wrap64 (rows * cols) = (M : Int):=by rw [hM] at hm1 ⊢;unfold wrap64;omega
      have HLR:=Aside0.mk (show r3.length ≤ 1000000 by have:=HLEN.out;omega)
      have HM:=Aside0.mk hM
      have HR0:=Aside0.mk (And.intro hrow0 hrow1)
      clear S6 hm0 hm1 hM hrow0 hrow1 hcol0 hcol1 hlen3 hlen4 HLEN
      by_cases hbig : (M : Int) > 16777216
      ·have db : decide ((M : Int) > 16777216) = true:=decide_eq_true hbig
       have HG6:=Aside0.mk (HG5.out.trans (guard_pos (by rw [HM.out];exact hbig)))
       clear hbig
       go_wp2_with (fail)
       refine (fail_calls (some ⟨B,0,none⟩) 4 _).mono ?_
       rintro e w99 ⟨rfl,rfl⟩
       exact ⟨rfl,fin_err (HG6.out) S7.out.off⟩
      ·have db : decide ((M : Int) > 16777216) = false:=decide_eq_false hbig
       have HG6:=Aside0.mk (HG5.out.trans (guard_neg (by rw [HM.out];exact hbig)))
       rw [HM.out,Int.toNat_natCast] at HG6
       have hmb : M ≤ 16777216:=by omega
       clear hbig HG5
       go_wp2_with (fail)
       rw [hmul]
       generalize w6.setCell ⟨g,8,none⟩ (.int .i64 cols) = w7 at S7 ⊢
       clear hq8 hf8 p7 p8 hmul db
       go_loopw [35] (fun v35 w'=>∃ (i : Nat) (av : Value) (out : List Nat) (r : List Int),i ≤ M ∧ v35 = .int .i64 i ∧ out.length = i ∧ 8 * i + r.length ≤ r3.length ∧ Aside0 (GS ok B g w w' xs rows cols av (.slice none 0 0) out [] r) ∧ Aside0 (values cl (M - i) out r = values cl M [] r3)) (fun u _=>M - (intOf u).toNat)
       case atStart=>exact ⟨0,_,[],r3,by omega,rfl,rfl,by omega,S7,⟨rfl⟩⟩
       case round =>
        obtain ⟨i,av,out,r,hi,rfl,hol,hrl,SI,HI⟩:=hrel
        clear S7
        by_cases hlt : i < M
        ·have d0 : decide ((i : Int) < (M : Int)) = true:=decide_eq_true (by omega)
         have HV:=Aside0.mk (value_calls ok B r wr SI.out.rd HN.out)
         have hstep : values cl (M - i) out r = seq (number 8) (fun x=>guard (cl (Flt.fbits x) = false) 3 (values cl (M - (i + 1)) (out ++ [Flt.fbits x]))) r:=by
          rw [show M - i = (M - (i + 1)) + 1 by omega];rfl
         rw [hstep] at HI
         clear hstep
         go_wp2_with (fail)
         refine HV.out.mono ?_
         cases h5 : number 8 r with
         | error c =>
          rintro e w8 ⟨ho,rfl⟩
          exact ⟨rfl,fin_err (HG6.out.trans (seq_err (HI.out.symm.trans (seq_err h5)))) (SI.out.off.trans ho)⟩
         | ok q =>
          obtain ⟨y,r4⟩:=q
          rintro e w8 ⟨ho,hr,_,rfl,rfl⟩
          have HI1:=Aside0.mk (HI.out.symm.trans (seq_ok h5))
          have hln:=(num_nn (rdr_bytes SI.out.rd) h5).2
          rw [show cnt 8 = 8 from rfl] at hln
          have S8:=Aside0.mk (SI.out.step hB ho hr)
          clear ho hr SI HI HV h5
          obtain ⟨x,hx⟩ : ∃ x,Flt.fbits y = x:=⟨_,rfl⟩
          rw [hx] at HI1 ⊢
          clear hx
          go_wp2_with (fail)
          refine (dataset_clean.calls x (cl x) _ (cl_some x)).mono ?_
          rintro e w9 ⟨rfl,nd,rfl⟩
          have S9:=Aside0.mk (S8.out.below hB (below_drewN (Below.refl _ _) nd))
          generalize w8.drewN nd = w9 at S9 ⊢
          clear S8
          cases hcl : cl x with
          | false =>
           have HI2:=Aside0.mk (HI1.out.trans (guard_pos hcl))
           go_wp2_with (fail)
           refine (fail_calls (some ⟨B,0,none⟩) 3 _).mono ?_
           rintro e w99 ⟨rfl,rfl⟩
           exact ⟨rfl,fin_err (HG6.out.trans (seq_err HI2.out)) S9.out.off⟩
          | true =>
           have HI2:=Aside0.mk (HI1.out.trans (guard_neg (by rw [hcl];simp)))
           have hs9:=blk_lt S9.out.z
           have q9:=S9.out.d.c9
           clear hcl HI1
           go_wp2_with (first|((with_reducible refine gate_builtin (b:=.append) (xs:=#[.tmp 45,.tmp 47]) rfl ?_);at_builtin;refine Kd.R_append Flt.kf (w0:=w9) w.heap.size rfl (.tmp 45) (.tmp 47) 30 36 (.float .f64 0) 8 rfl Try.underlying30 info36 rfl (by decide) (by omega) av out x [.float .f64 x] (fun _=>True) (fun _=>False) rfl rfl ?aP (fun _ hk=>hk.elim) (fun _ _=>trivial) S9.out.V (Below.refl _ _) (by omega) (by have:=HLR.out;omega) ?_;(case aP=>exact rfl);intro v1 w10 hR1 hb1 hg1 ha1;have A10:=Aside0.mk (S9.out.appV hB HOK.out hR1 hb1 hg1);obtain ⟨Ab,cb,hv1⟩:=Kd.R_slice hR1;obtain ⟨n1,hn1⟩ : ∃ n1,(out ++ [x]).length = n1:=⟨_,rfl⟩;rw [hn1] at hv1;subst hv1;clear hn1;have hq10:=A10.out.2.1.c9;have hf10:=A10.out.2.1.fr 9;clear hR1 hb1 hg1 ha1))
           have S10:=Aside0.mk (show GS ok B g w (w10.setCell ⟨g,9,none⟩ (.slice Ab n1 cb)) xs rows cols (.slice Ab n1 cb) (.slice none 0 0) (out ++ [x]) [] r4 from by
            obtain ⟨a1,a2,a3,a4,a5⟩:=put_rest 9 (.slice Ab n1 cb) S9.out.gl hB HOK.out A10.out
            exact ⟨a1,A10.out.2.1.put9 _,a2,a3,a4,a5,S9.out.gl⟩)
           clear A10 S9
           exact ⟨⟨i + 1,_,out ++ [x],r4,by omega,by go_num,by rw [List.length_append,hol];rfl,by omega,S10,⟨HI2.out.symm⟩⟩,by simp [intOf];omega⟩
        ·obtain ⟨d0,HV6⟩ : decide ((i : Int) < (M : Int)) = false ∧ values cl M [] r3 = .ok (out,r):=⟨decide_eq_false (by omega),by have h:=HI.out;rw [show M - i = 0 by omega] at h;exact h.symm⟩
         have HG7:=Aside0.mk (HG6.out.trans (seq_ok HV6))
         have q0:=SI.out.d.c0
         have q1:=SI.out.d.c1
         have q2:=SI.out.d.c2
         have q3:=SI.out.d.c3
         have q4:=SI.out.d.c4
         have q5:=SI.out.d.c5
         have q6:=SI.out.d.c6
         clear HV6 HG6 HI
         go_wp2_with (fail)
         refine (target_calls _ _ _ _ _ _ _ _).mono ?_
         rintro e w11 ⟨rfl,hb⟩
         have S11:=Aside0.mk (SI.out.below hB hb)
         have HRL:=Aside0.mk (show r.length ≤ 1000000 by have:=HLR.out;omega)
         clear hb SI q0 q1 q2 q3 q4 q5 q6 d0
         have hr0:=HR0.out
         clear HR0
         obtain ⟨N,rfl⟩:=Int.eq_ofNat_of_zero_le hr0.1
         have hnb : N ≤ 1048576:=by have:=hr0.2;omega
         clear hr0
         by_cases hk1 : FConfGet.fld xs 0 = 1
         ·rw [show fn (FConfGet.fld xs 0) = 80 from if_pos hk1]
          have HMAY:=Aside0.mk (show ∀ z,may (FConfGet.fld xs 0) (FConfGet.fld xs 1) z = mean z from fun z=>if_pos hk1)
          have p7:=S11.out.d.c7
          clear hk1
          go_wp2_with (fail)
          clear p7
          rw [Int.toNat_natCast] at HG7
          go_loopw [56] (fun v56 w'=>∃ (i : Nat) (tv : Value) (ts : List Int) (r5 : List Int),i ≤ N ∧ v56 = .int .i64 i ∧ ts.length = i ∧ 8 * i + r5.length ≤ r.length ∧ Aside0 (GS ok B g w w' xs (N : Int) cols av tv out ts r5) ∧ Aside0 (targets (FConfGet.fld xs 0) (FConfGet.fld xs 1) (N - i) ts r5 = targets (FConfGet.fld xs 0) (FConfGet.fld xs 1) N [] r)) (fun u _=>N - (intOf u).toNat)
          case atStart=>exact ⟨0,_,[],r,by omega,rfl,rfl,by omega,S11,⟨rfl⟩⟩
          case round =>
           obtain ⟨n,tv,ts,r5,hi2,rfl,htl,hrl2,SJ,HJ⟩:=hrel
           clear S11
           by_cases hlt2 : n < N
           ·have d0 : decide ((n : Int) < (N : Int)) = true:=decide_eq_true (by omega)
            have HV:=Aside0.mk (whole_calls ok B r5 wr SJ.out.rd HN.out)
            have hstep : targets (FConfGet.fld xs 0) (FConfGet.fld xs 1) (N - n) ts r5 = seq (number 8) (fun x=>guard (may (FConfGet.fld xs 0) (FConfGet.fld xs 1) (wrap64 x) ≠ 0) (may (FConfGet.fld xs 0) (FConfGet.fld xs 1) (wrap64 x)) (targets (FConfGet.fld xs 0) (FConfGet.fld xs 1) (N - (n + 1)) (ts ++ [wrap64 x]))) r5:=by
             rw [show N - n = (N - (n + 1)) + 1 by omega];rfl
            rw [hstep] at HJ
            clear hstep
            go_wp2_with (fail)
            refine HV.out.mono ?_
            cases h6 : number 8 r5 with
            | error c =>
             rintro e w12 ⟨ho,rfl⟩
             exact ⟨rfl,fin_err (HG7.out.trans (seq_err (HJ.out.symm.trans (seq_err h6)))) (SJ.out.off.trans ho)⟩
            | ok q =>
             obtain ⟨y,r6⟩:=q
             rintro e w12 ⟨ho,hr,_,rfl,rfl⟩
             have HJ1:=Aside0.mk (HJ.out.symm.trans (seq_ok h6))
             have hln:=(num_nn (rdr_bytes SJ.out.rd) h6).2
             rw [show cnt 8 = 8 from rfl] at hln
             have S12:=Aside0.mk (SJ.out.step hB ho hr)
             clear ho hr SJ HJ HV h6
             obtain ⟨x,hx⟩ : ∃ x,wrap64 y = x:=⟨_,rfl⟩
             rw [hx] at HJ1 ⊢
             clear hx
             have HCL:=Aside0.mk (mean_calls (FConfGet.fld xs 0) (FConfGet.fld xs 1) (FConfGet.fld xs 2) (FConfGet.fld xs 3) (FConfGet.fld xs 4) (FConfGet.fld xs 5) (FConfGet.fld xs 6) x w12)
             have hmx:=HMAY.out x
             rw [hmx] at HJ1
             generalize mean x = mm at HCL HJ1
             clear hmx
             go_wp2_with (fail)
             refine HCL.out.mono ?_
             rintro e w13 ⟨rfl,hb⟩
             have S13:=Aside0.mk (S12.out.below hB hb)
             clear hb S12 HCL
             by_cases hm : mm = 0
             ·subst hm
              have HJ2:=Aside0.mk (HJ1.out.trans (guard_neg (fun h=>h rfl)))
              have hs13:=blk_lt S13.out.z
              have q10:=S13.out.d.c10
              clear HJ1
              go_wp2_with (first|((with_reducible refine gate_builtin (b:=.append) (xs:=#[.tmp 69,.tmp 71]) rfl ?_);at_builtin;refine Kd.R_append (Kd.int .i64) (w0:=w13) w.heap.size rfl (.tmp 69) (.tmp 71) 25 2 (.int .i64 0) 8 rfl Try.underlying25 info2 rfl (by decide) (by omega) tv ts x [.int .i64 x] (fun _=>True) (fun _=>False) rfl rfl ?aP (fun _ hk=>hk.elim) (fun _ _=>trivial) S13.out.T (Below.refl _ _) (by omega) (by have:=HRL.out;omega) ?_;(case aP=>exact rfl);intro v1 w14 hR1 hb1 hg1 ha1;have A14:=Aside0.mk (S13.out.appT hB HOK.out hR1 hb1 hg1);obtain ⟨Ab,cb,hv1⟩:=Kd.R_slice hR1;obtain ⟨n1,hn1⟩ : ∃ n1,(ts ++ [x]).length = n1:=⟨_,rfl⟩;rw [hn1] at hv1;subst hv1;clear hn1;have hq14:=A14.out.2.1.c10;have hf14:=A14.out.2.1.fr 10;clear hR1 hb1 hg1 ha1))
              have S14:=Aside0.mk (show GS ok B g w (w14.setCell ⟨g,10,none⟩ (.slice Ab n1 cb)) xs (N : Int) cols av (.slice Ab n1 cb) out (ts ++ [x]) r6 from by
               obtain ⟨a1,a2,a3,a4,a5⟩:=put_rest 10 (.slice Ab n1 cb) S13.out.gl hB HOK.out A14.out
               exact ⟨a1,A14.out.2.1.put10 _,a2,a3,a4,a5,S13.out.gl⟩)
              clear A14 S13
              exact ⟨⟨n + 1,_,ts ++ [x],r6,by omega,by go_num,by rw [List.length_append,htl];rfl,by omega,S14,⟨HJ2.out.symm⟩⟩,by simp [intOf];omega⟩
             ·have dm : (mm != 0) = true:=bne_iff_ne.2 hm
              have HJ2:=Aside0.mk (HJ1.out.trans (guard_pos hm))
              have HF:=Aside0.mk (fail_calls (some ⟨B,0,none⟩) mm w13)
              rw [if_neg hm] at HF
              clear HJ1 hm
              go_wp2_with (fail)
              refine HF.out.mono ?_
              rintro e w99 ⟨rfl,rfl⟩
              exact ⟨rfl,fin_err (HG7.out.trans (seq_err HJ2.out)) S13.out.off⟩
           ·obtain ⟨d0,HV7⟩ : decide ((n : Int) < (N : Int)) = false ∧ targets (FConfGet.fld xs 0) (FConfGet.fld xs 1) N [] r = .ok (ts,r5):=⟨decide_eq_false (by omega),by have h:=HJ.out;rw [show N - n = 0 by omega] at h;exact h.symm⟩
            have HG8:=Aside0.mk (HG7.out.trans (seq_ok HV7))
            have q0:=SJ.out.d.c0
            have q1:=SJ.out.d.c1
            have q2:=SJ.out.d.c2
            have q3:=SJ.out.d.c3
            have q4:=SJ.out.d.c4
            have q5:=SJ.out.d.c5
            have q6:=SJ.out.d.c6
            have q7:=SJ.out.d.c7
            have q8:=SJ.out.d.c8
            have q9:=SJ.out.d.c9
            have q10:=SJ.out.d.c10
            have z9:=SJ.out.z
            unfold Zd at z9
            clear HV7 HG7 HJ
            go_wp2_with ((with_reducible refine gate_store (t:=32) (p:=2) rfl ?_);refine FStore.store_all w.heap.size 32 32 2 _ #[.int .i64 0,.int .i64 0,.int .i64 0,.int .i64 0,.int .i64 0,.int .i64 0,.int .i64 0,.int .i64 0,.int .i64 0,.slice none 0 0,.slice none 0 0] #[.int .i64 (FConfGet.fld xs 0),.int .i64 (FConfGet.fld xs 1),.int .i64 (FConfGet.fld xs 2),.int .i64 (FConfGet.fld xs 3),.int .i64 (FConfGet.fld xs 4),.int .i64 (FConfGet.fld xs 5),.int .i64 (FConfGet.fld xs 6),.int .i64 (N : Int),.int .i64 cols,av,tv] rfl rfl rfl rfl rfl z9 (by kernel_rfl) rfl ?_ ?_;rotate_left;intro w9 hb9 hB9 hk9)
            ·refine bodyPost_ret (results_cell_row rfl _ _ w.heap.size 32 #[.int .i64 (FConfGet.fld xs 0),.int .i64 (FConfGet.fld xs 1),.int .i64 (FConfGet.fld xs 2),.int .i64 (FConfGet.fld xs 3),.int .i64 (FConfGet.fld xs 4),.int .i64 (FConfGet.fld xs 5),.int .i64 (FConfGet.fld xs 6),.int .i64 (N : Int),.int .i64 cols,av,tv] (0,0) _ rfl hb9 Try.underlying32 rfl (by kernel_rfl)) rfl ?_
             have ho:=FConfGet.off_store hB9 hk9
             have hgs : get cl l = .ok (⟨xs,(N : Int),cols,out,ts⟩,r5):=HG8.out
             rw [hgs]
             refine ⟨⟨ho.os.trans SJ.out.off.os,ho.tape.trans SJ.out.off.tape,ho.output.trans SJ.out.off.output,Nat.le_trans SJ.out.off.size ho.size,fun j hj hne=>(hk9 j (by omega)).trans (SJ.out.off.block j hj hne)⟩,SJ.out.rd.off ho (by omega) (fun j hj=>by have:=HOK.out j hj;omega),_,rfl,av,tv,rfl,?_,?_⟩
             ·exact Kd.R_mono (Kd.R_step (Kd.R_types SJ.out.V SJ.out.z (by decide)) (fun k hk _=>hk9 k hk.2)) (fun _ _=>trivial)
             ·exact Kd.R_mono (Kd.R_step (Kd.R_types SJ.out.T SJ.out.z (by decide)) (fun k hk _=>hk9 k hk.2)) (fun _ _=>trivial)
            ·have h1:=(Kd.R_val SJ.out.V).2
             have h2:=(Kd.R_val SJ.out.T).2
             simp only [Value.oneCell'] at h1 h2
             simp [Value.oneCell']
             exact ⟨h1,h2⟩
         ·rw [show fn (FConfGet.fld xs 0) = 81 from if_neg hk1]
          have HMAY:=Aside0.mk (show ∀ z,may (FConfGet.fld xs 0) (FConfGet.fld xs 1) z = class_ (FConfGet.fld xs 1) z from fun z=>if_neg hk1)
          have p7:=S11.out.d.c7
          clear hk1
          go_wp2_with (fail)
          clear p7
          rw [Int.toNat_natCast] at HG7
          go_loopw [56] (fun v56 w'=>∃ (i : Nat) (tv : Value) (ts : List Int) (r5 : List Int),i ≤ N ∧ v56 = .int .i64 i ∧ ts.length = i ∧ 8 * i + r5.length ≤ r.length ∧ Aside0 (GS ok B g w w' xs (N : Int) cols av tv out ts r5) ∧ Aside0 (targets (FConfGet.fld xs 0) (FConfGet.fld xs 1) (N - i) ts r5 = targets (FConfGet.fld xs 0) (FConfGet.fld xs 1) N [] r)) (fun u _=>N - (intOf u).toNat)
          case atStart=>exact ⟨0,_,[],r,by omega,rfl,rfl,by omega,S11,⟨rfl⟩⟩
          case round =>
           obtain ⟨n,tv,ts,r5,hi2,rfl,htl,hrl2,SJ,HJ⟩:=hrel
           clear S11
           by_cases hlt2 : n < N
           ·have d0 : decide ((n : Int) < (N : Int)) = true:=decide_eq_true (by omega)
            have HV:=Aside0.mk (whole_calls ok B r5 wr SJ.out.rd HN.out)
            have hstep : targets (FConfGet.fld xs 0) (FConfGet.fld xs 1) (N - n) ts r5 = seq (number 8) (fun x=>guard (may (FConfGet.fld xs 0) (FConfGet.fld xs 1) (wrap64 x) ≠ 0) (may (FConfGet.fld xs 0) (FConfGet.fld xs 1) (wrap64 x)) (targets (FConfGet.fld xs 0) (FConfGet.fld xs 1) (N - (n + 1)) (ts ++ [wrap64 x]))) r5:=by
             rw [show N - n = (N - (n + 1)) + 1 by omega];rfl
            rw [hstep] at HJ
            clear hstep
            go_wp2_with (fail)
            refine HV.out.mono ?_
            cases h6 : number 8 r5 with
            | error c =>
             rintro e w12 ⟨ho,rfl⟩
             exact ⟨rfl,fin_err (HG7.out.trans (seq_err (HJ.out.symm.trans (seq_err h6)))) (SJ.out.off.trans ho)⟩
            | ok q =>
             obtain ⟨y,r6⟩:=q
             rintro e w12 ⟨ho,hr,_,rfl,rfl⟩
             have HJ1:=Aside0.mk (HJ.out.symm.trans (seq_ok h6))
             have hln:=(num_nn (rdr_bytes SJ.out.rd) h6).2
             rw [show cnt 8 = 8 from rfl] at hln
             have S12:=Aside0.mk (SJ.out.step hB ho hr)
             clear ho hr SJ HJ HV h6
             obtain ⟨x,hx⟩ : ∃ x,wrap64 y = x:=⟨_,rfl⟩
             rw [hx] at HJ1 ⊢
             clear hx
             have HCL:=Aside0.mk (class_calls (FConfGet.fld xs 0) (FConfGet.fld xs 1) (FConfGet.fld xs 2) (FConfGet.fld xs 3) (FConfGet.fld xs 4) (FConfGet.fld xs 5) (FConfGet.fld xs 6) x w12)
             have hmx:=HMAY.out x
             rw [hmx] at HJ1
             generalize class_ (FConfGet.fld xs 1) x = mm at HCL HJ1
             clear hmx
             go_wp2_with (fail)
             refine HCL.out.mono ?_
             rintro e w13 ⟨rfl,hb⟩
             have S13:=Aside0.mk (S12.out.below hB hb)
             clear hb S12 HCL
             by_cases hm : mm = 0
             ·subst hm
              have HJ2:=Aside0.mk (HJ1.out.trans (guard_neg (fun h=>h rfl)))
              have hs13:=blk_lt S13.out.z
              have q10:=S13.out.d.c10
              clear HJ1
              go_wp2_with (first|((with_reducible refine gate_builtin (b:=.append) (xs:=#[.tmp 69,.tmp 71]) rfl ?_);at_builtin;refine Kd.R_append (Kd.int .i64) (w0:=w13) w.heap.size rfl (.tmp 69) (.tmp 71) 25 2 (.int .i64 0) 8 rfl Try.underlying25 info2 rfl (by decide) (by omega) tv ts x [.int .i64 x] (fun _=>True) (fun _=>False) rfl rfl ?aP (fun _ hk=>hk.elim) (fun _ _=>trivial) S13.out.T (Below.refl _ _) (by omega) (by have:=HRL.out;omega) ?_;(case aP=>exact rfl);intro v1 w14 hR1 hb1 hg1 ha1;have A14:=Aside0.mk (S13.out.appT hB HOK.out hR1 hb1 hg1);obtain ⟨Ab,cb,hv1⟩:=Kd.R_slice hR1;obtain ⟨n1,hn1⟩ : ∃ n1,(ts ++ [x]).length = n1:=⟨_,rfl⟩;rw [hn1] at hv1;subst hv1;clear hn1;have hq14:=A14.out.2.1.c10;have hf14:=A14.out.2.1.fr 10;clear hR1 hb1 hg1 ha1))
              have S14:=Aside0.mk (show GS ok B g w (w14.setCell ⟨g,10,none⟩ (.slice Ab n1 cb)) xs (N : Int) cols av (.slice Ab n1 cb) out (ts ++ [x]) r6 from by
               obtain ⟨a1,a2,a3,a4,a5⟩:=put_rest 10 (.slice Ab n1 cb) S13.out.gl hB HOK.out A14.out
               exact ⟨a1,A14.out.2.1.put10 _,a2,a3,a4,a5,S13.out.gl⟩)
              clear A14 S13
              exact ⟨⟨n + 1,_,ts ++ [x],r6,by omega,by go_num,by rw [List.length_append,htl];rfl,by omega,S14,⟨HJ2.out.symm⟩⟩,by simp [intOf];omega⟩
             ·have dm : (mm != 0) = true:=bne_iff_ne.2 hm
              have HJ2:=Aside0.mk (HJ1.out.trans (guard_pos hm))
              have HF:=Aside0.mk (fail_calls (some ⟨B,0,none⟩) mm w13)
              rw [if_neg hm] at HF
              clear HJ1 hm
              go_wp2_with (fail)
              refine HF.out.mono ?_
              rintro e w99 ⟨rfl,rfl⟩
              exact ⟨rfl,fin_err (HG7.out.trans (seq_err HJ2.out)) S13.out.off⟩
           ·obtain ⟨d0,HV7⟩ : decide ((n : Int) < (N : Int)) = false ∧ targets (FConfGet.fld xs 0) (FConfGet.fld xs 1) N [] r = .ok (ts,r5):=⟨decide_eq_false (by omega),by have h:=HJ.out;rw [show N - n = 0 by omega] at h;exact h.symm⟩
            have HG8:=Aside0.mk (HG7.out.trans (seq_ok HV7))
            have q0:=SJ.out.d.c0
            have q1:=SJ.out.d.c1
            have q2:=SJ.out.d.c2
            have q3:=SJ.out.d.c3
            have q4:=SJ.out.d.c4
            have q5:=SJ.out.d.c5
            have q6:=SJ.out.d.c6
            have q7:=SJ.out.d.c7
            have q8:=SJ.out.d.c8
            have q9:=SJ.out.d.c9
            have q10:=SJ.out.d.c10
            have z9:=SJ.out.z
            unfold Zd at z9
            clear HV7 HG7 HJ
            go_wp2_with ((with_reducible refine gate_store (t:=32) (p:=2) rfl ?_);refine FStore.store_all w.heap.size 32 32 2 _ #[.int .i64 0,.int .i64 0,.int .i64 0,.int .i64 0,.int .i64 0,.int .i64 0,.int .i64 0,.int .i64 0,.int .i64 0,.slice none 0 0,.slice none 0 0] #[.int .i64 (FConfGet.fld xs 0),.int .i64 (FConfGet.fld xs 1),.int .i64 (FConfGet.fld xs 2),.int .i64 (FConfGet.fld xs 3),.int .i64 (FConfGet.fld xs 4),.int .i64 (FConfGet.fld xs 5),.int .i64 (FConfGet.fld xs 6),.int .i64 (N : Int),.int .i64 cols,av,tv] rfl rfl rfl rfl rfl z9 (by kernel_rfl) rfl ?_ ?_;rotate_left;intro w9 hb9 hB9 hk9)
            ·refine bodyPost_ret (results_cell_row rfl _ _ w.heap.size 32 #[.int .i64 (FConfGet.fld xs 0),.int .i64 (FConfGet.fld xs 1),.int .i64 (FConfGet.fld xs 2),.int .i64 (FConfGet.fld xs 3),.int .i64 (FConfGet.fld xs 4),.int .i64 (FConfGet.fld xs 5),.int .i64 (FConfGet.fld xs 6),.int .i64 (N : Int),.int .i64 cols,av,tv] (0,0) _ rfl hb9 Try.underlying32 rfl (by kernel_rfl)) rfl ?_
             have ho:=FConfGet.off_store hB9 hk9
             have hgs : get cl l = .ok (⟨xs,(N : Int),cols,out,ts⟩,r5):=HG8.out
             rw [hgs]
             refine ⟨⟨ho.os.trans SJ.out.off.os,ho.tape.trans SJ.out.off.tape,ho.output.trans SJ.out.off.output,Nat.le_trans SJ.out.off.size ho.size,fun j hj hne=>(hk9 j (by omega)).trans (SJ.out.off.block j hj hne)⟩,SJ.out.rd.off ho (by omega) (fun j hj=>by have:=HOK.out j hj;omega),_,rfl,av,tv,rfl,?_,?_⟩
             ·exact Kd.R_mono (Kd.R_step (Kd.R_types SJ.out.V SJ.out.z (by decide)) (fun k hk _=>hk9 k hk.2)) (fun _ _=>trivial)
             ·exact Kd.R_mono (Kd.R_step (Kd.R_types SJ.out.T SJ.out.z (by decide)) (fun k hk _=>hk9 k hk.2)) (fun _ _=>trivial)
            ·have h1:=(Kd.R_val SJ.out.V).2
             have h2:=(Kd.R_val SJ.out.T).2
             simp only [Value.oneCell'] at h1 h2
             simp [Value.oneCell']
             exact ⟨h1,h2⟩
  ·have da : (a != 1213157966) = true:=bne_iff_ne.2 ha
   have HG2:=Aside0.mk (HG1.out.trans (guard_pos ha))
   clear ha HG1
   go_wp2_with (fail)
   refine (fail_calls (some ⟨B,0,none⟩) 3 _).mono ?_
   rintro e w99 ⟨rfl,rfl⟩
   exact ⟨rfl,fin_err HG2.out O1.out⟩
theorem results_two {P : Program} {fn : Func} {p q : Tmp} {ty : TypeId} (h : fn.results = #[.cell p ty,.tmp q]) (tmps : Array Value) (w : World) (g : Nat) (t : TypeId) (cs : Array Value) (fr : Nat × Nat) (d : TypeDesc) (u : Value)
  (hp : tmps.getD p undef = .pointer (some ⟨g,0,none⟩)) (hq : tmps.getD q undef = u) (hg : w.heap[g]? = some (.cells cs t fr))
  (hu : P.underlying ty = some d) (hd : (match d with|.struct _|.array _ _=>true|_=>false) = true) (hi : (P.info? ty).map (·.size) = some cs.size) :
  (results fn tmps).run P w = .ok (.tuple #[.agg cs,u]) w:=by
 have hp' : tmps[p]?.getD undef = .pointer (some ⟨g,0,none⟩):=by simpa using hp
 have hq' : tmps[q]?.getD undef = u:=by simpa using hq
 simp [results,h,hp',hq',asAddr,run_loadVar_row w g t ty cs fr d hg hu hd hi]
theorem getR_err {l : List Int} {c : Int} (h : get cl l = .error c) : getR cl l = (⟨[],0,0,[],[]⟩,c):=by unfold getR;rw [h]
theorem getR_long {l : List Int} {d : D} {r : List Int} (h : get cl l = .ok (d,r)) (hr : r.length > 0) : getR cl l = (⟨[],0,0,[],[]⟩,3):=by unfold getR;rw [h];exact if_pos hr
theorem getR_whole {l : List Int} {d : D} {r : List Int} (h : get cl l = .ok (d,r)) (hr : ¬ r.length > 0) : getR cl l = (d,0):=by unfold getR;rw [h];exact if_neg hr
/-- No error is none. -/
def Ne {α : Type} (p : P α) : Prop:=∀ l c,p l = .error c → c ≠ 0
theorem Ne.seq {α β : Type} {p : P α} {q : α → P β} (hp : Ne p) (hq : ∀ x,Ne (q x)) : Ne (seq p q):=by
 intro l c h
 change (match p l with|.error c=>Except.error c|.ok (x,r)=>q x r) = _ at h
 cases h1 : p l with
 | error c1=>rw [h1] at h;cases h;exact hp l _ h1
 | ok z=>rw [h1] at h;exact hq z.1 z.2 c h
theorem Ne.guard {β : Type} {k : Prop} [Decidable k] {e : Int} {q : P β} (he : k → e ≠ 0) (hq : Ne q) : Ne (guard k e q):=by
 intro l c h
 by_cases hk : k
 ·have : (Except.error e : Except Int (β × List Int)) = .error c:=(if_pos hk).symm.trans h
  cases this;exact he hk
 ·exact hq l c ((if_neg hk).symm.trans h)
theorem Ne.done {α : Type} (x : α) : Ne (done x):=by intro l c h;cases h
theorem Ne.number (n : Int) : Ne (number n):=by
 intro l c h;unfold FTake.number at h;split at h
 ·cases h
 ·cases h;decide
theorem Ne.count (m most : Int) : Ne (count m most):=Ne.seq (Ne.number m) fun n=>Ne.guard (fun _=>by decide) (Ne.guard (fun _=>by decide) (Ne.done _))
theorem Ne.values : ∀ (n : Nat) (out : List Nat),Ne (values cl n out)
 | 0,out=>Ne.done out
 | n + 1,out=>Ne.seq (Ne.number 8) fun x=>Ne.guard (fun _=>by decide) (Ne.values n _)
theorem Ne.targets (k0 k1 : Int) : ∀ (n : Nat) (out : List Int),Ne (targets k0 k1 n out)
 | 0,out=>Ne.done out
 | n + 1,out=>Ne.seq (Ne.number 8) fun x=>Ne.guard (fun h=>h) (Ne.targets k0 k1 n _)
theorem Ne.get : Ne (get cl):=Ne.seq (Ne.number 4) fun a=>Ne.guard (fun _=>by decide) (Ne.seq (fun _ _ h=>FConfGet.get_ne h) fun g=>Ne.seq (Ne.count _ _) fun rows=>Ne.seq (Ne.count _ _) fun cols =>
 Ne.guard (fun _=>by decide) (Ne.seq (Ne.values _ _) fun vs=>Ne.seq (Ne.targets _ _ _ _) fun ts=>Ne.done _))
def Db (W : World) (T : Nat) (d : D) (av tv : Value) : Prop:=W.heap[T]? = some (.cells (cs d.g d.rows d.cols av tv) 32 (0,0))
set_option maxHeartbeats 1500000 in
set_option maxRecDepth 100000 in
theorem closure (ok : Nat → Prop) (B T : Nat) (l : List Int) (w : World) (h : Rdr ok w B l) (hn : ∀ k,ok k → k ≠ B) (hok : ∀ k,ok k → k < w.heap.size) (hT : ∀ k,ok k → k ≠ T) (hl : l.length ≤ 1000000) (hz : Zd w T) (dT : T ≠ B) :
  Calls Try.prog 60 #[.pointer (some ⟨B,0,none⟩),.pointer (some ⟨T,0,none⟩)] w fun e W =>
   Offs (fun k=>k = B ∨ k = T) w W ∧ ((∃ d r av tv,get cl l = .ok (d,r) ∧ e = .returned (.tuple #[]) ∧ Rdr ok W B r ∧ Db W T d av tv ∧ VR w.heap.size W av d.vs ∧ TR w.heap.size W tv d.ts) ∨ ∃ c,get cl l = .error c ∧ e = .panicked (fault c)):=by
 have hu:=Try.underlying32
 have G:=get_calls ok B l w h hn hok hl
 have HT:=Aside0.mk hT
 have HZ:=Aside0.mk hz
 have hlt:=blk_lt hz
 clear h hn hok hT hz
 cases hg : get cl l with
 | error c =>
  rw [hg] at G
  have HG:=Aside0.mk G
  clear G hg
  go_enter Try.func60,Try.ntmps60
  go_wp2_with (fail)
  refine HG.out.mono ?_
  rintro e w1 ⟨ho,rfl⟩
  exact ⟨rfl,Offs.of_off ho (Or.inl rfl),.inr ⟨c,rfl,rfl⟩⟩
 | ok q =>
  obtain ⟨d,r⟩:=q
  rw [hg] at G
  have HG:=Aside0.mk G
  clear G hg
  go_enter Try.func60,Try.ntmps60
  go_wp2_with (fail)
  refine HG.out.mono ?_
  rintro e w1 ⟨ho,hr,_,rfl,av,tv,rfl,hV,hTs⟩
  have z1 : Zd w1 T:=(ho.block _ hlt dT).trans HZ.out
  have HO:=Aside0.mk ho
  have HRD:=Aside0.mk hr
  have HV:=Aside0.mk hV
  have HTS:=Aside0.mk hTs
  unfold Zd at z1
  clear ho hr hV hTs HG
  unfold cs
  go_wp2_with ((with_reducible refine gate_store (t:=32) (p:=1) rfl ?_);refine FStore.store_all T 32 32 1 _ #[.int .i64 0,.int .i64 0,.int .i64 0,.int .i64 0,.int .i64 0,.int .i64 0,.int .i64 0,.int .i64 0,.int .i64 0,.slice none 0 0,.slice none 0 0] (cs d.g d.rows d.cols av tv) rfl rfl rfl rfl rfl z1 (by kernel_rfl) rfl ?_ ?_;rotate_left;intro w9 hb9 hB9 hk9)
  ·go_end0
   have ho:=FConfGet.off_store hB9 hk9
   refine ⟨⟨ho.os.trans HO.out.os,ho.tape.trans HO.out.tape,ho.output.trans HO.out.output,Nat.le_trans HO.out.size ho.size,fun j hj hne=>(hk9 j (fun e=>hne (Or.inr e))).trans (HO.out.block j hj (fun e=>hne (Or.inl e)))⟩,.inl ⟨d,r,av,tv,rfl,rfl,HRD.out.off ho (Ne.symm dT) HT.out,hb9,?_,?_⟩⟩
   ·exact Kd.R_mono (Kd.R_step (Kd.R_bound HV.out) (fun k hk _=>hk9 k (by have:=hk.2.1;omega))) (fun _ _=>trivial)
   ·exact Kd.R_mono (Kd.R_step (Kd.R_bound HTS.out) (fun k hk _=>hk9 k (by have:=hk.2.1;omega))) (fun _ _=>trivial)
  ·have h1:=(Kd.R_val HV.out).2
   have h2:=(Kd.R_val HTS.out).2
   unfold cs
   simp only [Value.oneCell'] at h1 h2
   simp [Value.oneCell']
   exact ⟨h1,h2⟩
set_option maxHeartbeats 2000000 in
set_option maxRecDepth 100000 in
theorem dget_calls (A : Option Addr) (c : Nat) (l : List Int) (w : World) (hr : Kd.C (Kd.int .u8) w A l.length l) (hc : l.length ≤ c) (hx : ∀ x ∈ l,0 ≤ x ∧ x < 256) (hl : l.length ≤ 1000000) :
  Calls Try.prog 23 #[.slice A l.length c] w fun e w' =>
   ∃ av tv,e = .returned (.tuple #[.agg (cs (getR cl l).1.g (getR cl l).1.rows (getR cl l).1.cols av tv),.int .i64 (getR cl l).2]) ∧ VR w.heap.size w' av (getR cl l).1.vs ∧ TR w.heap.size w' tv (getR cl l).1.ts ∧ Below w.heap.size w w':=by
 have hu2:=Try.underlying32
 have hmf : ∀ (fn : Fn) (first cap : Array Value) (W : World),(Instr.makeFunc fn first cap).run Try.prog W = .ok (.func fn first cap) W:=fun _ _ _ _=>rfl
 obtain ⟨W0,hW0⟩ : ∃ W0,(w.alloc (.cells #[.int .i64 0,.int .i64 0,.int .i64 0,.int .i64 0,.int .i64 0,.int .i64 0,.int .i64 0,.int .i64 0,.int .i64 0,.slice none 0 0,.slice none 0 0] 32)).alloc (.cells #[.int .i64 0,.int .i64 0,.int .i64 0,.int .i64 0,.int .i64 0,.int .i64 0,.int .i64 0,.int .i64 0,.int .i64 0,.slice none 0 0,.slice none 0 0] 32) = W0:=⟨_,rfl⟩
 have z1 : Zd W0 w.heap.size:=by rw [← hW0];exact blk_alloc (blk_new w _) _
 have z2 : Zd W0 (w.heap.size + 1):=by rw [← hW0];have:=blk_new (w.alloc (.cells #[.int .i64 0,.int .i64 0,.int .i64 0,.int .i64 0,.int .i64 0,.int .i64 0,.int .i64 0,.int .i64 0,.int .i64 0,.slice none 0 0,.slice none 0 0] 32)) (.cells #[.int .i64 0,.int .i64 0,.int .i64 0,.int .i64 0,.int .i64 0,.int .i64 0,.int .i64 0,.int .i64 0,.int .i64 0,.slice none 0 0,.slice none 0 0] 32);rwa [World.size_alloc] at this
 have hb0 : Below w.heap.size w W0:=by rw [← hW0];exact below_alloc (below_alloc (Below.refl _ w) _) _
 have hsz : W0.heap.size = w.heap.size + 2:=by rw [← hW0];simp
 have hF : Kd.F (Kd.int .u8) W0 (fun k=>k < w.heap.size) A l.length l:=Kd.F_below (Kd.C_F (Kd.heap_int .u8) hr) hb0
 have sb:=start_below A l.length c W0
 have sz:=start_size A l.length c W0
 have T:=FTake.try_calls 60 #[.pointer (some ⟨w.heap.size + 1,0,none⟩)] (fun k=>k < w.heap.size) A c l W0 (enters_of Try.func60 (by kernel_rfl) rfl)
  (fun r W=>∃ d av tv,get cl l = .ok (d,r) ∧ Zd W w.heap.size ∧ Db W (w.heap.size + 1) d av tv ∧ VR (w.heap.size + 4) W av d.vs ∧ TR (w.heap.size + 4) W tv d.ts ∧ Below w.heap.size w W)
  (fun c W=>get cl l = .error c ∧ Zd W w.heap.size ∧ Below w.heap.size w W) (by
   refine (closure (fun k=>k < w.heap.size) (W0.heap.size + 1) (w.heap.size + 1) l _ (FTake.start_rdr _ A c l W0 hF hc hx) (fun k hk=>by omega) (fun k hk=>by rw [sz];omega) (fun k hk=>by omega) hl ((sb.block _ (blk_lt z2)).trans z2) (by omega)).mono ?_
   rintro e W ⟨ho,hh⟩
   have hbW : Below w.heap.size w W:=(hb0.trans (sb.mono (by omega))).trans (ho.below (by rw [sz];omega) (by omega))
   have hzW : Zd W w.heap.size:=(ho.block _ (by rw [sz];omega) (by omega)).trans ((sb.block _ (blk_lt z1)).trans z1)
   refine ⟨ho.boxed (FTake.start_err A l.length c W0) (by omega),?_⟩
   rcases hh with ⟨d,r,av,tv,hg,rfl,hrd,hbx,hV,hTs⟩|⟨c,hg,rfl⟩
   ·rw [sz,hsz] at hV hTs
    exact .inl ⟨_,r,rfl,hrd,d,av,tv,hg,hzW,hbx,hV,hTs,hbW⟩
   ·exact .inr ⟨c,rfl,hg,hzW,hbW⟩)
 have HT:=Aside0.mk T
 have HW0:=Aside0.mk hW0
 have HZ:=Aside0.mk hsz
 clear T hr hx z1 z2 hb0 hF hW0 hsz sb sz
 go_enter Try.func23,Try.ntmps23
 go_wp2_with (fail)
 rw [HW0.out]
 clear HW0
 refine HT.out.mono ?_
 rintro e w2 ⟨c,W,rfl,ho,⟨r,⟨d,av,tv,hg,hz,hbx,hV,hTs,hb⟩,rfl⟩|⟨hg,hz,hb⟩⟩
 ·have hsz:=HZ.out
  have hb2:=Aside0.mk (hb.trans (ho.below (by have:=hb.size;omega) (by omega)))
  have hz2 : Zd w2 w.heap.size:=(ho.block _ (blk_lt hz) (by omega)).trans hz
  have hx2 : Db w2 (w.heap.size + 1) d av tv:=(ho.block _ (blk_lt hbx) (by omega)).trans hbx
  have HV:=Aside0.mk (Kd.R_mono (ok':=fun _=>True) (Kd.R_step (Kd.R_bound hV) (fun k hk hlt=>ho.block k hlt (by have:=hk.2.1;omega))) (fun _ _=>trivial))
  have HTS:=Aside0.mk (Kd.R_mono (ok':=fun _=>True) (Kd.R_step (Kd.R_bound hTs) (fun k hk hlt=>ho.block k hlt (by have:=hk.2.1;omega))) (fun _ _=>trivial))
  unfold Zd at hz2
  clear hbx hV hTs hb ho HT hz hsz
  by_cases hr0 : r.length > 0
  ·have HGL:=Aside0.mk (getR_long hg hr0)
   rw [if_pos hr0]
   clear hg hr0
   go_wp2_with ((with_reducible refine gate_store (t:=32) (p:=2) rfl ?_);refine FStore.store_all w.heap.size 32 32 2 _ #[.int .i64 0,.int .i64 0,.int .i64 0,.int .i64 0,.int .i64 0,.int .i64 0,.int .i64 0,.int .i64 0,.int .i64 0,.slice none 0 0,.slice none 0 0] #[.int .i64 0,.int .i64 0,.int .i64 0,.int .i64 0,.int .i64 0,.int .i64 0,.int .i64 0,.int .i64 0,.int .i64 0,.slice none 0 0,.slice none 0 0] rfl rfl rfl rfl rfl hz2 (by kernel_rfl) rfl (by simp [Value.oneCell']) ?_;intro w9 hb9 hB9 hk9)
   refine bodyPost_ret (results_two rfl _ _ w.heap.size 32 #[.int .i64 0,.int .i64 0,.int .i64 0,.int .i64 0,.int .i64 0,.int .i64 0,.int .i64 0,.int .i64 0,.int .i64 0,.slice none 0 0,.slice none 0 0] (0,0) _ _ rfl rfl hb9 Try.underlying32 rfl (by kernel_rfl)) rfl ?_
   rw [HGL.out]
   exact ⟨.slice none 0 0,.slice none 0 0,rfl,Kd.R_nil _ _ _ _ _,Kd.R_nil _ _ _ _ _,hB9 _ _ (Nat.le_refl _) hb2.out⟩
  ·have HGL:=Aside0.mk (getR_whole hg hr0)
   rw [if_neg hr0]
   have HX:=Aside0.mk hx2
   have q:=HX.out
   unfold Db cs at q
   have q0 : w2.cell? ⟨w.heap.size + 1,0,none⟩ = some (.int .i64 (FConfGet.fld d.g 0)):=(blk_cell q 0).trans rfl
   have q1 : w2.cell? ⟨w.heap.size + 1,1,none⟩ = some (.int .i64 (FConfGet.fld d.g 1)):=(blk_cell q 1).trans rfl
   have q2 : w2.cell? ⟨w.heap.size + 1,2,none⟩ = some (.int .i64 (FConfGet.fld d.g 2)):=(blk_cell q 2).trans rfl
   have q3 : w2.cell? ⟨w.heap.size + 1,3,none⟩ = some (.int .i64 (FConfGet.fld d.g 3)):=(blk_cell q 3).trans rfl
   have q4 : w2.cell? ⟨w.heap.size + 1,4,none⟩ = some (.int .i64 (FConfGet.fld d.g 4)):=(blk_cell q 4).trans rfl
   have q5 : w2.cell? ⟨w.heap.size + 1,5,none⟩ = some (.int .i64 (FConfGet.fld d.g 5)):=(blk_cell q 5).trans rfl
   have q6 : w2.cell? ⟨w.heap.size + 1,6,none⟩ = some (.int .i64 (FConfGet.fld d.g 6)):=(blk_cell q 6).trans rfl
   have q7 : w2.cell? ⟨w.heap.size + 1,7,none⟩ = some (.int .i64 d.rows):=(blk_cell q 7).trans rfl
   have q8 : w2.cell? ⟨w.heap.size + 1,8,none⟩ = some (.int .i64 d.cols):=(blk_cell q 8).trans rfl
   have q9 : w2.cell? ⟨w.heap.size + 1,9,none⟩ = some (av):=(blk_cell q 9).trans rfl
   have q10 : w2.cell? ⟨w.heap.size + 1,10,none⟩ = some (tv):=(blk_cell q 10).trans rfl
   clear hg hr0 hx2 q
   go_wp2_with ((with_reducible refine gate_store (t:=32) (p:=2) rfl ?_);refine FStore.store_all w.heap.size 32 32 2 _ #[.int .i64 0,.int .i64 0,.int .i64 0,.int .i64 0,.int .i64 0,.int .i64 0,.int .i64 0,.int .i64 0,.int .i64 0,.slice none 0 0,.slice none 0 0] (cs d.g d.rows d.cols av tv) rfl rfl rfl rfl rfl hz2 (by kernel_rfl) rfl ?_ ?_;rotate_left;intro w9 hb9 hB9 hk9)
   ·refine bodyPost_ret (results_two rfl _ _ w.heap.size 32 (cs d.g d.rows d.cols av tv) (0,0) _ _ rfl rfl hb9 Try.underlying32 rfl (by kernel_rfl)) rfl ?_
    rw [HGL.out]
    refine ⟨av,tv,rfl,?_,?_,hB9 _ _ (Nat.le_refl _) hb2.out⟩
    ·exact Kd.R_lower (Kd.R_mono (Kd.R_step (Kd.R_bound HV.out) (fun k hk _=>hk9 k (by have:=hk.2.1;omega))) (fun _ _=>trivial)) (by omega)
    ·exact Kd.R_lower (Kd.R_mono (Kd.R_step (Kd.R_bound HTS.out) (fun k hk _=>hk9 k (by have:=hk.2.1;omega))) (fun _ _=>trivial)) (by omega)
   ·have h1:=(Kd.R_val HV.out).2
    have h2:=(Kd.R_val HTS.out).2
    unfold cs
    simp only [Value.oneCell'] at h1 h2
    simp [Value.oneCell']
    exact ⟨h1,h2⟩
 ·have hsz:=HZ.out
  have hb2:=Aside0.mk (hb.trans (ho.below (by have:=hb.size;omega) (by omega)))
  have hz2 : Zd w2 w.heap.size:=(ho.block _ (blk_lt hz) (by omega)).trans hz
  have d1 : (c != 0) = true:=bne_iff_ne.mpr (Ne.get l c hg)
  have HGL:=Aside0.mk (getR_err hg)
  unfold Zd at hz2
  clear hg hb ho HT hz hsz
  go_wp2_with ((with_reducible refine gate_store (t:=32) (p:=2) rfl ?_);refine FStore.store_all w.heap.size 32 32 2 _ #[.int .i64 0,.int .i64 0,.int .i64 0,.int .i64 0,.int .i64 0,.int .i64 0,.int .i64 0,.int .i64 0,.int .i64 0,.slice none 0 0,.slice none 0 0] #[.int .i64 0,.int .i64 0,.int .i64 0,.int .i64 0,.int .i64 0,.int .i64 0,.int .i64 0,.int .i64 0,.int .i64 0,.slice none 0 0,.slice none 0 0] rfl rfl rfl rfl rfl hz2 (by kernel_rfl) rfl (by simp [Value.oneCell']) ?_;intro w9 hb9 hB9 hk9)
  refine bodyPost_ret (results_two rfl _ _ w.heap.size 32 #[.int .i64 0,.int .i64 0,.int .i64 0,.int .i64 0,.int .i64 0,.int .i64 0,.int .i64 0,.int .i64 0,.int .i64 0,.slice none 0 0,.slice none 0 0] (0,0) _ _ rfl rfl hb9 Try.underlying32 rfl (by kernel_rfl)) rfl ?_
  rw [HGL.out]
  exact ⟨.slice none 0 0,.slice none 0 0,rfl,Kd.R_nil _ _ _ _ _,Kd.R_nil _ _ _ _ _,hB9 _ _ (Nat.le_refl _) hb2.out⟩
end Go.Proofs.Ytnagfbadjbkhmaa.FDataGet
