/- config.Get by a walk: a config out of what a reader has left (any seat that prints config.Check and config.fields). -/
import Derived.Test.YtnagfbadjbkhmaaFTake
import Derived.Test.YtnagfbadjbkhmaaFStore
import Derived.Test.YtnagfbadjbkhmaaFConfD
import Derived.Test.YtnagfbadjbkhmaaPAx1
namespace Go.Proofs.Ytnagfbadjbkhmaa.FConfGet
open Go.RowKit Go.Shelf Go.Proofs.YtnagfbadjbkhmaaW.PrintWords Go.Proofs.YtnagfbadjbkhmaaW.PrintLast Go.Proofs.YtnagfbadjbkhmaaW.PrintMore Go.Proofs.Ytnagfbadjbkhmaa.PA Go.Proofs.Ytnagfbadjbkhmaa.FConfD
set_option linter.unusedVariables false
set_option linter.unusedSimpArgs false
theorem chk_f (g : Nat → Int) : config_Check.f 20 (g 0) (g 1) (g 2) (g 3) (g 4) (g 5) (g 6) = some (chk g):=rfl
/-- The sizes of a config's fields. -/
def szs : List Int:=[1,2,2,2,1,4,2]
/-- Numbers, one by one. -/
def nums : List Int → List Int → Except Int (List Int × List Int)
 | [],l=>.ok ([],l)
 | n :: ns,l=>match FTake.number n l with
  | .error c=>.error c
  | .ok (a,l1)=>match nums ns l1 with
   | .error c=>.error c
   | .ok (xs,l2)=>.ok (wrap64 a :: xs,l2)
theorem nums_snoc : ∀ (ns : List Int) (n : Int) (l : List Int),nums (ns ++ [n]) l = match nums ns l with
  | .error c=>.error c
  | .ok (xs,l1)=>match FTake.number n l1 with
   | .error c=>.error c
   | .ok (a,l2)=>.ok (xs ++ [wrap64 a],l2)
 | [],n,l=>by
  simp only [nums,List.nil_append]
 | m :: ns,n,l=>by
  simp only [nums,List.cons_append]
  cases FTake.number m l with
  | error c=>rfl
  | ok q =>
   simp only [nums_snoc ns n q.2]
   cases nums ns q.2 with
   | error c=>rfl
   | ok z =>
    simp only
    cases FTake.number n z.2 <;> rfl
theorem nums_err : ∀ (ns ms : List Int) (l : List Int) (c : Int),nums ns l = .error c → nums (ns ++ ms) l = .error c
 | [],ms,l,c,h=>by simp [nums] at h
 | n :: ns,ms,l,c,h=>by
  simp only [nums,List.cons_append] at h ⊢
  cases hn : FTake.number n l with
  | error c'=>rw [hn] at h;simpa using h
  | ok q =>
   rw [hn] at h
   simp only at h ⊢
   cases hq : nums ns q.2 with
   | error c' =>
    rw [hq] at h
    simp only [Except.error.injEq] at h
    subst h
    rw [nums_err ns ms q.2 _ hq]
   | ok z=>rw [hq] at h;simp at h
/-- A config's fields, out of what was taken. -/
def fld (xs : List Int) (j : Nat) : Int:=xs.getD j 0
/-- The config that is taken. -/
def get (l : List Int) : Except Int (List Int × List Int):=match nums szs l with
 | .error c=>.error c
 | .ok (xs,l1)=>if chk (fld xs) = 0 then .ok (xs,l1) else .error (chk (fld xs))
theorem nums_two : ∀ (ns l : List Int) (c : Int),nums ns l = .error c → c = 2
 | [],l,c,h=>by simp [nums] at h
 | n :: ns,l,c,h=>by
  simp only [nums] at h
  cases hn : FTake.number n l with
  | error c' =>
   rw [hn] at h
   unfold FTake.number at hn
   split at hn
   ·cases hn
   ·simp only [Except.error.injEq] at h hn;omega
  | ok q =>
   rw [hn] at h
   simp only at h
   cases hq : nums ns q.2 with
   | error c' =>
    rw [hq] at h
    simp only [Except.error.injEq] at h
    rw [← h];exact nums_two ns q.2 _ hq
   | ok z=>rw [hq] at h;simp at h
theorem get_ne {l : List Int} {c : Int} (h : get l = .error c) : c ≠ 0:=by
 unfold get at h
 cases hn : nums szs l with
 | error c' =>
  rw [hn] at h
  simp only [Except.error.injEq] at h
  have:=nums_two _ _ _ hn;omega
 | ok q =>
  rw [hn] at h
  simp only at h
  split at h
  ·cases h
  ·rename_i hne;simp only [Except.error.injEq] at h;rw [← h];exact hne
def cells (xs : List Int) : Array Value:=#[.int .i64 (fld xs 0),.int .i64 (fld xs 1),.int .i64 (fld xs 2),.int .i64 (fld xs 3),.int .i64 (fld xs 4),.int .i64 (fld xs 5),.int .i64 (fld xs 6)]
def Holds (W : World) (g : Nat) (xs : List Int) : Prop:=W.heap[g]? = some (.cells (cells xs) 23 (0,0))
theorem fld_lt (xs : List Int) (v : Int) (j : Nat) (h : j ≠ xs.length) : fld (xs ++ [v]) j = fld xs j:=by
 unfold fld
 simp only [List.getD_eq_getElem?_getD,List.getElem?_append]
 split
 ·rfl
 ·rename_i h1
  rw [List.getElem?_eq_none (show xs.length ≤ j by omega),List.getElem?_eq_none (by simp;omega)]
theorem fld_eq (xs : List Int) (v : Int) : fld (xs ++ [v]) xs.length = v:=by
 unfold fld;simp
theorem cell_at (xs : List Int) (k : Nat) (h : k < 7) : (cells xs)[k]? = some (.int .i64 (fld xs k)):=by
 have : k = 0 ∨ k = 1 ∨ k = 2 ∨ k = 3 ∨ k = 4 ∨ k = 5 ∨ k = 6:=by omega
 rcases this with rfl|rfl|rfl|rfl|rfl|rfl|rfl <;> rfl
theorem cells_put (xs : List Int) (v : Int) (k : Nat) (hk : xs.length = k) (h : k < 7) : (cells xs).setIfInBounds k (.int .i64 v) = cells (xs ++ [v]):=by
 have e : ∀ j,j ≠ k → fld (xs ++ [v]) j = fld xs j:=fun j hj=>fld_lt xs v j (by omega)
 have e2 : fld (xs ++ [v]) k = v:=by rw [← hk];exact fld_eq xs v
 have : k = 0 ∨ k = 1 ∨ k = 2 ∨ k = 3 ∨ k = 4 ∨ k = 5 ∨ k = 6:=by omega
 unfold cells
 rcases this with rfl|rfl|rfl|rfl|rfl|rfl|rfl
 ·rw [e2,e 1 (by omega),e 2 (by omega),e 3 (by omega),e 4 (by omega),e 5 (by omega),e 6 (by omega)];rfl
 ·rw [e2,e 0 (by omega),e 2 (by omega),e 3 (by omega),e 4 (by omega),e 5 (by omega),e 6 (by omega)];rfl
 ·rw [e2,e 0 (by omega),e 1 (by omega),e 3 (by omega),e 4 (by omega),e 5 (by omega),e 6 (by omega)];rfl
 ·rw [e2,e 0 (by omega),e 1 (by omega),e 2 (by omega),e 4 (by omega),e 5 (by omega),e 6 (by omega)];rfl
 ·rw [e2,e 0 (by omega),e 1 (by omega),e 2 (by omega),e 3 (by omega),e 5 (by omega),e 6 (by omega)];rfl
 ·rw [e2,e 0 (by omega),e 1 (by omega),e 2 (by omega),e 3 (by omega),e 4 (by omega),e 6 (by omega)];rfl
 ·rw [e2,e 0 (by omega),e 1 (by omega),e 2 (by omega),e 3 (by omega),e 4 (by omega),e 5 (by omega)];rfl
theorem off_store {g : Nat} {W W1 : World} (hB : ∀ B w0,B ≤ g → Below B w0 W → Below B w0 W1) (hk : ∀ k,k ≠ g → W1.heap[k]? = W.heap[k]?) : FTake.Off g W W1:=by
 have b:=hB 0 W (Nat.zero_le _) (Below.refl _ _)
 exact ⟨b.os,b.tape,b.output,b.size,fun k _ hne=>hk k hne⟩
/-- The size of a config's field. -/
def sz (k : Nat) : Int:=szs.getD k 0
set_option maxRecDepth 100000 in
theorem fields (xs : List Int) (w : World) : Calls Try.prog 76 #[.agg (cells xs)] w fun e w' =>
  (∃ fs : Array Value,e = .returned (.agg fs) ∧ ∀ k : Nat,k < 7 → ∃ a b c : Value,∀ W,(Instr.index 114 (.agg fs) (.int .i64 k)).run Try.prog W = .ok (.agg #[a,b,c,.int .i64 (sz k)]) W) ∧ Below w.heap.size w w':=by
 by_cases h : fld xs 0 = 1
 ·refine (config_fields.calls _ _ _ _ _ _ _ _ _ _ _ _ _ _ _ _ _ _ _ _ _ _ _ _ _ _ _ _ _ _ _ _ _ _ _ w (by unfold config_fields.f;rw [if_pos h])).mono ?_
  rintro e w' ⟨rfl,hb⟩
  refine ⟨⟨_,rfl,fun k hk=>?_⟩,hb⟩
  have : k = 0 ∨ k = 1 ∨ k = 2 ∨ k = 3 ∨ k = 4 ∨ k = 5 ∨ k = 6:=by omega
  rcases this with rfl|rfl|rfl|rfl|rfl|rfl|rfl <;> exact ⟨_,_,_,fun W=>by first|rfl|kernel_rfl⟩
 ·refine (config_fields.calls _ _ _ _ _ _ _ _ _ _ _ _ _ _ _ _ _ _ _ _ _ _ _ _ _ _ _ _ _ _ _ _ _ _ _ w (by unfold config_fields.f;rw [if_neg h])).mono ?_
  rintro e w' ⟨rfl,hb⟩
  refine ⟨⟨_,rfl,fun k hk=>?_⟩,hb⟩
  have : k = 0 ∨ k = 1 ∨ k = 2 ∨ k = 3 ∨ k = 4 ∨ k = 5 ∨ k = 6:=by omega
  rcases this with rfl|rfl|rfl|rfl|rfl|rfl|rfl <;> exact ⟨_,_,_,fun W=>by first|rfl|kernel_rfl⟩
set_option maxRecDepth 100000 in
theorem fld3 (a b c : Value) (n : Int) (W : World) : (Instr.field 113 (.agg #[a,b,c,.int .i64 n]) 3).run Try.prog W = .ok (.int .i64 n) W:=by first|rfl|kernel_rfl
theorem szs_take (k : Nat) (h : k < 7) : szs.take (k + 1) = szs.take k ++ [sz k]:=by
 have : k = 0 ∨ k = 1 ∨ k = 2 ∨ k = 3 ∨ k = 4 ∨ k = 5 ∨ k = 6:=by omega
 rcases this with rfl|rfl|rfl|rfl|rfl|rfl|rfl <;> rfl
def ptrs (C : Nat) : Array Value:=#[.pointer (some ⟨C,0,none⟩),.pointer (some ⟨C,1,none⟩),.pointer (some ⟨C,2,none⟩),.pointer (some ⟨C,3,none⟩),.pointer (some ⟨C,4,none⟩),.pointer (some ⟨C,5,none⟩),.pointer (some ⟨C,6,none⟩)]
theorem ptr_at (C k : Nat) (h : k < 7) : (ptrs C)[k]? = some (.pointer (some ⟨C,k,none⟩)):=by
 have : k = 0 ∨ k = 1 ∨ k = 2 ∨ k = 3 ∨ k = 4 ∨ k = 5 ∨ k = 6:=by omega
 rcases this with rfl|rfl|rfl|rfl|rfl|rfl|rfl <;> rfl
/-- The state of the taking: the fields so far, the pointers, the result, the reader. -/
structure St (ok : Nat → Prop) (B : Nat) (w W : World) (xs l : List Int) : Prop where
 c : Holds W (w.heap.size + 1) xs
 r : Holds W w.heap.size []
 p : W.heap[w.heap.size + 2]? = some (.cells (ptrs (w.heap.size + 1)) 138 (0,0))
 rd : FTake.Rdr ok W B l
 off : FTake.Off B w W
theorem St.step {ok : Nat → Prop} {B : Nat} {w W W' : World} {xs l l' : List Int} (h : St ok B w W xs l) (hB : B < w.heap.size) (ho : FTake.Off B W W') (hr : FTake.Rdr ok W' B l') : St ok B w W' xs l':=by
 have hs:=h.off.size
 exact ⟨(ho.block _ (blk_lt h.c) (by omega)).trans h.c,(ho.block _ (blk_lt h.r) (by omega)).trans h.r,(ho.block _ (blk_lt h.p) (by omega)).trans h.p,hr,h.off.trans ho⟩
theorem St.put {ok : Nat → Prop} {B : Nat} {w W : World} {xs l : List Int} (h : St ok B w W xs l) (hB : B < w.heap.size) (hok : ∀ k,ok k → k < w.heap.size) (k : Nat) (v : Int) (hk : xs.length = k) (h7 : k < 7) : St ok B w (W.setCell ⟨w.heap.size + 1,k,none⟩ (.int .i64 v)) (xs ++ [v]) l:=by
 refine ⟨blk_put h.c k _ (cells_put xs v k hk h7),blk_far h.r (show w.heap.size ≠ w.heap.size + 1 by omega) _,blk_far h.p (show w.heap.size + 2 ≠ w.heap.size + 1 by omega) _,?_,h.off.setNew (show w.heap.size ≤ w.heap.size + 1 by omega) _⟩
 exact h.rd.off ((FTake.Off.refl (w.heap.size + 1) W).setCell k _) (by omega) (fun j hj=>by have:=hok j hj;omega)
set_option maxHeartbeats 4000000 in
set_option maxRecDepth 100000 in
theorem gives (ok : Nat → Prop) (B : Nat) (l : List Int) (w : World) (h : FTake.Rdr ok w B l) (hn : ∀ k,ok k → k ≠ B) (hok : ∀ k,ok k → k < w.heap.size) :
  Calls Try.prog 87 #[.pointer (some ⟨B,0,none⟩)] w (FTake.Gives ok B w (get l) (fun xs v _=>v = .agg (cells xs))):=by
 have hu:=Try.underlying23
 have hB : B < w.heap.size:=by obtain ⟨A,c,hb,_⟩:=h;exact hb.lt
 have HN:=Aside0.mk hn
 have HOK:=Aside0.mk hok
 have S0:=Aside0.mk (show St ok B w (((w.alloc (.cells (cells []) 23)).alloc (.cells (cells []) 23)).alloc (.cells (ptrs (w.heap.size + 1)) 138)) [] l from by
  refine ⟨blk_alloc ?_ _,blk_alloc (blk_alloc (blk_new w _) _) _,?_,?_,(((FTake.Off.refl B w).alloc _).alloc _).alloc _⟩
  ·have:=blk_new (w.alloc (.cells (cells []) 23)) (.cells (cells []) 23);rwa [World.size_alloc] at this
  ·have:=blk_new ((w.alloc (.cells (cells []) 23)).alloc (.cells (cells []) 23)) (.cells (ptrs (w.heap.size + 1)) 138);rwa [World.size_alloc,World.size_alloc] at this
  ·exact h.below (below_alloc (below_alloc (below_alloc (Below.refl _ w) _) _) _))
 clear h hn hok
 go_enter Try.func87,Try.ntmps87
 go_wp2
 change Code.wp _ _ _ _ (((w.alloc (.cells (cells []) 23)).alloc (.cells (cells []) 23)).alloc (.cells (ptrs (w.heap.size + 1)) 138))
 generalize ((w.alloc (.cells (cells []) 23)).alloc (.cells (cells []) 23)).alloc (.cells (ptrs (w.heap.size + 1)) 138) = W0 at S0 ⊢
 go_loopw [16] (fun v16 w'=>∃ (k : Nat) (xs l1 : List Int),k ≤ 7 ∧ v16 = .int .i64 k ∧ xs.length = k ∧ Aside0 (nums (szs.take k) l = .ok (xs,l1)) ∧ Aside0 (St ok B w w' xs l1))
  (fun v _=>7 - (intOf v).toNat)
 case atStart=>exact ⟨0,[],l,by omega,rfl,rfl,⟨rfl⟩,S0⟩
 case round =>
  obtain ⟨k,xs,l1,hk,rfl,hx,HX,HS⟩:=hrel
  clear S0
  by_cases hlt : k < 7
  ·have d0 : decide ((k : Int) < 7) = true:=decide_eq_true (by omega)
   have hp : wr.cell? ⟨w.heap.size + 2,k,none⟩ = some (.pointer (some ⟨w.heap.size + 1,k,none⟩)):=(blk_cell HS.out.p k).trans (ptr_at _ k hlt)
   have k0 : wr.cell? ⟨w.heap.size + 1,0,none⟩ = some (.int .i64 (fld xs 0)):=(blk_cell HS.out.c 0).trans rfl
   have k1 : wr.cell? ⟨w.heap.size + 1,1,none⟩ = some (.int .i64 (fld xs 1)):=(blk_cell HS.out.c 1).trans rfl
   have k2 : wr.cell? ⟨w.heap.size + 1,2,none⟩ = some (.int .i64 (fld xs 2)):=(blk_cell HS.out.c 2).trans rfl
   have k3 : wr.cell? ⟨w.heap.size + 1,3,none⟩ = some (.int .i64 (fld xs 3)):=(blk_cell HS.out.c 3).trans rfl
   have k4 : wr.cell? ⟨w.heap.size + 1,4,none⟩ = some (.int .i64 (fld xs 4)):=(blk_cell HS.out.c 4).trans rfl
   have k5 : wr.cell? ⟨w.heap.size + 1,5,none⟩ = some (.int .i64 (fld xs 5)):=(blk_cell HS.out.c 5).trans rfl
   have k6 : wr.cell? ⟨w.heap.size + 1,6,none⟩ = some (.int .i64 (fld xs 6)):=(blk_cell HS.out.c 6).trans rfl
   go_wp2_with (fail)
   refine (fields xs _).mono ?_
   rintro e w1 ⟨⟨fs,rfl,hix⟩,hb⟩
   obtain ⟨fa,fb,fc,hi⟩:=hix k hlt
   have S1:=Aside0.mk (HS.out.step hB (FTake.Off.of_below hb) (HS.out.rd.below hb))
   clear hb hix k0 k1 k2 k3 k4 k5 k6 hp HS
   have hfd:=fld3 fa fb fc (sz k)
   go_wp2_with (fail)
   have N:=FTake.number_calls ok B (sz k) l1 w1 S1.out.rd HN.out
   cases hnum : FTake.number (sz k) l1 with
   | error c =>
    rw [hnum] at N
    have hget : get l = .error c:=by
     have h1 : nums (szs.take (k + 1)) l = .error c:=by rw [szs_take k hlt,nums_snoc,HX.out];simp only [hnum]
     have h2:=nums_err _ (szs.drop (k + 1)) l c h1
     rw [List.take_append_drop] at h2
     unfold get;rw [h2]
    refine N.mono ?_
    rintro e w2 ⟨ho,rfl⟩
    have hfin : FTake.Gives ok B w (get l) (fun xs v _=>v = .agg (cells xs)) (.panicked (FTake.fault c)) w2:=by rw [hget];exact ⟨S1.out.off.trans ho,rfl⟩
    exact ⟨rfl,hfin⟩
   | ok q =>
    obtain ⟨a,l2⟩:=q
    rw [hnum] at N
    have hx2:=Aside0.mk (show nums (szs.take (k + 1)) l = .ok (xs ++ [wrap64 a],l2) by rw [szs_take k hlt,nums_snoc,HX.out];simp only [hnum])
    clear hnum
    refine N.mono ?_
    rintro e w2 ⟨ho,hr,v,rfl,rfl⟩
    have S2:=Aside0.mk (S1.out.step hB ho hr)
    have hcell : w2.cell? ⟨w.heap.size + 1,k,none⟩ = some (.int .i64 (fld xs k)):=(blk_cell S2.out.c k).trans (cell_at xs k hlt)
    have hfr:=blk_frozen S2.out.c k
    clear ho hr S1 N hi
    go_wp2
    exact ⟨⟨k + 1,xs ++ [wrap64 a],l2,by omega,by go_num,by simp;omega,hx2,⟨S2.out.put hB HOK.out k _ hx hlt⟩⟩,by simp [intOf];omega⟩
  ·obtain rfl : k = 7:=by omega
   have hnm : nums szs l = .ok (xs,l1):=HX.out
   have k0 : wr.cell? ⟨w.heap.size + 1,0,none⟩ = some (.int .i64 (fld xs 0)):=(blk_cell HS.out.c 0).trans rfl
   have k1 : wr.cell? ⟨w.heap.size + 1,1,none⟩ = some (.int .i64 (fld xs 1)):=(blk_cell HS.out.c 1).trans rfl
   have k2 : wr.cell? ⟨w.heap.size + 1,2,none⟩ = some (.int .i64 (fld xs 2)):=(blk_cell HS.out.c 2).trans rfl
   have k3 : wr.cell? ⟨w.heap.size + 1,3,none⟩ = some (.int .i64 (fld xs 3)):=(blk_cell HS.out.c 3).trans rfl
   have k4 : wr.cell? ⟨w.heap.size + 1,4,none⟩ = some (.int .i64 (fld xs 4)):=(blk_cell HS.out.c 4).trans rfl
   have k5 : wr.cell? ⟨w.heap.size + 1,5,none⟩ = some (.int .i64 (fld xs 5)):=(blk_cell HS.out.c 5).trans rfl
   have k6 : wr.cell? ⟨w.heap.size + 1,6,none⟩ = some (.int .i64 (fld xs 6)):=(blk_cell HS.out.c 6).trans rfl
   have HNM:=Aside0.mk hnm
   have HCK:=Aside0.mk (chk_f (fld xs))
   clear hnm HX hx
   by_cases hck : chk (fld xs) = 0
   ·have hget:=Aside0.mk (show get l = .ok (xs,l1) by unfold get;rw [HNM.out];simp only;rw [if_pos hck])
    rw [hck] at HCK
    clear hck
    go_wp2_with (fail)
    refine (config_Check.calls 20 _ _ _ _ _ _ _ 0 _ HCK.out).mono ?_
    rintro e w1 ⟨rfl,hb⟩
    have S1:=Aside0.mk (HS.out.step hB (FTake.Off.of_below hb) (HS.out.rd.below hb))
    have q0 : w1.cell? ⟨w.heap.size + 1,0,none⟩ = some (.int .i64 (fld xs 0)):=(blk_cell S1.out.c 0).trans rfl
    have q1 : w1.cell? ⟨w.heap.size + 1,1,none⟩ = some (.int .i64 (fld xs 1)):=(blk_cell S1.out.c 1).trans rfl
    have q2 : w1.cell? ⟨w.heap.size + 1,2,none⟩ = some (.int .i64 (fld xs 2)):=(blk_cell S1.out.c 2).trans rfl
    have q3 : w1.cell? ⟨w.heap.size + 1,3,none⟩ = some (.int .i64 (fld xs 3)):=(blk_cell S1.out.c 3).trans rfl
    have q4 : w1.cell? ⟨w.heap.size + 1,4,none⟩ = some (.int .i64 (fld xs 4)):=(blk_cell S1.out.c 4).trans rfl
    have q5 : w1.cell? ⟨w.heap.size + 1,5,none⟩ = some (.int .i64 (fld xs 5)):=(blk_cell S1.out.c 5).trans rfl
    have q6 : w1.cell? ⟨w.heap.size + 1,6,none⟩ = some (.int .i64 (fld xs 6)):=(blk_cell S1.out.c 6).trans rfl
    have z0:=S1.out.r
    clear hb HS k0 k1 k2 k3 k4 k5 k6 HCK
    go_wp2_with ((with_reducible refine gate_store (t:=23) (p:=2) rfl ?_);refine FStore.store_all w.heap.size 23 23 2 _ (cells []) (cells xs) rfl rfl rfl rfl rfl z0 (by kernel_rfl) rfl (by simp [cells,Value.oneCell']) ?_;intro w9 hb9 hB9 hk9)
    refine bodyPost_ret (results_cell_row rfl _ _ w.heap.size 23 (cells xs) (0,0) _ rfl hb9 Try.underlying23 rfl (by kernel_rfl)) rfl ?_
    have ho:=off_store hB9 hk9
    rw [hget.out]
    refine ⟨⟨ho.os.trans S1.out.off.os,ho.tape.trans S1.out.off.tape,ho.output.trans S1.out.off.output,Nat.le_trans S1.out.off.size ho.size,fun j hj hne=>(hk9 j (by omega)).trans (S1.out.off.block j hj hne)⟩,S1.out.rd.off ho (by omega) (fun j hj=>by have:=HOK.out j hj;omega),_,rfl,rfl⟩
   ·have hget:=Aside0.mk (show get l = .error (chk (fld xs)) by unfold get;rw [HNM.out];simp only;rw [if_neg hck])
    have d1 : (chk (fld xs) != 0) = true:=bne_iff_ne.mpr hck
    go_wp2_with (fail)
    refine (config_Check.calls 20 _ _ _ _ _ _ _ _ _ HCK.out).mono ?_
    rintro e w1 ⟨rfl,hb⟩
    have S1:=Aside0.mk (HS.out.step hB (FTake.Off.of_below hb) (HS.out.rd.below hb))
    have HF:=Aside0.mk (FTake.fail_calls (some ⟨B,0,none⟩) (chk (fld xs)) w1)
    rw [if_neg hck] at HF
    clear hb HS k0 k1 k2 k3 k4 k5 k6 HCK hck
    go_wp2_with (fail)
    refine HF.out.mono ?_
    rintro e w2 ⟨rfl,rfl⟩
    have hfin : FTake.Gives ok B w (get l) (fun xs v _=>v = .agg (cells xs)) (.panicked (FTake.fault (chk (fld xs)))) w2:=by rw [hget.out];exact ⟨S1.out.off,rfl⟩
    exact ⟨rfl,hfin⟩
end Go.Proofs.Ytnagfbadjbkhmaa.FConfGet
