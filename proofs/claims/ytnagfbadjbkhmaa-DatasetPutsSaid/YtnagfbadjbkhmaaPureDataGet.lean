/- What any bytes are read as (package dataset), as a function; what is cut off anywhere ends, what is longer has more left. -/
import Derived.Test.YtnagfbadjbkhmaaFTarget
import Derived.Test.YtnagfbadjbkhmaaFConfGet
import Derived.Test.YtnagfbadjbkhmaaPureVal
namespace Go.Proofs.Ytnagfbadjbkhmaa.PureDataGet
open Go.RowKit Go.Shelf Go.Proofs.YtnagfbadjbkhmaaW.PrintWords Go.Proofs.YtnagfbadjbkhmaaW.PrintLast Go.Proofs.YtnagfbadjbkhmaaW.PrintMore Go.Proofs.Ytnagfbadjbkhmaa.FTake Go.Proofs.Ytnagfbadjbkhmaa.FTarget
set_option linter.unusedVariables false
set_option linter.unusedSimpArgs false
/-- A dataset: the config's fields, rows, columns, values, targets. -/
structure D where
 g : List Int
 rows : Int
 cols : Int
 vs : List Nat
 ts : List Int
abbrev P (α : Type):=List Int → Except Int (α × List Int)
def seq {α β : Type} (p : P α) (q : α → P β) : P β:=fun l=>match p l with
 | .error c=>.error c
 | .ok (x,r)=>q x r
def guard {β : Type} (c : Prop) [Decidable c] (e : Int) (q : P β) : P β:=fun l=>if c then .error e else q l
def done {α : Type} (x : α) : P α:=fun l=>.ok (x,l)
/-- How many there are of something. -/
def count (m most : Int) : P Int:=seq (number m) fun n=>guard (n = 0) 3 (guard (n > most) 4 (done n))
def values (cl : Nat → Bool) : Nat → List Nat → P (List Nat)
 | 0,out=>done out
 | n + 1,out=>seq (number 8) fun x=>guard (cl (Flt.fbits x) = false) 3 (values cl n (out ++ [Flt.fbits x]))
def targets (k0 k1 : Int) : Nat → List Int → P (List Int)
 | 0,out=>done out
 | n + 1,out=>seq (number 8) fun x=>guard (may k0 k1 (wrap64 x) ≠ 0) (may k0 k1 (wrap64 x)) (targets k0 k1 n (out ++ [wrap64 x]))
/-- The dataset that is taken. -/
def get (cl : Nat → Bool) : P D:=seq (number 4) fun a=>guard (a ≠ 1213157966) 3 (seq FConfGet.get fun g=>seq (count 4 1048576) fun rows=>seq (count 2 1024) fun cols =>
 guard (rows * cols > 16777216) 4 (seq (values cl (rows * cols).toNat []) fun vs=>seq (targets (FConfGet.fld g 0) (FConfGet.fld g 1) rows.toNat []) fun ts=>done ⟨g,rows,cols,vs,ts⟩))
/-- The dataset of some bytes, and the error. -/
def getR (cl : Nat → Bool) (l : List Int) : D × Int:=match get cl l with
 | .error c=>(⟨[],0,0,[],[]⟩,c)
 | .ok (d,r)=>if r.length > 0 then (⟨[],0,0,[],[]⟩,3) else (d,0)
/-- These bytes, and no fewer, are read as that. -/
def Pre {α : Type} (p : P α) (u : List Int) (x : α) : Prop:=(∀ r,p (u ++ r) = .ok (x,r)) ∧ ∀ n,n < u.length → p (u.take n) = .error 2
def Good {α : Type} (p : P α) : Prop:=∀ l x r,p l = .ok (x,r) → ∃ u,l = u ++ r ∧ Pre p u x
theorem Pre.seq {α β : Type} {p : P α} {q : α → P β} {u v : List Int} {x : α} {y : β} (hp : Pre p u x) (hq : Pre (q x) v y) : Pre (seq p q) (u ++ v) y:=by
 refine ⟨fun r=>?_,fun n hn=>?_⟩
 ·show (match p (u ++ v ++ r) with|.error c=>Except.error c|.ok (x,r)=>q x r) = _
  rw [List.append_assoc,hp.1];exact hq.1 r
 ·show (match p ((u ++ v).take n) with|.error c=>Except.error c|.ok (x,r)=>q x r) = _
  by_cases h : n < u.length
  ·rw [List.take_append_of_le_length (by omega),hp.2 n h]
  ·rw [List.take_append,List.take_of_length_le (by omega),hp.1]
   rw [List.length_append] at hn
   exact hq.2 _ (by omega)
theorem Pre.guard {β : Type} {c : Prop} [Decidable c] {e : Int} {q : P β} {u : List Int} {y : β} (h : ¬ c) (hq : Pre q u y) : Pre (guard c e q) u y :=
 ⟨fun r=>(if_neg h).trans (hq.1 r),fun n hn=>(if_neg h).trans (hq.2 n hn)⟩
theorem Pre.done {α : Type} (x : α) : Pre (done x) [] x:=⟨fun _=>rfl,fun n hn=>by simp at hn⟩
theorem Good.seq {α β : Type} {p : P α} {q : α → P β} (hp : Good p) (hq : ∀ x,Good (q x)) : Good (seq p q):=by
 intro l y r h
 change (match p l with|.error c=>Except.error c|.ok (x,r)=>q x r) = _ at h
 cases h1 : p l with
 | error c=>rw [h1] at h;cases h
 | ok z =>
  obtain ⟨x,r1⟩:=z
  rw [h1] at h
  obtain ⟨u,e1,hu⟩:=hp l x r1 h1
  obtain ⟨v,e2,hv⟩:=hq x r1 y r h
  exact ⟨u ++ v,by rw [e1,e2,List.append_assoc],hu.seq hv⟩
theorem Good.guard {β : Type} {c : Prop} [Decidable c] {e : Int} {q : P β} (hq : Good q) : Good (guard c e q):=by
 intro l y r h
 by_cases hc : c
 ·have : (Except.error e : Except Int (β × List Int)) = .ok (y,r):=(if_pos hc).symm.trans h
  cases this
 ·obtain ⟨u,e1,hu⟩:=hq l y r ((if_neg hc).symm.trans h)
  exact ⟨u,e1,hu.guard hc⟩
theorem Good.done {α : Type} (x : α) : Good (done x):=by
 intro l y r h
 cases h
 exact ⟨[],rfl,Pre.done x⟩
theorem Good.number (n : Int) : Good (number n):=by
 intro l x r h
 unfold FTake.number at h
 split at h
 ·rename_i hc
  simp only [Except.ok.injEq,Prod.mk.injEq] at h
  obtain ⟨rfl,rfl⟩:=h
  have hl : (l.take (cnt n)).length = cnt n:=by rw [List.length_take];omega
  refine ⟨l.take (cnt n),(List.take_append_drop _ _).symm,fun r=>?_,fun m hm=>?_⟩
  ·unfold FTake.number
   rw [if_pos (by rw [List.length_append];omega),List.take_append_of_le_length (by omega),List.take_of_length_le (by omega),List.drop_append_of_le_length (by omega),List.drop_of_length_le (by omega)];rfl
  ·unfold FTake.number
   rw [if_neg (by rw [List.length_take];omega)]
 ·cases h
theorem nums_seq (n : Int) (ns : List Int) : FConfGet.nums (n :: ns) = PureDataGet.seq (FTake.number n) fun a=>PureDataGet.seq (FConfGet.nums ns) fun xs=>PureDataGet.done (wrap64 a :: xs):=by
 funext l
 unfold FConfGet.nums PureDataGet.seq PureDataGet.done
 cases FTake.number n l with
 | error c=>rfl
 | ok q =>
  simp only
  cases FConfGet.nums ns q.2 with
  | error c=>rfl
  | ok z=>rfl
theorem Good.nums : ∀ ns : List Int,Good (FConfGet.nums ns)
 | []=>Good.done []
 | n :: ns=>by
  rw [nums_seq]
  exact Good.seq (Good.number n) fun a=>Good.seq (Good.nums ns) fun xs=>Good.done _
theorem Good.conf : Good FConfGet.get:=by
 have h : Good (PureDataGet.seq (FConfGet.nums FConfGet.szs) fun xs=>PureDataGet.guard (FConfGet.chk (FConfGet.fld xs) ≠ 0) (FConfGet.chk (FConfGet.fld xs)) (PureDataGet.done xs)):=Good.seq (Good.nums _) fun xs=>Good.guard (Good.done _)
 have e : FConfGet.get = PureDataGet.seq (FConfGet.nums FConfGet.szs) fun xs=>PureDataGet.guard (FConfGet.chk (FConfGet.fld xs) ≠ 0) (FConfGet.chk (FConfGet.fld xs)) (PureDataGet.done xs):=by
  funext l
  unfold FConfGet.get PureDataGet.seq PureDataGet.guard PureDataGet.done
  cases FConfGet.nums FConfGet.szs l with
  | error c=>rfl
  | ok q =>
   obtain ⟨xs,r⟩:=q
   by_cases hc : FConfGet.chk (FConfGet.fld xs) = 0
   ·simp [hc]
   ·simp [hc]
 rw [e];exact h
theorem Good.count (m most : Int) : Good (count m most):=Good.seq (Good.number m) fun n=>Good.guard (Good.guard (Good.done _))
theorem Good.values (cl : Nat → Bool) : ∀ (n : Nat) (out : List Nat),Good (values cl n out)
 | 0,out=>Good.done out
 | n + 1,out=>Good.seq (Good.number 8) fun x=>Good.guard (Good.values cl n _)
theorem Good.targets (k0 k1 : Int) : ∀ (n : Nat) (out : List Int),Good (targets k0 k1 n out)
 | 0,out=>Good.done out
 | n + 1,out=>Good.seq (Good.number 8) fun x=>Good.guard (Good.targets k0 k1 n _)
theorem Good.get (cl : Nat → Bool) : Good (get cl):=Good.seq (Good.number 4) fun a=>Good.guard (Good.seq Good.conf fun g=>Good.seq (Good.count _ _) fun rows=>Good.seq (Good.count _ _) fun cols =>
 Good.guard (Good.seq (Good.values _ _ _) fun vs=>Good.seq (Good.targets _ _ _ _) fun ts=>Good.done _))
/-- What is read whole ends wherever it is cut off, and has what is put behind it left. -/
theorem getR_cut {cl : Nat → Bool} {l : List Int} {d : D} (h : get cl l = .ok (d,[])) (n : Nat) (hn : n < l.length) : getR cl (l.take n) = (⟨[],0,0,[],[]⟩,2):=by
 obtain ⟨u,e,hu⟩:=Good.get cl l d [] h
 rw [List.append_nil] at e
 subst e
 unfold getR;rw [hu.2 n hn]
theorem getR_more {cl : Nat → Bool} {l : List Int} {d : D} (h : get cl l = .ok (d,[])) (m : Int) : getR cl (l ++ [m]) = (⟨[],0,0,[],[]⟩,3):=by
 obtain ⟨u,e,hu⟩:=Good.get cl l d [] h
 rw [List.append_nil] at e
 subst e
 unfold getR;rw [hu.1 [m]];rfl
end Go.Proofs.Ytnagfbadjbkhmaa.PureDataGet
