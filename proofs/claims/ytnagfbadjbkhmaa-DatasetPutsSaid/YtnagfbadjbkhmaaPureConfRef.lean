/- The document's config: its Check, and what it takes of bytes, are config.Check's and config.Get's. -/
import Derived.Test.YtnagfbadjbkhmaaFConfGet
import Derived.Test.YtnagfbadjbkhmaaPureGet
import Derived.Test.YtnagfbadjbkhmaaPAx7
namespace Go.Proofs.Ytnagfbadjbkhmaa.PureConfRef
open Go.RowKit Go.Proofs.YtnagfbadjbkhmaaW.PrintWords Go.Proofs.YtnagfbadjbkhmaaW.PrintLast Go.Proofs.YtnagfbadjbkhmaaW.PrintMore Go.Proofs.Ytnagfbadjbkhmaa.Pure Go.Proofs.Ytnagfbadjbkhmaa.PureTake Go.Proofs.Ytnagfbadjbkhmaa.FConfD Go.Proofs.Ytnagfbadjbkhmaa.PureGet Go.Proofs.Ytnagfbadjbkhmaa.PA
open Go.Proofs.Ytnagfbadjbkhmaa.FConfGet (chk)
set_option linter.unusedVariables false
set_option linter.unusedSimpArgs false
theorem ref_check_f (g : Nat → Int) (k : Nat) (hk : 3 ≤ k) : hornbeamref08_Check.f k (g 0) (g 1) (g 2) (g 3) (g 4) (g 5) (g 6) = some (chk g):=by
 obtain ⟨k,rfl⟩ : ∃ m,k = m + 1:=⟨k - 1,by omega⟩
 obtain ⟨k,rfl⟩ : ∃ m,k = m + 1:=⟨k - 1,by omega⟩
 have tl : hornbeamref08_Check.j1 (k + 1) false (g 0) (g 1) (g 2) (g 3) (g 4) (g 5) (g 6) = some (if g 1 > 256 then 4 else
   if g 2 < 2 then 3 else if g 2 > 256 then 4 else if g 3 < 1 then 3 else if g 3 > 4096 then 4 else if g 4 < 0 then 3 else if g 4 > 32 then 4 else
   if g 5 < 1 then 3 else if g 5 > 1048576 then 4 else if g 6 < 1 then 3 else if g 6 > 1024 then 4 else 0):=by
  simp only [hornbeamref08_Check.j1,Bool.false_eq_true,if_false]
  by_cases b : g 1 > 256
  ·rw [if_pos b,if_pos b]
  rw [if_neg b,if_neg b]
  clear b
  by_cases b : g 2 < 2
  ·rw [if_pos b,if_pos b]
  rw [if_neg b,if_neg b]
  clear b
  by_cases b : g 2 > 256
  ·rw [if_pos b,if_pos b]
  rw [if_neg b,if_neg b]
  clear b
  by_cases b : g 3 < 1
  ·rw [if_pos b,if_pos b]
  rw [if_neg b,if_neg b]
  clear b
  by_cases b : g 3 > 4096
  ·rw [if_pos b,if_pos b]
  rw [if_neg b,if_neg b]
  clear b
  by_cases b : g 4 < 0
  ·rw [if_pos b,if_pos b]
  rw [if_neg b,if_neg b]
  clear b
  by_cases b : g 4 > 32
  ·rw [if_pos b,if_pos b]
  rw [if_neg b,if_neg b]
  clear b
  by_cases b : g 5 < 1
  ·rw [if_pos b,if_pos b]
  rw [if_neg b,if_neg b]
  clear b
  by_cases b : g 5 > 1048576
  ·rw [if_pos b,if_pos b]
  rw [if_neg b,if_neg b]
  clear b
  by_cases b : g 6 < 1
  ·rw [if_pos b,if_pos b]
  rw [if_neg b,if_neg b]
  clear b
  by_cases b : g 6 > 1024
  ·rw [if_pos b,if_pos b]
  ·rw [if_neg b,if_neg b]
 have bad : hornbeamref08_Check.j1 (k + 1) true (g 0) (g 1) (g 2) (g 3) (g 4) (g 5) (g 6) = some 3:=by simp only [hornbeamref08_Check.j1,if_true]
 unfold hornbeamref08_Check.f FConfGet.chk
 by_cases h0 : g 0 = 0
 ·rw [if_pos h0,if_neg (show ¬ (g 0 < 0 ∨ g 0 > 1) by omega),if_neg (show ¬ g 0 = 1 by omega)]
  simp only [hornbeamref08_Check.j0,Bool.false_eq_true,if_false]
  rw [if_pos h0]
  by_cases h1 : g 1 < 2
  ·rw [if_pos h1,bad,if_pos (Or.inl h1)]
  ·rw [if_neg h1,if_neg (show ¬ g 0 = 1 by omega),tl,if_neg (show ¬ (g 1 < 2 ∨ (g 0 = 1 ∧ g 1 ≠ 0)) by omega)]
 ·rw [if_neg h0]
  by_cases h1 : g 0 = 1
  ·rw [show (g 0 != 1) = false by simp [h1],if_neg (show ¬ (g 0 < 0 ∨ g 0 > 1) by omega),if_pos h1]
   simp only [hornbeamref08_Check.j0,Bool.false_eq_true,if_false]
   rw [if_neg h0,if_pos h1]
   by_cases h2 : g 1 = 0
   ·rw [show (g 1 != 0) = false by simp [h2],tl,if_neg (show ¬ (g 1 < 0 ∨ (g 0 = 1 ∧ g 1 ≠ 0)) by omega)]
   ·rw [show (g 1 != 0) = true by simp [h2],bad,if_pos (Or.inr ⟨h1,h2⟩)]
  ·rw [show (g 0 != 1) = true by simp [h1],if_pos (show g 0 < 0 ∨ g 0 > 1 by omega)]
   simp only [hornbeamref08_Check.j0,if_true]
/-- The document's fields, one by one. -/
theorem ref_loop (l : List Int) (hb : Bytes l) (hl : l.length ≤ 1000000) : ∀ (ns : List Int) (i a : Nat) (xs ys l2 : List Int) (k : Nat),FConfGet.szs.drop i = ns → i + ns.length = 7 → i = xs.length → a ≤ l.length → 9 ≤ k →
  FConfGet.nums ns (l.drop a) = .ok (ys,l2) → ∃ b : Nat,l2 = l.drop b ∧ b ≤ l.length ∧ (b : Int) = a + (ns.map fun n=>(cnt n : Int)).sum ∧
   hornbeamref08_Get.l0 (k + ns.length) (strOfNums l) xs a FConfGet.szs i = hornbeamref08_Get.l0 k (strOfNums l) (xs ++ ys) b FConfGet.szs 7:=by
 intro ns
 induction ns with
 | nil =>
  intro i a xs ys l2 k hs h7 hi ha hk h
  simp only [FConfGet.nums,Except.ok.injEq,Prod.mk.injEq] at h
  obtain ⟨rfl,rfl⟩:=h
  simp only [List.length_nil,Nat.add_zero] at h7
  subst h7
  exact ⟨a,rfl,ha,by simp,by simp⟩
 | cons n ns ih =>
  intro i a xs ys l2 k hs h7 hi ha hk h
  simp only [FConfGet.nums,FTake.number] at h
  simp only [List.length_cons] at h7
  have hd:=drop_rd FConfGet.szs i (by simp [FConfGet.szs];omega)
  rw [hs] at hd
  simp only [List.cons.injEq] at hd
  by_cases hc : cnt n ≤ (l.drop a).length
  ·rw [if_pos (show FTake.cnt n ≤ (l.drop a).length from hc)] at h
   simp only at h
   rw [List.drop_drop] at h
   cases hq : FConfGet.nums ns (l.drop (a + FTake.cnt n)) with
   | error c=>rw [hq] at h;simp at h
   | ok q =>
    rw [hq] at h
    simp only [Except.ok.injEq,Prod.mk.injEq] at h
    obtain ⟨rfl,rfl⟩:=h
    simp only [List.length_drop] at hc
    obtain ⟨b,e1,e2,e3,e4⟩:=ih (i + 1) (a + cnt n) (xs ++ [wrap64 (FTake.val ((l.drop a).take (cnt n)))]) q.1 q.2 k hd.2.symm (by omega) (by simp;omega) (by omega) hk hq
    refine ⟨b,e1,e2,by simp;omega,?_⟩
    rw [show k + (n :: ns).length = (k + ns.length) + 1 by simp;omega]
    simp only [hornbeamref08_Get.l0]
    rw [if_pos (by simp [FConfGet.szs];omega),if_pos (by omega),← hd.1,ref_get_f l hb a n ha hl _ (by omega)]
    simp only [FTake.number]
    rw [if_pos (show FTake.cnt n ≤ (l.drop a).length by simp;exact hc)]
    simp only [Option.bind_some]
    rw [if_pos (by omega),wrap_in (i:=(i : Int) + 1) (by omega) (by omega),show ((i : Int) + 1) = ((i + 1 : Nat) : Int) by omega]
    rw [show FTake.cnt n = cnt n from rfl,e4,List.append_assoc];rfl
  ·rw [if_neg (show ¬ FTake.cnt n ≤ (l.drop a).length from hc)] at h
   simp at h
theorem nums_ok : ∀ (ns l : List Int),(ns.map cnt).sum ≤ l.length → ∃ q,FConfGet.nums ns l = .ok q ∧ q.1.length = ns.length ∧ q.2 = l.drop (ns.map cnt).sum
 | [],l,h=>⟨([],l),rfl,rfl,by simp⟩
 | n :: ns,l,h=>by
  simp only [List.map_cons,List.sum_cons] at h
  obtain ⟨q,e,e2,e3⟩:=nums_ok ns (l.drop (cnt n)) (by simp;omega)
  refine ⟨(wrap64 (FTake.val (l.take (cnt n))) :: q.1,q.2),?_,by simp [e2],?_⟩
  ·simp only [FConfGet.nums,FTake.number]
   rw [if_pos (show FTake.cnt n ≤ l.length by show cnt n ≤ _;omega)]
   simp only [show FTake.cnt n = cnt n from rfl,e]
  ·rw [e3,List.drop_drop];simp
theorem nums_few : ∀ (ns l : List Int),l.length < (ns.map cnt).sum → FConfGet.nums ns l = .error 2
 | [],l,h=>by simp at h
 | n :: ns,l,h=>by
  simp only [List.map_cons,List.sum_cons] at h
  simp only [FConfGet.nums,FTake.number]
  by_cases hc : FTake.cnt n ≤ l.length
  ·rw [if_pos hc]
   have : FTake.cnt n = cnt n:=rfl
   simp only [nums_few ns (l.drop (FTake.cnt n)) (by simp;omega)]
  ·rw [if_neg hc]
theorem szs_sum : (FConfGet.szs.map cnt).sum = 14:=by decide
theorem ref_get (l : List Int) (hb : Bytes l) (hl : l.length ≤ 1000000) (h14 : 14 ≤ l.length) (q) (hq : FConfGet.nums FConfGet.szs l = .ok q) (h7 : q.1.length = 7) (k : Nat) (hk : 30 ≤ k) :
  hornbeamref08_Get.f k (strOfNums l) = some (if chk (FConfGet.fld q.1) = 0 then (FConfGet.fld q.1 0,FConfGet.fld q.1 1,FConfGet.fld q.1 2,FConfGet.fld q.1 3,FConfGet.fld q.1 4,FConfGet.fld q.1 5,FConfGet.fld q.1 6,0) else (0,0,0,0,0,0,0,chk (FConfGet.fld q.1))):=by
 unfold hornbeamref08_Get.f
 rw [if_neg (by rw [strOf_size];omega)]
 obtain ⟨k,rfl⟩ : ∃ m,k = m + 1 + 7:=⟨k - 8,by omega⟩
 obtain ⟨b,e1,e2,e3,e4⟩:=ref_loop l hb hl FConfGet.szs 0 0 [] q.1 q.2 (k + 1) rfl rfl rfl (by omega) (by omega) hq
 refine Eq.trans e4 ?_
 simp only [hornbeamref08_Get.l0,List.nil_append]
 rw [if_neg (by decide)]
 simp only [h7]
 have hr : ∀ j : Nat,rd q.1 (j : Int) = FConfGet.fld q.1 j:=fun j=>by simp [rd,FConfGet.fld]
 have r0:=hr 0;have r1:=hr 1;have r2:=hr 2;have r3:=hr 3;have r4:=hr 4;have r5:=hr 5;have r6:=hr 6
 simp only [show ((0 : Nat) : Int) = 0 from rfl,show ((1 : Nat) : Int) = 1 from rfl,show ((2 : Nat) : Int) = 2 from rfl,show ((3 : Nat) : Int) = 3 from rfl,show ((4 : Nat) : Int) = 4 from rfl,show ((5 : Nat) : Int) = 5 from rfl,show ((6 : Nat) : Int) = 6 from rfl] at r0 r1 r2 r3 r4 r5 r6
 rw [if_pos (by decide),if_pos (by decide),if_pos (by decide),if_pos (by decide),if_pos (by decide),if_pos (by decide),if_pos (by decide),r0,r1,r2,r3,r4,r5,r6,ref_check_f _ k (by omega),Option.bind_some]
 split <;> rfl
/-- The bytes of what was taken are these. -/
theorem bytes_back : ∀ (l : List Int),Bytes l → l.length = 14 → ∀ q,FConfGet.nums FConfGet.szs l = .ok q → bytesC (FConfGet.fld q.1) = l
 | [a0,a1,a2,a3,a4,a5,a6,a7,a8,a9,a10,a11,a12,a13],hb,_,q,h=>by
  simp only [Bytes,List.forall_mem_cons] at hb
  obtain ⟨b0,b1,b2,b3,b4,b5,b6,b7,b8,b9,b10,b11,b12,b13,_⟩:=hb
  simp [FConfGet.nums,FConfGet.szs,FTake.number,FTake.cnt,FTake.val] at h
  subst h
  simp only [bytesC,FConfGet.fld,be,List.getD_cons_zero,List.getD_cons_succ,List.cons_append,List.nil_append,List.cons.injEq]
  simp only [wrap64,and_true,show (256 : Int) ^ 0 = 1 from rfl,show (256 : Int) ^ 1 = 256 from rfl,show (256 : Int) ^ 2 = 65536 from rfl,show (256 : Int) ^ 3 = 16777216 from rfl]
  refine ⟨?_,?_,?_,?_,?_,?_,?_,?_,?_,?_,?_,?_,?_,?_⟩ <;> omega
end Go.Proofs.Ytnagfbadjbkhmaa.PureConfRef
