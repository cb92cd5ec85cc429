import Derived.Test.YtnagfbadjbkhmaaPureKit
import Derived.Test.YtnagfbadjbkhmaaPAx29
import Derived.Test.YtnagfbadjbkhmaaPAx37
import Derived.Test.YtnagfbadjbkhmaaPAx27
import Derived.Test.YtnagfbadjbkhmaaPAx28
import Derived.Test.YtnagfbadjbkhmaaPAx39
import Derived.Test.YtnagfbadjbkhmaaPAx26
import Derived.Test.YtnagfbadjbkhmaaPAx37
import Derived.Test.YtnagfbadjbkhmaaPAx41
/- Matrices of bins: what Right, Cell and the examples come to. -/
namespace Go.Proofs.Ytnagfbadjbkhmaa.PureBins
open Go.RowKit Go.Proofs.YtnagfbadjbkhmaaW.PrintWords Go.Proofs.YtnagfbadjbkhmaaW.PrintLast Go.Proofs.YtnagfbadjbkhmaaW.PrintMore Go.Proofs.Ytnagfbadjbkhmaa.Pure Go.Proofs.Ytnagfbadjbkhmaa.PA
set_option linter.unusedVariables false
set_option linter.unusedSimpArgs false
theorem beqd (a b : Int) : (a == b) = decide (a = b):=by
 by_cases h : a = b
 ·rw [decide_eq_true h];exact beq_iff_eq.2 h
 ·rw [decide_eq_false h];exact beq_eq_false_iff_ne.2 h
theorem fixed_t {k : Nat} (hk : 40 ≤ k) : hornbeamlaw11_fixed.f k = some true:=at_rounds hornbeamlaw11_fixed.mono hk (by decide +kernel)
/-- Is a matrix right? -/
def rightM (r c : Int) (l : List Int) : Bool:=decide (0 ≤ r) && decide (r ≤ 16777216) && decide (0 ≤ c) && decide (c ≤ 16777216) && decide ((l.length : Int) = wrap64 (r * c))
theorem right_f (r c : Int) (l : List Int) : bins_Right.f r c l = some (rightM r c l):=by
 unfold bins_Right.f bins_count.f rightM
 by_cases h1 : r ≥ 0 <;> by_cases h2 : r ≤ 16777216 <;> by_cases h3 : c ≥ 0 <;> by_cases h4 : c ≤ 16777216 <;> simp [h1,h2,h3,h4,beqd]
theorem ref_right_f (r c : Int) (l : List Int) : hornbeamref11_Right.f r c l = some (rightM r c l):=by
 unfold hornbeamref11_Right.f hornbeamref11_Few.f rightM
 by_cases h1 : r ≥ 0 <;> by_cases h2 : r ≤ 16777216 <;> by_cases h3 : c ≥ 0 <;> by_cases h4 : c ≤ 16777216 <;> simp [h1,h2,h3,h4,beqd]
theorem right_is {r c : Int} {l : List Int} (h : rightM r c l = true) : 0 ≤ r ∧ r ≤ 16777216 ∧ 0 ≤ c ∧ c ≤ 16777216 ∧ (l.length : Int) = r * c:=by
 simp only [rightM,Bool.and_eq_true,decide_eq_true_eq] at h
 obtain ⟨⟨⟨⟨h1,h2⟩,h3⟩,h4⟩,h5⟩:=h
 have hm : r * c ≤ 16777216 * 16777216:=Int.mul_le_mul h2 h4 h3 (by decide)
 have hn : 0 ≤ r * c:=Int.mul_nonneg h1 h3
 refine ⟨h1,h2,h3,h4,?_⟩
 rw [h5,wrap_in (by omega) (by omega)]
/-- Where a row's bin in a column stands. -/
theorem at_in {r c row col : Int} {l : List Int} (h : rightM r c l = true) (h1 : 0 ≤ row) (h2 : row < r) (h3 : 0 ≤ col) (h4 : col < c) :
  wrap64 (wrap64 (col * r) + row) = col * r + row ∧ 0 ≤ col * r + row ∧ col * r + row < (l.length : Int):=by
 obtain ⟨a,b,cc,d,e⟩:=right_is h
 have hm : col * r ≤ 16777216 * 16777216:=Int.mul_le_mul (by omega) b a (by decide)
 have hn : 0 ≤ col * r:=Int.mul_nonneg h3 a
 have hs : (col + 1) * r ≤ c * r:=Int.mul_le_mul_of_nonneg_right (by omega) a
 rw [Int.add_mul,Int.one_mul,Int.mul_comm c r] at hs
 rw [wrap_in (i:=col * r) (by omega) (by omega),wrap_in (by omega) (by omega)]
 omega
end Go.Proofs.Ytnagfbadjbkhmaa.PureBins

/- Turning a column: what bins.Turn, the document's Turn and the two tests of a permutation come to. -/
namespace Go.Proofs.Ytnagfbadjbkhmaa.PureBinsTurn
open Go.RowKit Go.Maps Go.Proofs.YtnagfbadjbkhmaaW.PrintWords Go.Proofs.YtnagfbadjbkhmaaW.PrintLast Go.Proofs.YtnagfbadjbkhmaaW.PrintMore Go.Proofs.Ytnagfbadjbkhmaa.Pure Go.Proofs.Ytnagfbadjbkhmaa.PureBins Go.Proofs.Ytnagfbadjbkhmaa.PA
set_option linter.unusedVariables false
set_option linter.unusedSimpArgs false
theorem great_f (r c : Int) (l : List Int) : hornbeamlaw11_great.f r c l = some (decide ((l.length : Int) > 500) || (decide (c > 1000) && decide (r = 0) && decide ((l.length : Int) = 0))):=by
 unfold hornbeamlaw11_great.f
 by_cases a : (l.length : Int) > 500
 ·rw [if_pos a,decide_eq_true a];rfl
 ·rw [if_neg a,decide_eq_false a]
  by_cases b : c > 1000
  ·rw [if_pos b,decide_eq_true b]
   by_cases e : r = 0
   ·rw [if_pos e,decide_eq_true e];simp [beqd]
   ·rw [if_neg e,decide_eq_false e];rfl
  ·rw [if_neg b,decide_eq_false b];rfl
theorem same_f (r c : Int) (l : List Int) (hl : l.length ≤ 100000) (k : Nat) (hk : l.length + 2 < k) : hornbeamref11_Same.f k r c l r c l = some true:=by
 obtain ⟨k,rfl⟩ : ∃ m,k = m + 1:=⟨k - 1,by omega⟩
 unfold hornbeamref11_Same.f
 rw [if_pos rfl,if_pos rfl,hornbeamref11_Same.j0,if_neg (by simp)]
 have : ∀ (d k i : Nat),i + d = l.length → d < k → hornbeamref11_Same.l0 k i r c l r c l = some true:=by
  intro d
  induction d with
  | zero =>
   intro k i h1 h2
   obtain ⟨k,rfl⟩ : ∃ m,k = m + 1:=⟨k - 1,by omega⟩
   rw [hornbeamref11_Same.l0,if_neg (by omega)]
  | succ d ih =>
   intro k i h1 h2
   obtain ⟨k,rfl⟩ : ∃ m,k = m + 1:=⟨k - 1,by omega⟩
   rw [hornbeamref11_Same.l0,if_pos (by omega),if_pos (by omega),if_pos (by omega),if_pos rfl,wrap_in (by omega) (by omega),show ((i : Int) + 1) = ((i + 1 : Nat) : Int) by omega]
   exact ih k (i + 1) (by omega) (by omega)
 exact this l.length k 0 (by omega) (by omega)
/-- The numbers from 0 to ahead of n, each once. -/
def Perm (p : List Int) (n : Int) : Prop:=(p.length : Int) = n ∧ (∀ x ∈ p,0 ≤ x ∧ x < n) ∧ p.Nodup
/-! the set in the map -/
theorem sameKey_iff (a b : Int) : (Lit.int .i64 a).sameKey (Lit.int .i64 b) = decide (a = b):=by
 by_cases h : a = b
 ·subst h;simp [Lit.sameKey]
 ·rw [decide_eq_false h];exact sameKey_ne (fun e=>h (by simpa using e))
theorem key_lit (x : Int) : WideAt.IsKeyLit (Lit.int .i64 x):=by simp [WideAt.IsKeyLit]
theorem keys_lit (l : List Int) : ∀ x ∈ l.map (Lit.int .i64),WideAt.IsKeyLit x:=by
 intro x hx;obtain ⟨y,_,rfl⟩:=List.mem_map.1 hx;exact key_lit y
theorem st_size (l : List Int) (x : Int) : size (FPermutes.st (l ++ [x])) = if x ∈ l then size (FPermutes.st l) else size (FPermutes.st l) + 1:=by
 rw [FPermutes.st_snoc]
 have ht : Tidy (FPermutes.st l):=tidy_setOf _ _ (keys_lit l)
 rw [size_put ht]
 have hh : Maps.has (FPermutes.st l) (Lit.int .i64 x) = decide (x ∈ l):=by
  unfold FPermutes.st
  rw [has_setOf _ _ _ (keys_lit l),List.any_map]
  by_cases h : x ∈ l
  ·rw [decide_eq_true h,List.any_eq_true];exact ⟨x,h,by simp [sameKey_iff]⟩
  ·rw [decide_eq_false h,List.any_eq_false]
   intro y hy
   simp only [Function.comp,sameKey_iff,decide_eq_true_eq]
   exact fun e=>h (e ▸ hy)
 rw [hh]
 by_cases h : x ∈ l <;> simp [h]
theorem st_nodup : ∀ (n : Nat) (l : List Int),l.length = n → size (FPermutes.st l) ≤ l.length ∧ (size (FPermutes.st l) = l.length ↔ l.Nodup):=by
 intro n
 induction n with
 | zero =>
  intro l hl
  have : l = []:=List.eq_nil_of_length_eq_zero hl
  subst this
  exact ⟨Nat.zero_le _,by simp [FPermutes.st,setOf,size]⟩
 | succ n ih =>
  intro l hl
  have hne : l ≠ []:=fun e=>by rw [e] at hl;simp at hl
  obtain ⟨m,x,rfl⟩ : ∃ m x,l = m ++ [x]:=⟨l.dropLast,l.getLast hne,(List.dropLast_concat_getLast hne).symm⟩
  have hm : m.length = n:=by simpa using hl
  obtain ⟨h1,h2⟩:=ih m hm
  rw [st_size,List.length_append,List.length_singleton]
  by_cases h : x ∈ m
  ·rw [if_pos h]
   refine ⟨by omega,⟨fun e=>by omega,fun hn=>?_⟩⟩
   rw [List.nodup_append] at hn
   exact absurd rfl (hn.2.2 x h x (by simp))
  ·rw [if_neg h]
   refine ⟨by omega,⟨fun e=>?_,fun hn=>?_⟩⟩
   ·rw [List.nodup_append]
    refine ⟨h2.1 (by omega),by simp,fun a ha b hb=>?_⟩
    obtain rfl:=List.mem_singleton.1 hb
    exact fun e=>h (e ▸ ha)
   ·rw [List.nodup_append] at hn
    have:=h2.2 hn.1;omega
theorem perm_iff (p : List Int) (n : Int) : FPermutes.perm p n = true ↔ Perm p n:=by
 unfold FPermutes.perm Perm
 have hs:=(st_nodup p.length p rfl).2
 by_cases h : p.all (fun x=>decide (0 ≤ x) && decide (x < n)) = true
 ·rw [if_pos h]
  have h' : ∀ x ∈ p,0 ≤ x ∧ x < n:=fun x hx=>by simpa using List.all_eq_true.1 h x hx
  simp only [Bool.and_eq_true,decide_eq_true_eq]
  constructor
  ·rintro ⟨a,b⟩;exact ⟨a,h',hs.1 (by omega)⟩
  ·rintro ⟨a,_,c⟩;exact ⟨a,by rw [hs.2 c];exact a⟩
 ·rw [if_neg h]
  refine ⟨fun e=>by simp at e,fun ⟨_,b,_⟩=>absurd (List.all_eq_true.2 fun x hx=>?_) h⟩
  simpa using b x hx
theorem permutes_f (p : List Int) (n : Int) (hp : ∀ x ∈ p,(Lit.int .i64 x).wf = true) : bins_permutes.f p n = some (FPermutes.perm p n):=by
 unfold bins_permutes.f
 rw [if_pos (List.all_eq_true.2 hp)]
/-! the document's test -/
theorem perm_sub : ∀ (R p : List Int),R.Nodup → (∀ x ∈ R,x ∈ p) → p.length = R.length → p.Perm R
 | [],p,_,_,h=>by rw [List.eq_nil_of_length_eq_zero h]
 | a :: R,p,hn,hs,h=>by
  rw [List.nodup_cons] at hn
  have ha:=hs a (by simp)
  have h1:=List.perm_cons_erase ha
  have hl : (p.erase a).length = R.length:=by rw [List.length_erase_of_mem ha,h];simp
  have h2:=perm_sub R (p.erase a) hn.2 (fun x hx=>(List.mem_erase_of_ne (fun (e : x = a)=>hn.1 (by rw [← e];exact hx))).2 (hs x (by simp [hx]))) hl
  exact h1.trans (h2.cons a)
def range (n : Nat) : List Int:=(List.range n).map fun (j : Nat)=>(j : Int)
theorem range_nodup (n : Nat) : (range n).Nodup:=by
 unfold range
 rw [List.Nodup,List.pairwise_map]
 exact List.nodup_range.imp (fun h e=>h (by omega))
theorem range_mem (n : Nat) (x : Int) : x ∈ range n ↔ 0 ≤ x ∧ x < n:=by
 unfold range
 rw [List.mem_map]
 constructor
 ·rintro ⟨j,hj,rfl⟩;have:=List.mem_range.1 hj;omega
 ·rintro ⟨h0,h1⟩;exact ⟨x.toNat,List.mem_range.2 (by omega),by omega⟩
theorem count_one {l : List Int} (h : l.Nodup) {x : Int} (hx : x ∈ l) : l.count x = 1:=by
 have h1:=List.nodup_iff_count.1 h x
 have h2:=List.count_pos_iff.2 hx
 omega
theorem perm_count (p : List Int) (n : Nat) (hl : p.length = n) : Perm p n ↔ ∀ i : Nat,i < n → p.count (i : Int) = 1:=by
 constructor
 ·rintro ⟨_,h2,h3⟩ i hi
  have:=perm_sub p (range n) h3 (fun x hx=>(range_mem n x).2 (h2 x hx)) (by simp [range,hl])
  exact count_one h3 (this.mem_iff.1 ((range_mem n _).2 (by omega)))
 ·intro h
  have:=perm_sub (range n) p (range_nodup n) (fun x hx=>by
   have hr:=(range_mem n x).1 hx
   have:=h x.toNat (by omega)
   exact List.count_pos_iff.1 (by rw [show x = ((x.toNat : Nat) : Int) by omega];omega)) (by simp [range,hl])
  exact ⟨by omega,fun x hx=>(range_mem n x).1 (this.mem_iff.1 hx),this.nodup_iff.2 (range_nodup n)⟩
theorem ref_l1 (p : List Int) (n : Nat) (hl : p.length = n) (hn : n ≤ 100000) (i : Nat) (hi : i < n) : ∀ (d k j : Nat),j + d = n →
  hornbeamref11_Permutes.l1 (k + 1 + d) p n i ((p.take j).count (i : Int) : Int) j = if p.count (i : Int) = 1 then hornbeamref11_Permutes.l0 k p n ((i + 1 : Nat) : Int) else some false:=by
 intro d
 induction d with
 | zero =>
  intro k j h1
  rw [show k + 1 + 0 = k + 1 by omega,hornbeamref11_Permutes.l1,if_neg (by omega),List.take_of_length_le (by omega),wrap_in (by omega) (by omega)]
  by_cases h : p.count (i : Int) = 1
  ·rw [if_pos h,if_pos (by omega)];rfl
  ·rw [if_neg h,if_neg (by omega)]
 | succ d ih =>
  intro k j h1
  have hj : j < p.length:=by omega
  have hc : (p.take j).count (i : Int) ≤ j:=Nat.le_trans List.count_le_length (by simp;omega)
  have nxt:=ih k (j + 1) (by omega)
  rw [take_rd p j hj,List.count_append,List.count_singleton] at nxt
  rw [show k + 1 + (d + 1) = (k + 1 + d) + 1 by omega,hornbeamref11_Permutes.l1,if_pos (by omega),if_pos (by omega),if_pos (by omega),wrap_in (i:=(j : Int) + 1) (by omega) (by omega),show ((j : Int) + 1) = ((j + 1 : Nat) : Int) by omega]
  by_cases h : rd p (j : Int) = (i : Int)
  ·rw [if_pos h,wrap_in (by omega) (by omega),← nxt,if_pos (by simpa using h)];rfl
  ·rw [if_neg h,← nxt,if_neg (by simpa using h)];rfl
theorem ref_l0 (p : List Int) (n : Nat) (hl : p.length = n) (hn : n ≤ 1000) : ∀ (d k i : Nat),i + d = n →
  ∃ b : Bool,hornbeamref11_Permutes.l0 (k + 1 + d * (n + 2)) p n i = some b ∧ (b = true ↔ ∀ j : Nat,i ≤ j → j < n → p.count (j : Int) = 1):=by
 intro d
 induction d with
 | zero =>
  intro k i h1
  refine ⟨true,?_,⟨fun _ j h2 h3=>by omega,fun _=>rfl⟩⟩
  rw [Nat.zero_mul,show k + 1 + 0 = k + 1 by omega,hornbeamref11_Permutes.l0,if_neg (by omega)]
 | succ d ih =>
  intro k i h1
  obtain ⟨b,e1,e2⟩:=ih k (i + 1) (by omega)
  have h:=ref_l1 p n hl (by omega) i (by omega) n (k + 1 + d * (n + 2)) 0 (by omega)
  rw [Nat.succ_mul,show k + 1 + (d * (n + 2) + (n + 2)) = (((k + 1 + d * (n + 2)) + 1 + n)) + 1 by omega,hornbeamref11_Permutes.l0,if_pos (by omega)]
  by_cases hc : p.count (i : Int) = 1
  ·rw [if_pos hc,e1] at h
   refine ⟨b,h,e2.trans ⟨fun hh j h2 h3=>?_,fun hh j h2 h3=>hh j (by omega) h3⟩⟩
   by_cases e : j = i
   ·subst e;exact hc
   ·exact hh j (by omega) h3
  ·rw [if_neg hc] at h
   exact ⟨false,h,⟨fun e=>(by cases e),fun hh=>absurd (hh i (Nat.le_refl _) (by omega)) hc⟩⟩
theorem ref_permutes_f (p : List Int) (n : Int) (hm : p.length ≤ 1000) (k : Nat) (hk : 1100000 ≤ k) : hornbeamref11_Permutes.f k p n = some (FPermutes.perm p n):=by
 have hpi:=perm_iff p n
 unfold hornbeamref11_Permutes.f
 by_cases h : (p.length : Int) = n
 ·rw [if_pos h]
  obtain ⟨m,rfl⟩ : ∃ m : Nat,n = m:=⟨p.length,h.symm⟩
  have hmul : m * (m + 2) ≤ 1000 * 1002:=Nat.mul_le_mul (by omega) (by omega)
  obtain ⟨b,e1,e2⟩:=ref_l0 p m (by omega) (by omega) m (k - 1 - m * (m + 2)) 0 (by omega)
  rw [show k - 1 - m * (m + 2) + 1 + m * (m + 2) = k by omega] at e1
  refine Eq.trans e1 ?_
  rw [perm_count p m (by omega)] at hpi
  have hb : b = FPermutes.perm p m:=by
   rw [Bool.eq_iff_iff,e2,hpi]
   exact ⟨fun q j h3=>q j (Nat.zero_le _) h3,fun q j _ h3=>q j h3⟩
  rw [hb]
 ·rw [if_neg h]
  have hb : FPermutes.perm p n = false:=Bool.eq_false_iff.2 (fun e=>h (hpi.1 e).1)
  rw [hb]
end Go.Proofs.Ytnagfbadjbkhmaa.PureBinsTurn

/- Turning a column. -/
namespace Go.Proofs.Ytnagfbadjbkhmaa.PureBinsTurn
open Go.RowKit Go.Maps Go.Proofs.YtnagfbadjbkhmaaW.PrintWords Go.Proofs.YtnagfbadjbkhmaaW.PrintLast Go.Proofs.YtnagfbadjbkhmaaW.PrintMore Go.Proofs.Ytnagfbadjbkhmaa.Pure Go.Proofs.Ytnagfbadjbkhmaa.PureBins Go.Proofs.Ytnagfbadjbkhmaa.PA
set_option linter.unusedVariables false
set_option linter.unusedSimpArgs false
/-! turning -/
/-- The cells with m of a column's turned, from place b on. -/
def tr (b : Nat) (p l : List Int) (m : Nat) : List Int:=(List.range l.length).map fun (j : Nat)=>if b ≤ j ∧ j < b + m then rd l ((b : Int) + rd p ((j - b : Nat) : Int)) else rd l (j : Int)
theorem tr_len (b : Nat) (p l : List Int) (m : Nat) : (tr b p l m).length = l.length:=by simp [tr]
theorem tr_rd (b : Nat) (p l : List Int) (m j : Nat) (h : j < l.length) : rd (tr b p l m) (j : Int) = if b ≤ j ∧ j < b + m then rd l ((b : Int) + rd p ((j - b : Nat) : Int)) else rd l (j : Int):=by
 rw [rd_nat _ j (by rw [tr_len];exact h)];simp [tr]
theorem ext_rd {x y : List Int} (hl : x.length = y.length) (h : ∀ j : Nat,j < x.length → rd x (j : Int) = rd y (j : Int)) : x = y:=by
 apply List.ext_getElem hl
 intro j h1 h2
 have:=h j h1
 rwa [rd_nat x j h1,rd_nat y j h2] at this
theorem tr_zero (b : Nat) (p l : List Int) : tr b p l 0 = l:=ext_rd (tr_len _ _ _ _) (fun j hj=>by
 rw [tr_len] at hj
 rw [tr_rd _ _ _ _ _ hj,if_neg (by omega)])
theorem set_rd (l : List Int) (n b : Nat) (v : Int) (hn : n < l.length) : rd (l.set n v) (b : Int) = if n = b then v else rd l (b : Int):=by
 simp only [rd,Int.toNat_natCast,List.getD_eq_getElem?_getD,List.getElem?_set]
 by_cases h : n = b
 ·subst h;simp [hn]
 ·simp [h]
theorem tr_set (b : Nat) (p l : List Int) (i : Nat) (h : b + i < l.length) : (tr b p l i).set (b + i) (rd l ((b : Int) + rd p (i : Int))) = tr b p l (i + 1):=by
 refine ext_rd (by simp [tr_len]) (fun j hj=>?_)
 rw [List.length_set,tr_len] at hj
 rw [set_rd _ _ _ _ (by rw [tr_len];exact h),tr_rd _ _ _ _ _ hj,tr_rd _ _ _ _ _ hj]
 by_cases e : b + i = j
 ·subst e
  rw [if_pos rfl,if_pos (by omega),show b + i - b = i by omega]
 ·rw [if_neg e]
  by_cases e2 : b ≤ j ∧ j < b + i
  ·rw [if_pos e2,if_pos (by omega)]
  ·rw [if_neg e2,if_neg (by omega)]
theorem rd_in {p : List Int} {n : Int} (h : ∀ x ∈ p,0 ≤ x ∧ x < n) (i : Nat) (hi : i < p.length) : 0 ≤ rd p (i : Int) ∧ rd p (i : Int) < n:=by
 rw [rd_nat p i hi];exact h _ (List.getElem_mem hi)
/-- May it be turned? -/
def may (r c col : Int) (p l : List Int) : Bool:=rightM r c l && decide (0 ≤ col) && decide (col < c) && FPermutes.perm p r
theorem may_is {r c col : Int} {p l : List Int} (h : may r c col p l = true) : rightM r c l = true ∧ 0 ≤ col ∧ col < c ∧ Perm p r:=by
 simp only [may,Bool.and_eq_true,decide_eq_true_eq] at h
 exact ⟨h.1.1.1,h.1.1.2,h.1.2,(perm_iff p r).1 h.2⟩
theorem turn_l0 {r c col : Int} {p l : List Int} (h : may r c col p l = true) (hp : p.length ≤ 100000) : ∀ (d k i : Nat),i + d = p.length → d < k →
  bins_Turn.l0 k col p p.length i r c l r c (tr (col * r).toNat p l i) = some (r,c,tr (col * r).toNat p l p.length,0):=by
 obtain ⟨h1,h2,h3,h4,h5,_⟩:=may_is h
 intro d
 induction d with
 | zero =>
  intro k i e1 e2
  obtain ⟨k,rfl⟩ : ∃ m,k = m + 1:=⟨k - 1,by omega⟩
  rw [bins_Turn.l0,if_neg (by omega),show i = p.length by omega]
 | succ d ih =>
  intro k i e1 e2
  obtain ⟨k,rfl⟩ : ∃ m,k = m + 1:=⟨k - 1,by omega⟩
  have hi : i < p.length:=by omega
  obtain ⟨b0,b1⟩:=rd_in h5 i hi
  obtain ⟨a1,a2,a3⟩:=at_in h1 (row:=rd p (i : Int)) b0 b1 h2 h3
  obtain ⟨c1,c2,c3⟩:=at_in h1 (row:=(i : Int)) (by omega) (by omega) h2 h3
  have hn : 0 ≤ col * r:=Int.mul_nonneg h2 (right_is h1).1
  have A1:=Aside0.mk a1
  have C1:=Aside0.mk c1
  clear a1 c1 h1
  generalize hB : col * r = B at *
  obtain ⟨b,rfl⟩ : ∃ b : Nat,B = b:=⟨B.toNat,by omega⟩
  rw [bins_Turn.l0,if_pos (by omega),if_pos (by omega),if_pos (by omega),hB,A1.out,if_pos a2,if_pos a3,C1.out,if_pos c2,if_pos (by rw [tr_len];exact c3),Int.toNat_natCast,show ((b : Int) + (i : Int)).toNat = b + i by omega,
   tr_set b p l i (by omega),wrap_in (by omega) (by omega),show ((i : Int) + 1) = ((i + 1 : Nat) : Int) by omega]
  exact ih k (i + 1) (by omega) (by omega)
theorem clone_f (l : List Int) (hl : l.length ≤ 1000) : slices_Clone_uint16_uint16.f l = some l:=by
 unfold slices_Clone_uint16_uint16.f
 first
  | (rw [if_pos (by omega)];done)
  | (rw [if_pos (by simp;omega)];simp;done)
  | (simp;omega)
theorem turn_f {r c col : Int} {p l : List Int} (hp : p.length ≤ 200) (hw : ∀ x ∈ p,(Lit.int .i64 x).wf = true) (hl : l.length ≤ 1000) (k : Nat) (hk : 1000 ≤ k) :
  bins_Turn.f k r c l col p = some (if may r c col p l then (r,c,tr (col * r).toNat p l p.length,0) else (0,0,[],8)):=by
 obtain ⟨k,rfl⟩ : ∃ m,k = m + 1:=⟨k - 1,by omega⟩
 have bad : bins_Turn.j0 (k + 1) col p true r c l = some (0,0,[],8):=by rw [bins_Turn.j0,if_pos rfl]
 unfold bins_Turn.f
 rw [right_f,Option.bind_some]
 by_cases h0 : rightM r c l = true
 ·rw [if_pos h0]
  by_cases h1 : col < 0
  ·rw [if_pos h1,bad,if_neg];unfold may;rw [h0];simp;intros;omega
  by_cases h2 : col ≥ c
  ·rw [if_neg h1,if_pos h2,bad,if_neg];unfold may;rw [h0];simp;intros;omega
  rw [if_neg h1,if_neg h2,permutes_f p r hw,Option.bind_some]
  by_cases h3 : FPermutes.perm p r = true
  ·have hm : may r c col p l = true:=by unfold may;rw [h0,h3];simp;omega
   rw [if_pos hm,h3,bins_Turn.j0,if_neg (by decide),clone_f l hl,Option.bind_some]
   have:=turn_l0 hm (by omega) p.length k 0 (by omega) (by omega)
   rw [tr_zero] at this
   exact this
  ·rw [Bool.not_eq_true] at h3
   rw [h3,show (!false) = true from rfl,bad,if_neg];unfold may;rw [h3];simp
 ·rw [if_neg h0,bad,if_neg];unfold may;simp [h0]
/-- The document's turn. -/
theorem ref_turn_l1 {R C J : Nat} {p l : List Int} (h : may (R : Int) (C : Int) (J : Int) p l = true) (hl : l.length ≤ 1000) (hC : C ≤ 1000) (hR : R ≤ 1000) (j : Nat) (hj : j < C) : ∀ (d k i : Nat),i + d = R →
  hornbeamref11_Turn.l1 (k + 1 + d) J p j i R C l R C ((tr (J * R) p l R).take (j * R + i)) = hornbeamref11_Turn.l0 k J p ((j + 1 : Nat) : Int) R C l R C ((tr (J * R) p l R).take ((j + 1) * R)):=by
 obtain ⟨h1,h2,h3,h4,h5,_⟩:=may_is h
 obtain ⟨_,_,_,_,hlen⟩:=right_is h1
 have hlen' : l.length = R * C:=by rw [← Int.natCast_mul] at hlen;omega
 have hjr : (j + 1) * R ≤ R * C:=by rw [Nat.mul_comm R C];exact Nat.mul_le_mul_right R hj
 rw [Nat.succ_mul] at hjr
 intro d
 induction d with
 | zero =>
  intro k i e1
  rw [show k + 1 + 0 = k + 1 by omega,hornbeamref11_Turn.l1,if_neg (by omega),wrap_in (by omega) (by omega),show ((j : Int) + 1) = ((j + 1 : Nat) : Int) by omega,Nat.succ_mul,show i = R by omega]
 | succ d ih =>
  intro k i e1
  have hi : i < R:=by omega
  have hT : j * R + i < (tr (J * R) p l R).length:=by rw [tr_len];omega
  have nxt:=ih k (i + 1) (by omega)
  rw [show j * R + (i + 1) = j * R + i + 1 by omega,take_rd _ _ hT,tr_rd _ _ _ _ _ (by omega)] at nxt
  obtain ⟨c1,c2,c3⟩:=at_in h1 (row:=(i : Int)) (col:=(j : Int)) (by omega) (by omega) (by omega) (by omega)
  have C1:=Aside0.mk c1
  clear c1
  have hlt : ((tr (J * R) p l R).take (j * R + i)).length < 70368744177664:=by rw [List.length_take,tr_len];omega
  have hm : ((j : Int) * (R : Int)) = ((j * R : Nat) : Int):=by rw [Int.natCast_mul]
  rw [show k + 1 + (d + 1) = (k + 1 + d) + 1 by omega,hornbeamref11_Turn.l1,if_pos (by omega)]
  by_cases hJ : j = J
  ·subst hJ
   obtain ⟨b0,b1⟩:=rd_in h5 i (by omega)
   obtain ⟨a1,a2,a3⟩:=at_in h1 (row:=rd p (i : Int)) b0 b1 h2 h3
   have A1:=Aside0.mk a1
   clear a1
   rw [if_pos rfl,if_pos (by omega),if_pos (by omega),A1.out,if_pos a2,if_pos a3,if_pos hlt,wrap_in (i:=(i : Int) + 1) (by omega) (by omega),show ((i : Int) + 1) = ((i + 1 : Nat) : Int) by omega,← nxt,if_pos (by omega),hm,show j * R + i - j * R = i by omega]
  ·have hne : ¬ (J * R ≤ j * R + i ∧ j * R + i < J * R + R):=by
    rintro ⟨x1,x2⟩
    rcases Nat.lt_or_ge j J with hh|hh
    ·have:=Nat.mul_le_mul_right R (show j + 1 ≤ J from hh);rw [Nat.succ_mul] at this;omega
    ·have:=Nat.mul_le_mul_right R (show J + 1 ≤ j by omega);rw [Nat.succ_mul] at this;omega
   rw [if_neg (by omega),C1.out,if_pos c2,if_pos c3,if_pos hlt,wrap_in (i:=(i : Int) + 1) (by omega) (by omega),show ((i : Int) + 1) = ((i + 1 : Nat) : Int) by omega,← nxt,if_neg hne,hm]
   rfl
theorem ref_turn_l0 {R C J : Nat} {p l : List Int} (h : may (R : Int) (C : Int) (J : Int) p l = true) (hl : l.length ≤ 1000) (hC : C ≤ 1000) (hR : R ≤ 1000) : ∀ (d k j : Nat),j + d = C →
  hornbeamref11_Turn.l0 (k + 1 + d * (R + 2)) J p j R C l R C ((tr (J * R) p l R).take (j * R)) = some ((R : Int),(C : Int),tr (J * R) p l R,0):=by
 obtain ⟨h1,h2,h3,h4,h5,_⟩:=may_is h
 obtain ⟨_,_,_,_,hlen⟩:=right_is h1
 have hlen' : l.length = R * C:=by rw [← Int.natCast_mul] at hlen;omega
 intro d
 induction d with
 | zero =>
  intro k j e
  rw [Nat.zero_mul,show k + 1 + 0 = k + 1 by omega,hornbeamref11_Turn.l0,if_neg (by omega),List.take_of_length_le (by rw [tr_len,hlen',Nat.mul_comm R C];exact Nat.mul_le_mul_right R (by omega))]
 | succ d ih =>
  intro k j e
  have:=ref_turn_l1 h hl hC hR j (by omega) R (k + 1 + d * (R + 2)) 0 (by omega)
  rw [Nat.succ_mul,show k + 1 + (d * (R + 2) + (R + 2)) = ((k + 1 + d * (R + 2)) + 1 + R) + 1 by omega,hornbeamref11_Turn.l0,if_pos (by omega)]
  exact this.trans (ih k (j + 1) (by omega))
theorem ref_turn_f {r c col : Int} {p l : List Int} (hp : p.length ≤ 200) (hl : l.length ≤ 500) (hc : rightM r c l = true → c > 1000 → r ≠ 0) (k : Nat) (hk : 1200000 ≤ k) :
  hornbeamref11_Turn.f k r c l col p = some (if may r c col p l then (r,c,tr (col * r).toNat p l p.length,0) else (0,0,[],8)):=by
 obtain ⟨k,rfl⟩ : ∃ m,k = m + 1:=⟨k - 1,by omega⟩
 have bad : hornbeamref11_Turn.j0 (k + 1) col p true r c l = some (0,0,[],8):=by rw [hornbeamref11_Turn.j0,if_pos rfl]
 unfold hornbeamref11_Turn.f
 rw [ref_right_f,Option.bind_some]
 by_cases h0 : rightM r c l = true
 ·rw [if_pos h0]
  by_cases h1 : col < 0
  ·rw [if_pos h1,bad,if_neg];unfold may;rw [h0];simp;intros;omega
  by_cases h2 : col ≥ c
  ·rw [if_neg h1,if_pos h2,bad,if_neg];unfold may;rw [h0];simp;intros;omega
  rw [if_neg h1,if_neg h2,ref_permutes_f p r (by omega) _ (by omega),Option.bind_some]
  by_cases h3 : FPermutes.perm p r = true
  ·have hm : may r c col p l = true:=by unfold may;rw [h0,h3];simp;omega
   obtain ⟨_,_,_,hpl,_⟩:=may_is hm
   obtain ⟨a1,a2,a3,a4,a5⟩:=right_is h0
   rw [if_pos hm,h3,hornbeamref11_Turn.j0,if_neg (by decide)]
   have hC : c ≤ 1000:=by
    by_cases hr : r = 0
    ·by_cases hh : c > 1000
     ·exact absurd hr (hc h0 hh)
     ·omega
    ·have : 1 * c ≤ r * c:=Int.mul_le_mul_of_nonneg_right (by omega) a3
     omega
   obtain ⟨R,rfl⟩ : ∃ R : Nat,r = R:=⟨r.toNat,by omega⟩
   obtain ⟨C,rfl⟩ : ∃ C : Nat,c = C:=⟨c.toNat,by omega⟩
   obtain ⟨J,rfl⟩ : ∃ J : Nat,col = J:=⟨col.toNat,by omega⟩
   have hmul : C * (R + 2) ≤ 1000 * 1002:=Nat.mul_le_mul (by omega) (by omega)
   have:=ref_turn_l0 hm (by omega) (by omega) (by omega) C (k - 1 - C * (R + 2)) 0 (by omega)
   rw [show k - 1 - C * (R + 2) + 1 + C * (R + 2) = k by omega,Nat.zero_mul] at this
   rw [← Int.natCast_mul,Int.toNat_natCast,show p.length = R by omega]
   exact this
  ·rw [Bool.not_eq_true] at h3
   rw [h3,show (!false) = true from rfl,bad,if_neg];unfold may;rw [h3];simp
 ·rw [if_neg h0,bad,if_neg];unfold may;simp [h0]
end Go.Proofs.Ytnagfbadjbkhmaa.PureBinsTurn

namespace Go.Proofs.Ytnagfbadjbkhmaa
open Go.RowKit Go.Proofs.YtnagfbadjbkhmaaW.PrintWords Go.Proofs.YtnagfbadjbkhmaaW.PrintLast Go.Proofs.YtnagfbadjbkhmaaW.PrintMore Go.Proofs.Ytnagfbadjbkhmaa.Pure Go.Proofs.Ytnagfbadjbkhmaa.PureBins Go.Proofs.Ytnagfbadjbkhmaa.PureBinsTurn Go.Proofs.Ytnagfbadjbkhmaa.PA
set_option linter.unusedVariables false
set_option linter.unusedSimpArgs false
namespace PureBinsBack
theorem rd_ne {p : List Int} (h : p.Nodup) {i j : Nat} (hi : i < p.length) (hj : j < p.length) (hne : i ≠ j) : rd p (i : Int) ≠ rd p (j : Int):=by
 rw [rd_nat p i hi,rd_nat p j hj]
 have hp:=List.pairwise_iff_getElem.1 h
 rcases Nat.lt_or_ge i j with hh|hh
 ·exact hp i j hi hj hh
 ·exact (hp j i hj hi (by omega)).symm
/-- What undoes a permutation. -/
def Undo (p x : List Int) (i : Nat) : Prop:=x.length = p.length ∧ ∀ j : Nat,j < i → rd x (rd p (j : Int)) = (j : Int)
theorem back_l0 {r c col : Int} {p l : List Int} (hp : Perm p r) (hm : p.length ≤ 200) (a b : Int) (T : List Int) : ∀ (d k i : Nat) (x : List Int),i + d = p.length → Undo p x i →
  ∃ y,Undo p y p.length ∧ hornbeamlaw11_BinsBack.l0 (k + 1 + d) col p x p p.length i r c l a b T = hornbeamlaw11_BinsBack.l0 (k + 1) col p y p p.length p.length r c l a b T:=by
 obtain ⟨h4,h5,h6⟩:=hp
 intro d
 induction d with
 | zero =>
  intro k i x e h
  obtain rfl : i = p.length:=by omega
  exact ⟨x,h,rfl⟩
 | succ d ih =>
  intro k i x e h
  have hi : i < p.length:=by omega
  obtain ⟨b0,b1⟩:=rd_in h5 i hi
  obtain ⟨n,hn⟩ : ∃ n : Nat,rd p (i : Int) = n:=⟨(rd p (i : Int)).toNat,by omega⟩
  have hU : Undo p (x.set (rd p (i : Int)).toNat i) (i + 1):=by
   refine ⟨by simpa using h.1,fun j hj=>?_⟩
   have hjl : j < p.length:=by omega
   obtain ⟨d0,d1⟩:=rd_in h5 j hjl
   obtain ⟨m,hmm⟩ : ∃ m : Nat,rd p (j : Int) = m:=⟨(rd p (j : Int)).toNat,by omega⟩
   rw [hn,hmm,Int.toNat_natCast,set_rd _ _ _ _ (by rw [h.1];omega)]
   by_cases e2 : n = m
   ·rw [if_pos e2]
    by_cases e3 : j = i
    ·rw [e3]
    ·exact absurd (by rw [hmm,hn,e2]) (rd_ne h6 hjl hi e3)
   ·rw [if_neg e2]
    have e3 : j ≠ i:=fun e3=>e2 (by rw [e3,hn] at hmm;omega)
    have:=h.2 j (by omega)
    rwa [hmm] at this
  obtain ⟨y,hy,ey⟩:=ih k (i + 1) _ (by omega) hU
  refine ⟨y,hy,?_⟩
  rw [← ey,show k + 1 + (d + 1) = (k + 1 + d) + 1 by omega,hornbeamlaw11_BinsBack.l0,if_pos (by omega),if_pos (by omega),if_pos (by omega),if_neg (by omega),if_neg (by omega),if_pos b0,if_pos (by rw [h.1];omega),wrap_in (by omega) (by omega)]
  rfl
theorem undo_perm {p y : List Int} {n : Nat} (hp : Perm p n) (h : Undo p y p.length) : Perm y n ∧ ∀ v : Nat,v < n → ∃ i : Nat,i < n ∧ rd p (i : Int) = v ∧ rd y (v : Int) = i:=by
 obtain ⟨h4,h5,h6⟩:=hp
 have hl : p.length = n:=by omega
 have hex : ∀ v : Nat,v < n → ∃ i : Nat,i < n ∧ rd p (i : Int) = v ∧ rd y (v : Int) = i:=by
  intro v hv
  have:=(perm_count p n hl).1 ⟨h4,h5,h6⟩ v hv
  have hmem : (v : Int) ∈ p:=List.count_pos_iff.1 (by omega)
  obtain ⟨i,hi,e⟩:=List.getElem_of_mem hmem
  have e2 : rd p (i : Int) = v:=by rw [rd_nat p i hi];exact e
  exact ⟨i,by omega,e2,by rw [← e2];exact h.2 i hi⟩
 refine ⟨⟨by rw [h.1];exact h4,fun x hx=>?_,?_⟩,hex⟩
 ·obtain ⟨v,hv,rfl⟩:=List.getElem_of_mem hx
  obtain ⟨i,h1,_,h3⟩:=hex v (by rw [← hl,← h.1];exact hv)
  rw [rd_nat y v hv] at h3
  omega
 ·rw [List.Nodup,List.pairwise_iff_getElem]
  intro i j hi hj hij e
  obtain ⟨a,a1,a2,a3⟩:=hex i (by rw [← hl,← h.1];exact hi)
  obtain ⟨b,b1,b2,b3⟩:=hex j (by rw [← hl,← h.1];exact hj)
  rw [rd_nat y i hi] at a3
  rw [rd_nat y j hj] at b3
  have : a = b:=by omega
  subst this
  rw [a2] at b2;omega
theorem undone {p y l : List Int} {n b : Nat} (hp : Perm p n) (h : Undo p y p.length) (hb : b + n ≤ l.length) : tr b y (tr b p l n) n = l:=by
 obtain ⟨_,hex⟩:=undo_perm hp h
 refine ext_rd (by simp [tr_len]) (fun j hj=>?_)
 rw [tr_len,tr_len] at hj
 rw [tr_rd _ _ _ _ _ (by rw [tr_len];exact hj)]
 by_cases e : b ≤ j ∧ j < b + n
 ·rw [if_pos e]
  obtain ⟨i,i1,i2,i3⟩:=hex (j - b) (by omega)
  rw [i3,show (b : Int) + (i : Int) = ((b + i : Nat) : Int) by omega,tr_rd _ _ _ _ _ (by omega),if_pos (by omega),show b + i - b = i by omega,i2,show (b : Int) + ((j - b : Nat) : Int) = (j : Int) by omega]
 ·rw [if_neg e,tr_rd _ _ _ _ _ hj,if_neg e]
end PureBinsBack
open PureBinsBack in
theorem Pure.BinsBack : hornbeamlaw11_BinsBack.Pure:=by
 rintro r c l col p ⟨hr,hc,hl1,hl2,hw⟩ h1 ⟨hp1,hp2,hwp⟩
 refine ⟨1300002,?_⟩
 unfold hornbeamlaw11_BinsBack.f
 rw [great_f,Option.bind_some]
 have fx : hornbeamlaw11_BinsBack.j0 1300002 col p true r c l = some true:=by
  rw [show 1300002 = 1300001 + 1 from rfl,hornbeamlaw11_BinsBack.j0,if_pos rfl,fixed_t (by omega)];rfl
 by_cases hgr : (decide ((l.length : Int) > 500) || (decide (c > 1000) && decide (r = 0) && decide ((l.length : Int) = 0))) = true
 ·rw [if_pos hgr];exact fx
 rw [if_neg hgr]
 by_cases hpl : (p.length : Int) > 200
 ·rw [decide_eq_true hpl];exact fx
 simp only [Bool.or_eq_true,Bool.and_eq_true,decide_eq_true_eq,not_or,not_and] at hgr
 have hm : l.length ≤ 500:=by omega
 rw [decide_eq_false hpl,show 1300002 = 1300001 + 1 from rfl,hornbeamlaw11_BinsBack.j0,if_neg (by decide),turn_f (by omega) hwp (by omega) _ (by omega),Option.bind_some]
 by_cases hmay : may r c col p l = true
 ·obtain ⟨a1,a2,a3,a4⟩:=may_is hmay
  obtain ⟨b1,b2,b3,b4,b5⟩:=right_is a1
  obtain ⟨n,rfl⟩ : ∃ n : Nat,r = n:=⟨r.toNat,by omega⟩
  have hpn : p.length = n:=by have:=a4.1;omega
  rw [if_pos hmay,if_pos rfl,if_pos (by omega),if_pos (by omega),Int.toNat_natCast]
  obtain ⟨y,hy,ey⟩:=back_l0 (c:=c) (col:=col) (l:=l) a4 (by omega) n c (tr (col * n).toNat p l p.length) p.length (1300000 - p.length) 0 (List.replicate p.length 0) (by omega) ⟨by simp,fun j hj=>by omega⟩
  rw [show 1300000 - p.length + 1 + p.length = 1300001 by omega] at ey
  refine Eq.trans ey ?_
  obtain ⟨yp,_⟩:=undo_perm a4 hy
  have hbd : (col * n).toNat + n ≤ l.length:=by
   have hs : (col + 1) * (n : Int) ≤ c * n:=Int.mul_le_mul_of_nonneg_right (by omega) (by omega)
   rw [Int.add_mul,Int.one_mul,Int.mul_comm c n] at hs
   have hn : 0 ≤ col * (n : Int):=Int.mul_nonneg a2 (by omega)
   omega
  have hund:=undone a4 hy hbd
  have hn200 : n ≤ 200:=by omega
  rw [hpn] at *
  have hTl : (tr (col * n).toNat p l n).length = l.length:=tr_len _ _ _ _
  have hmay2 : may n c col y (tr (col * n).toNat p l n) = true:=by
   unfold may
   have hr2 : rightM n c (tr (col * n).toNat p l n) = true:=by unfold rightM at a1 ⊢;rw [hTl];exact a1
   rw [hr2,(perm_iff y n).2 yp];simp;omega
  have hyl : y.length = n:=by have:=yp.1;omega
  rw [hornbeamlaw11_BinsBack.l0,if_neg (by omega),turn_f (by omega) (fun x hx=>by
   have:=yp.2.1 x hx
   simp [Lit.wf,IntKind.min,IntKind.max,IntKind.signed,IntKind.bits];omega) (by rw [hTl];omega) _ (by omega),Option.bind_some,fixed_t (by omega),Option.bind_some,if_pos rfl,if_pos hmay2,if_pos rfl,hyl,hund,same_f n c l (by omega) _ (by omega)]
  rfl
 ·rw [if_neg hmay,if_neg (by decide),fixed_t (by omega),Option.bind_some,if_pos rfl,ref_right_f,Option.bind_some]
  by_cases h0 : rightM r c l = true
  ·rw [if_pos h0]
   by_cases h2 : col < 0
   ·rw [if_pos h2]
   by_cases h3 : col ≥ c
   ·rw [if_neg h2,if_pos h3]
   rw [if_neg h2,if_neg h3,ref_permutes_f p r (by omega) _ (by omega),Option.bind_some]
   have : FPermutes.perm p r = false:=by
    rw [Bool.eq_false_iff]
    intro e
    exact hmay (by unfold may;rw [h0,e];simp;omega)
   rw [this];rfl
  ·rw [if_neg h0]
end Go.Proofs.Ytnagfbadjbkhmaa
