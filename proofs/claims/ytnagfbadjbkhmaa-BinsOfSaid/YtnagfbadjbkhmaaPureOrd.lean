/- The bins of a dataset: what Edges, Of, Cell and the document's order of values compute (for BinsOrder). -/
import Derived.Test.YtnagfbadjbkhmaaPureFlt
import Derived.Test.YtnagfbadjbkhmaaPBx1
import Derived.Test.YtnagfbadjbkhmaaPBx1
import Derived.Test.YtnagfbadjbkhmaaPBx3
import Derived.Test.YtnagfbadjbkhmaaPBx5
import Derived.Test.YtnagfbadjbkhmaaPBx6
import Derived.Test.YtnagfbadjbkhmaaPBx6
namespace Go.Proofs.Ytnagfbadjbkhmaa.PureOrd
open Go.RowKit Go.Proofs.YtnagfbadjbkhmaaW.PrintWords Go.Proofs.YtnagfbadjbkhmaaW.PrintLast Go.Proofs.YtnagfbadjbkhmaaW.PrintMore Go.Proofs.Ytnagfbadjbkhmaa.Pure Go.Proofs.Ytnagfbadjbkhmaa.PureFlt Go.Proofs.Ytnagfbadjbkhmaa.PB
set_option linter.unusedVariables false
set_option linter.unusedSimpArgs false
theorem val_zero : val 0 = 0:=rfl
theorem nan_zero : ¬ nan 0:=by decide
theorem num_word {a : Nat} (h : a < 18446744073709551616) (hn : ¬ nan a) :
  (a = 9223372036854775808 + rg a ∧ sg a = true ∧ val a = -(rg a : Int) ∨ a = rg a ∧ sg a = false ∧ val a = rg a) ∧ rg a ≤ 9218868437227405312:=by
 unfold nan at hn
 refine ⟨?_,by omega⟩
 rcases word_eq h with ⟨h1,h2⟩|⟨h1,h2⟩
 ·exact Or.inl ⟨h2,h1,val_neg h1⟩
 ·exact Or.inr ⟨h2,h1,val_pos h1⟩
def clean (a : Nat) : Nat:=if nan a then 9221120237041090561 else if val a = 0 then 0 else a
def key (a : Nat) : Int:=if nan a then 0 else if 0 ≤ val a then 9223372036854775808 + val a else 9223372036854775807 + val a
theorem missing (a : Nat) : rank_Missing.f a = some (decide (nan a)):=by
 unfold rank_Missing.f
 congr 1
 by_cases h : nan a
 ·have : Flt.eq a a = false:=by
   cases e : Flt.eq a a
   ·rfl
   ·exact absurd h (eq_iff.mp e).1
  rw [this];simp [h]
 ·rw [eq_iff.mpr ⟨h,h,rfl⟩];simp [h]
theorem eq_zero {a : Nat} (h : ¬ nan a) : (Flt.eq a 0 = true) = (val a = 0):=by
 rw [eq_iff];simp [h,nan_zero,val_zero]
theorem clean_f (a : Nat) : rank_Clean.f a = some (clean a):=by
 unfold rank_Clean.f clean
 rw [missing]
 show (if decide (nan a) = true then _ else _) = _
 by_cases h : nan a
 ·simp [h,Flt.fbits]
 ·simp only [h,decide_false,Bool.false_eq_true,if_false]
  by_cases e : val a = 0
  ·rw [if_pos (by rw [eq_zero h];exact e),if_pos e]
  ·rw [if_neg (by rw [eq_zero h];exact e),if_neg e]
theorem clean_lt {a : Nat} (h : a < 18446744073709551616) : clean a < 18446744073709551616:=by
 unfold clean;split
 ·decide
 ·split
  ·decide
  ·exact h
theorem key_f {a : Nat} (h : a < 18446744073709551616) : rank_Key.f a = some (key a):=by
 unfold rank_Key.f
 rw [missing,clean_f]
 show (if decide (nan a) = true then some 0 else _) = _
 by_cases hn : nan a
 ·simp [hn,key]
 ·have w:=num_word h hn
  simp only [hn,decide_false,Bool.false_eq_true,if_false,Option.bind_some]
  have c:=clean_lt h
  have es : ∀ x : Nat,Flt.ubits x = (x : Int):=fun _=>rfl
  rw [show Go.bits .and .u64 (Flt.ubits (clean a)) 9223372036854775808 = _ from and_sign _ c]
  simp only [es]
  have e : clean a = if val a = 0 then 0 else a:=by unfold clean;rw [if_neg hn]
  unfold key
  rw [if_neg hn]
  by_cases z : val a = 0
  ·rw [e,if_pos z]
   rw [if_pos (by decide),or_sign 0 (by decide),if_pos (by omega),z];rfl
  ·rw [e,if_neg z] 
   rcases w with ⟨⟨w1,w2,w3⟩|⟨w1,w2,w3⟩,w4⟩
   ·rw [if_pos (show 9223372036854775808 ≤ a by omega),if_neg (by decide),xor_ones a h,if_neg (by omega)]
    congr 1;omega
   ·rw [if_neg (show ¬ 9223372036854775808 ≤ a by omega),if_pos rfl,or_sign a (by omega),if_pos (by omega)]
    congr 1;omega
theorem ref_missing (a : Nat) : hornbeamref06_Missing.f a = some (decide (nan a)):=by
 unfold hornbeamref06_Missing.f
 by_cases h : nan a
 ·have h1 : ¬ Flt.le a 0 = true:=fun e=>(le_iff.mp e).1 h
  have h2 : Flt.ge a 0 = false:=by
   cases e : Flt.ge a 0
   ·rfl
   ·exact absurd h (ge_iff.mp e).1
  rw [if_neg h1,h2];simp [h]
 ·by_cases c : val a ≤ 0
  ·rw [if_pos (le_iff.mpr ⟨h,nan_zero,by rw [val_zero];exact c⟩)];simp [h]
  ·rw [if_neg (fun e=>c (by have:=(le_iff.mp e).2.2;rwa [val_zero] at this)),ge_iff.mpr ⟨h,nan_zero,by rw [val_zero];omega⟩];simp [h]
theorem cmp_u64 (a b : Int) : cmp_Compare_uint64.f a b = some (if a < b then -1 else if a > b then 1 else 0):=by
 unfold cmp_Compare_uint64.f cmp_isNaN_uint64.f
 simp only [Option.bind_some,bne_self_eq_false,Bool.false_eq_true,if_false]
 split
 ·rfl
 ·split <;> rfl
def cmp (a b : Nat) : Int:=if key a < key b then -1 else if key a > key b then 1 else 0
theorem cmp_f {a b : Nat} (ha : a < 18446744073709551616) (hb : b < 18446744073709551616) : rank_Cmp.f a b = some (cmp a b):=by
 unfold rank_Cmp.f
 rw [key_f ha,key_f hb]
 show (cmp_Compare_uint64.f (key a) (key b)).bind _ = _
 rw [cmp_u64];rfl
theorem key_pos {a : Nat} (h : a < 18446744073709551616) (hn : ¬ nan a) : 4503599627370495 ≤ key a ∧ key a ≤ 18442240474082181120 ∧ key a ≠ 9223372036854775807:=by
 have w:=num_word h hn
 unfold key;rw [if_neg hn]
 split <;> omega
theorem key_nan {a : Nat} (hn : nan a) : key a = 0:=by unfold key;rw [if_pos hn]
theorem key_lt {a b : Nat} (h : ¬ nan a) (h' : ¬ nan b) : key a < key b ↔ val a < val b:=by
 unfold key;rw [if_neg h,if_neg h'];split <;> split <;> omega
theorem ref_cmp {a b : Nat} (ha : a < 18446744073709551616) (hb : b < 18446744073709551616) (k : Nat) : hornbeamref06_Cmp.f (k + 1) a b = some (cmp a b):=by
 unfold hornbeamref06_Cmp.f
 rw [ref_missing,ref_missing]
 show (if decide (nan a) = true then _ else _) = _
 have ka:=@key_pos a ha;have kb:=@key_pos b hb
 by_cases hn : nan a <;> by_cases hm : nan b
 ·simp only [hn,hm,decide_true,if_true,Option.bind_some,hornbeamref06_Cmp.j0]
  unfold cmp;rw [key_nan hn,key_nan hm];rfl
 ·simp only [hn,hm,decide_true,decide_false,if_true,Option.bind_some,hornbeamref06_Cmp.j0,Bool.false_eq_true,if_false,ref_missing]
  have:=kb hm
  unfold cmp;rw [key_nan hn,if_pos (by omega)]
 ·simp only [hn,hm,decide_true,decide_false,if_true,Option.bind_some,hornbeamref06_Cmp.j0,Bool.false_eq_true,if_false,ref_missing]
  have:=ka hn
  unfold cmp;rw [key_nan hm,if_neg (by omega),if_pos (by omega)]
 ·simp only [hn,hm,decide_true,decide_false,if_true,Option.bind_some,hornbeamref06_Cmp.j0,Bool.false_eq_true,if_false,ref_missing]
  have l1:=key_lt hn hm;have l2:=key_lt hm hn
  unfold cmp
  by_cases c1 : val a < val b
  ·rw [if_pos (lt_iff.mpr ⟨hn,hm,c1⟩),if_pos (l1.mpr c1)]
  ·rw [if_neg (fun e=>c1 (lt_iff.mp e).2.2),if_neg (fun e=>c1 (l1.mp e))]
   by_cases c2 : val b < val a
   ·rw [if_pos (gt_iff.mpr ⟨hn,hm,c2⟩),if_pos (l2.mpr c2)]
   ·rw [if_neg (fun e=>c2 (gt_iff.mp e).2.2),if_neg (fun e=>c2 (l2.mp e))]
theorem ref_cmp' {a b : Nat} (ha : a < 18446744073709551616) (hb : b < 18446744073709551616) {k : Nat} (hk : 0 < k) : hornbeamref06_Cmp.f k a b = some (cmp a b):=by
 obtain ⟨k,rfl⟩ : ∃ m,k = m + 1:=⟨k - 1,by omega⟩
 exact ref_cmp ha hb k
theorem wf64 {x : Int} (h : (Lit.int .u64 x).wf = true) : 0 ≤ x ∧ x ≤ 18446744073709551615 ∧ Flt.fbits x < 18446744073709551616:=by
 have:=wf_u64 h;unfold Flt.fbits;omega
def W64 (l : List Nat) : Prop:=∀ x ∈ l,x < 18446744073709551616
theorem rdf (l : List Nat) (i : Nat) (h : i < l.length) : rdOf (0 : Nat) l (i : Int) = l[i]:=by simp [rdOf,h]
theorem of_l0 (l : List Int) (hl : l.length < 17592186044416) : ∀ (d k i : Nat) (acc : List Nat),i + d = l.length → d < k → acc.length = i →
  hornbeamref06_Of.l0 k l acc i = some (acc ++ (l.drop i).map Flt.fbits):=by
 intro d
 induction d with
 | zero =>
  intro k i acc h1 h2 h3
  obtain ⟨k,rfl⟩ : ∃ m,k = m + 1:=⟨k - 1,by omega⟩
  simp only [hornbeamref06_Of.l0]
  rw [if_neg (by omega),List.drop_eq_nil_of_le (by omega)];simp
 | succ d ih =>
  intro k i acc h1 h2 h3
  obtain ⟨k,rfl⟩ : ∃ m,k = m + 1:=⟨k - 1,by omega⟩
  simp only [hornbeamref06_Of.l0]
  rw [if_pos (by omega),if_pos (by omega),if_pos (by omega),wrap_in (by omega) (by omega)]
  have:=ih k (i + 1) (acc ++ [Flt.fbits (rd l i)]) (by omega) (by omega) (by simp;omega)
  rw [show ((i : Int) + 1) = ((i + 1 : Nat) : Int) by omega,this,drop_rd l i (by omega)]
  simp
theorem of_f (l : List Int) (hl : l.length < 17592186044416) (k : Nat) (hk : l.length < k) : hornbeamref06_Of.f k l = some (l.map Flt.fbits):=by
 unfold hornbeamref06_Of.f
 have:=of_l0 l hl l.length k 0 [] (by omega) hk rfl
 simpa using this
theorem of_w64 {l : List Int} (h : ∀ x ∈ l,(Lit.int .u64 x).wf = true) : W64 (l.map Flt.fbits):=by
 intro x hx
 obtain ⟨y,hy,rfl⟩:=List.mem_map.mp hx
 exact (wf64 (h y hy)).2.2
def cnt (f : Nat) (l : List Nat) : Nat:=l.countP (fun x=>decide (cmp x f ≤ 0))
def binT (e : List Nat) (f : Nat) : Int:=if nan f then 0 else 1 + (cnt f e : Int)
theorem cnt_cons (f x : Nat) (l : List Nat) : (cnt f (x :: l) : Int) = (if cmp x f ≤ 0 then 1 else 0) + (cnt f l : Int):=by
 unfold cnt
 rw [List.countP_cons]
 by_cases h : cmp x f ≤ 0 <;> simp [h] <;> omega
theorem bin_l0 (e : List Nat) (f : Nat) (he : W64 e) (hf : f < 18446744073709551616) (hl : e.length < 9223372036854775806) : ∀ (d k i : Nat) (n : Int),i + d = e.length → d < k → 0 ≤ n → n ≤ i + 1 →
  edges_Bin.l0 k f n e e.length i = some (n + cnt f (e.drop i)):=by
 intro d
 induction d with
 | zero =>
  intro k i n h1 h2 h3 h4
  obtain ⟨k,rfl⟩ : ∃ m,k = m + 1:=⟨k - 1,by omega⟩
  simp only [edges_Bin.l0]
  rw [if_neg (by omega),List.drop_eq_nil_of_le (by omega)];simp [cnt]
 | succ d ih =>
  intro k i n h1 h2 h3 h4
  obtain ⟨k,rfl⟩ : ∃ m,k = m + 1:=⟨k - 1,by omega⟩
  have hi : i < e.length:=by omega
  simp only [edges_Bin.l0]
  rw [if_pos (by omega),if_pos (by omega),if_pos (by omega),wrap_in (by omega) (by omega),wrap_in (by omega) (by omega),rdf e i hi,
   cmp_f (he _ (List.getElem_mem hi)) hf,Option.bind_some,List.drop_eq_getElem_cons hi,cnt_cons,show ((i : Int) + 1) = ((i + 1 : Nat) : Int) by omega]
  by_cases c : cmp e[i] f ≤ 0
  ·rw [if_pos c,if_pos c,ih k (i + 1) (n + 1) (by omega) (by omega) (by omega) (by omega)];congr 1;omega
  ·rw [if_neg c,if_neg c,ih k (i + 1) n (by omega) (by omega) (by omega) (by omega)];congr 1;omega
theorem bin_f (e : List Nat) (f : Nat) (he : W64 e) (hf : f < 18446744073709551616) (hl : e.length < 9223372036854775806) (k : Nat) (hk : e.length < k) : edges_Bin.f k e f = some (binT e f):=by
 unfold edges_Bin.f binT
 rw [missing]
 show (if decide (nan f) = true then _ else _) = _
 by_cases h : nan f
 ·simp [h]
 ·simp only [h,decide_false,Bool.false_eq_true,if_false]
  have:=bin_l0 e f he hf hl e.length k 0 1 (by omega) hk (by omega) (by omega)
  simpa using this
theorem cmp_neg {a b : Nat} : cmp a b < 0 ↔ key a < key b:=by unfold cmp;repeat(first|omega|split)
theorem cmp_le {a b : Nat} : cmp a b ≤ 0 ↔ key a ≤ key b:=by unfold cmp;repeat(first|omega|split)
theorem cnt_len (f : Nat) (e : List Nat) : cnt f e ≤ e.length:=List.countP_le_length
abbrev le (a b : Nat) : Prop:=key a ≤ key b
theorem gd (l : List Nat) (i : Nat) (h : i < l.length) : l.getD i 0 = l[i]:=by simp [List.getD_eq_getElem?_getD,h]
theorem getD_w {l : List Nat} (h : W64 l) (i : Nat) : l.getD i 0 < 18446744073709551616:=by
 by_cases hi : i < l.length
 ·rw [gd l i hi];exact h _ (List.getElem_mem hi)
 ·rw [List.getD_eq_getElem?_getD,List.getElem?_eq_none (by omega)];decide
theorem ky_eq {x : Nat} (h : x < 18446744073709551616) : SortF.ky x = key x:=by unfold SortF.ky;rw [key_f h];rfl
theorem sort_l0 (l : List Nat) (hm : l.length < 17592186044416) : ∀ (d k i : Nat) (acc : List Nat),i + d = l.length → d < k → acc.length = i →
  rank_Sort.l0 k acc l l.length i = some (FSort.sortT SortF.cf (acc ++ (l.drop i).map clean)):=by
 intro d
 induction d with
 | zero =>
  intro k i acc h1 h2 h3
  obtain ⟨k,rfl⟩ : ∃ m,k = m + 1:=⟨k - 1,by omega⟩
  rw [rank_Sort.l0,if_neg (by omega),if_pos (by omega),List.drop_eq_nil_of_le (by omega)];simp
 | succ d ih =>
  intro k i acc h1 h2 h3
  obtain ⟨k,rfl⟩ : ∃ m,k = m + 1:=⟨k - 1,by omega⟩
  have hi : i < l.length:=by omega
  rw [rank_Sort.l0,if_pos (by omega),if_pos (by omega),if_pos (by omega),rdf l i hi,clean_f,Option.bind_some,if_pos (by omega),wrap_in (by omega) (by omega),
   show ((i : Int) + 1) = ((i + 1 : Nat) : Int) by omega,ih k (i + 1) _ (by omega) (by omega) (by simp;omega)]
  rw [show l.drop i = _ from List.drop_eq_getElem_cons hi]
  simp only [List.map_cons,List.append_assoc,List.singleton_append]
theorem sort_f (l : List Nat) (hm : l.length < 17592186044416) (k : Nat) (hk : l.length < k) : rank_Sort.f k l = some (FSort.sortT SortF.cf (l.map clean)):=by
 unfold rank_Sort.f
 have:=sort_l0 l hm l.length k 0 [] (by omega) hk rfl
 simpa using this
theorem sortT_spec (l : List Nat) (hl : W64 l) : (FSort.sortT SortF.cf l).Perm l ∧ (FSort.sortT SortF.cf l).Pairwise le:=by
 have h:=Go.Sort.pdq_sorts (Go.Proofs.ltOf SortF.cf) SortF.swo l.toArray 0 l.toArray.size (Lib.bitLen l.toArray.size) true true (Nat.zero_le _) (Nat.le_refl _) (Or.inl rfl)
 unfold FSort.sortT
 generalize Go.Sort.pdq (Go.Proofs.ltOf SortF.cf) l.toArray 0 l.toArray.size (Lib.bitLen l.toArray.size) true true = d' at h
 obtain ⟨⟨hs,_,hp⟩,hso⟩:=h
 have hsz : d'.size = l.length:=by rw [hs];simp
 have hp' : d'.toList.Perm l:=by
  rw [← hs] at hp
  have e1 : d'.extract 0 d'.size = d':=by simp
  rw [e1,hs] at hp
  have e2 : l.toArray.extract 0 l.toArray.size = l.toArray:=by simp
  rw [e2] at hp;simpa using hp
 refine ⟨hp',?_⟩
 rw [List.pairwise_iff_getElem]
 intro i j hi hj hij
 have hi' : i < d'.size:=by simpa using hi
 have hj' : j < d'.size:=by simpa using hj
 have:=hso i j (Nat.zero_le _) hij (by rw [← hs];exact hj')
 rw [SortF.lt_eq,getElem!_pos d' i hi',getElem!_pos d' j hj'] at this
 have:=of_decide_eq_false this
 have wi : d'[i] < 18446744073709551616:=hl _ (hp'.mem_iff.mp (by simp))
 have wj : d'[j] < 18446744073709551616:=hl _ (hp'.mem_iff.mp (by simp))
 rw [ky_eq wi,ky_eq wj] at this
 show key d'.toList[i] ≤ key d'.toList[j]
 rw [Array.getElem_toList,Array.getElem_toList];omega
theorem cnt_mono (e : List Nat) {f g : Nat} (h : key f ≤ key g) : cnt f e ≤ cnt g e:=by
 unfold cnt
 refine List.countP_mono_left fun x _ hx=>?_
 have:=cmp_le.1 (of_decide_eq_true hx)
 exact decide_eq_true (cmp_le.2 (by omega))
theorem nan_key {f : Nat} (h : f < 18446744073709551616) : nan f ↔ key f = 0:=⟨key_nan,fun e=>by
 by_cases n : nan f
 ·exact n
 ·have:=(key_pos h n).1;omega⟩
theorem bin_mono (e : List Nat) {f g : Nat} (hf : f < 18446744073709551616) (hg : g < 18446744073709551616) (h : key f ≤ key g) : binT e f ≤ binT e g:=by
 have:=cnt_mono e h
 unfold binT
 by_cases n : nan f
 ·rw [if_pos n];split <;> omega
 ·have n2 : ¬ nan g:=fun q=>by have:=(nan_key hg).1 q;have:=(key_pos hf n).1;omega
  rw [if_neg n,if_neg n2];omega
theorem bin_range (e : List Nat) (f : Nat) : 0 ≤ binT e f ∧ binT e f ≤ e.length + 1:=by
 have:=cnt_len f e
 unfold binT;split <;> omega
def there (l : List Nat) : List Nat:=(FSort.sortT SortF.cf (l.map clean)).filter fun x=>!decide (nan x)
theorem clean_all {l : List Nat} (hl : W64 l) : W64 (l.map clean):=by
 intro x hx;obtain ⟨y,hy,rfl⟩:=List.mem_map.mp hx;exact clean_lt (hl y hy)
theorem there_mem {l : List Nat} (hl : W64 l) {x : Nat} : x ∈ there l ↔ (∃ y ∈ l,clean y = x) ∧ ¬ nan x:=by
 have s:=(sortT_spec _ (clean_all hl)).1
 unfold there
 rw [List.mem_filter,s.mem_iff,List.mem_map];simp
theorem there_w {l : List Nat} (hl : W64 l) : W64 (there l):=by
 intro x hx;obtain ⟨⟨y,hy,rfl⟩,_⟩:=(there_mem hl).1 hx;exact clean_lt (hl y hy)
theorem there_len {l : List Nat} (hl : W64 l) : (there l).length ≤ l.length:=by
 have s:=(sortT_spec _ (clean_all hl)).1.length_eq
 have:=List.length_filter_le (fun x=>!decide (nan x)) (FSort.sortT SortF.cf (l.map clean))
 unfold there;simp at s;omega
theorem edgesof_f (l : List Nat) (hl : W64 l) (hm : l.length ≤ 1000) (a1 : Int) : edges_Of.f l a1 = some (if a1 < 2 ∨ 256 < a1 then [] else edges_Of.cut (there l) a1.toNat):=by
 unfold edges_Of.f
 by_cases h : a1 < 2 ∨ 256 < a1
 ·rw [if_pos h,if_pos h]
 ·rw [if_neg h,if_neg h,sort_f l (by omega) _ (by omega),Option.bind_some]
  have e : FDel.kept edges_Of.miss (FSort.sortT SortF.cf (l.map clean)) = there l:=by
   unfold FDel.kept there
   congr 1;funext x;unfold edges_Of.miss;rw [missing];rfl
  rw [e,if_pos (by have:=there_len hl;omega)]
theorem beqd (a b : Int) : (a == b) = decide (a = b):=by
 by_cases h : a = b <;> simp [h]
def shp (r c : Int) (n : Nat) : Bool:=decide (0 ≤ r) && decide (r ≤ 16777216) && decide (0 ≤ c) && decide (c ≤ 16777216) && decide ((n : Int) = wrap64 (r * c))
theorem shp_is {r c : Int} {n : Nat} (h : shp r c n = true) : 0 ≤ r ∧ r ≤ 16777216 ∧ 0 ≤ c ∧ c ≤ 16777216 ∧ (n : Int) = r * c:=by
 simp only [shp,Bool.and_eq_true,decide_eq_true_eq] at h
 obtain ⟨⟨⟨⟨h1,h2⟩,h3⟩,h4⟩,h5⟩:=h
 have hm : r * c ≤ 16777216 * 16777216:=Int.mul_le_mul h2 h4 h3 (by decide)
 have hn : 0 ≤ r * c:=Int.mul_nonneg h1 h3
 refine ⟨h1,h2,h3,h4,?_⟩
 rw [h5,wrap_in (by omega) (by omega)]
def col (R : Nat) (l : List Nat) (j : Nat) : List Nat:=(l.take ((j + 1) * R)).drop (j * R)
theorem cut_in {R C j : Nat} {n : Nat} (h : shp R C n = true) (hj : j < C) :
  wrap64 ((j : Int) * (R : Int)) = ((j * R : Nat) : Int) ∧ wrap64 (wrap64 ((j : Int) + 1) * (R : Int)) = (((j + 1) * R : Nat) : Int) ∧ (j + 1) * R ≤ n:=by
 obtain ⟨_,h2,_,h4,h5⟩:=shp_is h
 have hs : (j + 1) * R ≤ C * R:=Nat.mul_le_mul_right R hj
 have h0 : j * R ≤ (j + 1) * R:=Nat.mul_le_mul_right R (Nat.le_succ j)
 have h5' : n = R * C:=by rw [← Int.natCast_mul] at h5;omega
 have hb : C * R ≤ 16777216 * 16777216:=Nat.mul_le_mul (by omega) (by omega)
 rw [Nat.mul_comm R C] at h5'
 refine ⟨?_,?_,by omega⟩
 ·rw [← Int.natCast_mul,wrap_in (by omega) (by omega)]
 ·rw [wrap_in (i:=(j : Int) + 1) (by omega) (by omega),show (j : Int) + 1 = ((j + 1 : Nat) : Int) by omega,← Int.natCast_mul,wrap_in (by omega) (by omega)]
theorem col_length {R C j : Nat} {l : List Nat} (h : shp R C l.length = true) (hj : j < C) : (col R l j).length = R:=by
 have:=(cut_in h hj).2.2
 have e : (j + 1) * R = j * R + R:=Nat.succ_mul j R
 simp only [col,List.length_drop,List.length_take];omega
theorem place_in {R C i j : Nat} {n : Nat} (h : shp R C n = true) (hj : j < C) (hi : i < R) :
  wrap64 (wrap64 ((j : Int) * (R : Int)) + (i : Int)) = ((j * R + i : Nat) : Int) ∧ j * R + i < n:=by
 obtain ⟨c1,c2,c3⟩:=cut_in h hj
 obtain ⟨_,h2,_,h4,h5⟩:=shp_is h
 have hb : (C : Nat) * R ≤ 16777216 * 16777216:=Nat.mul_le_mul (by omega) (by omega)
 have h5' : n = R * C:=by rw [← Int.natCast_mul] at h5;omega
 rw [Nat.mul_comm R C] at h5'
 have e : (j + 1) * R = j * R + R:=Nat.succ_mul j R
 refine ⟨?_,by omega⟩
 rw [c1,wrap_in (by omega) (by omega)];omega
section
variable (a0 a1 a2 a3 a4 a5 a6 r c : Int) (l : List Nat) (t : List Int)
theorem shaped_f : dataset_shaped.f a0 a1 a2 a3 a4 a5 a6 r c l t = some (shp r c l.length):=by
 unfold dataset_shaped.f shp
 by_cases h1 : r ≥ 0 <;> by_cases h2 : r ≤ 16777216 <;> by_cases h3 : c ≥ 0 <;> by_cases h4 : c ≤ 16777216 <;> simp [h1,h2,h3,h4,beqd]
theorem clone_f (l : List Nat) (hl : l.length < 17592186044416) : slices_Clone_float64_float64.f l = some l:=by
 unfold slices_Clone_float64_float64.f
 simp [hl]
theorem column_f {R C j : Nat} (h : shp R C l.length = true) (hj : j < C) (hl : l.length < 17592186044416) :
  dataset_Column.f a0 a1 a2 a3 a4 a5 a6 R C l t j = some (col R l j):=by
 obtain ⟨c1,c2,c3⟩:=cut_in h hj
 have e : (j + 1) * R = j * R + R:=Nat.succ_mul j R
 unfold dataset_Column.f
 rw [shaped_f,Option.bind_some,if_pos h,if_neg (by omega),if_neg (by omega),c1,c2,if_pos (by omega),if_pos (by omega),if_pos (by omega)]
 rw [Int.toNat_natCast,Int.toNat_natCast,clone_f _ (by simp only [List.length_drop,List.length_take];omega)];rfl
end
section
variable (a0 a1 a2 a3 a4 a5 a6 r c : Int) (l : List Int) (t : List Int)
theorem full_f (k : Nat) (hk : l.length < k) (hl : l.length < 17592186044416) (ht : t.length < 17592186044416) :
  hornbeamref09_Plain_Full.f k a0 a1 a2 a3 a4 a5 a6 r c l t = some (a0,a1,a2,a3,a4,a5,a6,r,c,l.map Flt.fbits,t):=by
 unfold hornbeamref09_Plain_Full.f
 rw [of_f l hl k hk]
 simp [ht]
theorem great_f : hornbeamlaw09_Great.f a0 a1 a2 a3 a4 a5 a6 r c l t = some (decide (500 < l.length) || decide (200 < t.length)):=by
 unfold hornbeamlaw09_Great.f
 by_cases h : (l.length : Int) > 500
 ·rw [if_pos h];simp;omega
 ·rw [if_neg h]
  have h1 : ¬ 500 < l.length:=by omega
  simp only [h1,decide_false,Bool.false_or]
  congr 1;apply decide_eq_decide.mpr;omega
end
/-- The edges of values. -/
def edg (l : List Nat) (b : Int) : List Nat:=if b < 2 ∨ 256 < b then [] else edges_Of.cut (there l) b.toNat
theorem run_w {s : List Nat} (hs : W64 s) : ∀ (ps : List (Fin s.length)) (z : Nat × List Nat),z.1 < 18446744073709551616 → W64 z.2 → W64 (ps.foldl (fun z i=>edges_Of.step s z i.1) z).2
 | [],z,h1,h2=>h2
 | i :: ps,z,h1,h2=>by
  rw [List.foldl_cons]
  unfold edges_Of.step
  split
  ·refine run_w hs ps _ (getD_w hs _) ?_
   intro x hx
   rcases List.mem_append.1 hx with h|h
   ·exact h2 x h
   ·rw [List.mem_singleton.1 h];exact getD_w hs _
  ·exact run_w hs ps z h1 h2
theorem edg_w {l : List Nat} (hl : W64 l) (b : Int) : W64 (edg l b):=by
 unfold edg
 split
 ·intro x hx;cases hx
 ·unfold edges_Of.cut
  split
  ·exact run_w (there_w hl) _ _ (getD_w (there_w hl) _) (fun x hx=>by cases hx)
  ·intro x hx;cases hx
theorem edg_len (l : List Nat) (b : Int) : (edg l b).length ≤ 300:=by
 unfold edg
 split
 ·simp
 ·unfold edges_Of.cut
  split
  ·refine Nat.le_trans (edges_Of.run_len _ _) ?_
   rw [FPlaces.places_len];omega
  ·simp
/-- A row's bin. -/
def cell (e : List Nat) (f : Nat) : Int:=IntKind.u16.wrap (mn (binT e f) 65535)
theorem cell_is (l : List Nat) (b : Int) (f : Nat) : cell (edg l b) f = binT (edg l b) f:=by
 have h:=bin_range (edg l b) f
 have h2:=edg_len l b
 unfold cell
 rw [show mn (binT (edg l b) f) 65535 = binT (edg l b) f by unfold mn;split <;> omega]
 simp only [IntKind.wrap,IntKind.bits,IntKind.signed]
 simp
 omega
/-- All columns' edges. -/
def eds (R C : Nat) (l : List Nat) (b : Int) : List (List Nat):=(List.range C).map fun j=>edg (col R l j) b
theorem eds_len (R C : Nat) (l : List Nat) (b : Int) : (eds R C l b).length = C:=by simp [eds]
theorem eds_get (R C : Nat) (l : List Nat) (b : Int) {j : Nat} (hj : j < C) : (eds R C l b).getD j [] = edg (col R l j) b:=by simp [eds,hj]
/-- All cells. -/
def cellAt (R : Nat) (l : List Nat) (b : Int) (p : Nat) : Int:=cell (edg (col R l (p / R)) b) (l.getD p 0)
def cells (R n : Nat) (l : List Nat) (b : Int) : List Int:=(List.range n).map (cellAt R l b)
theorem cells_len (R n : Nat) (l : List Nat) (b : Int) : (cells R n l b).length = n:=by simp [cells]
theorem cells_succ (R n : Nat) (l : List Nat) (b : Int) : cells R (n + 1) l b = cells R n l b ++ [cellAt R l b n]:=by simp [cells,List.range_succ]
theorem col_w {R : Nat} {l : List Nat} (hl : W64 l) (j : Nat) : W64 (col R l j):=fun x hx=>hl x (List.mem_of_mem_take (List.mem_of_mem_drop hx))
theorem col_get {R C : Nat} {l : List Nat} (h : shp R C l.length = true) {i j : Nat} (hj : j < C) (hi : i < R) : (col R l j).getD i 0 = l.getD (j * R + i) 0:=by
 have:=(cut_in h hj).2.2
 have e : (j + 1) * R = j * R + R:=Nat.succ_mul j R
 simp only [col,List.getD_eq_getElem?_getD,List.getElem?_drop,List.getElem?_take]
 rw [if_pos (by omega)]
section
variable (a0 a1 a2 a3 a4 a5 a6 r c : Int) (l : List Nat) (t : List Int)
theorem bshaped_f : bins_shaped.f a0 a1 a2 a3 a4 a5 a6 r c l t = some (shp r c l.length):=by
 unfold bins_shaped.f bins_count.f shp
 by_cases h1 : r ≥ 0 <;> by_cases h2 : r ≤ 16777216 <;> by_cases h3 : c ≥ 0 <;> by_cases h4 : c ≤ 16777216 <;> simp [h1,h2,h3,h4,beqd]
theorem edges_none (h : shp r c l.length = false) (k : Nat) : bins_Edges.f k a0 a1 a2 a3 a4 a5 a6 r c l t = some []:=by
 unfold bins_Edges.f
 rw [bshaped_f,h];rfl
theorem edges_l0 {R C : Nat} (h : shp R C l.length = true) (hl : l.length ≤ 500) (hw : W64 l) : ∀ (d k j : Nat) (acc : List (List Nat)),j + d = C → d < k → acc = (List.range j).map (fun j=>edg (col R l j) a2) →
  bins_Edges.l0 k acc C j a0 a1 a2 a3 a4 a5 a6 R C l t = some (eds R C l a2):=by
 have hC : C ≤ 16777216:=by have:=shp_is h;omega
 intro d
 induction d with
 | zero =>
  intro k j acc h1 h2 h3
  obtain ⟨k,rfl⟩ : ∃ m,k = m + 1:=⟨k - 1,by omega⟩
  obtain rfl : j = C:=by omega
  rw [bins_Edges.l0,if_neg (by omega),h3];rfl
 | succ d ih =>
  intro k j acc h1 h2 h3
  obtain ⟨k,rfl⟩ : ∃ m,k = m + 1:=⟨k - 1,by omega⟩
  have hj : j < C:=by omega
  have hcl:=col_length h hj
  have hcut:=(cut_in h hj).2.2
  have e : (j + 1) * R = j * R + R:=Nat.succ_mul j R
  have hlen : acc.length = j:=by rw [h3];simp
  rw [bins_Edges.l0,if_pos (by omega),column_f a0 a1 a2 a3 a4 a5 a6 l t h hj (by omega),Option.bind_some,edgesof_f _ (col_w hw j) (by omega),Option.bind_some,if_pos (by omega),wrap_in (by omega) (by omega),show (j : Int) + 1 = ((j + 1 : Nat) : Int) by omega]
  refine ih k (j + 1) _ (by omega) (by omega) ?_
  rw [h3,List.range_succ,List.map_append];rfl
theorem edges_f {R C : Nat} (h : shp R C l.length = true) (hl : l.length ≤ 500) (hw : W64 l) (k : Nat) (hk : C < k) : bins_Edges.f k a0 a1 a2 a3 a4 a5 a6 R C l t = some (eds R C l a2):=by
 unfold bins_Edges.f
 rw [bshaped_f,h]
 exact edges_l0 a0 a1 a2 a3 a4 a5 a6 l t h hl hw C k 0 [] (by omega) hk rfl
theorem bof_none (h : shp r c l.length = false) (x : List (List Nat)) (k : Nat) (hk : 0 < k) : bins_Of.f k a0 a1 a2 a3 a4 a5 a6 r c l t x = some (0,0,[],8):=by
 obtain ⟨k,rfl⟩ : ∃ m,k = m + 1:=⟨k - 1,by omega⟩
 unfold bins_Of.f
 rw [bshaped_f,h,Option.bind_some,if_neg (by decide),bins_Of.j0,if_pos rfl]
theorem bof_l1 {R C : Nat} (h : shp R C l.length = true) (hl : l.length ≤ 500) (hw : W64 l) {j : Nat} (hj : j < C) : ∀ (d k i : Nat),i + d = R → d + 400 < k →
  bins_Of.l1 k (edg (col R l j) a2) (eds R C l a2) C j (col R l j) R i a0 a1 a2 a3 a4 a5 a6 R C l t R C (cells R (j * R + i) l a2) = bins_Of.l0 (k - d - 1) (eds R C l a2) C (wrap64 ((j : Int) + 1)) a0 a1 a2 a3 a4 a5 a6 R C l t R C (cells R ((j + 1) * R) l a2):=by
 have hcl:=col_length h hj
 have hcut:=(cut_in h hj).2.2
 have e : (j + 1) * R = j * R + R:=Nat.succ_mul j R
 have hel:=edg_len (col R l j) a2
 intro d
 induction d with
 | zero =>
  intro k i h1 h2
  obtain ⟨k,rfl⟩ : ∃ m,k = m + 1:=⟨k - 1,by omega⟩
  obtain rfl : i = R:=by omega
  rw [bins_Of.l1,if_neg (by omega),e,Nat.sub_zero,Nat.add_sub_cancel]
 | succ d ih =>
  intro k i h1 h2
  obtain ⟨k,rfl⟩ : ∃ m,k = m + 1:=⟨k - 1,by omega⟩
  have hi : i < R:=by omega
  have hp : (j * R + i) / R = j:=by
   rw [Nat.mul_comm,Nat.mul_add_div (by omega),Nat.div_eq_of_lt hi,Nat.add_zero]
  rw [bins_Of.l1,if_pos (by omega),if_pos (by omega),if_pos (by omega),rdf _ i (by omega),← gd _ i (by omega),bin_f _ _ (edg_w (col_w hw j) a2) (getD_w (col_w hw j) i) (by omega) k (by omega),Option.bind_some,
   if_pos (by rw [cells_len];omega),wrap_in (i:=(i : Int) + 1) (by omega) (by omega),show (i : Int) + 1 = ((i + 1 : Nat) : Int) by omega]
  have hc : IntKind.u16.wrap (mn (binT (edg (col R l j) a2) ((col R l j).getD i 0)) 65535) = cellAt R l a2 (j * R + i):=by
   unfold cellAt cell;rw [hp,col_get h hj hi]
  rw [hc,← cells_succ,Nat.add_assoc,ih k (i + 1) (by omega) (by omega),show k + 1 - (d + 1) - 1 = k - d - 1 by omega]
theorem bof_l0 {R C : Nat} (h : shp R C l.length = true) (hl : l.length ≤ 500) (hw : W64 l) : ∀ (d k j : Nat),j + d = C → d * (R + 2) + 500 < k →
  bins_Of.l0 k (eds R C l a2) C j a0 a1 a2 a3 a4 a5 a6 R C l t R C (cells R (j * R) l a2) = some ((R : Int),(C : Int),cells R (C * R) l a2,0):=by
 have hC : C ≤ 16777216:=by have:=shp_is h;omega
 have hlen:=eds_len R C l a2
 intro d
 induction d with
 | zero =>
  intro k j h1 h2
  obtain ⟨k,rfl⟩ : ∃ m,k = m + 1:=⟨k - 1,by omega⟩
  obtain rfl : j = C:=by omega
  rw [bins_Of.l0,if_neg (by omega)]
 | succ d ih =>
  intro k j h1 h2
  obtain ⟨k,rfl⟩ : ∃ m,k = m + 1:=⟨k - 1,by omega⟩
  have hj : j < C:=by omega
  have hcl:=col_length h hj
  obtain ⟨c1,c2,c3⟩:=cut_in h hj
  have e : (j + 1) * R = j * R + R:=Nat.succ_mul j R
  rw [Nat.succ_mul] at h2
  have hrd : rd_L7 (eds R C l a2) (j : Int) = edg (col R l j) a2:=by
   rw [← eds_get R C l a2 hj];simp [rd_L7,rdOf]
  rw [bins_Of.l0,if_pos (by omega),if_pos (by omega),if_pos (by omega),c1,c2,if_pos (by omega),if_pos (by omega),if_pos (by omega),hrd,Int.toNat_natCast,Int.toNat_natCast]
  have hh:=bof_l1 a0 a1 a2 a3 a4 a5 a6 l t h hl hw hj R k 0 (by omega) (by omega)
  rw [Nat.add_zero] at hh
  have hcl2 : (((l.take ((j + 1) * R)).drop (j * R)).length : Int) = (R : Int):=by
   have:=hcl;unfold col at this;omega
  rw [hcl2]
  refine hh.trans ?_
  rw [wrap_in (i:=(j : Int) + 1) (by omega) (by omega),show (j : Int) + 1 = ((j + 1 : Nat) : Int) by omega]
  exact ih _ (j + 1) (by omega) (by omega)
theorem bof_f {R C : Nat} (h : shp R C l.length = true) (hl : l.length ≤ 500) (hw : W64 l) (k : Nat) (hk : C * (R + 2) + 501 < k) : bins_Of.f k a0 a1 a2 a3 a4 a5 a6 R C l t (eds R C l a2) = some ((R : Int),(C : Int),cells R (C * R) l a2,0):=by
 obtain ⟨k,rfl⟩ : ∃ m,k = m + 1:=⟨k - 1,by omega⟩
 unfold bins_Of.f
 rw [bshaped_f,h,Option.bind_some,if_pos rfl,bins_Of.j0,if_neg (by rw [eds_len];simp),eds_len]
 have:=bof_l0 a0 a1 a2 a3 a4 a5 a6 l t h hl hw C k 0 (by omega) (by omega)
 rw [Nat.zero_mul] at this
 exact this
end
theorem right_f (r c : Int) (l : List Int) : bins_Right.f r c l = some (shp r c l.length):=by
 unfold bins_Right.f bins_count.f shp
 by_cases h1 : r ≥ 0 <;> by_cases h2 : r ≤ 16777216 <;> by_cases h3 : c ≥ 0 <;> by_cases h4 : c ≤ 16777216 <;> simp [h1,h2,h3,h4,beqd]
/-- The bin of a row in a column. -/
def bn (R : Nat) (l : List Nat) (b : Int) (i j : Nat) : Int:=binT (edg (col R l j) b) (l.getD (j * R + i) 0)
theorem bn_range (R : Nat) (l : List Nat) (b : Int) (i j : Nat) : 0 ≤ bn R l b i j ∧ bn R l b i j ≤ 301:=by
 have h:=bin_range (edg (col R l j) b) (l.getD (j * R + i) 0)
 have h2:=edg_len (col R l j) b
 unfold bn;omega
theorem cell_f {R C : Nat} {l : List Nat} (h : shp R C l.length = true) (b : Int) {i j : Nat} (hj : j < C) (hi : i < R) : bins_Cell.f R C (cells R (C * R) l b) i j = some (bn R l b i j,true):=by
 obtain ⟨p1,p2⟩:=place_in h hj hi
 obtain ⟨_,_,_,_,h5⟩:=shp_is h
 have hn : l.length = C * R:=by rw [← Int.natCast_mul] at h5;rw [Nat.mul_comm];omega
 have hs : shp R C (cells R (C * R) l b).length = true:=by rw [cells_len,← hn];exact h
 have hp : (j * R + i) / R = j:=by
  rw [Nat.mul_comm,Nat.mul_add_div (by omega),Nat.div_eq_of_lt hi,Nat.add_zero]
 have hr:=bn_range R l b i j
 unfold bins_Cell.f
 rw [right_f,hs,Option.bind_some,if_pos rfl,if_neg (by omega),if_neg (by omega),if_neg (by omega),if_neg (by omega),p1,if_pos (by omega),if_pos (by rw [cells_len];omega)]
 have hv : rd (cells R (C * R) l b) ((j * R + i : Nat) : Int) = bn R l b i j:=by
  rw [rd_nat _ _ (by rw [cells_len];omega)]
  simp only [cells,List.getElem_map,List.getElem_range]
  unfold cellAt bn;rw [hp,cell_is]
 rw [hv,wrap_in (by omega) (by omega)]
theorem missing_f (a : Nat) : hornbeamref06_Missing.f a = some (decide (nan a)):=ref_missing a
/-- The six tests. -/
theorem zero_iff {R C : Nat} {l : List Nat} (b : Int) (i j : Nat) : (decide (bn R l b i j = 0)) = decide (nan (l.getD (j * R + i) 0)):=by
 unfold bn binT
 by_cases h : nan (l.getD (j * R + i) 0)
 ·rw [if_pos h,decide_eq_true h];rfl
 ·rw [if_neg h,decide_eq_false h];exact decide_eq_false (by omega)
theorem order_lt {R : Nat} {l : List Nat} (hw : W64 l) (b : Int) {i k j : Nat} (h : cmp (l.getD (j * R + i) 0) (l.getD (j * R + k) 0) ≤ 0) : bn R l b i j ≤ bn R l b k j :=
 bin_mono _ (getD_w hw _) (getD_w hw _) (cmp_le.1 h)
theorem cmp_ge {a b : Nat} : 0 ≤ cmp a b ↔ key b ≤ key a:=by unfold cmp;repeat(first|omega|split)
theorem order_gt {R : Nat} {l : List Nat} (hw : W64 l) (b : Int) {i k j : Nat} (h : 0 ≤ cmp (l.getD (j * R + i) 0) (l.getD (j * R + k) 0)) : bn R l b k j ≤ bn R l b i j :=
 bin_mono _ (getD_w hw _) (getD_w hw _) (cmp_ge.1 h)
theorem cmp_range (a b : Nat) : -1 ≤ cmp a b ∧ cmp a b ≤ 1:=by unfold cmp;repeat(first|omega|split)

end Go.Proofs.Ytnagfbadjbkhmaa.PureOrd
