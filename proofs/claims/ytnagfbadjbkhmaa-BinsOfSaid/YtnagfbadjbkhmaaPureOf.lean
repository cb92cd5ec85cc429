/- The document's edges, and both matrices by any edges (for BinsOf). -/
import Derived.Test.YtnagfbadjbkhmaaPureOrd
import Derived.Test.YtnagfbadjbkhmaaPBx12
import Derived.Test.YtnagfbadjbkhmaaPBx13
import Derived.Test.YtnagfbadjbkhmaaPBx9
import Derived.Test.YtnagfbadjbkhmaaPBx9
import Derived.Test.YtnagfbadjbkhmaaPBx8
namespace Go.Proofs.Ytnagfbadjbkhmaa.PureOf
open Go.RowKit Go.Proofs.YtnagfbadjbkhmaaW.PrintWords Go.Proofs.YtnagfbadjbkhmaaW.PrintLast Go.Proofs.YtnagfbadjbkhmaaW.PrintMore Go.Proofs.Ytnagfbadjbkhmaa.Pure Go.Proofs.Ytnagfbadjbkhmaa.PureFlt Go.Proofs.Ytnagfbadjbkhmaa.PB Go.Proofs.Ytnagfbadjbkhmaa.PureOrd
set_option linter.unusedVariables false
set_option linter.unusedSimpArgs false
theorem ref_bits (a : Nat) : hornbeamref06_Bits.f a = some (clean a : Int):=by
 unfold hornbeamref06_Bits.f clean
 rw [ref_missing]
 show (if decide (nan a) = true then _ else _) = _
 by_cases h : nan a
 ·simp [h]
 ·simp only [h,decide_false,Bool.false_eq_true,if_false,Flt.ubits]
  by_cases g : Flt.ge a 0 = true
  ·rw [if_pos g]
   have g':=(ge_iff.mp g).2.2;rw [val_zero] at g'
   by_cases l : Flt.le a 0 = true
   ·rw [if_pos l]
    have l':=(le_iff.mp l).2.2;rw [val_zero] at l'
    rw [if_pos (by omega)];rfl
   ·rw [if_neg l,if_neg (fun e=>l (le_iff.mpr ⟨h,nan_zero,by rw [val_zero];omega⟩))]
  ·rw [if_neg g,if_neg (fun e=>g (ge_iff.mpr ⟨h,nan_zero,by rw [val_zero];omega⟩))]
def unkey (n : Int) : Nat:=if n < 9223372036854775808 then (18446744073709551615 - n).toNat else (n - 9223372036854775808).toNat
theorem unkey_key {a : Nat} (h : a < 18446744073709551616) (hn : ¬ nan a) : unkey (key a) = clean a:=by
 have w:=num_word h hn
 have e : clean a = if val a = 0 then 0 else a:=by unfold clean;rw [if_neg hn]
 rw [e]
 by_cases p : 0 ≤ val a
 ·have ek : key a = 9223372036854775808 + val a:=by unfold key;rw [if_neg hn,if_pos p]
  rw [ek];unfold unkey;rw [if_neg (show ¬ 9223372036854775808 + val a < 9223372036854775808 by omega)]
  by_cases z : val a = 0
  ·rw [if_pos z];omega
  ·rw [if_neg z];omega
 ·have ek : key a = 9223372036854775807 + val a:=by unfold key;rw [if_neg hn,if_neg p]
  rw [ek];unfold unkey;rw [if_pos (show 9223372036854775807 + val a < 9223372036854775808 by omega),if_neg (show ¬ val a = 0 by omega)];omega
theorem nan_clean {a : Nat} : nan (clean a) ↔ nan a:=by
 unfold clean
 by_cases h : nan a
 ·rw [if_pos h];exact ⟨fun _=>h,fun _=>by decide⟩
 ·rw [if_neg h];split
  ·exact ⟨fun x=>absurd x nan_zero,fun x=>absurd x h⟩
  ·rfl
theorem val_clean {a : Nat} (h : ¬ nan a) : val (clean a) = val a:=by
 unfold clean;rw [if_neg h];split
 ·rename_i z;rw [z];rfl
 ·rfl
theorem key_clean (a : Nat) : key (clean a) = key a:=by
 by_cases h : nan a
 ·rw [key_nan h,key_nan (nan_clean.mpr h)]
 ·unfold key;rw [if_neg h,if_neg (fun x=>h (nan_clean.mp x)),val_clean h]
theorem clean_clean (a : Nat) : clean (clean a) = clean a:=by
 by_cases h : nan a
 ·have : clean a = 9221120237041090561:=by unfold clean;rw [if_pos h]
  rw [this];decide
 ·by_cases z : val a = 0
  ·have : clean a = 0:=by unfold clean;rw [if_neg h,if_pos z]
   rw [this];decide
  ·have : clean a = a:=by unfold clean;rw [if_neg h,if_neg z]
   rw [this,this]
theorem ref_bin_l0 (e : List Nat) (f : Nat) (he : W64 e) (hf : f < 18446744073709551616) (hl : e.length < 9223372036854775806) : ∀ (d k i : Nat) (n : Int),i + d = e.length → d + 1 < k → 0 ≤ n → n ≤ i + 1 →
  hornbeamref10_Bin.l0 k e f n i = some (n + cnt f (e.drop i)):=by
 intro d
 induction d with
 | zero =>
  intro k i n h1 h2 h3 h4
  obtain ⟨k,rfl⟩ : ∃ m,k = m + 1:=⟨k - 1,by omega⟩
  simp only [hornbeamref10_Bin.l0]
  rw [if_neg (by omega),List.drop_eq_nil_of_le (by omega)];simp [cnt]
 | succ d ih =>
  intro k i n h1 h2 h3 h4
  obtain ⟨k,rfl⟩ : ∃ m,k = m + 1:=⟨k - 1,by omega⟩
  have hi : i < e.length:=by omega
  simp only [hornbeamref10_Bin.l0]
  rw [if_pos (by omega),if_pos (by omega),wrap_in (by omega) (by omega),wrap_in (by omega) (by omega),rdf e i hi,
   ref_cmp' (he _ (List.getElem_mem hi)) hf (show 0 < k by omega),Option.bind_some,List.drop_eq_getElem_cons hi,cnt_cons,show ((i : Int) + 1) = ((i + 1 : Nat) : Int) by omega]
  by_cases c : cmp e[i] f ≤ 0
  ·rw [if_pos c,if_pos c,ih k (i + 1) (n + 1) (by omega) (by omega) (by omega) (by omega)];congr 1;omega
  ·rw [if_neg c,if_neg c,ih k (i + 1) n (by omega) (by omega) (by omega) (by omega)];congr 1;omega
theorem ref_bin_f (e : List Nat) (f : Nat) (he : W64 e) (hf : f < 18446744073709551616) (hl : e.length < 9223372036854775806) (k : Nat) (hk : e.length + 1 < k) : hornbeamref10_Bin.f k e f = some (binT e f):=by
 unfold hornbeamref10_Bin.f binT
 rw [ref_missing]
 show (if decide (nan f) = true then _ else _) = _
 by_cases h : nan f
 ·simp [h]
 ·simp only [h,decide_false,Bool.false_eq_true,if_false]
  have:=ref_bin_l0 e f he hf hl e.length k 0 1 (by omega) hk (by omega) (by omega)
  simpa using this
theorem key_inj {a b : Nat} (ha : a < 18446744073709551616) (hb : b < 18446744073709551616) (h : key a = key b) : clean a = clean b:=by
 by_cases na : nan a <;> by_cases nb : nan b
 ·unfold clean;rw [if_pos na,if_pos nb]
 ·have:=key_pos hb nb;rw [key_nan na] at h;omega
 ·have:=key_pos ha na;rw [key_nan nb] at h;omega
 ·rw [← unkey_key ha na,← unkey_key hb nb,h]
theorem one {l₁ l₂ : List Nat} (w1 : ∀ x ∈ l₁,x < 18446744073709551616 ∧ clean x = x) (hp : l₁.Perm l₂) (h1 : l₁.Pairwise le) (h2 : l₂.Pairwise le) : l₁ = l₂:=by
 refine List.Perm.eq_of_pairwise ?_ h1 h2 hp
 intro a b ha hb hab hba
 have a1:=w1 a ha
 have b1:=w1 b (hp.mem_iff.mpr hb)
 have:=key_inj a1.1 b1.1 (Int.le_antisymm hab hba)
 rw [a1.2,b1.2] at this;exact this
def pos (out : List Nat) (x : Nat) : Nat → Nat
 | 0=>0
 | p + 1=>if cmp (out.getD p 0) x > 0 then pos out x p else p + 1
def ins (out : List Nat) (x : Nat) : List Nat:=out.take (pos out x out.length) ++ [clean x] ++ out.drop (pos out x out.length)
theorem pos_le (out : List Nat) (x : Nat) : ∀ p,pos out x p ≤ p:=by
 intro p;induction p with
 | zero=>exact Nat.le_refl _
 | succ p ih=>simp only [pos];split <;> omega
theorem rdd (l : List Nat) (i : Nat) : rdOf (0 : Nat) l (i : Int) = l.getD i 0:=by simp [rdOf]
theorem cmp_pos {a b : Nat} : cmp a b > 0 ↔ key b < key a:=by unfold cmp;repeat(first|omega|split)
theorem ref_l1 (l out : List Nat) (hl : W64 l) (ho : W64 out) (hn : out.length < 17592186044000) (i : Nat) (hi : i < l.length) : ∀ (p k : Nat),p ≤ out.length → p + 1 < k →
  ∃ k',k' + p + 1 ≥ k ∧ hornbeamref06_Sort.l1 k l out i p = hornbeamref06_Sort.l0 k' l (out.take (pos out l[i] p) ++ [clean l[i]] ++ out.drop (pos out l[i] p)) (wrap64 (i + 1)):=by
 intro p
 induction p with
 | zero =>
  intro k hp hk
  obtain ⟨k,rfl⟩ : ∃ m,k = m + 1:=⟨k - 1,by omega⟩
  refine ⟨k,by omega,?_⟩
  rw [hornbeamref06_Sort.l1,if_neg (by omega)]
  simp only [Option.bind_some]
  rw [if_pos (by omega),if_pos (by omega)]
  simp only [Int.toNat_natCast,List.drop_zero,List.take_zero,List.nil_append,List.length_nil,Nat.zero_add]
  rw [if_pos (by omega),if_pos (by omega),if_pos (by omega)]
  have e : hornbeamref06_Clean.f (rdOf (0 : Nat) l (i : Int)) = some (clean l[i]):=by
   rw [rdf l i hi];unfold hornbeamref06_Clean.f;rw [ref_bits];rfl
  rw [e]
  simp only [Option.bind_some,pos,List.take_zero,List.nil_append,List.drop_zero,List.length_nil,List.length_singleton]
  rw [if_pos (by decide),if_pos (by omega)]
 | succ p ih =>
  intro k hp hk
  obtain ⟨k,rfl⟩ : ∃ m,k = m + 1:=⟨k - 1,by omega⟩
  have hw : wrap64 (((p + 1 : Nat) : Int) - 1) = (p : Int):=by rw [wrap_in (by omega) (by omega)];omega
  rw [hornbeamref06_Sort.l1,if_pos (by omega),hw,if_pos (by omega),if_pos (by omega),if_pos (by omega),if_pos (by omega),rdf l i hi,rdd,ref_cmp' (getD_w ho _) (hl _ (List.getElem_mem hi)) (by omega),Option.bind_some]
  by_cases c : cmp (out.getD p 0) l[i] > 0
  ·rw [if_pos c]
   obtain ⟨k',h1,h2⟩:=ih k (by omega) (by omega)
   refine ⟨k',by omega,?_⟩
   rw [h2];simp only [pos];rw [if_pos c]
  ·refine ⟨k,by omega,?_⟩
   rw [if_neg c]
   simp only [Option.bind_some]
   rw [if_pos (by omega),if_pos (by omega)]
   simp only [Int.toNat_natCast,List.nil_append,List.length_nil,Nat.zero_add,pos]
   rw [if_neg c,if_pos (by rw [List.length_drop];omega)]
   have e : hornbeamref06_Clean.f l[i] = some (clean l[i]):=by unfold hornbeamref06_Clean.f;rw [ref_bits];rfl
   rw [e]
   simp only [Option.bind_some]
   rw [if_pos (by rw [List.length_take];omega),if_pos (by simp only [List.length_append,List.length_take,List.length_drop,List.length_singleton];omega)]
theorem ins_w {out : List Nat} {x : Nat} (ho : W64 out) (hx : x < 18446744073709551616) : W64 (ins out x):=by
 intro y hy
 unfold ins at hy
 simp only [List.mem_append,List.mem_singleton] at hy
 rcases hy with (h|h)|h
 ·exact ho y (List.mem_of_mem_take h)
 ·rw [h];exact clean_lt hx
 ·exact ho y (List.mem_of_mem_drop h)
theorem ins_len (out : List Nat) (x : Nat) : (ins out x).length = out.length + 1:=by
 have:=pos_le out x out.length
 unfold ins;simp;omega
theorem ins_perm (out : List Nat) (x : Nat) : (ins out x).Perm (clean x :: out):=by
 unfold ins
 rw [List.append_assoc,List.singleton_append]
 refine List.perm_middle.trans ?_
 rw [List.take_append_drop]
theorem pos_behind {out : List Nat} {x : Nat} : ∀ p j,pos out x p ≤ j → j < p → key x < key (out.getD j 0):=by
 intro p
 induction p with
 | zero=>intro j _ h;omega
 | succ p ih =>
  intro j h1 h2
  simp only [pos] at h1
  by_cases c : cmp (out.getD p 0) x > 0
  ·rw [if_pos c] at h1
   by_cases e : j = p
   ·subst e;exact cmp_pos.mp c
   ·exact ih j h1 (by omega)
  ·rw [if_neg c] at h1;omega
theorem pos_ahead {out : List Nat} {x : Nat} : ∀ p,pos out x p ≠ 0 → key (out.getD (pos out x p - 1) 0) ≤ key x:=by
 intro p
 induction p with
 | zero=>intro h;exact absurd rfl h
 | succ p ih =>
  simp only [pos]
  by_cases c : cmp (out.getD p 0) x > 0
  ·rw [if_pos c];exact ih
  ·rw [if_neg c];intro _;rw [Nat.add_sub_cancel];exact Int.not_lt.mp (fun h=>c (cmp_pos.mpr h))
theorem ins_sorted {out : List Nat} {x : Nat} (h : out.Pairwise le) : (ins out x).Pairwise le:=by
 have hq:=pos_le out x out.length
 have hb:=@pos_behind out x out.length
 have ha:=@pos_ahead out x out.length
 unfold ins
 generalize pos out x out.length = q at *
 have hi:=List.pairwise_iff_getElem.mp h
 have A : ∀ y ∈ out.take q,key y ≤ key x:=by
  intro y hy
  obtain ⟨j,hj,rfl⟩:=List.mem_iff_getElem.mp hy
  rw [List.length_take] at hj
  rw [List.getElem_take]
  have hq0 : q ≠ 0:=by omega
  have:=ha hq0
  rw [gd out (q - 1) (by omega)] at this
  by_cases e : j = q - 1
  ·subst e;exact this
  ·exact Int.le_trans (hi j (q - 1) (by omega) (by omega) (by omega)) this
 have B : ∀ y ∈ out.drop q,key x ≤ key y:=by
  intro y hy
  obtain ⟨j,hj,rfl⟩:=List.mem_iff_getElem.mp hy
  rw [List.length_drop] at hj
  rw [List.getElem_drop]
  have:=hb (q + j) (by omega) (by omega)
  rw [gd out (q + j) (by omega)] at this
  omega
 have hsplit:=List.pairwise_append.mp (by rw [List.take_append_drop];exact h : (out.take q ++ out.drop q).Pairwise le)
 rw [List.append_assoc,List.singleton_append,List.pairwise_append]
 refine ⟨hsplit.1,List.pairwise_cons.mpr ⟨?_,hsplit.2.1⟩,?_⟩
 ·intro y hy;show key (clean x) ≤ key y;rw [key_clean];exact B y hy
 ·intro y hy z hz
  rcases List.mem_cons.mp hz with h|h
  ·subst h;show key y ≤ key (clean x);rw [key_clean];exact A y hy
  ·exact hsplit.2.2 y hy z h
theorem ref_l0 (l : List Nat) (hl : W64 l) (hm : l.length ≤ 500) : ∀ (d k i : Nat) (out : List Nat),i + d = l.length → out.length = i → d * 600 + 10 < k → W64 out → (∀ x ∈ out,clean x = x) → out.Pairwise le → out.Perm ((l.take i).map clean) →
  ∃ r,hornbeamref06_Sort.l0 k l out i = some r ∧ r.Pairwise le ∧ r.Perm (l.map clean) ∧ ∀ x ∈ r,x < 18446744073709551616 ∧ clean x = x:=by
 intro d
 induction d with
 | zero =>
  intro k i out h1 h2 h3 h4 h5 h6 h7
  obtain ⟨k,rfl⟩ : ∃ m,k = m + 1:=⟨k - 1,by omega⟩
  refine ⟨out,?_,h6,?_,fun x hx=>⟨h4 x hx,h5 x hx⟩⟩
  ·rw [hornbeamref06_Sort.l0,if_neg (by omega)]
  ·rw [List.take_of_length_le (by omega)] at h7;exact h7
 | succ d ih =>
  intro k i out h1 h2 h3 h4 h5 h6 h7
  obtain ⟨k,rfl⟩ : ∃ m,k = m + 1:=⟨k - 1,by omega⟩
  have hi : i < l.length:=by omega
  have hdk : d * 600 + 600 + 10 < k + 1:=by rw [Nat.succ_mul] at h3;exact h3
  clear h3
  rw [hornbeamref06_Sort.l0,if_pos (by omega)]
  obtain ⟨k',g1,g2⟩:=ref_l1 l out hl h4 (by omega) i hi out.length k (Nat.le_refl _) (by omega)
  rw [g2,wrap_in (by omega) (by omega),show ((i : Int) + 1) = ((i + 1 : Nat) : Int) by omega]
  have hk' : d * 600 + 10 < k':=by
   generalize d * 600 = D at hdk ⊢
   omega
  clear hdk g1 g2
  refine ih k' (i + 1) (ins out l[i]) (by omega) (by rw [ins_len];omega) hk' (ins_w h4 (hl _ (List.getElem_mem hi))) ?_ (ins_sorted h6) ?_
  ·intro x hx
   unfold ins at hx
   simp only [List.mem_append,List.mem_singleton] at hx
   rcases hx with (h|h)|h
   ·exact h5 x (List.mem_of_mem_take h)
   ·rw [h];exact clean_clean _
   ·exact h5 x (List.mem_of_mem_drop h)
  ·refine (ins_perm out l[i]).trans ?_
   rw [List.take_succ_eq_append_getElem hi,List.map_append,List.map_singleton]
   refine (List.Perm.cons _ h7).trans ?_
   exact (List.perm_append_singleton _ _).symm
theorem ref_sort (l : List Nat) (hl : W64 l) (hm : l.length ≤ 500) (k : Nat) (hk : l.length * 600 + 10 < k) :
  ∃ r,hornbeamref06_Sort.f k l = some r ∧ r.Pairwise le ∧ r.Perm (l.map clean) ∧ ∀ x ∈ r,x < 18446744073709551616 ∧ clean x = x:=by
 unfold hornbeamref06_Sort.f
 exact ref_l0 l hl hm l.length k 0 [] (by omega) rfl hk (fun x hx=>by cases hx) (fun x hx=>by cases hx) List.Pairwise.nil (by simp)
theorem sorts_same (l : List Nat) (hl : W64 l) (r : List Nat) (h1 : r.Pairwise le) (h2 : r.Perm (l.map clean)) (h3 : ∀ x ∈ r,x < 18446744073709551616 ∧ clean x = x) : FSort.sortT SortF.cf (l.map clean) = r:=by
 have hw : W64 (l.map clean):=by
  intro x hx;obtain ⟨y,hy,rfl⟩:=List.mem_map.mp hx;exact clean_lt (hl y hy)
 have s:=sortT_spec (l.map clean) hw
 refine (one h3 (h2.trans s.1.symm) h1 s.2).symm
theorem same_l0 (a : List Nat) (hl : a.length ≤ 9223372036854775807) : ∀ (d k i : Nat),i + d = a.length → d < k → hornbeamref06_Same.l0 k a a i = some true:=by
 intro d
 induction d with
 | zero =>
  intro k i h1 h2
  obtain ⟨k,rfl⟩ : ∃ m,k = m + 1:=⟨k - 1,by omega⟩
  rw [hornbeamref06_Same.l0,if_neg (by omega)]
 | succ d ih =>
  intro k i h1 h2
  obtain ⟨k,rfl⟩ : ∃ m,k = m + 1:=⟨k - 1,by omega⟩
  rw [hornbeamref06_Same.l0,if_pos (by omega),if_pos (by omega),if_pos (by omega),if_pos rfl,wrap_in (by omega) (by omega),show ((i : Int) + 1) = ((i + 1 : Nat) : Int) by omega,ih k (i + 1) (by omega) (by omega)]
theorem same_self (a : List Nat) (hl : a.length ≤ 9223372036854775807) (k : Nat) (hk : a.length < k) : hornbeamref06_Same.f k a a = some true:=by
 unfold hornbeamref06_Same.f
 rw [if_pos rfl]
 exact same_l0 a hl a.length k 0 (by omega) hk
theorem there_sorted {l : List Nat} (hl : W64 l) : (there l).Pairwise le:=(sortT_spec _ (clean_all hl)).2.filter _
theorem cf_pos {x y : Nat} (hx : x < 18446744073709551616) (hy : y < 18446744073709551616) : SortF.cf x y > 0 ↔ key y < key x:=by
 rw [SortF.cf_eq,ky_eq hx,ky_eq hy];repeat(first|omega|split)
structure Inv (s : List Nat) (bins q : Nat) (z : Nat × List Nat) : Prop where
 up : z.2.Pairwise (fun a b=>key a < key b)
 fromz : ∀ x ∈ z.2,∃ j,1 ≤ j ∧ j ≤ q ∧ x = s.getD (j * s.length / bins) 0 ∧ key (s.getD 0 0) < key x
 last : (z.2 = [] ∧ z.1 = s.getD 0 0) ∨ ∃ pre,z.2 = pre ++ [z.1]
 place : ∃ t,t ≤ q ∧ z.1 = s.getD (t * s.length / bins) 0
 all : ∀ j,1 ≤ j → j ≤ q → key (s.getD (j * s.length / bins) 0) = key (s.getD 0 0) ∨ ∃ x ∈ z.2,key x = key (s.getD (j * s.length / bins) 0)
 len : z.2.length ≤ q
theorem pl_lt {n bins j : Nat} (h : 0 < n) (hj : j < bins) : j * n / bins < n:=by
 rw [Nat.div_lt_iff_lt_mul (by omega),Nat.mul_comm n bins];exact Nat.mul_lt_mul_of_pos_right hj h
theorem pl_mono {n bins i j : Nat} (h : i ≤ j) : i * n / bins ≤ j * n / bins:=Nat.div_le_div_right (Nat.mul_le_mul_right n h)
theorem sorted_key {s : List Nat} (h : s.Pairwise le) {i j : Nat} (hij : i ≤ j) (hj : j < s.length) : key (s.getD i 0) ≤ key (s.getD j 0):=by
 rw [gd s i (by omega),gd s j hj]
 rcases Nat.lt_or_ge i j with h1|h1
 ·exact (List.pairwise_iff_getElem.1 h) i j (by omega) hj h1
 ·have : i = j:=by omega
  subst this;exact Int.le_refl _
theorem inv_step {s : List Nat} (hw : W64 s) (hs : s.Pairwise le) (h0 : 0 < s.length) {bins q : Nat} {z : Nat × List Nat} (hq : q + 1 < bins) (h : Inv s bins q z) : Inv s bins (q + 1) (edges_Of.step s z ((q + 1) * s.length / bins)):=by
 have hp:=pl_lt (n:=s.length) h0 hq
 obtain ⟨t,ht,hz1⟩:=h.place
 have hmono : key z.1 ≤ key (s.getD ((q + 1) * s.length / bins) 0):=by rw [hz1];exact sorted_key hs (pl_mono (by omega)) hp
 have hz0 : key (s.getD 0 0) ≤ key z.1:=by rw [hz1];exact sorted_key hs (Nat.zero_le _) (pl_lt h0 (by omega))
 have hzw : z.1 < 18446744073709551616:=by rw [hz1];exact getD_w hw _
 unfold edges_Of.step
 by_cases c : SortF.cf (s.getD ((q + 1) * s.length / bins) 0) z.1 > 0
 ·rw [if_pos c]
  have hk:=(cf_pos (getD_w hw _) hzw).1 c
  refine ⟨?_,?_,.inr ⟨z.2,rfl⟩,⟨q + 1,Nat.le_refl _,rfl⟩,?_,by have:=h.len;simp;omega⟩
  ·rw [List.pairwise_append]
   refine ⟨h.up,by simp,?_⟩
   intro a ha b hb
   obtain rfl:=List.mem_singleton.1 hb
   rcases h.last with ⟨e,_⟩|⟨pre,e⟩
   ·rw [e] at ha;cases ha
   ·have hu:=h.up
    rw [e,List.pairwise_append] at hu
    rw [e] at ha
    rcases List.mem_append.1 ha with ha|ha
    ·have:=hu.2.2 a ha z.1 (by simp);omega
    ·obtain rfl:=List.mem_singleton.1 ha;exact hk
  ·intro x hx
   rcases List.mem_append.1 hx with hx|hx
   ·obtain ⟨j,a,b,c,d⟩:=h.fromz x hx;exact ⟨j,a,by omega,c,d⟩
   ·obtain rfl:=List.mem_singleton.1 hx;exact ⟨q + 1,by omega,Nat.le_refl _,rfl,by omega⟩
  ·intro j h1 h2
   by_cases e : j = q + 1
   ·subst e;exact .inr ⟨_,by simp,rfl⟩
   ·rcases h.all j h1 (by omega) with a|⟨x,a,b⟩
    ·exact .inl a
    ·exact .inr ⟨x,by simp [a],b⟩
 ·rw [if_neg c]
  have hk : key (s.getD ((q + 1) * s.length / bins) 0) = key z.1:=by
   have : ¬ key z.1 < key (s.getD ((q + 1) * s.length / bins) 0):=fun hh=>c ((cf_pos (getD_w hw _) hzw).2 hh)
   omega
  refine ⟨h.up,fun x hx=>?_,h.last,⟨t,by omega,hz1⟩,?_,by have:=h.len;omega⟩
  ·obtain ⟨j,a,b,c,d⟩:=h.fromz x hx;exact ⟨j,a,by omega,c,d⟩
  ·intro j h1 h2
   by_cases e : j = q + 1
   ·subst e
    rw [hk]
    rcases h.last with ⟨_,e⟩|⟨pre,e⟩
    ·left;rw [e]
    ·right;exact ⟨z.1,by rw [e];simp,rfl⟩
   ·exact h.all j h1 (by omega)
theorem inv_at {s : List Nat} (hw : W64 s) (hs : s.Pairwise le) (h0 : 0 < s.length) {bins : Nat} : ∀ q,q < bins → Inv s bins q (edges_Of.run s ((FPlaces.places s.length bins h0).take q)):=by
 intro q
 induction q with
 | zero =>
  intro _
  refine ⟨List.Pairwise.nil,fun x hx=>(by cases hx),.inl ⟨rfl,rfl⟩,⟨0,Nat.le_refl _,by simp [edges_Of.run]⟩,fun j h1 h2=>by omega,Nat.le_refl _⟩
 | succ q ih =>
  intro hq
  obtain ⟨x,hx,e⟩:=FPlaces.places_get s.length bins h0 q hq
  rw [e,edges_Of.run_snoc,hx]
  exact inv_step hw hs h0 hq (ih (by omega))
theorem cut_nil {s : List Nat} (h : s.length = 0) (bins : Nat) : edges_Of.cut s bins = []:=by unfold edges_Of.cut;rw [dif_neg (by omega)]
theorem there_l0 (r : List Nat) (hl : r.length ≤ 1000) : ∀ (d k i : Nat) (acc : List Nat),i + d = r.length → d < k → acc.length ≤ i → hornbeamref10_There.l0 k acc r i = some (acc ++ (r.drop i).filter fun x=>!decide (nan x)):=by
 intro d
 induction d with
 | zero =>
  intro k i acc h1 h2 h3
  obtain ⟨k,rfl⟩ : ∃ m,k = m + 1:=⟨k - 1,by omega⟩
  rw [hornbeamref10_There.l0,if_neg (by omega),List.drop_eq_nil_of_le (by omega)];simp
 | succ d ih =>
  intro k i acc h1 h2 h3
  obtain ⟨k,rfl⟩ : ∃ m,k = m + 1:=⟨k - 1,by omega⟩
  have hi : i < r.length:=by omega
  rw [hornbeamref10_There.l0,if_pos (by omega),if_pos (by omega),rdf r i hi,ref_missing,Option.bind_some,wrap_in (by omega) (by omega),show ((i : Int) + 1) = ((i + 1 : Nat) : Int) by omega,
   show r.drop i = _ from List.drop_eq_getElem_cons hi]
  by_cases n : nan r[i]
  ·rw [if_pos (decide_eq_true n),ih k (i + 1) acc (by omega) (by omega) (by omega),List.filter_cons_of_neg (by simpa using n)]
  ·rw [if_neg (by simpa using n),if_pos (by omega),ih k (i + 1) _ (by omega) (by omega) (by simp;omega),List.filter_cons_of_pos (by simpa using n),List.append_assoc,List.singleton_append]
theorem ref_there (l : List Nat) (hl : W64 l) (hm : l.length ≤ 500) (k : Nat) (hk : l.length * 600 + 10 < k) : hornbeamref10_There.f k l = some (there l):=by
 obtain ⟨r,e,h1,h2,h3⟩:=ref_sort l hl hm k hk
 unfold hornbeamref10_There.f
 have hr : r.length = l.length:=by rw [h2.length_eq];simp
 rw [e,Option.bind_some]
 have:=there_l0 r (by omega) r.length k 0 [] (by omega) (by omega) (by simp)
 unfold there
 rw [sorts_same l hl r h1 h2 h3]
 simpa using this
theorem eof_l1 (bins q n : Nat) (s out : List Nat) (hb : 2 ≤ bins) (hb2 : bins ≤ 256) (hq : q < bins) (hn : n ≤ 1000) : ∀ (d k i : Nat),i + d = q * n / bins → hornbeamref10_Of.l1 (k + d) bins out s n q i = hornbeamref10_Of.l1 k bins out s n q (q * n / bins : Nat):=by
 intro d
 have hmul : q * n ≤ 256 * 1000:=Nat.mul_le_mul (by omega) hn
 induction d with
 | zero=>intro k i h;rw [show i = q * n / bins by omega];rfl
 | succ d ih =>
  intro k i h
  rw [show k + (d + 1) = (k + d) + 1 by omega,hornbeamref10_Of.l1]
  have h1 : (i + 1) * bins ≤ q * n:=by
   have : i + 1 ≤ q * n / bins:=by omega
   exact (Nat.le_div_iff_mul_le (by omega)).1 this
  have hi1 : i + 1 ≤ q * n:=Nat.le_trans (show i + 1 ≤ q * n / bins by omega) (Nat.div_le_self _ _)
  have e1 : wrap64 (wrap64 ((i : Int) + 1) * (bins : Int)) = (((i + 1) * bins : Nat) : Int):=by
   rw [wrap_in (i:=(i : Int) + 1) (by omega) (by omega),show ((i : Int) + 1) = ((i + 1 : Nat) : Int) by omega,← Int.natCast_mul,wrap_in (by omega) (by omega)]
  have e2 : wrap64 ((q : Int) * (n : Int)) = ((q * n : Nat) : Int):=by rw [← Int.natCast_mul,wrap_in (by omega) (by omega)]
  rw [e1,e2,if_pos (by omega),wrap_in (by omega) (by omega),show ((i : Int) + 1) = ((i + 1 : Nat) : Int) by omega,ih k (i + 1) (by omega)]
theorem eof_l0 {s : List Nat} (hw : W64 s) (hs : s.Pairwise le) (h0 : 0 < s.length) (hn : s.length ≤ 1000) (bins : Nat) (hb : 2 ≤ bins) (hb2 : bins ≤ 256) : ∀ (d k q : Nat),q + 1 + d = bins → d * 1010 + 10 < k →
  hornbeamref10_Of.l0 k bins (edges_Of.run s ((FPlaces.places s.length bins h0).take q)).2 s s.length ((q + 1 : Nat) : Int) = some (edges_Of.cut s bins):=by
 intro d
 induction d with
 | zero =>
  intro k q h1 h2
  obtain ⟨k,rfl⟩ : ∃ m,k = m + 1 + 1:=⟨k - 2,by omega⟩
  rw [hornbeamref10_Of.l0,if_neg (by omega),hornbeamref10_Of.j2,if_neg (by decide)]
  unfold edges_Of.cut
  rw [dif_pos h0,List.take_of_length_le (by rw [FPlaces.places_len];omega)]
 | succ d ih =>
  intro k q h1 h2
  have hq : q + 1 < bins:=by omega
  have hlt:=pl_lt (n:=s.length) h0 hq
  have l1:=eof_l1 bins (q + 1) s.length s
  obtain ⟨x,hx,e⟩:=FPlaces.places_get s.length bins h0 q hq
  have hmul : (q + 1) * s.length ≤ 256000:=Nat.le_trans (Nat.mul_le_mul (show q + 1 ≤ 256 by omega) hn) (by decide)
  have hgt:=Nat.lt_mul_div_succ ((q + 1) * s.length) (show 0 < bins by omega)
  generalize hat : (q + 1) * s.length / bins = at_ at *
  rw [Nat.mul_comm bins (at_ + 1)] at hgt
  obtain ⟨k,rfl⟩ : ∃ m,k = m + 1 + at_ + 1 + 1:=⟨k - (1 + at_ + 1 + 1),by omega⟩
  have I:=inv_at hw hs h0 (bins:=bins) q (by omega)
  have h4 : at_ < 1000:=Nat.lt_of_lt_of_le hlt hn
  have hk' : d * 1010 + 10 < k:=by
   rw [Nat.succ_mul] at h2
   generalize d * 1010 = dd at h2 ⊢
   clear hat hgt hmul hlt ih l1 I e
   omega
  have hk3 : 3 < k:=by clear h2 hat hgt hmul hlt ih l1 I e;omega
  clear h2
  have nxt:=ih k (q + 1) (by clear hat hgt hmul;omega) hk'
  rw [e,edges_Of.run_snoc,hx] at nxt
  generalize edges_Of.run s ((FPlaces.places s.length bins h0).take q) = z at *
  rw [hornbeamref10_Of.l0,if_pos (by omega),hornbeamref10_Of.j2,decide_eq_true (show ((s.length : Nat) : Int) > 0 by omega),if_pos rfl]
  refine Eq.trans (l1 z.2 hb hb2 hq hn at_ (k + 1) 0 (by omega)) ?_
  have hbm : (at_ + 1) * bins ≤ 256256:=Nat.le_trans (Nat.mul_le_mul (show at_ + 1 ≤ 1001 by omega) hb2) (by decide)
  have e1 : wrap64 (wrap64 ((at_ : Int) + 1) * (bins : Int)) = (((at_ + 1) * bins : Nat) : Int):=by
   rw [wrap_in (i:=(at_ : Int) + 1) (by omega) (by omega),show ((at_ : Int) + 1) = ((at_ + 1 : Nat) : Int) by omega,← Int.natCast_mul,wrap_in (by omega) (by omega)]
  have e2 : wrap64 (((q + 1 : Nat) : Int) * (s.length : Int)) = (((q + 1) * s.length : Nat) : Int):=by rw [← Int.natCast_mul,wrap_in (by omega) (by omega)]
  have r0 : rdOf (0 : Nat) s 0 = s.getD 0 0:=rdd s 0
  have hlast : z.2.length ≤ q:=I.len
  have hle : ¬ ((((at_ + 1) * bins : Nat) : Int) ≤ (((q + 1) * s.length : Nat) : Int)):=fun hh=>by have:=Int.ofNat_le.1 hh;exact absurd hgt (Nat.not_lt.2 this)
  clear hat hgt hmul hbm
  rw [hornbeamref10_Of.l1,e1,e2,if_neg hle,if_pos (by omega),if_pos (by omega),if_pos (by omega),r0,rdd s at_,ref_cmp' (getD_w hw _) (getD_w hw _) (by omega),Option.bind_some]
  have wr : wrap64 (((q + 1 : Nat) : Int) + 1) = ((q + 1 + 1 : Nat) : Int):=by rw [wrap_in (by omega) (by omega)];omega
  rw [wr]
  clear wr e1 e2 hle r0
  have hzw : z.1 < 18446744073709551616:=by
   obtain ⟨t,_,e⟩:=I.place
   rw [e];exact getD_w hw _
  have hz0 : key (s.getD 0 0) ≤ key z.1:=by
   obtain ⟨t,ht,e⟩:=I.place
   rw [e];exact sorted_key hs (Nat.zero_le _) (pl_lt h0 (by omega))
  unfold edges_Of.step at nxt
  by_cases c : SortF.cf (s.getD at_ 0) z.1 > 0
  ·rw [if_pos c] at nxt
   dsimp only at nxt
   have hk:=(cf_pos (getD_w hw _) hzw).1 c
   rw [if_pos (cmp_pos.2 (by omega))]
   rcases I.last with ⟨e3,e4⟩|⟨pre,e3⟩
   ·rw [if_pos (by rw [e3];rfl),if_pos (by omega)];rw [nxt]
   ·have hpl : z.2.length = pre.length + 1:=by rw [e3];simp
    have hrd : rdOf (0 : Nat) z.2 (wrap64 ((z.2.length : Int) - 1)) = z.1:=by
     rw [wrap_in (by omega) (by omega),show ((z.2.length : Int) - 1) = ((pre.length : Nat) : Int) by omega,rdd z.2 pre.length,e3];simp
    rw [if_neg (by omega),if_pos (by rw [wrap_in (by omega) (by omega)];omega),if_pos (by rw [wrap_in (by omega) (by omega)];omega),hrd,ref_cmp' (getD_w hw _) hzw (by omega),Option.bind_some,if_pos (cmp_pos.2 hk),if_pos (by omega)]
    rw [nxt]
  ·rw [if_neg c] at nxt
   have hk : ¬ key z.1 < key (s.getD at_ 0):=fun hh=>c ((cf_pos (getD_w hw _) hzw).2 hh)
   by_cases c0 : cmp (s.getD at_ 0) (s.getD 0 0) > 0
   ·rw [if_pos c0]
    have:=cmp_pos.1 c0
    rcases I.last with ⟨e3,e4⟩|⟨pre,e3⟩
    ·rw [e4] at hk;omega
    ·have hpl : z.2.length = pre.length + 1:=by rw [e3];simp
     have hrd : rdOf (0 : Nat) z.2 (wrap64 ((z.2.length : Int) - 1)) = z.1:=by
      rw [wrap_in (by omega) (by omega),show ((z.2.length : Int) - 1) = ((pre.length : Nat) : Int) by omega,rdd z.2 pre.length,e3];simp
     rw [if_neg (by omega),if_pos (by rw [wrap_in (by omega) (by omega)];omega),if_pos (by rw [wrap_in (by omega) (by omega)];omega),hrd,ref_cmp' (getD_w hw _) hzw (by omega),Option.bind_some,if_neg (fun hh=>hk (cmp_pos.1 hh))]
     rw [nxt]
   ·rw [if_neg c0];rw [nxt]
theorem ref_of (l : List Nat) (hl : W64 l) (hm : l.length ≤ 500) (a1 : Int) (k : Nat) (hk : 400000 ≤ k) : hornbeamref10_Of.f k l a1 = some (if a1 < 2 ∨ 256 < a1 then [] else edges_Of.cut (there l) a1.toNat):=by
 obtain ⟨k,rfl⟩ : ∃ m,k = m + 1:=⟨k - 1,by omega⟩
 unfold hornbeamref10_Of.f
 rw [Option.bind_some]
 by_cases h1 : a1 < 2
 ·rw [if_pos h1,if_pos (.inl h1),hornbeamref10_Of.j0,if_pos rfl]
 rw [if_neg h1]
 by_cases h2 : a1 > 256
 ·rw [decide_eq_true h2,if_pos (.inr (by omega)),hornbeamref10_Of.j0,if_pos rfl]
 rw [decide_eq_false h2,if_neg (by omega),hornbeamref10_Of.j0,if_neg (by decide),ref_there l hl (by omega) k (by omega),Option.bind_some]
 have hlen:=there_len hl
 obtain ⟨b,rfl⟩ : ∃ b : Nat,a1 = b:=⟨a1.toNat,by omega⟩
 rw [Int.toNat_natCast]
 rcases Nat.eq_zero_or_pos (there l).length with h|h
 ·obtain ⟨k,rfl⟩ : ∃ m,k = m + 1 + 1:=⟨k - 2,by omega⟩
  rw [cut_nil h,hornbeamref10_Of.l0,if_pos (by omega),hornbeamref10_Of.j2,decide_eq_false (by omega),if_neg (by decide)]
 ·have hf : (b - 1) * 1010 ≤ 256 * 1010:=Nat.mul_le_mul (by omega) (Nat.le_refl _)
  exact eof_l0 (there_w hl) (there_sorted hl) h (by omega) b (by omega) (by omega) (b - 1) k 0 (by omega) (by omega)
def few (n : Int) : Bool:=decide (0 ≤ n) && decide (n ≤ 16777216)
theorem few_f (n : Int) : hornbeamref11_Few.f n = some (few n):=by
 unfold hornbeamref11_Few.f few
 by_cases h : n ≥ 0
 ·rw [if_pos h,decide_eq_true h,Bool.true_and]
 ·rw [if_neg h,decide_eq_false h,Bool.false_and]
theorem shp_few (r c : Int) (n : Nat) : shp r c n = (few r && few c && decide ((n : Int) = wrap64 (r * c))):=by
 simp only [shp,few,Bool.and_assoc]
theorem ref_edges_none {a0 a1 a2 a3 a4 a5 a6 r c : Int} {l : List Nat} {t : List Int} (h : shp r c l.length = false) (k : Nat) (hk : 0 < k) : hornbeamref11_Edges.f k a0 a1 a2 a3 a4 a5 a6 r c l t = some []:=by
 obtain ⟨k,rfl⟩ : ∃ m,k = m + 1:=⟨k - 1,by omega⟩
 unfold hornbeamref11_Edges.f
 rw [Option.bind_some,few_f,Option.bind_some]
 by_cases h1 : few r = true
 ·rw [if_pos h1,few_f,Option.bind_some]
  by_cases h2 : few c = true
  ·rw [if_pos h2,hornbeamref11_Edges.j0,if_pos]
   rw [shp_few,h1,h2] at h
   simpa using h
  ·rw [if_neg h2,hornbeamref11_Edges.j0,if_pos rfl]
 ·rw [if_neg h1,hornbeamref11_Edges.j0,if_pos rfl]
/-- Rows of edges. -/
def RW (x : List (List Nat)) : Prop:=∀ e ∈ x,W64 e ∧ e.length ≤ 300
theorem RW.get {x : List (List Nat)} (h : RW x) (j : Nat) : W64 (x.getD j []) ∧ (x.getD j []).length ≤ 300:=by
 by_cases hj : j < x.length
 ·rw [List.getD_eq_getElem?_getD,List.getElem?_eq_getElem hj,Option.getD_some];exact h _ (List.getElem_mem hj)
 ·rw [List.getD_eq_getElem?_getD,List.getElem?_eq_none (by omega),Option.getD_none];exact ⟨fun x hx=>(by cases hx),by simp⟩
def cellX (x : List (List Nat)) (R : Nat) (l : List Nat) (p : Nat) : Int:=binT (x.getD (p / R) []) (l.getD p 0)
def cellsX (R n : Nat) (x : List (List Nat)) (l : List Nat) : List Int:=(List.range n).map (cellX x R l)
theorem cellsX_len (R n : Nat) (x : List (List Nat)) (l : List Nat) : (cellsX R n x l).length = n:=by simp [cellsX]
theorem cellsX_succ (R n : Nat) (x : List (List Nat)) (l : List Nat) : cellsX R (n + 1) x l = cellsX R n x l ++ [cellX x R l n]:=by simp [cellsX,List.range_succ]
def ofR (r c : Int) (l : List Nat) (x : List (List Nat)) : Int × Int × List Int × Int:=if shp r c l.length = true ∧ (x.length : Int) = c then (r,c,cellsX r.toNat l.length x l,0) else (0,0,[],8)
theorem ofR_none {r c : Int} {l : List Nat} {x : List (List Nat)} (h : few r = false ∨ few c = false ∨ (¬ (l.length : Int) = wrap64 (r * c)) ∨ ¬ (x.length : Int) = c) : ofR r c l x = (0,0,[],8):=by
 unfold ofR
 rw [if_neg]
 rintro ⟨h1,h2⟩
 rw [shp_few] at h1
 simp only [Bool.and_eq_true,decide_eq_true_eq] at h1
 rcases h with h|h|h|h
 ·rw [h1.1.1] at h;cases h
 ·rw [h1.1.2] at h;cases h
 ·exact h h1.2
 ·exact h h2
theorem shaped_of {r c : Int} {n : Nat} (h1 : few r = true) (h2 : few c = true) (h3 : (n : Int) = wrap64 (r * c)) : ∃ R C : Nat,r = (R : Int) ∧ c = (C : Int) ∧ R ≤ 16777216 ∧ C ≤ 16777216 ∧ shp R C n = true:=by
 have hs : shp r c n = true:=by rw [shp_few,h1,h2,decide_eq_true h3];rfl
 obtain ⟨a,b,d,e,_⟩:=shp_is hs
 obtain ⟨R,rfl⟩ : ∃ R : Nat,r = (R : Int):=⟨r.toNat,by omega⟩
 obtain ⟨C,rfl⟩ : ∃ C : Nat,c = (C : Int):=⟨c.toNat,by omega⟩
 exact ⟨R,C,rfl,rfl,by omega,by omega,hs⟩
theorem ofR_some {R C : Nat} {l : List Nat} {x : List (List Nat)} (h : shp R C l.length = true) (hx : x.length = C) : ofR R C l x = ((R : Int),(C : Int),cellsX R l.length x l,0):=by
 unfold ofR
 rw [if_pos ⟨h,by omega⟩,Int.toNat_natCast]
theorem wrap_u16 {b : Int} (h0 : 0 ≤ b) (h1 : b ≤ 301) : IntKind.u16.wrap b = b:=by
 simp only [IntKind.wrap,IntKind.bits,IntKind.signed]
 simp
 omega
theorem u16_bin {e : List Nat} (h : e.length ≤ 300) (f : Nat) : IntKind.u16.wrap (mn (binT e f) 65535) = binT e f:=by
 have h1:=bin_range e f
 rw [show mn (binT e f) 65535 = binT e f by unfold mn;split <;> omega]
 exact wrap_u16 (by omega) (by omega)
section
variable (a0 a1 a2 a3 a4 a5 a6 r c : Int) (l : List Nat) (t : List Int) (x : List (List Nat))
theorem xof_l1 {R C : Nat} (h : shp R C l.length = true) (hl : l.length ≤ 500) (hw : W64 l) (hx : RW x) {j : Nat} (hj : j < C) : ∀ (d k i : Nat),i + d = R → d + 400 < k →
  bins_Of.l1 k (x.getD j []) x C j (col R l j) R i a0 a1 a2 a3 a4 a5 a6 R C l t R C (cellsX R (j * R + i) x l) = bins_Of.l0 (k - d - 1) x C (wrap64 ((j : Int) + 1)) a0 a1 a2 a3 a4 a5 a6 R C l t R C (cellsX R ((j + 1) * R) x l):=by
 have hcl:=col_length h hj
 have hcut:=(cut_in h hj).2.2
 have e : (j + 1) * R = j * R + R:=Nat.succ_mul j R
 have hel:=hx.get j
 intro d
 induction d with
 | zero =>
  intro k i h1 h2
  obtain ⟨k,rfl⟩ : ∃ m,k = m + 1:=⟨k - 1,by omega⟩
  obtain rfl : i = R:=by omega
  rw [bins_Of.l1,if_neg (by omega),e,Nat.sub_zero,Nat.add_sub_cancel]
 | succ d ih =>
  intro k i h1 h2
  obtain ⟨k,rfl⟩ : ∃ m,k = m + 1:=⟨k - 1,by omega⟩
  have hi : i < R:=by omega
  have hp : (j * R + i) / R = j:=by
   rw [Nat.mul_comm,Nat.mul_add_div (by omega),Nat.div_eq_of_lt hi,Nat.add_zero]
  rw [bins_Of.l1,if_pos (by omega),if_pos (by omega),if_pos (by omega),rdf _ i (by omega),← PureOrd.gd _ i (by omega),bin_f _ _ hel.1 (getD_w (col_w hw j) i) (by omega) k (by omega),Option.bind_some,
   if_pos (by rw [cellsX_len];omega),wrap_in (i:=(i : Int) + 1) (by omega) (by omega),show (i : Int) + 1 = ((i + 1 : Nat) : Int) by omega,u16_bin hel.2]
  have hc : binT (x.getD j []) ((col R l j).getD i 0) = cellX x R l (j * R + i):=by
   unfold cellX;rw [hp,col_get h hj hi]
  rw [hc,← cellsX_succ,Nat.add_assoc,ih k (i + 1) (by omega) (by omega),show k + 1 - (d + 1) - 1 = k - d - 1 by omega]
theorem xof_l0 {R C : Nat} (h : shp R C l.length = true) (hl : l.length ≤ 500) (hw : W64 l) (hx : RW x) (hxl : x.length = C) : ∀ (d k j : Nat),j + d = C → d * (R + 2) + 500 < k →
  bins_Of.l0 k x C j a0 a1 a2 a3 a4 a5 a6 R C l t R C (cellsX R (j * R) x l) = some ((R : Int),(C : Int),cellsX R (C * R) x l,0):=by
 have hC : C ≤ 16777216:=by have:=shp_is h;omega
 intro d
 induction d with
 | zero =>
  intro k j h1 h2
  obtain ⟨k,rfl⟩ : ∃ m,k = m + 1:=⟨k - 1,by omega⟩
  obtain rfl : j = C:=by omega
  rw [bins_Of.l0,if_neg (by omega)]
 | succ d ih =>
  intro k j h1 h2
  obtain ⟨k,rfl⟩ : ∃ m,k = m + 1:=⟨k - 1,by omega⟩
  have hj : j < C:=by omega
  have hcl:=col_length h hj
  obtain ⟨c1,c2,c3⟩:=cut_in h hj
  have e : (j + 1) * R = j * R + R:=Nat.succ_mul j R
  rw [Nat.succ_mul] at h2
  have hrd : rd_L7 x (j : Int) = x.getD j []:=by simp [rd_L7]
  rw [bins_Of.l0,if_pos (by omega),if_pos (by omega),if_pos (by omega),c1,c2,if_pos (by omega),if_pos (by omega),if_pos (by omega),hrd,Int.toNat_natCast,Int.toNat_natCast]
  have hh:=xof_l1 a0 a1 a2 a3 a4 a5 a6 l t x h hl hw hx hj R k 0 (by omega) (by omega)
  rw [Nat.add_zero] at hh
  have hcl2 : (((l.take ((j + 1) * R)).drop (j * R)).length : Int) = (R : Int):=by
   have:=hcl;unfold col at this;omega
  rw [hcl2]
  refine hh.trans ?_
  rw [wrap_in (i:=(j : Int) + 1) (by omega) (by omega),show (j : Int) + 1 = ((j + 1 : Nat) : Int) by omega]
  exact ih _ (j + 1) (by omega) (by omega)
theorem xof_f (hl : l.length ≤ 500) (hw : W64 l) (hx : RW x) (hc : c ≤ 1000) : bins_Of.f 2000000 a0 a1 a2 a3 a4 a5 a6 r c l t x = some (ofR r c l x):=by
 cases hs : shp r c l.length with
 | false=>rw [bof_none _ _ _ _ _ _ _ _ _ _ _ hs _ _ (by decide)];unfold ofR;rw [hs];rfl
 | true =>
  obtain ⟨h1,_,h2,_,_⟩:=shp_is hs
  obtain ⟨R,rfl⟩ : ∃ R : Nat,r = (R : Int):=⟨r.toNat,by omega⟩
  obtain ⟨C,rfl⟩ : ∃ C : Nat,c = (C : Int):=⟨c.toNat,by omega⟩
  unfold bins_Of.f
  rw [bshaped_f,hs,Option.bind_some,if_pos rfl]
  by_cases hxl : x.length = C
  ·have hn : l.length = C * R:=by
    obtain ⟨_,_,_,_,h5⟩:=shp_is hs
    rw [← Int.natCast_mul] at h5;rw [Nat.mul_comm];omega
   have hm : C * (R + 2) ≤ 3000:=by rw [Nat.mul_add];omega
   rw [show (2000000 : Nat) = 1999999 + 1 from rfl,bins_Of.j0,if_neg (by simp;omega),ofR_some hs hxl]
   have:=xof_l0 a0 a1 a2 a3 a4 a5 a6 l t x hs hl hw hx hxl C 1999999 0 (by omega) (by omega)
   rw [Nat.zero_mul] at this
   rw [hxl,hn]
   exact this
  ·rw [show (2000000 : Nat) = 1999999 + 1 from rfl,bins_Of.j0,if_pos (by simp;omega),ofR_none (.inr (.inr (.inr (by omega))))]
theorem ref_edges_l0 {R C : Nat} (h : shp R C l.length = true) (hl : l.length ≤ 500) (hw : W64 l) : ∀ (d k j : Nat) (acc : List (List Nat)),j + d = C → d + 400001 < k → acc = (List.range j).map (fun j=>edg (col R l j) a2) →
  hornbeamref11_Edges.l0 k acc j a0 a1 a2 a3 a4 a5 a6 R C l t = some (eds R C l a2):=by
 have hC : C ≤ 16777216:=by have:=shp_is h;omega
 intro d
 induction d with
 | zero =>
  intro k j acc h1 h2 h3
  obtain ⟨k,rfl⟩ : ∃ m,k = m + 1:=⟨k - 1,by omega⟩
  obtain rfl : j = C:=by omega
  rw [hornbeamref11_Edges.l0,if_neg (by omega),h3];rfl
 | succ d ih =>
  intro k j acc h1 h2 h3
  obtain ⟨k,rfl⟩ : ∃ m,k = m + 1:=⟨k - 1,by omega⟩
  have hj : j < C:=by omega
  have hcl:=col_length h hj
  obtain ⟨c1,c2,c3⟩:=cut_in h hj
  have e : (j + 1) * R = j * R + R:=Nat.succ_mul j R
  have hlen : acc.length = j:=by rw [h3];simp
  rw [hornbeamref11_Edges.l0,if_pos (by omega),c1,c2,if_pos (by omega),if_pos (by omega),if_pos (by omega),Int.toNat_natCast,Int.toNat_natCast]
  have ho:=ref_of (col R l j) (col_w hw j) (by omega) a2 k (by omega)
  unfold col at ho
  rw [ho,Option.bind_some,if_pos (by omega),wrap_in (by omega) (by omega),show (j : Int) + 1 = ((j + 1 : Nat) : Int) by omega]
  refine ih k (j + 1) _ (by omega) (by omega) ?_
  rw [h3,List.range_succ,List.map_append];rfl
theorem ref_edges_f {R C : Nat} (h : shp R C l.length = true) (hl : l.length ≤ 500) (hw : W64 l) (hC : C ≤ 1000) : hornbeamref11_Edges.f 402000 a0 a1 a2 a3 a4 a5 a6 R C l t = some (eds R C l a2):=by
 have h':=h
 rw [shp_few] at h'
 simp only [Bool.and_eq_true,decide_eq_true_eq] at h'
 unfold hornbeamref11_Edges.f
 rw [Option.bind_some,few_f,Option.bind_some,if_pos h'.1.1,few_f,Option.bind_some,if_pos h'.1.2,show (402000 : Nat) = 401999 + 1 from rfl,hornbeamref11_Edges.j0,if_neg (by simp [h'.2])]
 exact ref_edges_l0 a0 a1 a2 a3 a4 a5 a6 l t h hl hw C 401999 0 [] (by omega) (by omega) rfl
end
theorem same11_l0 (r c : Int) (l : List Int) (hl : l.length ≤ 1000000) : ∀ (d k i : Nat),i + d = l.length → d < k → hornbeamref11_Same.l0 k i r c l r c l = some true:=by
 intro d
 induction d with
 | zero =>
  intro k i h1 h2
  obtain ⟨k,rfl⟩ : ∃ m,k = m + 1:=⟨k - 1,by omega⟩
  rw [hornbeamref11_Same.l0,if_neg (by omega)]
 | succ d ih =>
  intro k i h1 h2
  obtain ⟨k,rfl⟩ : ∃ m,k = m + 1:=⟨k - 1,by omega⟩
  rw [hornbeamref11_Same.l0,if_pos (by omega),if_pos (by omega),if_pos (by omega),if_pos rfl,wrap_in (by omega) (by omega),show ((i : Int) + 1) = ((i + 1 : Nat) : Int) by omega,ih k (i + 1) (by omega) (by omega)]
theorem same11_self (r c : Int) (l : List Int) (hl : l.length ≤ 500) : hornbeamref11_Same.f 600 r c l r c l = some true:=by
 unfold hornbeamref11_Same.f
 rw [if_pos rfl,if_pos rfl,show (600 : Nat) = 599 + 1 from rfl,hornbeamref11_Same.j0,if_neg (by simp)]
 exact same11_l0 r c l (by omega) l.length 599 0 (by omega) (by omega)
theorem ofR_len (r c : Int) (l : List Nat) (x : List (List Nat)) (hl : l.length ≤ 500) : (ofR r c l x).2.2.1.length ≤ 500:=by
 unfold ofR
 split
 ·rw [cellsX_len];exact hl
 ·simp
theorem eds_rw {R C : Nat} {l : List Nat} (hw : W64 l) (b : Int) : RW (eds R C l b):=by
 intro e he
 obtain ⟨j,_,rfl⟩:=List.mem_map.1 he
 exact ⟨edg_w (col_w hw j) b,edg_len _ b⟩
/-- Both edges are the same. -/
theorem edges_both (a0 a1 a2 a3 a4 a5 a6 r c : Int) (l : List Nat) (t : List Int) (hl : l.length ≤ 500) (hw : W64 l) (hc : c ≤ 1000) : ∃ es : List (List Nat),bins_Edges.f 2000 a0 a1 a2 a3 a4 a5 a6 r c l t = some es ∧ hornbeamref11_Edges.f 402000 a0 a1 a2 a3 a4 a5 a6 r c l t = some es ∧ RW es ∧ es.length ≤ 1000:=by
 cases hs : shp r c l.length with
 | false=>exact ⟨[],edges_none _ _ _ _ _ _ _ _ _ _ _ hs _,ref_edges_none hs _ (by decide),fun e he=>(by cases he),by simp⟩
 | true =>
  obtain ⟨h1,_,h2,_,_⟩:=shp_is hs
  obtain ⟨R,rfl⟩ : ∃ R : Nat,r = (R : Int):=⟨r.toNat,by omega⟩
  obtain ⟨C,rfl⟩ : ∃ C : Nat,c = (C : Int):=⟨c.toNat,by omega⟩
  exact ⟨_,edges_f _ _ _ _ _ _ _ _ _ hs hl hw _ (by omega),ref_edges_f _ _ _ _ _ _ _ _ _ hs hl hw (by omega),eds_rw hw _,by rw [eds_len];omega⟩

end Go.Proofs.Ytnagfbadjbkhmaa.PureOf
