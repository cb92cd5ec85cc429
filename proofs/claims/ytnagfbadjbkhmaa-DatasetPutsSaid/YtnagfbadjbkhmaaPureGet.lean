/- The document's number at a place of a text, by what a reader hands out. -/
import Derived.Test.YtnagfbadjbkhmaaPureTake
import Derived.Test.YtnagfbadjbkhmaaFTake
import Derived.Test.YtnagfbadjbkhmaaPAx5
namespace Go.Proofs.Ytnagfbadjbkhmaa.PureGet
open Go.RowKit Go.Proofs.YtnagfbadjbkhmaaW.PrintWords Go.Proofs.YtnagfbadjbkhmaaW.PrintLast Go.Proofs.YtnagfbadjbkhmaaW.PrintMore Go.Proofs.Ytnagfbadjbkhmaa.Pure Go.Proofs.Ytnagfbadjbkhmaa.PureTake Go.Proofs.Ytnagfbadjbkhmaa.PA
set_option linter.unusedVariables false
set_option linter.unusedSimpArgs false
abbrev Bytes (l : List Int) : Prop:=∀ x ∈ l,0 ≤ x ∧ x < 256
theorem bt_str (l : List Int) (hb : Bytes l) (i : Nat) (h : i < l.length) : bt (strOfNums l) (i : Int) = rd l (i : Int):=by
 have hs : i < (strOfNums l).size:=by rw [strOf_size];exact h
 have hx:=hb l[i] (List.getElem_mem h)
 unfold bt
 rw [rd_nat l i h,dif_pos (by simpa using hs)]
 show (((strOfNums l).data[i]'hs).toNat : Int) = l[i]
 simp [strOfNums]
 omega
theorem val_take (l : List Int) (j : Nat) (h : j < l.length) : FTake.val (l.take (j + 1)) = FTake.val (l.take j) * 256 + rd l (j : Int):=by
 rw [take_rd l j h,FTake.val_snoc]
theorem rd_drop (l : List Int) (a j : Nat) : rd (l.drop a) (j : Int) = rd l ((a + j : Nat) : Int):=by
 simp [rd,show ((a : Int) + (j : Int)).toNat = a + j by omega]
theorem byte_drop {l : List Int} (h : Bytes l) (a : Nat) : Bytes (l.drop a):=fun x hx=>h x (List.mem_of_mem_drop hx)
theorem byte_take {l : List Int} (h : Bytes l) (a : Nat) : Bytes (l.take a):=fun x hx=>h x (List.mem_of_mem_take hx)
theorem val_lt {l : List Int} (h : Bytes l) (j : Nat) (hj : j ≤ 7) : 0 ≤ FTake.val (l.take j) ∧ FTake.val (l.take j) < 72057594037927936:=by
 obtain ⟨a,b⟩:=FTake.val_bound (l.take j) (byte_take h j)
 have h1 : (l.take j).length ≤ j:=by simp;omega
 have:=FTake.pow_le (l.take j).length (by omega)
 omega
theorem get_l0 (l : List Int) (hb : Bytes l) (a m : Nat) (hm : m ≤ 8) (ha : a + m ≤ l.length) (hl : l.length ≤ 1000000) : ∀ (d k j : Nat),j + d = m → d < k →
  hornbeamref07_Get.l0 k (strOfNums l) a m (FTake.val ((l.drop a).take j)) j = some (FTake.val ((l.drop a).take m),((a + m : Nat) : Int),true):=by
 intro d
 induction d with
 | zero =>
  intro k j e h2
  obtain ⟨k,rfl⟩ : ∃ m,k = m + 1:=⟨k - 1,by omega⟩
  simp only [hornbeamref07_Get.l0]
  rw [if_neg (by omega),show j = m by omega,wrap_in (by omega) (by omega)];rfl
 | succ d ih =>
  intro k j e h2
  obtain ⟨k,rfl⟩ : ∃ m,k = m + 1:=⟨k - 1,by omega⟩
  obtain ⟨v0,v1⟩:=val_lt (byte_drop hb a) j (by omega)
  have hr : 0 ≤ rd l ((a + j : Nat) : Int) ∧ rd l ((a + j : Nat) : Int) < 256:=by rw [rd_nat l _ (by omega)];exact hb _ (List.getElem_mem _)
  simp only [hornbeamref07_Get.l0]
  rw [if_pos (by omega),wrap_in (i:=(a : Int) + j) (by omega) (by omega),if_pos (by omega),if_pos (by rw [strOf_size];omega),show ((a : Int) + j) = ((a + j : Nat) : Int) by omega,bt_str l hb _ (by omega),u64_wrap hr.1 (by omega),
   u64_wrap (x:=256 * _) (by omega) (by omega),u64_wrap (by omega) (by omega),wrap_in (i:=(j : Int) + 1) (by omega) (by omega),show 256 * FTake.val ((l.drop a).take j) + rd l ((a + j : Nat) : Int) = FTake.val ((l.drop a).take (j + 1)) by
    rw [val_take _ _ (by simp;omega),rd_drop];omega]
  exact ih k (j + 1) (by omega) (by omega)
theorem cnt_eq (n : Int) : FTake.cnt n = cnt n:=rfl
/-- The document's number at a place. -/
theorem ref_get_f (l : List Int) (hb : Bytes l) (a : Nat) (n : Int) (ha : a ≤ l.length) (hl : l.length ≤ 1000000) (k : Nat) (hk : 9 ≤ k) :
  hornbeamref07_Get.f k (strOfNums l) a n = some (match FTake.number n (l.drop a) with|.error _=>(0,(a : Int),false)|.ok (v,_)=>(v,((a + cnt n : Nat) : Int),true)):=by
 have hc:=cnt_le n
 unfold hornbeamref07_Get.f FTake.number
 rw [ref_count_f,Option.bind_some,cnt_eq,strOf_size,wrap_in (by omega) (by omega)]
 by_cases h : cnt n ≤ (l.drop a).length
 ·rw [if_pos h]
  simp only [List.length_drop] at h
  rw [if_neg (by omega)]
  exact get_l0 l hb a (cnt n) (by omega) (by omega) hl (cnt n) k 0 (by omega) (by omega)
 ·rw [if_neg h]
  simp only [List.length_drop] at h
  rw [if_pos (by omega)]
end Go.Proofs.Ytnagfbadjbkhmaa.PureGet
