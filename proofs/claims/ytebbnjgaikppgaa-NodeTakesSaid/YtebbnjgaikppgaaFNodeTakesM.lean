/- Plain facts on whole numbers and lists, for the plain laws. -/
import Derived.Test.YtebbnjgaikppgaaWMore
import Derived.Test.YtebbnjgaikppgaaPAx10
import Derived.Test.YtebbnjgaikppgaaPAx15
import Derived.Test.YtebbnjgaikppgaaFTake
import Derived.Test.YtebbnjgaikppgaaPAx47
import Derived.Test.YtebbnjgaikppgaaPAx38
import Derived.Test.YtebbnjgaikppgaaFStore
import Derived.Test.YtebbnjgaikppgaaPAx32
import Derived.Test.YtebbnjgaikppgaaPAx39
import Derived.Test.YtebbnjgaikppgaaPAx51
import Derived.Test.YtebbnjgaikppgaaPAx6
import Derived.Test.YtebbnjgaikppgaaPAx55
import Derived.Test.YtebbnjgaikppgaaPAx40
import Derived.Test.YtebbnjgaikppgaaPAx53
import Derived.Lib.ConvBytes
import Derived.Test.YtebbnjgaikppgaaPAx44
namespace Go.Proofs.Ytebbnjgaikppgaa.Pure
open Go.RowKit Go.Proofs.YtebbnjgaikppgaaW.PrintWords Go.Proofs.YtebbnjgaikppgaaW.PrintLast Go.Proofs.YtebbnjgaikppgaaW.PrintMore

theorem wrap_in {i : Int} (h0 : -9223372036854775808 ≤ i) (h1 : i ≤ 9223372036854775807) : wrap64 i = i:=by
 unfold wrap64
 omega
theorem wf_i64 {x : Int} (h : (Lit.int .i64 x).wf = true) : -9223372036854775808 ≤ x ∧ x ≤ 9223372036854775807:=by
 simp [Lit.wf,IntKind.min,IntKind.max,IntKind.signed,IntKind.bits] at h;omega
theorem wf_u16 {x : Int} (h : (Lit.int .u16 x).wf = true) : 0 ≤ x ∧ x ≤ 65535:=by
 simp [Lit.wf,IntKind.min,IntKind.max,IntKind.signed,IntKind.bits] at h;omega
theorem wf_u8 {x : Int} (h : (Lit.int .u8 x).wf = true) : 0 ≤ x ∧ x ≤ 255:=by
 simp [Lit.wf,IntKind.min,IntKind.max,IntKind.signed,IntKind.bits] at h;omega
theorem wf_u64 {x : Int} (h : (Lit.int .u64 x).wf = true) : 0 ≤ x ∧ x ≤ 18446744073709551615:=by
 simp [Lit.wf,IntKind.min,IntKind.max,IntKind.signed,IntKind.bits] at h;omega
theorem rd_nat (l : List Int) (i : Nat) (h : i < l.length) : rd l (i : Int) = l[i]:=by simp [rd,h]
theorem rd_mem {l : List Int} {i : Int} (h0 : 0 ≤ i) (h1 : i < l.length) : rd l i ∈ l:=by
 have : i.toNat < l.length:=by omega
 simp [rd,List.getD_eq_getElem?_getD,this]
theorem rd_u16 {l : List Int} (h : ∀ x ∈ l,(Lit.int .u16 x).wf = true) (i : Int) : 0 ≤ rd l i ∧ rd l i ≤ 65535:=by
 by_cases hi : i.toNat < l.length
 ·have : rd l i ∈ l:=by simp [rd,List.getD_eq_getElem?_getD,hi]
  exact wf_u16 (h _ this)
 ·have : rd l i = 0:=by simp [rd,List.getD_eq_getElem?_getD,List.getElem?_eq_none (show l.length ≤ i.toNat by omega)]
  omega
theorem drop_rd (l : List Int) (i : Nat) (h : i < l.length) : l.drop i = rd l (i : Int) :: l.drop (i + 1):=by
 rw [rd_nat l i h];exact List.drop_eq_getElem_cons h
theorem take_rd (l : List Int) (i : Nat) (h : i < l.length) : l.take (i + 1) = l.take i ++ [rd l (i : Int)]:=by
 rw [rd_nat l i h];exact List.take_succ_eq_append_getElem h
end Go.Proofs.Ytebbnjgaikppgaa.Pure

namespace Go.Proofs.Ytebbnjgaikppgaa.PureTake
open Go.RowKit Go.Proofs.YtebbnjgaikppgaaW.PrintWords Go.Proofs.YtebbnjgaikppgaaW.PrintLast Go.Proofs.YtebbnjgaikppgaaW.PrintMore Go.Proofs.Ytebbnjgaikppgaa.Pure Go.Proofs.Ytebbnjgaikppgaa.PA
set_option linter.unusedVariables false
set_option linter.unusedSimpArgs false
/-- How many bytes are meant. -/
def cnt (n : Int) : Nat:=if n < 0 then 0 else if n > 8 then 8 else n.toNat
theorem cnt_le (n : Int) : cnt n ≤ 8:=by unfold cnt;split <;> (try split) <;> omega
/-- The lowest m bytes of a number, the highest of them first. -/
def be : Nat → Int → List Int
 | 0,_=>[]
 | m + 1,x=>(x / 256 ^ m) % 256 :: be m x
theorem be_len (m : Nat) (x : Int) : (be m x).length = m:=by
 induction m with
 | zero=>rfl
 | succ m ih=>simp [be,ih]
theorem be_byte (m : Nat) (x : Int) : ∀ y ∈ be m x,0 ≤ y ∧ y < 256:=by
 induction m with
 | zero=>simp [be]
 | succ m ih =>
  intro y hy
  rcases List.mem_cons.1 hy with rfl|hy
  ·omega
  ·exact ih y hy
theorem u64_wrap {x : Int} (h0 : 0 ≤ x) (h1 : x < 18446744073709551616) : IntKind.u64.wrap x = x:=by
 simp [IntKind.wrap,IntKind.bits,IntKind.signed];omega
theorem count_f (n : Int) : take_count.f n = some (cnt n : Int):=by
 unfold take_count.f cnt mn mx
 repeat' split
 all_goals (first|rfl|(congr 1;omega))
theorem ref_count_f (n : Int) : hornbeamref07_Count.f n = some (cnt n : Int):=by
 unfold hornbeamref07_Count.f cnt
 split
 ·rfl
 ·split
  ·rfl
  ·congr 1;omega
theorem clone_f (l : List Int) (hl : l.length < 140737488355328) : slices_Clone_byte_byte.f l = some l:=by
 unfold slices_Clone_byte_byte.f
 simp [hl]
theorem shr_at (x : Int) (i : Nat) (hi : i ≤ 7) : shr .u64 x (8 * (i : Int)) = x / 256 ^ i:=by
 have : i = 0 ∨ i = 1 ∨ i = 2 ∨ i = 3 ∨ i = 4 ∨ i = 5 ∨ i = 6 ∨ i = 7:=by omega
 rcases this with rfl|rfl|rfl|rfl|rfl|rfl|rfl|rfl <;> rfl
theorem put_l0 (x : Int) : ∀ (m k : Nat) (acc : List Int),m ≤ 8 → m < k → acc.length + m < 140737488355328 →
  take_Put.l0 k x acc ((m : Int) - 1) = some (acc ++ be m x):=by
 intro m
 induction m with
 | zero =>
  intro k acc _ h2 _
  obtain ⟨k,rfl⟩ : ∃ m,k = m + 1:=⟨k - 1,by omega⟩
  simp only [take_Put.l0]
  rw [if_neg (by omega)];simp [be]
 | succ m ih =>
  intro k acc h1 h2 h3
  obtain ⟨k,rfl⟩ : ∃ m,k = m + 1:=⟨k - 1,by omega⟩
  simp only [take_Put.l0]
  rw [if_pos (by omega),show (((m + 1 : Nat) : Int) - 1) = (m : Int) by omega,wrap_in (i:=8 * (m : Int)) (by omega) (by omega),if_pos (by omega),if_pos (by omega),
   wrap_in (i:=(m : Int) - 1) (by omega) (by omega),ih k _ (by omega) (by omega) (by simp;omega),shr_at _ _ (by omega)]
  simp [be]
theorem put_f (l : List Int) (x n : Int) (hl : l.length < 140737488355000) (k : Nat) (hk : 9 ≤ k) : take_Put.f k l x n = some (l ++ be (cnt n) x):=by
 have:=cnt_le n
 unfold take_Put.f
 rw [clone_f l (by omega),count_f]
 simp only [Option.bind_some]
 rw [wrap_in (by omega) (by omega),put_l0 x _ _ _ (by omega) (by omega) (by omega)]
theorem nums_byte (y : Int) (h0 : 0 ≤ y) (h1 : y < 256) : y % 256 = y:=by omega
theorem strOf_append (a b : List Int) : strOfNums (a ++ b) = strOfNums a ++ strOfNums b:=by
 apply ByteArray.ext
 simp [strOfNums]
theorem strOf_size (a : List Int) : (strOfNums a).size = a.length:=by simp [strOfNums,ByteArray.size]
theorem tdiv_nn (a : Int) (h : 0 ≤ a) : Int.tdiv a 256 = a / 256:=Int.tdiv_eq_ediv_of_nonneg h
theorem tmod_nn (a : Int) (h : 0 ≤ a) : Int.tmod a 256 = a % 256:=Int.tmod_eq_emod_of_nonneg h
theorem ref_put_l0 (x n : Int) (h0 : 0 ≤ x) (h1 : x < 18446744073709551616) : ∀ (d k j : Nat),j + d = cnt n → d < k →
  hornbeamref07_Put.l0 k (x / 256 ^ j) n (strOfNums (be j x)) j = some (strOfNums (be (cnt n) x)):=by
 have hc:=cnt_le n
 intro d
 induction d with
 | zero =>
  intro k j e h2
  obtain ⟨k,rfl⟩ : ∃ m,k = m + 1:=⟨k - 1,by omega⟩
  simp only [hornbeamref07_Put.l0]
  rw [ref_count_f,Option.bind_some,if_neg (by omega),show j = cnt n by omega]
 | succ d ih =>
  intro k j e h2
  obtain ⟨k,rfl⟩ : ∃ m,k = m + 1:=⟨k - 1,by omega⟩
  have hq : 0 ≤ x / 256 ^ j:=Int.ediv_nonneg h0 (Int.pow_nonneg (by omega))
  have hq1 : x / 256 ^ j ≤ x:=Int.ediv_le_self _ h0
  simp only [hornbeamref07_Put.l0]
  rw [ref_count_f,Option.bind_some,if_pos (by omega)]
  simp only [Option.bind_some]
  rw [tmod_nn _ hq,tdiv_nn _ hq,Int.emod_emod_of_dvd _ (Int.dvd_refl 256),if_pos (by simp only [strOf_size,be_len,List.length_singleton];omega),← strOf_append,List.singleton_append,
   show (x / 256 ^ j % 256 :: be j x) = be (j + 1) x from rfl,wrap_in (by omega) (by omega),u64_wrap (by omega) (by omega),Int.ediv_ediv_of_nonneg (Int.pow_nonneg (by omega)),← Int.pow_succ]
  exact ih k (j + 1) (by omega) (by omega)
theorem ref_put_f (x n : Int) (h0 : 0 ≤ x) (h1 : x < 18446744073709551616) (k : Nat) (hk : 9 ≤ k) : hornbeamref07_Put.f k x n = some (strOfNums (be (cnt n) x)):=by
 have hc:=cnt_le n
 have:=ref_put_l0 x n h0 h1 (cnt n) k 0 (by omega) (by omega)
 unfold hornbeamref07_Put.f
 rw [show (x / 256 ^ 0) = x by simp] at this
 exact this
end Go.Proofs.Ytebbnjgaikppgaa.PureTake

namespace Go.Proofs.Ytebbnjgaikppgaa.PureVal
open Go.RowKit Go.Proofs.YtebbnjgaikppgaaW.PrintWords Go.Proofs.YtebbnjgaikppgaaW.PrintLast Go.Proofs.YtebbnjgaikppgaaW.PrintMore Go.Proofs.Ytebbnjgaikppgaa.FTake
set_option linter.unusedVariables false
set_option linter.unusedSimpArgs false
theorem val_cons (y : Int) (l : List Int) : val (y :: l) = y * 256 ^ l.length + val l:=by
 have go : ∀ (l : List Int) (a : Int),l.foldl (fun x y=>x * 256 + y) a = a * 256 ^ l.length + val l:=by
  intro l
  induction l with
  | nil=>intro a;simp [val]
  | cons z l ih =>
   intro a
   have h1:=ih (a * 256 + z)
   have h2:=ih (0 * 256 + z)
   simp only [List.foldl_cons,val] at h1 h2 ⊢
   rw [h1,h2,List.length_cons,Int.pow_succ,Int.add_mul,Int.zero_mul,Int.zero_add,Int.mul_assoc,Int.mul_comm 256,Int.add_assoc]
 have:=go l (0 * 256 + y)
 simp only [val,List.foldl_cons] at this ⊢
 rw [this];simp
theorem val_be (m : Nat) (hm : m ≤ 8) (x : Int) (h0 : 0 ≤ x) : val (PureTake.be m x) = x % 256 ^ m:=by
 have : m = 0 ∨ m = 1 ∨ m = 2 ∨ m = 3 ∨ m = 4 ∨ m = 5 ∨ m = 6 ∨ m = 7 ∨ m = 8:=by omega
 induction m with
 | zero=>simp [PureTake.be,val]
 | succ m ih =>
  rw [PureTake.be,val_cons,ih (by omega) (by omega),PureTake.be_len]
  have hq : (0 : Int) < 256 ^ m:=Int.pow_pos (by omega)
  rw [Int.pow_succ]
  generalize (256 : Int) ^ m = q at *
  have e1:=Int.emod_add_mul_ediv x q
  have e2:=Int.emod_add_mul_ediv (x / q) 256
  have b1:=Int.emod_nonneg x (show q ≠ 0 by omega)
  have b2:=Int.emod_lt_of_pos x hq
  have b3:=Int.emod_nonneg (x / q) (show (256 : Int) ≠ 0 by omega)
  have b4:=Int.emod_lt_of_pos (x / q) (show (0 : Int) < 256 by omega)
  symm
  have e3 : x = (x / q % 256 * q + x % q) + (q * 256) * (x / q / 256):=by
   conv=>lhs;rw [← e1,← e2]
   rw [Int.mul_add,Int.add_comm (q * _),Int.mul_comm q (x / q % 256),Int.mul_assoc];omega
  have b5 : x / q % 256 * q + x % q < q * 256:=by
   have : x / q % 256 * q ≤ 255 * q:=Int.mul_le_mul_of_nonneg_right (by omega) (by omega)
   omega
  have b6 : 0 ≤ x / q % 256 * q + x % q:=by
   have : 0 ≤ x / q % 256 * q:=Int.mul_nonneg b3 (by omega)
   omega
  conv=>lhs;rw [e3]
  rw [Int.add_mul_emod_self_left,Int.emod_eq_of_lt b6 b5]

theorem num_be (k : Int) (n : Int) (h0 : 0 ≤ n) (m : Nat) (hm : cnt k = m) (h8 : m ≤ 8) (rest : List Int) : number k (PureTake.be m n ++ rest) = .ok (n % 256 ^ m,rest):=by
 unfold number
 rw [hm,if_pos (by rw [List.length_append,PureTake.be_len];omega)]
 have hl:=PureTake.be_len m n
 rw [show (PureTake.be m n ++ rest).take m = PureTake.be m n by rw [List.take_append_of_le_length (by omega),List.take_of_length_le (by omega)],
  show (PureTake.be m n ++ rest).drop m = rest by rw [List.drop_append_of_le_length (by omega),List.drop_of_length_le (by omega)];rfl,val_be m h8 n h0]
end Go.Proofs.Ytebbnjgaikppgaa.PureVal

namespace Go.Proofs.Ytebbnjgaikppgaa.Pure
open Go.RowKit Go.Proofs.YtebbnjgaikppgaaW.PrintWords Go.Proofs.YtebbnjgaikppgaaW.PrintLast Go.Proofs.YtebbnjgaikppgaaW.PrintMore Go.Proofs.Ytebbnjgaikppgaa.PA
set_option linter.unusedVariables false

theorem wrap_bd (x : Int) : -9223372036854775808 ≤ wrap64 x ∧ wrap64 x ≤ 9223372036854775807:=by unfold wrap64;omega

/-- Do the kids stand as they are to, from node i on, the next ones being to stand at left? -/
def leftsS (t : List S75) : Nat → Int → Int → Bool
 | 0,left,i=>decide (left = t.length)
 | d + 1,left,i=>if (rd_T75 t i).f0 ≥ 0 then (if (rd_T75 t i).f2 = left ∧ ¬ left ≤ i then leftsS t d (left + 2) (i + 1) else false) else leftsS t d left (i + 1)
/-- The first node from j on, ahead of i, whose kid i is; -1. -/
def parS (t : List S75) (i : Int) : Nat → Int → Int
 | 0,_=>-1
 | d + 1,j=>if j < i then (if (rd_T75 t j).f0 ≥ 0 ∧ ((rd_T75 t j).f2 = i ∨ wrap64 ((rd_T75 t j).f2 + 1) = i) then j else parS t i d (j + 1)) else -1
/-- How deep the deepest one is, from node i on; -1. -/
def deepS (t : List S75) : Nat → List Int → Int → Int → Int
 | 0,_,most,_=>most
 | d + 1,l,most,i=>if i > 0 then (if parS t i i.toNat 0 < 0 then -1 else
   deepS t d (l ++ [wrap64 (rd l (parS t i i.toNat 0) + 1)]) (if wrap64 (rd l (parS t i i.toNat 0) + 1) > most then wrap64 (rd l (parS t i i.toNat 0) + 1) else most) (i + 1))
  else deepS t d (l ++ [0]) (if 0 > most then 0 else most) (i + 1)
def depthS (t : List S75) : Int:=cond (leftsS t t.length 1 0) (deepS t t.length [] 0 0) (-1)

theorem parS_lt (t : List S75) (i : Int) : ∀ (d : Nat) (j : Int),0 ≤ j → parS t i d j < 0 ∨ (0 ≤ parS t i d j ∧ parS t i d j < i):=by
 intro d
 induction d with
 | zero=>intro j hj;left;simp [parS]
 | succ d ih =>
  intro j hj
  simp only [parS]
  split
  ·split
   ·right;omega
   ·exact ih (j + 1) (by omega)
  ·left;omega
theorem par_loop (t : List S75) (i : Int) (hi : i ≤ t.length) (hl : t.length ≤ 1000000) : ∀ (d k : Nat) (j : Int),0 ≤ j → j + d = i → d < k → hornbeamref18_parent.l0 k t i j = some (parS t i d j):=by
 intro d
 induction d with
 | zero =>
  intro k j h0 hj hk
  obtain ⟨k,rfl⟩ : ∃ m,k = m + 1:=⟨k - 1,by omega⟩
  simp only [hornbeamref18_parent.l0,parS]
  rw [if_neg (by omega)]
 | succ d ih =>
  intro k j h0 hj hk
  obtain ⟨k,rfl⟩ : ∃ m,k = m + 1:=⟨k - 1,by omega⟩
  simp only [hornbeamref18_parent.l0,parS]
  have ih':=ih k (j + 1) (by omega) (by omega) (by omega)
  rw [if_pos (show j < i by omega),if_pos (show j < i by omega),if_pos (show 0 ≤ j by omega),if_pos (show j < (t.length : Int) by omega),wrap_in (i:=j + 1) (by omega) (by omega),ih']
  by_cases h1 : (rd_T75 t j).f0 ≥ 0
  ·rw [if_pos h1]
   by_cases h2 : (rd_T75 t j).f2 = i
   ·rw [if_pos h2,if_pos ⟨h1,.inl h2⟩]
   ·rw [if_neg h2]
    by_cases h3 : wrap64 ((rd_T75 t j).f2 + 1) = i
    ·rw [if_pos h3,if_pos ⟨h1,.inr h3⟩]
    ·rw [if_neg h3,if_neg (fun h=>h.2.elim h2 h3)]
  ·rw [if_neg h1,if_neg (fun h=>h1 h.1)]

theorem deep_l1 (t : List S75) (hl : t.length ≤ 1000000) : ∀ (d k : Nat) (l : List Int) (most i : Int),0 ≤ i → i + d = t.length → (l.length : Int) = i → d + t.length + 1 < k →
  hornbeamref18_Deep.l1 k t l most i = some (deepS t d l most i):=by
 intro d
 induction d with
 | zero =>
  intro k l most i h0 hi hll hk
  obtain ⟨k,rfl⟩ : ∃ m,k = m + 1:=⟨k - 1,by omega⟩
  simp only [hornbeamref18_Deep.l1,deepS]
  rw [if_neg (by omega)]
 | succ d ih =>
  intro k l most i h0 hi hll hk
  obtain ⟨k,rfl⟩ : ∃ m,k = m + 1:=⟨k - 1,by omega⟩
  simp only [hornbeamref18_Deep.l1,deepS]
  rw [if_pos (by omega)]
  by_cases h : i > 0
  ·rw [if_pos h,if_pos h]
   unfold hornbeamref18_parent.f
   rw [par_loop t i (by omega) hl i.toNat k 0 (by omega) (by omega) (by omega)]
   simp only [Option.bind_some]
   rcases parS_lt t i i.toNat 0 (by omega) with hp|hp
   ·rw [if_pos hp,if_pos hp]
   ·rw [if_neg (show ¬ parS t i i.toNat 0 < 0 by omega),if_neg (show ¬ parS t i i.toNat 0 < 0 by omega),if_pos (by omega),if_pos (by omega),if_pos (by omega),wrap_in (i:=i + 1) (by omega) (by omega)]
    split
    ·exact ih k _ _ (i + 1) (by omega) (by omega) (by rw [List.length_append,List.length_singleton];omega) (by omega)
    ·exact ih k _ _ (i + 1) (by omega) (by omega) (by rw [List.length_append,List.length_singleton];omega) (by omega)
  ·rw [if_neg h,if_neg h,if_pos (by omega),wrap_in (i:=i + 1) (by omega) (by omega)]
   simp only [Option.bind_some]
   split
   ·exact ih k _ _ (i + 1) (by omega) (by omega) (by rw [List.length_append,List.length_singleton];omega) (by omega)
   ·exact ih k _ _ (i + 1) (by omega) (by omega) (by rw [List.length_append,List.length_singleton];omega) (by omega)
theorem deep_l0 (t : List S75) (hl : t.length ≤ 1000000) : ∀ (d k : Nat) (left i : Int),0 ≤ i → i + d = t.length → 0 ≤ left → left + 2 * d ≤ 4000000 → d + 2 * t.length + 2 < k →
  hornbeamref18_Deep.l0 k t left i = some (cond (leftsS t d left i) (deepS t t.length [] 0 0) (-1)):=by
 intro d
 induction d with
 | zero =>
  intro k left i h0 hi hle hle2 hk
  obtain ⟨k,rfl⟩ : ∃ m,k = m + 1:=⟨k - 1,by omega⟩
  simp only [hornbeamref18_Deep.l0,leftsS]
  rw [if_neg (by omega)]
  by_cases h : left = (t.length : Int)
  ·rw [if_pos h,decide_eq_true h]
   exact deep_l1 t hl t.length k [] 0 0 (by omega) (by omega) rfl (by omega)
  ·rw [if_neg h,decide_eq_false h];rfl
 | succ d ih =>
  intro k left i h0 hi hle hle2 hk
  obtain ⟨k,rfl⟩ : ∃ m,k = m + 1:=⟨k - 1,by omega⟩
  simp only [hornbeamref18_Deep.l0,leftsS]
  rw [if_pos (by omega),if_pos (by omega),wrap_in (i:=i + 1) (by omega) (by omega)]
  by_cases h1 : (rd_T75 t i).f0 ≥ 0
  ·rw [if_pos h1,if_pos h1]
   by_cases h2 : (rd_T75 t i).f2 = left
   ·rw [if_pos h2]
    by_cases h3 : left ≤ i
    ·rw [if_pos h3,if_neg (fun h=>h.2 h3)];rfl
    ·rw [if_neg h3,if_pos ⟨h2,h3⟩,wrap_in (i:=left + 2) (by omega) (by omega)]
     exact ih k (left + 2) (i + 1) (by omega) (by omega) (by omega) (by omega) (by omega)
   ·rw [if_neg h2,if_neg (fun h=>h2 h.1)];rfl
  ·rw [if_neg h1,if_neg h1]
   exact ih k left (i + 1) (by omega) (by omega) (by omega) (by omega) (by omega)
theorem deep_f (t : List S75) (hl : t.length ≤ 1000000) (k : Nat) (hk : 3 * t.length + 2 < k) : hornbeamref18_Deep.f k t = some (depthS t):=by
 unfold hornbeamref18_Deep.f depthS
 exact deep_l0 t hl t.length k 1 0 (by omega) (by omega) (by omega) (by omega) (by omega)

/-- Is a node right, by itself? -/
def sizeS (n : Int) : Int:=if n ≥ 0 then IntKind.u64.wrap n else IntKind.u64.wrap (IntKind.u64.wrap (wrap64 (-(wrap64 (n + 1)))) + 1)
def oneS (n : S75) (cols bins kind classes : Int) : Bool :=
 if n.f0 ≥ 0 then decide (n.f0 < cols ∧ 0 ≤ n.f1 ∧ n.f1 < bins ∧ n.f3 = 0 ∧ n.f4 = 0 ∧ n.f5 = 0)
 else if n.f0 = -1 ∧ n.f1 = 0 ∧ n.f2 = 0 then
  if kind = 0 then decide (0 ≤ n.f3 ∧ n.f3 < classes ∧ n.f4 = 0 ∧ n.f5 = 0)
  else decide (n.f3 = 0 ∧ 1 ≤ n.f5 ∧ n.f5 ≤ 1048576 ∧ sizeS n.f4 ≤ IntKind.u64.wrap (1048576 * IntKind.u64.wrap n.f5))
 else false
theorem one_f (n : S75) (cols bins kind classes : Int) (k : Nat) (hk : 0 < k) : hornbeamref18_one.f k n.f0 n.f1 n.f2 n.f3 n.f4 n.f5 cols bins kind classes = some (oneS n cols bins kind classes):=by
 obtain ⟨k,rfl⟩ : ∃ m,k = m + 1:=⟨k - 1,by omega⟩
 unfold hornbeamref18_one.f oneS
 by_cases h0 : n.f0 ≥ 0
 ·rw [if_pos h0,if_pos h0]
  by_cases h1 : n.f0 < cols <;> by_cases h2 : n.f1 ≥ 0 <;> by_cases h3 : n.f1 < bins <;> by_cases h4 : n.f3 = 0 <;> by_cases h5 : n.f4 = 0 <;> by_cases h6 : n.f5 = 0 <;> simp [h1,h2,h3,h4,h5,h6] <;> omega
 ·rw [if_neg h0,if_neg h0]
  by_cases hl : n.f0 = -1 ∧ n.f1 = 0 ∧ n.f2 = 0
  ·obtain ⟨e0,e1,e2⟩:=hl
   rw [if_pos e0,if_pos e1,if_pos ⟨e0,e1,e2⟩]
   simp only [hornbeamref18_one.j0,e2]
   rw [if_neg (by simp)]
   by_cases hkd : kind = 0
   ·rw [if_pos hkd,if_pos hkd]
    by_cases h3 : n.f3 ≥ 0 <;> by_cases h4 : n.f3 < classes <;> by_cases h5 : n.f4 = 0 <;> by_cases h6 : n.f5 = 0 <;> simp [h3,h4,h5,h6] <;> omega
   ·rw [if_neg hkd,if_neg hkd]
    unfold hornbeamref04_Size.f
    have hsz : (if n.f4 ≥ 0 then some (IntKind.u64.wrap n.f4) else some (IntKind.u64.wrap (IntKind.u64.wrap (wrap64 (-(wrap64 (n.f4 + 1)))) + 1))) = some (sizeS n.f4):=by unfold sizeS;split <;> rfl
    rw [hsz]
    by_cases h3 : n.f3 = 0 <;> by_cases h4 : n.f5 ≥ 1 <;> by_cases h5 : n.f5 ≤ 1048576 <;> simp [h3,h4,h5] <;> omega
  ·rw [if_neg hl]
   have hj : ∀ b,b = true → hornbeamref18_one.j0 (k + 1) kind classes b n.f0 n.f1 n.f2 n.f3 n.f4 n.f5 = some false:=by
    intro b hb;subst hb;simp [hornbeamref18_one.j0]
   by_cases e0 : n.f0 = -1
   ·rw [if_pos e0]
    by_cases e1 : n.f1 = 0
    ·rw [if_pos e1]
     exact hj _ (by have : n.f2 ≠ 0:=fun e2=>hl ⟨e0,e1,e2⟩;simpa using this)
    ·rw [if_neg e1];exact hj _ rfl
   ·rw [if_neg e0];exact hj _ rfl

def mayS (cols bins kind classes : Int) : Bool :=
 decide (1 ≤ cols ∧ cols ≤ 1024 ∧ 2 ≤ bins ∧ bins ≤ 256) && (if kind = 0 then decide (2 ≤ classes ∧ classes ≤ 256) else decide (kind = 1 ∧ classes = 0))
theorem may_f (cols bins kind classes : Int) (k : Nat) (hk : 0 < k) : hornbeamref18_May.f k cols bins kind classes = some (mayS cols bins kind classes):=by
 obtain ⟨k,rfl⟩ : ∃ m,k = m + 1:=⟨k - 1,by omega⟩
 unfold hornbeamref18_May.f mayS
 have no : hornbeamref18_May.j0 (k + 1) kind classes true = some false:=by simp [hornbeamref18_May.j0]
 have yes : hornbeamref18_May.j0 (k + 1) kind classes false = some (if kind = 0 then decide (2 ≤ classes ∧ classes ≤ 256) else decide (kind = 1 ∧ classes = 0)):=by
  simp only [hornbeamref18_May.j0,Bool.false_eq_true,if_false]
  by_cases h0 : kind = 0
  ·rw [if_pos h0,if_pos h0]
   by_cases h1 : classes ≥ 2 <;> simp [h1] <;> omega
  ·rw [if_neg h0,if_neg h0]
   by_cases h1 : kind = 1 <;> by_cases h2 : classes = 0 <;> simp [h1,h2]
 by_cases h1 : cols < 1
 ·rw [if_pos h1,no,decide_eq_false (by omega)];rfl
 rw [if_neg h1]
 by_cases h2 : cols > 1024
 ·rw [if_pos h2,no,decide_eq_false (by omega)];rfl
 rw [if_neg h2]
 by_cases h3 : bins < 2
 ·rw [if_pos h3,no,decide_eq_false (by omega)];rfl
 rw [if_neg h3]
 by_cases h4 : bins > 256
 ·rw [decide_eq_true h4,no,decide_eq_false (by omega)];rfl
 rw [decide_eq_false h4,yes,decide_eq_true (show 1 ≤ cols ∧ cols ≤ 1024 ∧ 2 ≤ bins ∧ bins ≤ 256 by omega),Bool.true_and]

/-- Is a tree right? -/
def rightT (t : List S75) (cols bins kind classes : Int) : Bool :=
 mayS cols bins kind classes && (decide (t.length ≠ 0) && (t.all (fun n=>oneS n cols bins kind classes) && decide (0 ≤ depthS t ∧ depthS t ≤ 32)))
theorem all_drop (t : List S75) (p : S75 → Bool) (i : Nat) (h : i < t.length) : (t.drop i).all p = (p (rd_T75 t (i : Nat)) && (t.drop (i + 1)).all p):=by
 rw [List.drop_eq_getElem_cons h,List.all_cons]
 congr 2
 simp [rd_T75,h]
theorem right_loop (t : List S75) (cols bins kind classes : Int) (hl : t.length ≤ 1000000) : ∀ (d k i : Nat),i + d = t.length → d + 3 * t.length + 4 < k →
  hornbeamref18_Right.l0 k t cols bins kind classes (i : Int) = some ((t.drop i).all (fun n=>oneS n cols bins kind classes) && decide (0 ≤ depthS t ∧ depthS t ≤ 32)):=by
 intro d
 induction d with
 | zero =>
  intro k i hi hk
  obtain ⟨k,rfl⟩ : ∃ m,k = m + 1:=⟨k - 1,by omega⟩
  simp only [hornbeamref18_Right.l0]
  rw [if_neg (by omega),deep_f t hl k (by omega),List.drop_eq_nil_of_le (by omega)]
  simp only [Option.bind_some,List.all_nil,Bool.true_and]
  by_cases h : depthS t ≥ 0
  ·rw [if_pos h];simp [h]
  ·rw [if_neg h,decide_eq_false (by omega)]
 | succ d ih =>
  intro k i hi hk
  obtain ⟨k,rfl⟩ : ∃ m,k = m + 1:=⟨k - 1,by omega⟩
  simp only [hornbeamref18_Right.l0]
  rw [if_pos (by omega),if_pos (by omega),one_f _ _ _ _ _ k (by omega),all_drop t _ i (by omega)]
  simp only [Option.bind_some]
  rw [wrap_in (i:=(i : Int) + 1) (by omega) (by omega)]
  cases h : oneS (rd_T75 t (i : Nat)) cols bins kind classes with
  | true=>rw [if_pos rfl,Bool.true_and];exact ih k (i + 1) (by omega) (by omega)
  | false=>rw [if_neg (by simp)];rfl
theorem right18_f (t : List S75) (cols bins kind classes : Int) (hl : t.length ≤ 1000000) (k : Nat) (hk : 4 * t.length + 6 < k) : hornbeamref18_Right.f k t cols bins kind classes = some (rightT t cols bins kind classes):=by
 obtain ⟨k,rfl⟩ : ∃ m,k = m + 1:=⟨k - 1,by omega⟩
 unfold hornbeamref18_Right.f rightT
 rw [may_f _ _ _ _ _ (by omega)]
 simp only [Option.bind_some]
 have no : hornbeamref18_Right.j0 (k + 1) t cols bins kind classes true = some false:=by simp [hornbeamref18_Right.j0]
 cases hm : mayS cols bins kind classes with
 | false=>rw [if_neg (by simp),no];rfl
 | true =>
  rw [if_pos rfl,Bool.true_and]
  by_cases h0 : t.length = 0
  ·rw [show ((t.length : Int) == 0) = true by simp [h0],no];simp [h0]
  ·rw [show ((t.length : Int) == 0) = false by simp [h0]]
   simp only [hornbeamref18_Right.j0,Bool.false_eq_true,if_false]
   have:=right_loop t cols bins kind classes hl t.length k 0 (by omega) (by omega)
   rw [List.drop_zero] at this
   rw [show ((0 : Nat) : Int) = 0 from rfl] at this
   rw [this]
   simp [h0]

/-! ### What a right tree is like -/
theorem lefts_facts (t : List S75) : ∀ (d : Nat) (left i : Int),0 ≤ i → i + d = t.length → leftsS t d left i = true →
  left ≤ t.length ∧ (∀ j,i ≤ j → j < t.length → (rd_T75 t j).f0 ≥ 0 → left ≤ (rd_T75 t j).f2 ∧ j < (rd_T75 t j).f2 ∧ (rd_T75 t j).f2 + 2 ≤ t.length) ∧
  (∀ a b,i ≤ a → a < b → b < t.length → (rd_T75 t a).f0 ≥ 0 → (rd_T75 t b).f0 ≥ 0 → (rd_T75 t a).f2 + 2 ≤ (rd_T75 t b).f2):=by
 intro d
 induction d with
 | zero =>
  intro left i h0 hi h
  have:=of_decide_eq_true h
  exact ⟨by omega,fun j h1 h2=>by omega,fun a b h1 h2 h3=>by omega⟩
 | succ d ih =>
  intro left i h0 hi h
  simp only [leftsS] at h
  by_cases h1 : (rd_T75 t i).f0 ≥ 0
  ·rw [if_pos h1] at h
   by_cases h2 : (rd_T75 t i).f2 = left ∧ ¬ left ≤ i
   ·rw [if_pos h2] at h
    obtain ⟨c1,c2,c3⟩:=ih (left + 2) (i + 1) (by omega) (by omega) h
    refine ⟨by omega,fun j hj hj2 hj3=>?_,fun a b ha hab hb hfa hfb=>?_⟩
    ·by_cases e : j = i
     ·subst e;omega
     ·have:=c2 j (by omega) hj2 hj3;omega
    ·by_cases e : a = i
     ·subst e
      have:=(c2 b (by omega) hb hfb).1;omega
     ·exact c3 a b (by omega) hab hb hfa hfb
   ·rw [if_neg h2] at h;cases h
  ·rw [if_neg h1] at h
   obtain ⟨c1,c2,c3⟩:=ih left (i + 1) (by omega) (by omega) h
   refine ⟨c1,fun j hj hj2 hj3=>?_,fun a b ha hab hb hfa hfb=>?_⟩
   ·by_cases e : j = i
    ·subst e;exact absurd hj3 h1
    ·exact c2 j (by omega) hj2 hj3
   ·by_cases e : a = i
    ·subst e;exact absurd hfa h1
    ·exact c3 a b (by omega) hab hb hfa hfb
theorem right_lefts {t : List S75} {cols bins kind classes : Int} (h : rightT t cols bins kind classes = true) : leftsS t t.length 1 0 = true:=by
 unfold rightT at h
 simp only [Bool.and_eq_true,decide_eq_true_eq] at h
 obtain ⟨_,_,_,hd,_⟩:=h
 unfold depthS at hd
 cases hl : leftsS t t.length 1 0 with
 | true=>rfl
 | false=>rw [hl] at hd;simp at hd
theorem rd_mem_node {t : List S75} {i : Int} (h0 : 0 ≤ i) (h1 : i < t.length) : rd_T75 t i ∈ t:=by
 have : i.toNat < t.length:=by omega
 simp [rd_T75,List.getD_eq_getElem?_getD,this]
theorem right_node {t : List S75} {cols bins kind classes : Int} (h : rightT t cols bins kind classes = true) {i : Int} (h0 : 0 ≤ i) (h1 : i < t.length) : (rd_T75 t i).f0 = -1 ∨ (0 ≤ (rd_T75 t i).f0 ∧ (rd_T75 t i).f0 < cols):=by
 unfold rightT at h
 simp only [Bool.and_eq_true] at h
 have hn:=List.all_eq_true.1 h.2.2.1 _ (rd_mem_node h0 h1)
 generalize rd_T75 t i = n at hn
 unfold oneS at hn
 split at hn
 ·have:=of_decide_eq_true hn;right;omega
 ·split at hn
  ·rename_i hh;left;exact hh.1
  ·cases hn
end Go.Proofs.Ytebbnjgaikppgaa.Pure

namespace Go.Proofs.Ytebbnjgaikppgaa.PureNode
open Go.RowKit Go.Proofs.YtebbnjgaikppgaaW.PrintWords Go.Proofs.YtebbnjgaikppgaaW.PrintLast Go.Proofs.YtebbnjgaikppgaaW.PrintMore Go.Proofs.Ytebbnjgaikppgaa.Pure Go.Proofs.Ytebbnjgaikppgaa.PA
set_option linter.unusedVariables false
set_option linter.unusedSimpArgs false
abbrev Nd:=S75
abbrev nd (t : List Nd) (i : Int) : Nd:=rd_T75 t i
theorem may_f2 (c b kd cl : Int) : node_Shape_may.f c b kd cl = some (mayS c b kd cl):=by
 unfold node_Shape_may.f mayS
 by_cases h1 : c < 1
 ·rw [if_pos h1,decide_eq_false (by omega)];rfl
 rw [if_neg h1]
 by_cases h2 : c > 1024
 ·rw [if_pos h2,decide_eq_false (by omega)];rfl
 rw [if_neg h2]
 by_cases h3 : b < 2
 ·rw [if_pos h3,decide_eq_false (by omega)];rfl
 rw [if_neg h3]
 by_cases h4 : b > 256
 ·rw [if_pos h4,decide_eq_false (by omega)];rfl
 rw [if_neg h4,decide_eq_true (show 1 ≤ c ∧ c ≤ 1024 ∧ 2 ≤ b ∧ b ≤ 256 by omega),Bool.true_and]
 by_cases h5 : kd = 0
 ·rw [if_pos h5,if_pos h5]
  by_cases h6 : cl ≥ 2 <;> by_cases h7 : cl ≤ 256 <;> simp [h5,h6,h7] <;> omega
 ·rw [if_neg h5,if_neg h5]
  by_cases h6 : kd = 1 <;> by_cases h7 : cl = 0 <;> simp [h6,h7]
theorem size_abs (n : Int) (h0 : -9223372036854775808 ≤ n) (h1 : n ≤ 9223372036854775807) : sizeS n = if n ≥ 0 then n else -n:=by
 unfold sizeS
 split
 ·simp [IntKind.wrap,IntKind.bits,IntKind.signed];omega
 ·simp [IntKind.wrap,IntKind.bits,IntKind.signed,wrap64];omega
/-- A node's numbers are numbers. -/
def Wf (n : Nd) : Prop:=-9223372036854775808 ≤ n.f4 ∧ n.f4 ≤ 9223372036854775807
theorem one_eq (c b kd cl : Int) (n : Nd) (hw : Wf n) : node_Right.one c b kd cl n = oneS n c b kd cl:=by
 unfold node_Right.one node_Shape_right.f node_leaf.f oneS
 simp only [Option.bind_some,node_Shape_right.j0,node_leaf.f]
 obtain ⟨f0,f1,f2,f3,f4,f5⟩:=n
 obtain ⟨hw0,hw1⟩:=hw
 simp only at hw0 hw1 ⊢
 by_cases h0 : f0 = -1
 ·subst h0
  simp only [show ((-1 : Int) ≥ 0) = False by simp,if_false]
  by_cases hk : kd = 0
  ·subst hk
   by_cases h1 : f1 = 0 <;> by_cases h2 : f2 = 0 <;> by_cases h3 : f3 ≥ 0 <;> by_cases h4 : f4 = 0 <;> by_cases h5 : f5 = 0 <;> simp [h1,h2,h3,h4,h5] <;> omega
  ·have hs:=size_abs f4 hw0 hw1
   by_cases h1 : f1 = 0 <;> by_cases h2 : f2 = 0 <;> by_cases h3 : f3 = 0 <;> by_cases h5 : f5 ≥ 1 <;> by_cases h6 : f5 ≤ 1048576 <;> simp [hk,h1,h2,h3,h5,h6] <;> try omega
   have e1 : IntKind.u64.wrap (1048576 * IntKind.u64.wrap f5) = 1048576 * f5:=by simp [IntKind.wrap,IntKind.bits,IntKind.signed];omega
   have e2 : wrap64 (1048576 * f5) = 1048576 * f5:=wrap_in (by omega) (by omega)
   have e3 : wrap64 (-(1048576 * f5)) = -(1048576 * f5):=wrap_in (by omega) (by omega)
   rw [e2,e3,e1,hs]
   by_cases h7 : -(1048576 * f5) ≤ f4
   ·simp only [h7,if_true,Option.getD_some,decide_eq_decide]
    split <;> omega
   ·simp only [h7,if_false,Option.getD_some]
    symm
    apply decide_eq_false
    split <;> omega
 ·have e0 : (f0 == -1) = false:=beq_eq_false_iff_ne.2 h0
  by_cases h1 : f0 ≥ 0
  ·by_cases h2 : f0 < c <;> by_cases h3 : f1 ≥ 0 <;> by_cases h4 : f1 < b <;> by_cases h5 : f3 = 0 <;> by_cases h6 : f4 = 0 <;> by_cases h7 : f5 = 0 <;> simp [e0,h0,h1,h2,h3,h4,h5,h6,h7] <;> omega
  ·simp [e0,h0,h1]
/-! ### How deep the nodes stand -/
def depsS (t : List Nd) : Nat → List Int → Int → List Int
 | 0,out,i=>if out.length = t.length then out else []
 | d + 1,out,i=>if i ≥ out.length then (if out.length = t.length then out else []) else if (nd t i).f0 = -1 then depsS t d out (i + 1) else
   if (nd t i).f2 = out.length then (if out.length + 2 > t.length then [] else depsS t d (out ++ [wrap64 (rd out i + 1),wrap64 (rd out i + 1)]) (i + 1)) else []
theorem deps_l0 (t : List Nd) (hl : t.length ≤ 1000000) : ∀ (d k i : Nat) (out : List Int),i + d = t.length → d < k → out.length ≤ t.length →
  node_depths.l0 k t out t t.length i = some (depsS t d out i):=by
 intro d
 induction d with
 | zero =>
  intro k i out h1 h2 h3
  obtain ⟨k,rfl⟩ : ∃ m,k = m + 1:=⟨k - 1,by omega⟩
  simp only [node_depths.l0,depsS]
  rw [if_neg (by omega)]
  by_cases h : out.length = t.length
  ·rw [if_pos (by omega),if_pos h]
  ·rw [if_neg (by omega),if_neg h]
 | succ d ih =>
  intro k i out h1 h2 h3
  obtain ⟨k,rfl⟩ : ∃ m,k = m + 1:=⟨k - 1,by omega⟩
  simp only [node_depths.l0,depsS]
  rw [if_pos (by omega),if_pos (by omega),if_pos (by omega),wrap_in (i:=(i : Int) + 1) (by omega) (by omega),wrap_in (i:=(out.length : Int) + 2) (by omega) (by omega),show ((i : Int) + 1) = ((i + 1 : Nat) : Int) by omega]
  by_cases hi : (i : Int) ≥ out.length
  ·rw [if_pos hi,if_pos hi]
   by_cases h : out.length = t.length
   ·rw [if_pos (by omega),if_pos h]
   ·rw [if_neg (by omega),if_neg h]
  rw [if_neg hi,if_neg hi]
  unfold node_leaf.f
  rw [Option.bind_some]
  by_cases h0 : (rd_T75 t i).f0 = -1
  ·rw [if_pos (beq_iff_eq.2 h0),if_pos h0]
   exact ih k (i + 1) out (by omega) (by omega) h3
  rw [if_neg (by simpa using h0),if_neg h0]
  by_cases h2 : (rd_T75 t i).f2 = out.length
  ·rw [if_pos h2,if_pos h2]
   by_cases h4 : out.length + 2 > t.length
   ·rw [if_pos (by omega),if_pos h4]
   ·rw [if_neg (by omega),if_neg h4,if_pos (by omega),Option.bind_some,if_pos (by simp;omega)]
    exact ih k (i + 1) _ (by omega) (by omega) (by simp;omega)
  ·rw [if_neg h2,if_neg h2]
def depsT (t : List Nd) : List Int:=if t.length = 0 then [] else depsS t t.length [0] 0
theorem depths_f (t : List Nd) (hl : t.length ≤ 1000000) (k : Nat) (hk : t.length < k) : node_depths.f k t = some (depsT t):=by
 unfold node_depths.f depsT
 by_cases h : t.length = 0
 ·rw [if_pos (by omega),if_pos h]
 ·rw [if_neg (by omega),if_neg h,if_pos (by omega),if_pos (by omega)]
  exact deps_l0 t hl t.length k 0 [0] (by omega) hk (by simp;omega)
/-- Each node is a leaf, or has a feature. -/
def Plain (t : List Nd) : Prop:=∀ i : Int,0 ≤ i → i < t.length → (nd t i).f0 = -1 ∨ 0 ≤ (nd t i).f0
theorem lefts_ahead (t : List Nd) : ∀ (d : Nat) (left i : Int),i + d = t.length → leftsS t d left i = true → 0 < d → i < left:=by
 intro d
 induction d with
 | zero=>intro left i _ _ h;omega
 | succ d ih =>
  intro left i hi h _
  simp only [leftsS] at h
  by_cases h1 : (rd_T75 t i).f0 ≥ 0
  ·rw [if_pos h1] at h
   by_cases h2 : (rd_T75 t i).f2 = left ∧ ¬ left ≤ i
   ·omega
   ·rw [if_neg h2] at h;cases h
  ·rw [if_neg h1] at h
   by_cases hd : 0 < d
   ·have:=ih left (i + 1) (by omega) h hd;omega
   ·obtain rfl : d = 0:=by omega
    have:=of_decide_eq_true h;omega
theorem deps_none (t : List Nd) (hp : Plain t) : ∀ (d : Nat) (out : List Int) (i : Int),0 ≤ i → i + d = t.length → leftsS t d out.length i = false → depsS t d out i = []:=by
 intro d
 induction d with
 | zero =>
  intro out i h0 hi h
  have h:=of_decide_eq_false h
  simp only [depsS];rw [if_neg (by omega)]
 | succ d ih =>
  intro out i h0 hi h
  simp only [depsS]
  by_cases hio : i ≥ out.length
  ·rw [if_pos hio,if_neg (by omega)]
  rw [if_neg hio]
  simp only [leftsS] at h
  rcases hp i h0 (by omega) with h1|h1
  ·rw [if_pos h1]
   have h1' : (rd_T75 t i).f0 = -1:=h1
   rw [if_neg (by rw [h1'];omega)] at h
   exact ih out (i + 1) (by omega) (by omega) h
  ·have h1' : (rd_T75 t i).f0 ≥ 0:=h1
   rw [if_pos h1'] at h
   rw [if_neg (by omega)]
   by_cases h2 : (nd t i).f2 = out.length
   ·rw [if_pos h2]
    rw [if_pos ⟨h2,by omega⟩] at h
    by_cases h3 : out.length + 2 > t.length
    ·rw [if_pos h3]
    ·rw [if_neg h3]
     refine ih _ (i + 1) (by omega) (by omega) ?_
     rw [List.length_append,List.length_cons,List.length_cons,List.length_nil]
     rw [show ((out.length + (0 + 1 + 1) : Nat) : Int) = out.length + 2 by omega]
     exact h
   ·rw [if_neg h2]
/-- What the list of depths is like, where the kids stand as they are to. -/
theorem deps_some (t : List Nd) (hp : Plain t) : ∀ (d : Nat) (out : List Int) (i : Int),0 ≤ i → i + d = t.length → leftsS t d out.length i = true →
  ∃ r,depsS t d out i = out ++ r ∧ (out ++ r).length = t.length ∧
   (∀ a,i ≤ a → a < t.length → 0 ≤ (nd t a).f0 → rd (out ++ r) (nd t a).f2 = wrap64 (rd (out ++ r) a + 1) ∧ rd (out ++ r) ((nd t a).f2 + 1) = wrap64 (rd (out ++ r) a + 1)) ∧
   (∀ j : Int,out.length ≤ j → j < t.length → ∃ a,i ≤ a ∧ a < j ∧ 0 ≤ (nd t a).f0 ∧ ((nd t a).f2 = j ∨ (nd t a).f2 + 1 = j)):=by
 intro d
 induction d with
 | zero =>
  intro out i h0 hi h
  have h:=of_decide_eq_true h
  refine ⟨[],?_,?_,fun a h1 h2=>by omega,fun j h1 h2=>by omega⟩
  ·simp only [depsS];rw [if_pos (by omega)];simp
  ·simp;omega
 | succ d ih =>
  intro out i h0 hi h
  have hlt:=lefts_ahead t (d + 1) _ i hi h (by omega)
  simp only [depsS]
  rw [if_neg (by omega)]
  simp only [leftsS] at h
  rcases hp i h0 (by omega) with h1|h1
  ·have h1' : (rd_T75 t i).f0 = -1:=h1
   rw [if_pos h1]
   rw [if_neg (by rw [h1'];omega)] at h
   obtain ⟨r,e1,e2,e3,e4⟩:=ih out (i + 1) (by omega) (by omega) h
   refine ⟨r,e1,e2,fun a ha hb hc=>?_,fun j hj hj2=>?_⟩
   ·by_cases e : a = i
    ·subst e;omega
    ·exact e3 a (by omega) hb hc
   ·obtain ⟨a,q1,q2,q3,q4⟩:=e4 j hj hj2
    exact ⟨a,by omega,q2,q3,q4⟩
  ·have h1' : (rd_T75 t i).f0 ≥ 0:=h1
   rw [if_neg (by omega)]
   rw [if_pos h1'] at h
   by_cases h2 : (rd_T75 t i).f2 = out.length ∧ ¬ (out.length : Int) ≤ i
   ·rw [if_pos h2] at h
    have hle:=(lefts_facts t d _ (i + 1) (by omega) (by omega) h).1
    have h2' : (nd t i).f2 = out.length:=h2.1
    rw [if_pos h2',if_neg (by omega)]
    obtain ⟨r,e1,e2,e3,e4⟩:=ih (out ++ [wrap64 (rd out i + 1),wrap64 (rd out i + 1)]) (i + 1) (by omega) (by omega) (by
     rw [List.length_append,List.length_cons,List.length_cons,List.length_nil]
     rw [show ((out.length + (0 + 1 + 1) : Nat) : Int) = out.length + 2 by omega]
     exact h)
    refine ⟨[wrap64 (rd out i + 1),wrap64 (rd out i + 1)] ++ r,by rw [e1,List.append_assoc],by rw [← List.append_assoc];exact e2,fun a ha hb hc=>?_,fun j hj hj2=>?_⟩
    ·rw [← List.append_assoc]
     by_cases e : a = i
     ·subst e
      have g : ∀ j : Nat,j < out.length → rd (out ++ [wrap64 (rd out a + 1),wrap64 (rd out a + 1)] ++ r) (j : Int) = rd out j:=fun j hj=>by
       simp [rd,List.getElem?_append_left,hj,List.append_assoc]
      obtain ⟨a,rfl⟩:=Int.eq_ofNat_of_zero_le h0
      rw [h2',g a (by omega)]
      constructor
      ·simp [rd]
      ·simp [rd,show ((out.length : Int) + 1).toNat = out.length + 1 by omega]
     ·exact e3 a (by omega) hb hc
    ·by_cases hj3 : j < out.length + 2
     ·exact ⟨i,by omega,by omega,h1,by omega⟩
     ·obtain ⟨a,q1,q2,q3,q4⟩:=e4 j (by simp;omega) hj2
      exact ⟨a,by omega,q2,q3,q4⟩
   ·rw [if_neg h2] at h;cases h
theorem par_spec (t : List Nd) (i : Int) : ∀ (d : Nat) (j : Int),0 ≤ j → 0 ≤ parS t i d j → j ≤ parS t i d j ∧ parS t i d j < i ∧ 0 ≤ (nd t (parS t i d j)).f0 ∧ ((nd t (parS t i d j)).f2 = i ∨ wrap64 ((nd t (parS t i d j)).f2 + 1) = i):=by
 intro d
 induction d with
 | zero=>intro j hj h;simp [parS] at h
 | succ d ih =>
  intro j hj h
  simp only [parS] at h ⊢
  split
  ·rename_i h1
   rw [if_pos h1] at h
   split
   ·rename_i h2;exact ⟨by omega,h1,h2.1,h2.2⟩
   ·rename_i h2
    rw [if_neg h2] at h
    have:=ih (j + 1) (by omega) h
    exact ⟨by omega,this.2⟩
  ·rename_i h1
   rw [if_neg h1] at h;omega
theorem par_found (t : List Nd) (i a : Int) (ha : 0 ≤ (nd t a).f0) (hb : (nd t a).f2 = i ∨ wrap64 ((nd t a).f2 + 1) = i) : ∀ (d : Nat) (j : Int),0 ≤ j → j ≤ a → a < i → i ≤ j + d → 0 ≤ parS t i d j:=by
 intro d
 induction d with
 | zero=>intro j h0 h1 h2 h3;omega
 | succ d ih =>
  intro j h0 h1 h2 h3
  simp only [parS]
  rw [if_pos (by omega)]
  split
  ·exact h0
  ·rename_i hn
   by_cases e : j = a
   ·subst e;exact absurd ⟨ha,hb⟩ hn
   ·exact ih (j + 1) (by omega) (by omega) h2 (by omega)
/-- The greatest, from one on. -/
def mxS (m : Int) : List Int → Int
 | []=>m
 | x :: l=>mxS (if x > m then x else m) l
theorem mxS_ge : ∀ (l : List Int) (m : Int),m ≤ mxS m l
 | [],m=>Int.le_refl _
 | x :: l,m=>by
  have:=mxS_ge l (if x > m then x else m)
  simp only [mxS]
  refine Int.le_trans ?_ this
  split <;> omega
theorem max_l0 (l : List Int) (hl : l.length ≤ 1000000) : ∀ (d k i : Nat) (m : Int),i + d = l.length → d < k → slices_Max_int_int.l0 k l m i = some (mxS m (l.drop i)):=by
 intro d
 induction d with
 | zero =>
  intro k i m h1 h2
  obtain ⟨k,rfl⟩ : ∃ m,k = m + 1:=⟨k - 1,by omega⟩
  simp only [slices_Max_int_int.l0]
  rw [if_neg (by omega),List.drop_eq_nil_of_le (by omega)];rfl
 | succ d ih =>
  intro k i m h1 h2
  obtain ⟨k,rfl⟩ : ∃ m,k = m + 1:=⟨k - 1,by omega⟩
  simp only [slices_Max_int_int.l0]
  rw [if_pos (by omega),if_pos (by omega),wrap_in (by omega) (by omega),show ((i : Int) + 1) = ((i + 1 : Nat) : Int) by omega,ih k (i + 1) _ (by omega) (by omega),drop_rd l i (by omega)]
  simp only [mxS,mx]
theorem max_f (l : List Int) (hl : l.length ≤ 1000000) (h0 : l.length ≠ 0) (k : Nat) (hk : l.length < k) : slices_Max_int_int.f k l = some (mxS (rd l 0) (l.drop 1)):=by
 unfold slices_Max_int_int.f
 rw [if_neg (by omega),if_pos (by omega)]
 exact max_l0 l hl (l.length - 1) k 1 _ (by omega) (by omega)
theorem deep_out (t : List Nd) (out : List Int) (hlen : out.length = t.length) (h0 : t.length ≠ 0 → rd out 0 = 0) (hL : t.length ≤ 1000000)
  (hk : ∀ a : Int,0 ≤ a → a < t.length → 0 ≤ (nd t a).f0 → rd out (nd t a).f2 = wrap64 (rd out a + 1) ∧ rd out ((nd t a).f2 + 1) = wrap64 (rd out a + 1))
  (hb : ∀ a : Int,0 ≤ a → a < t.length → 0 ≤ (nd t a).f0 → 0 ≤ (nd t a).f2 ∧ (nd t a).f2 ≤ t.length)
  (hc : ∀ j : Int,1 ≤ j → j < t.length → ∃ a,0 ≤ a ∧ a < j ∧ 0 ≤ (nd t a).f0 ∧ ((nd t a).f2 = j ∨ (nd t a).f2 + 1 = j)) :
  ∀ (d i : Nat) (m : Int),i + d = t.length → deepS t d (out.take i) m i = mxS m (out.drop i):=by
 intro d
 induction d with
 | zero=>intro i m h;simp only [deepS];rw [List.drop_eq_nil_of_le (by omega)];rfl
 | succ d ih =>
  intro i m h
  have hi : i < out.length:=by omega
  simp only [deepS]
  rw [drop_rd out i hi]
  simp only [mxS]
  by_cases hi0 : (i : Int) > 0
  ·rw [if_pos hi0]
   obtain ⟨a,q1,q2,q3,q4⟩:=hc i (by omega) (by omega)
   have hab:=hb a q1 (by omega) q3
   have hw : wrap64 ((nd t a).f2 + 1) = (nd t a).f2 + 1:=wrap_in (by omega) (by omega)
   have hf:=par_found t i a q3 (by rw [hw];exact q4) (i : Int).toNat 0 (by omega) q1 q2 (by omega)
   have hs:=par_spec t i (i : Int).toNat 0 (by omega) hf
   generalize parS t i (i : Int).toNat 0 = p at hf hs ⊢
   rw [if_neg (by omega)]
   have hpb:=hb p hf (by omega) hs.2.2.1
   have hwp : wrap64 ((nd t p).f2 + 1) = (nd t p).f2 + 1:=wrap_in (by omega) (by omega)
   have hv : rd out i = wrap64 (rd out p + 1):=by
    have:=hk p hf (by omega) hs.2.2.1
    rcases hs.2.2.2 with e|e
    ·rw [← e];exact this.1
    ·rw [← e,hwp];exact this.2
   have ht : rd (out.take i) p = rd out p:=by
    simp only [rd,List.getD_eq_getElem?_getD,List.getElem?_take]
    rw [if_pos (by omega)]
   rw [ht,← hv,← take_rd out i hi,show ((i : Int) + 1) = ((i + 1 : Nat) : Int) by omega,ih (i + 1) _ (by omega)]
  ·obtain rfl : i = 0:=by omega
   rw [if_neg hi0]
   have hv : rd out (0 : Nat) = 0:=h0 (by omega)
   rw [show (List.take 0 out ++ [0]) = out.take 1 by rw [take_rd out 0 hi,hv],hv,show (((0 : Nat) : Int) + 1) = ((1 : Nat) : Int) by omega,ih 1 _ (by omega)]
/-- Where all nodes are plain: the depths, and the document's depth. -/
theorem depths_doc (t : List Nd) (hl : t.length ≤ 1000000) (hp : Plain t) (hn : t.length ≠ 0) :
  (depthS t < 0 ∧ depsT t = []) ∨ (leftsS t t.length 1 0 = true ∧ (depsT t).length = t.length ∧ 0 ≤ depthS t ∧ mxS (rd (depsT t) 0) ((depsT t).drop 1) = depthS t):=by
 unfold depsT depthS
 rw [if_neg hn]
 cases hL : leftsS t t.length 1 0 with
 | false =>
  left
  refine ⟨by simp,deps_none t hp t.length [0] 0 (by omega) (by omega) ?_⟩
  simpa using hL
 | true =>
  right
  obtain ⟨r,e1,e2,e3,e4⟩:=deps_some t hp t.length [0] 0 (by omega) (by omega) (by simpa using hL)
  have hfacts:=(lefts_facts t t.length 1 0 (by omega) (by omega) hL).2.1
  rw [e1]
  have hd:=deep_out t ([0] ++ r) e2 (fun _=>by simp [rd]) hl (fun a h0 h1 h2=>e3 a h0 h1 h2) (fun a h0 h1 h2=>by
   have:=hfacts a h0 h1 h2
   show 0 ≤ (rd_T75 t a).f2 ∧ (rd_T75 t a).f2 ≤ t.length
   omega) (fun j h1 h2=>e4 j (by simpa using h1) h2) t.length 0 0 (by omega)
  rw [List.take_zero,List.drop_zero] at hd
  have hd : deepS t t.length [] 0 0 = mxS 0 ([0] ++ r):=hd
  have hmx : mxS 0 ([0] ++ r) = mxS 0 r:=by simp [mxS]
  have hge:=mxS_ge r 0
  refine ⟨rfl,e2,?_,?_⟩
  ·show 0 ≤ cond true (deepS t t.length [] 0 0) (-1)
   rw [cond_true,hd,hmx];exact hge
  ·show mxS (rd ([0] ++ r) 0) (([0] ++ r).drop 1) = cond true (deepS t t.length [] 0 0) (-1)
   rw [cond_true,hd,hmx];simp [rd]
theorem deps_len (t : List Nd) : ∀ (d : Nat) (out : List Int) (i : Int),out.length ≤ t.length → (depsS t d out i).length ≤ t.length:=by
 intro d
 induction d with
 | zero=>intro out i h;simp only [depsS];split <;> simp [h]
 | succ d ih =>
  intro out i h
  simp only [depsS]
  split
  ·split <;> simp [h]
  ·split
   ·exact ih _ _ h
   ·split
    ·split
     ·simp
     ·exact ih _ _ (by simp;omega)
    ·simp
theorem all_one (t : List Nd) (hw : ∀ x ∈ t,Wf x) (c b kd cl : Int) : t.all (node_Right.one c b kd cl) = t.all (fun n=>oneS n c b kd cl):=by
 induction t with
 | nil=>rfl
 | cons x t ih =>
  rw [List.all_cons,List.all_cons,one_eq _ _ _ _ _ (hw x (by simp)),ih (fun y hy=>hw y (by simp [hy]))]
theorem plain_of_all {t : List Nd} {c b kd cl : Int} (h : t.all (fun n=>oneS n c b kd cl) = true) : Plain t:=by
 intro i h0 h1
 have hn:=List.all_eq_true.1 h _ (rd_mem_node h0 h1)
 show (rd_T75 t i).f0 = -1 ∨ 0 ≤ (rd_T75 t i).f0
 generalize rd_T75 t i = n at hn
 unfold oneS at hn
 split at hn
 ·right;omega
 ·split at hn
  ·rename_i hh;left;exact hh.1
  ·cases hn
theorem right_f (t : List Nd) (hl : t.length ≤ 1000000) (hw : ∀ x ∈ t,Wf x) (c b kd cl : Int) (k : Nat) (hk : t.length + 1 < k) : node_Right.f k t c b kd cl = some (rightT t c b kd cl):=by
 unfold node_Right.f node_Right.g
 rw [depths_f t hl k (by omega),Option.bind_some,may_f2,Option.bind_some,all_one t hw]
 unfold rightT
 cases mayS c b kd cl with
 | false=>rfl
 | true =>
  rw [if_pos rfl,Bool.true_and]
  by_cases hn : t.length = 0
  ·rw [if_pos (by unfold depsT;rw [if_pos hn];rfl),decide_eq_false (by omega)];rfl
  ·rw [decide_eq_true hn,Bool.true_and]
   have hdl : (depsT t).length ≤ t.length:=by unfold depsT;split;simp;exact deps_len t _ _ _ (by simp;omega)
   cases ha : t.all (fun n=>oneS n c b kd cl) with
   | false =>
    rw [Bool.false_and]
    by_cases h0 : (depsT t).length = 0
    ·rw [if_pos h0]
    ·rw [if_neg h0,max_f _ (by omega) h0 k (by omega),Option.bind_some];split <;> rfl
   | true =>
    rw [Bool.true_and]
    rcases depths_doc t hl (plain_of_all ha) hn with ⟨h1,h2⟩|⟨_,h2,h3,h4⟩
    ·rw [h2,decide_eq_false (by omega)];rfl
    ·rw [if_neg (by omega),max_f _ (by omega) (by omega) k (by omega),Option.bind_some,h4]
     by_cases h5 : depthS t > 32
     ·rw [if_pos h5,decide_eq_false (by omega)]
     ·rw [if_neg h5,decide_eq_true (by omega)]
end Go.Proofs.Ytebbnjgaikppgaa.PureNode

namespace Go.Proofs.Ytebbnjgaikppgaa.FNodeOne
open Go.RowKit Go.Shelf Go.Proofs.YtebbnjgaikppgaaW.PrintWords Go.Proofs.YtebbnjgaikppgaaW.PrintLast Go.Proofs.YtebbnjgaikppgaaW.PrintMore Go.Proofs.Ytebbnjgaikppgaa.FTake Go.Proofs.Ytebbnjgaikppgaa.PA
set_option linter.unusedVariables false
set_option linter.unusedSimpArgs false
abbrev Nd:=S75
def nc (x : Nd) : Array Value:=#[.int .i64 x.f0,.int .i64 x.f1,.int .i64 x.f2,.int .i64 x.f3,.int .i64 x.f4,.int .i64 x.f5]
def Nod (W : World) (b : Nat) (x : Nd) : Prop:=W.heap[b]? = some (.cells (nc x) 75 (0,0))
def zn : Nd:=⟨0,0,0,0,0,0⟩
/-- One node, and what is left. -/
def one (kd left : Int) (r : List Int) : Except Int (Nd × List Int):=match number 1 r with
 | .error c=>.error c
 | .ok (x,r1)=>if x = 0 then (if kd = 0 then (match number 1 r1 with
    | .error c=>.error c
    | .ok (y,r2)=>.ok (⟨-1,0,0,wrap64 y,0,0⟩,r2)) else (match number 8 r1 with
    | .error c=>.error c
    | .ok (y,r2)=>match number 4 r2 with
     | .error c=>.error c
     | .ok (z,r3)=>.ok (⟨-1,0,0,0,wrap64 y,wrap64 z⟩,r3)))
  else if x = 1 then (match number 2 r1 with
    | .error c=>.error c
    | .ok (y,r2)=>match number 2 r2 with
     | .error c=>.error c
     | .ok (z,r3)=>.ok (⟨wrap64 y,wrap64 z,left,0,0,0⟩,r3))
  else .error 3
theorem off_store {g : Nat} {W W1 : World} (hB : ∀ B w0,B ≤ g → Below B w0 W → Below B w0 W1) (hk : ∀ k,k ≠ g → W1.heap[k]? = W.heap[k]?) : FTake.Off g W W1:=by
 have b:=hB 0 W (Nat.zero_le _) (Below.refl _ _)
 exact ⟨b.os,b.tape,b.output,b.size,fun k _ hne=>hk k hne⟩
/-- The state of the taking: the shape, the result's cell, the reader. -/
structure St (ok : Nat → Prop) (B : Nat) (kd : Int) (w W : World) (r : List Int) : Prop where
 s : W.cell? ⟨w.heap.size,2,none⟩ = some (.int .i64 kd)
 z : Nod W (w.heap.size + 1) zn
 rd : Rdr ok W B r
 off : Off B w W
theorem St.step {ok : Nat → Prop} {B : Nat} {kd : Int} {w W W' : World} {r r' : List Int} (h : St ok B kd w W r) (hB : B < w.heap.size) (ho : Off B W W') (hr : Rdr ok W' B r') : St ok B kd w W' r':=by
 have hlt:=blk_lt h.z
 exact ⟨(World.cell?_of_block (ho.block w.heap.size (by omega) (by omega))).trans h.s,(ho.block _ hlt (by omega)).trans h.z,hr,h.off.trans ho⟩
theorem St.alloc {ok : Nat → Prop} {B : Nat} {kd : Int} {w W : World} {r : List Int} (h : St ok B kd w W r) (hB : B < w.heap.size) (o : Obj) : St ok B kd w (W.alloc o) r :=
 h.step hB (Off.of_below (below_alloc (Below.refl _ _) _)) (h.rd.below (below_alloc (Below.refl _ _) _))
theorem St.put {ok : Nat → Prop} {B : Nat} {kd : Int} {w W : World} {r : List Int} (h : St ok B kd w W r) (hB : B < w.heap.size) (hok : ∀ k,ok k → k < w.heap.size) (b i : Nat) (v : Value) (hb : w.heap.size + 2 ≤ b) : St ok B kd w (W.setCell ⟨b,i,none⟩ v) r :=
 ⟨(World.cell?_of_block (Below.heap_setCell W ⟨b,i,none⟩ v w.heap.size (show w.heap.size ≠ b by omega))).trans h.s,blk_far h.z (show w.heap.size + 1 ≠ b by omega) _,h.rd.off ((Off.refl b W).setCell i v) (by omega) (fun k hk=>by have:=hok k hk;omega),h.off.setNew (show w.heap.size ≤ b by omega) _⟩
theorem Nod.put3 {W : World} {b : Nat} {x : Nd} (h : Nod W b x) (v : Int) : Nod (W.setCell ⟨b,3,none⟩ (.int .i64 v)) b ⟨x.f0,x.f1,x.f2,v,x.f4,x.f5⟩:=blk_put h 3 _ rfl
theorem Nod.put4 {W : World} {b : Nat} {x : Nd} (h : Nod W b x) (v : Int) : Nod (W.setCell ⟨b,4,none⟩ (.int .i64 v)) b ⟨x.f0,x.f1,x.f2,x.f3,v,x.f5⟩:=blk_put h 4 _ rfl
theorem Nod.put5 {W : World} {b : Nat} {x : Nd} (h : Nod W b x) (v : Int) : Nod (W.setCell ⟨b,5,none⟩ (.int .i64 v)) b ⟨x.f0,x.f1,x.f2,x.f3,x.f4,v⟩:=blk_put h 5 _ rfl
theorem Nod.c0 {W : World} {b : Nat} {x : Nd} (h : Nod W b x) : W.cell? ⟨b,0,none⟩ = some (.int .i64 x.f0):=(blk_cell h 0).trans rfl
theorem Nod.c1 {W : World} {b : Nat} {x : Nd} (h : Nod W b x) : W.cell? ⟨b,1,none⟩ = some (.int .i64 x.f1):=(blk_cell h 1).trans rfl
theorem Nod.c2 {W : World} {b : Nat} {x : Nd} (h : Nod W b x) : W.cell? ⟨b,2,none⟩ = some (.int .i64 x.f2):=(blk_cell h 2).trans rfl
theorem Nod.c3 {W : World} {b : Nat} {x : Nd} (h : Nod W b x) : W.cell? ⟨b,3,none⟩ = some (.int .i64 x.f3):=(blk_cell h 3).trans rfl
theorem Nod.c4 {W : World} {b : Nat} {x : Nd} (h : Nod W b x) : W.cell? ⟨b,4,none⟩ = some (.int .i64 x.f4):=(blk_cell h 4).trans rfl
theorem Nod.c5 {W : World} {b : Nat} {x : Nd} (h : Nod W b x) : W.cell? ⟨b,5,none⟩ = some (.int .i64 x.f5):=(blk_cell h 5).trans rfl
/-- The end: the result's cell is stored. -/
theorem St.fin {ok : Nat → Prop} {B : Nat} {kd : Int} {w W W1 : World} {r : List Int} (h : St ok B kd w W r) (hB : B < w.heap.size) (hok : ∀ k,ok k → k < w.heap.size) (hB9 : ∀ B0 w0,B0 ≤ w.heap.size + 1 → Below B0 w0 W → Below B0 w0 W1) (hk9 : ∀ k,k ≠ w.heap.size + 1 → W1.heap[k]? = W.heap[k]?) : Off B w W1 ∧ Rdr ok W1 B r:=by
 have ho:=off_store hB9 hk9
 exact ⟨⟨ho.os.trans h.off.os,ho.tape.trans h.off.tape,ho.output.trans h.off.output,Nat.le_trans h.off.size ho.size,fun j hj hne=>(hk9 j (by omega)).trans (h.off.block j hj hne)⟩,h.rd.off ho (by omega) (fun j hj=>by have:=hok j hj;omega)⟩
set_option maxHeartbeats 8000000 in
set_option maxRecDepth 100000 in
theorem gives (ok : Nat → Prop) (B : Nat) (s0 s1 kd s3 left : Int) (r : List Int) (w : World) (h : Rdr ok w B r) (hn : ∀ k,ok k → k ≠ B) (hok : ∀ k,ok k → k < w.heap.size) :
  Calls Try.prog 75 #[.pointer (some ⟨B,0,none⟩),.agg #[.int .i64 s0,.int .i64 s1,.int .i64 kd,.int .i64 s3],.int .i64 left] w (Gives ok B w (one kd left r) (fun x v _=>v = .agg (nc x))):=by
 have hu:=Try.underlying75
 have hB : B < w.heap.size:=by obtain ⟨A,c,hb,_⟩:=h;exact hb.lt
 have HN:=Aside0.mk hn
 have HOK:=Aside0.mk hok
 obtain ⟨W0,hW0⟩ : ∃ W0,(w.alloc (.cells #[.int .i64 s0,.int .i64 s1,.int .i64 kd,.int .i64 s3] 72)).alloc (.cells #[.int .i64 0,.int .i64 0,.int .i64 0,.int .i64 0,.int .i64 0,.int .i64 0] 75) = W0:=⟨_,rfl⟩
 have S0:=Aside0.mk (show St ok B kd w W0 r from by
  rw [← hW0]
  refine ⟨(blk_cell (blk_alloc (blk_new w _) _) 2).trans rfl,?_,h.below (below_alloc (below_alloc (Below.refl _ w) _) _),((FTake.Off.refl B w).alloc _).alloc _⟩
  have:=blk_new (w.alloc (.cells #[.int .i64 s0,.int .i64 s1,.int .i64 kd,.int .i64 s3] 72)) (.cells (nc zn) 75);rwa [World.size_alloc] at this)
 have HW0:=Aside0.mk hW0
 clear h hn hok hW0
 have HC1:=Aside0.mk (number_calls ok B 1 r W0 S0.out.rd HN.out)
 go_enter Try.func75,Try.ntmps75
 go_wp2_with (fail)
 rw [HW0.out]
 clear HW0
 refine HC1.out.mono ?_
 cases h1 : number 1 r with
 | error c =>
  rintro e w1 ⟨ho,rfl⟩
  have hfin : Gives ok B w (one kd left r) (fun x v _=>v = .agg (nc x)) (.panicked (fault c)) w1:=by unfold one;rw [h1];exact ⟨S0.out.off.trans ho,rfl⟩
  exact ⟨rfl,hfin⟩
 | ok q =>
  obtain ⟨x,r1⟩:=q
  rintro e w1 ⟨ho,hr1,_,rfl,rfl⟩
  have S1:=Aside0.mk (S0.out.step hB ho hr1)
  clear ho hr1 S0 HC1
  by_cases hx0 : x = 0
  ·subst hx0
   have kS:=S1.out.s
   have S2:=S1.out.alloc hB (.cells #[.int .i64 (-1),.int .i64 0,.int .i64 0,.int .i64 0,.int .i64 0,.int .i64 0] 75)
   have L2:=(show Nod (w1.alloc (.cells #[.int .i64 (-1),.int .i64 0,.int .i64 0,.int .i64 0,.int .i64 0,.int .i64 0] 75)) w1.heap.size ⟨-1,0,0,0,0,0⟩ from blk_new w1 _)
   have HLT:=Aside0.mk (show w.heap.size + 2 ≤ w1.heap.size from blk_lt S1.out.z)
   have hkS2:=S2.s
   obtain ⟨w2,hw2⟩ : ∃ w2,w1.alloc (.cells #[.int .i64 (-1),.int .i64 0,.int .i64 0,.int .i64 0,.int .i64 0,.int .i64 0] 75) = w2:=⟨_,rfl⟩
   rw [hw2] at S2 L2
   have HW2:=Aside0.mk hw2
   replace S2:=Aside0.mk S2
   replace L2:=Aside0.mk L2
   clear hw2
   obtain ⟨b,hb⟩ : ∃ b,w1.heap.size = b:=⟨_,rfl⟩
   rw [hb] at L2 HLT
   have HBB:=Aside0.mk hb
   by_cases hk0 : kd = 0
   ·have dk : (kd == 0) = true:=beq_iff_eq.2 hk0
    have HKD:=Aside0.mk hk0
    clear hk0
    have HC2:=Aside0.mk (number_calls ok B 1 r1 w2 S2.out.rd HN.out)
    go_wp2_with (fail)
    rw [HW2.out]
    clear HW2
    refine HC2.out.mono ?_
    cases h2 : number 1 r1 with
    | error c =>
     rintro e w9 ⟨ho,rfl⟩
     have hfin : Gives ok B w (one kd left r) (fun x v _=>v = .agg (nc x)) (.panicked (fault c)) w9:=by rw [show one kd left r = .error c by simp [one,h1,h2,HKD.out]];exact ⟨S2.out.off.trans ho,rfl⟩
     exact ⟨rfl,hfin⟩
    | ok q =>
     obtain ⟨y,r2⟩:=q
     rintro e w3 ⟨ho,hr2,_,rfl,rfl⟩
     have S3:=Aside0.mk (S2.out.step hB ho hr2)
     have L3:=Aside0.mk (show Nod w3 b ⟨-1,0,0,0,0,0⟩ from (ho.block b (blk_lt L2.out) (by have:=HLT.out;omega)).trans L2.out)
     clear ho hr2 S2 L2 HC2
     have e3:=L3.out.c3
     have f3:=blk_frozen L3.out 3
     have L4:=Aside0.mk (L3.out.put3 (wrap64 y))
     have S4:=Aside0.mk (S3.out.put hB HOK.out b 3 (.int .i64 (wrap64 y)) HLT.out)
     have q0:=L4.out.c0
     have q1:=L4.out.c1
     have q2:=L4.out.c2
     have q3:=L4.out.c3
     have q4:=L4.out.c4
     have q5:=L4.out.c5
     have z9:=S4.out.z
     go_wp2_with ((with_reducible refine gate_store (t:=75) (p:=6) rfl ?_);refine FStore.store_all (w.heap.size + 1) 75 75 6 _ #[.int .i64 0,.int .i64 0,.int .i64 0,.int .i64 0,.int .i64 0,.int .i64 0] (nc ⟨-1,0,0,wrap64 y,0,0⟩) rfl rfl rfl rfl rfl z9 (by kernel_rfl) rfl (by simp [nc,Value.oneCell']) ?_;intro w9 hb9 hB9 hk9)
     refine bodyPost_ret (results_cell_row rfl _ _ (w.heap.size + 1) 75 (nc ⟨-1,0,0,wrap64 y,0,0⟩) (0,0) _ rfl hb9 Try.underlying75 rfl (by kernel_rfl)) rfl ?_
     have hf:=S4.out.fin hB HOK.out hB9 hk9
     have hfin : Gives ok B w (one kd left r) (fun x v _=>v = .agg (nc x)) (.returned (.agg (nc ⟨-1,0,0,wrap64 y,0,0⟩))) w9:=by rw [show one kd left r = .ok (⟨-1,0,0,wrap64 y,0,0⟩,r2) by simp [one,h1,h2,HKD.out]];exact ⟨hf.1,hf.2,_,rfl,rfl⟩
     exact hfin
   ·have dk : (kd == 0) = false:=beq_eq_false_iff_ne.2 hk0
    have HKD:=Aside0.mk hk0
    clear hk0
    have HC2:=Aside0.mk (whole_calls ok B r1 w2 S2.out.rd HN.out)
    go_wp2_with (fail)
    rw [HW2.out]
    clear HW2
    refine HC2.out.mono ?_
    cases h2 : number 8 r1 with
    | error c =>
     rintro e w9 ⟨ho,rfl⟩
     have hfin : Gives ok B w (one kd left r) (fun x v _=>v = .agg (nc x)) (.panicked (fault c)) w9:=by rw [show one kd left r = .error c by simp [one,h1,h2,HKD.out]];exact ⟨S2.out.off.trans ho,rfl⟩
     exact ⟨rfl,hfin⟩
    | ok q =>
     obtain ⟨y,r2⟩:=q
     rintro e w3 ⟨ho,hr2,_,rfl,rfl⟩
     have S3:=Aside0.mk (S2.out.step hB ho hr2)
     have L3:=Aside0.mk (show Nod w3 b ⟨-1,0,0,0,0,0⟩ from (ho.block b (blk_lt L2.out) (by have:=HLT.out;omega)).trans L2.out)
     clear ho hr2 S2 L2 HC2
     have e4:=L3.out.c4
     have f4:=blk_frozen L3.out 4
     have L4:=Aside0.mk (L3.out.put4 (wrap64 y))
     have S4:=Aside0.mk (S3.out.put hB HOK.out b 4 (.int .i64 (wrap64 y)) HLT.out)
     clear S3 L3
     have HC3:=Aside0.mk (number_calls ok B 4 r2 _ S4.out.rd HN.out)
     go_wp2_with (fail)
     clear e4 f4
     refine HC3.out.mono ?_
     generalize w3.setCell ⟨b,4,none⟩ (.int .i64 (wrap64 y)) = w4 at S4 L4 HC3 ⊢
     cases h3 : number 4 r2 with
     | error c =>
      rintro e w9 ⟨ho,rfl⟩
      have hfin : Gives ok B w (one kd left r) (fun x v _=>v = .agg (nc x)) (.panicked (fault c)) w9:=by rw [show one kd left r = .error c by simp [one,h1,h2,h3,HKD.out]];exact ⟨S4.out.off.trans ho,rfl⟩
      exact ⟨rfl,hfin⟩
     | ok q =>
      obtain ⟨z,r3⟩:=q
      rintro e w5 ⟨ho,hr3,_,rfl,rfl⟩
      have S5:=Aside0.mk (S4.out.step hB ho hr3)
      have L5:=Aside0.mk (show Nod w5 b ⟨-1,0,0,0,wrap64 y,0⟩ from (ho.block b (blk_lt L4.out) (by have:=HLT.out;omega)).trans L4.out)
      clear ho hr3 S4 L4 HC3
      have e5:=L5.out.c5
      have f5:=blk_frozen L5.out 5
      have L6:=Aside0.mk (L5.out.put5 (wrap64 z))
      have S6:=Aside0.mk (S5.out.put hB HOK.out b 5 (.int .i64 (wrap64 z)) HLT.out)
      have q0:=L6.out.c0
      have q1:=L6.out.c1
      have q2:=L6.out.c2
      have q3:=L6.out.c3
      have q4:=L6.out.c4
      have q5:=L6.out.c5
      have z9:=S6.out.z
      go_wp2_with ((with_reducible refine gate_store (t:=75) (p:=6) rfl ?_);refine FStore.store_all (w.heap.size + 1) 75 75 6 _ #[.int .i64 0,.int .i64 0,.int .i64 0,.int .i64 0,.int .i64 0,.int .i64 0] (nc ⟨-1,0,0,0,wrap64 y,wrap64 z⟩) rfl rfl rfl rfl rfl z9 (by kernel_rfl) rfl (by simp [nc,Value.oneCell']) ?_;intro w9 hb9 hB9 hk9)
      refine bodyPost_ret (results_cell_row rfl _ _ (w.heap.size + 1) 75 (nc ⟨-1,0,0,0,wrap64 y,wrap64 z⟩) (0,0) _ rfl hb9 Try.underlying75 rfl (by kernel_rfl)) rfl ?_
      have hf:=S6.out.fin hB HOK.out hB9 hk9
      have hfin : Gives ok B w (one kd left r) (fun x v _=>v = .agg (nc x)) (.returned (.agg (nc ⟨-1,0,0,0,wrap64 y,wrap64 z⟩))) w9:=by rw [show one kd left r = .ok (⟨-1,0,0,0,wrap64 y,wrap64 z⟩,r3) by simp [one,h1,h2,h3,HKD.out]];exact ⟨hf.1,hf.2,_,rfl,rfl⟩
      exact hfin
  ·have dx0 : (x == 0) = false:=beq_eq_false_iff_ne.2 hx0
   by_cases hx1 : x = 1
   ·subst hx1
    have HC2:=Aside0.mk (number_calls ok B 2 r1 w1 S1.out.rd HN.out)
    go_wp2_with (fail)
    refine HC2.out.mono ?_
    cases h2 : number 2 r1 with
    | error c =>
     rintro e w9 ⟨ho,rfl⟩
     have hfin : Gives ok B w (one kd left r) (fun x v _=>v = .agg (nc x)) (.panicked (fault c)) w9:=by rw [show one kd left r = .error c by simp [one,h1,h2]];exact ⟨S1.out.off.trans ho,rfl⟩
     exact ⟨rfl,hfin⟩
    | ok q =>
     obtain ⟨y,r2⟩:=q
     rintro e w3 ⟨ho,hr2,_,rfl,rfl⟩
     have S3:=Aside0.mk (S1.out.step hB ho hr2)
     clear ho hr2 S1 HC2
     have HC3:=Aside0.mk (number_calls ok B 2 r2 w3 S3.out.rd HN.out)
     go_wp2_with (fail)
     refine HC3.out.mono ?_
     cases h3 : number 2 r2 with
     | error c =>
      rintro e w9 ⟨ho,rfl⟩
      have hfin : Gives ok B w (one kd left r) (fun x v _=>v = .agg (nc x)) (.panicked (fault c)) w9:=by rw [show one kd left r = .error c by simp [one,h1,h2,h3]];exact ⟨S3.out.off.trans ho,rfl⟩
      exact ⟨rfl,hfin⟩
     | ok q =>
      obtain ⟨z,r3⟩:=q
      rintro e w5 ⟨ho,hr3,_,rfl,rfl⟩
      have S5:=Aside0.mk (S3.out.step hB ho hr3)
      clear ho hr3 S3 HC3
      have z9:=S5.out.z
      go_wp2_with ((with_reducible refine gate_store (t:=75) (p:=6) rfl ?_);refine FStore.store_all (w.heap.size + 1) 75 75 6 _ #[.int .i64 0,.int .i64 0,.int .i64 0,.int .i64 0,.int .i64 0,.int .i64 0] (nc ⟨wrap64 y,wrap64 z,left,0,0,0⟩) rfl rfl rfl rfl rfl z9 (by kernel_rfl) rfl (by simp [nc,Value.oneCell']) ?_;intro w9 hb9 hB9 hk9)
      refine bodyPost_ret (results_cell_row rfl _ _ (w.heap.size + 1) 75 (nc ⟨wrap64 y,wrap64 z,left,0,0,0⟩) (0,0) _ rfl hb9 Try.underlying75 rfl (by kernel_rfl)) rfl ?_
      have hf:=S5.out.fin hB HOK.out hB9 hk9
      have hfin : Gives ok B w (one kd left r) (fun x v _=>v = .agg (nc x)) (.returned (.agg (nc ⟨wrap64 y,wrap64 z,left,0,0,0⟩))) w9:=by rw [show one kd left r = .ok (⟨wrap64 y,wrap64 z,left,0,0,0⟩,r3) by simp [one,h1,h2,h3]];exact ⟨hf.1,hf.2,_,rfl,rfl⟩
      exact hfin
   ·have dx1 : (x == 1) = false:=beq_eq_false_iff_ne.2 hx1
    have HF:=Aside0.mk (fail_calls (some ⟨B,0,none⟩) 3 w1)
    go_wp2_with (fail)
    refine HF.out.mono ?_
    rintro e w9 ⟨rfl,rfl⟩
    have hfin : Gives ok B w (one kd left r) (fun x v _=>v = .agg (nc x)) (.panicked (fault 3)) w9:=by unfold one;rw [h1];simp only;rw [if_neg hx0,if_neg hx1];exact ⟨S1.out.off,rfl⟩
    exact ⟨rfl,hfin⟩
end Go.Proofs.Ytebbnjgaikppgaa.FNodeOne

namespace Go.Proofs.Ytebbnjgaikppgaa.FNodeGet
open Go.RowKit Go.Shelf Go.Proofs.YtebbnjgaikppgaaW.PrintWords Go.Proofs.YtebbnjgaikppgaaW.PrintLast Go.Proofs.YtebbnjgaikppgaaW.PrintMore Go.Proofs.Ytebbnjgaikppgaa.FTake Go.Proofs.Ytebbnjgaikppgaa.PA Go.Proofs.Ytebbnjgaikppgaa.FNodeOne
set_option linter.unusedVariables false
set_option linter.unusedSimpArgs false
/-- So many nodes, one by one. -/
def nodes (kd : Int) : Nat → Int → List Nd → List Int → Except Int (List Nd × List Int)
 | 0,_,out,r=>.ok (out,r)
 | n + 1,left,out,r=>match one kd left r with
  | .error c=>.error c
  | .ok (x,r1)=>nodes kd n (if x.f0 = -1 then left else left + 2) (out ++ [x]) r1
/-- The tree that is taken. -/
def get (s0 s1 kd s3 : Int) (l : List Int) : Except Int (List Nd × List Int):=match number 4 l with
 | .error c=>.error c
 | .ok (n,r)=>if n > 4194304 then .error 4 else match nodes kd n.toNat 1 [] r with
  | .error c=>.error c
  | .ok (t,r1)=>if Pure.rightT t s0 s1 kd s3 = true then .ok (t,r1) else .error 3
theorem num_len {n x : Int} {r r1 : List Int} (h : number n r = .ok (x,r1)) : r1.length + cnt n = r.length:=by
 unfold number at h
 split at h
 ·simp only [Except.ok.injEq,Prod.mk.injEq] at h
  rw [← h.2,List.length_drop];omega
 ·cases h
theorem one_len {kd left : Int} {r r1 : List Int} {x : Nd} (h : one kd left r = .ok (x,r1)) : r1.length + 1 ≤ r.length ∧ PureNode.Wf x:=by
 have hw : ∀ y : Int,-9223372036854775808 ≤ wrap64 y ∧ wrap64 y ≤ 9223372036854775807:=fun y=>by unfold wrap64;omega
 unfold one at h
 cases h1 : number 1 r with
 | error c=>rw [h1] at h;cases h
 | ok q =>
  obtain ⟨a,r2⟩:=q
  have e1:=num_len h1
  rw [show cnt 1 = 1 from rfl] at e1
  rw [h1] at h
  simp only at h
  split at h
  ·split at h
   ·cases h2 : number 1 r2 with
    | error c=>rw [h2] at h;cases h
    | ok q =>
     have e2:=num_len h2
     rw [h2] at h;simp only [Except.ok.injEq,Prod.mk.injEq] at h
     rw [← h.1,← h.2];exact ⟨by omega,by show (-9223372036854775808 : Int) ≤ 0 ∧ (0 : Int) ≤ 9223372036854775807;omega⟩
   ·cases h2 : number 8 r2 with
    | error c=>rw [h2] at h;cases h
    | ok q =>
     have e2:=num_len h2
     rw [h2] at h;simp only at h
     cases h3 : number 4 q.2 with
     | error c=>rw [h3] at h;cases h
     | ok q3 =>
      have e3:=num_len h3
      rw [h3] at h;simp only [Except.ok.injEq,Prod.mk.injEq] at h
      rw [← h.1,← h.2];exact ⟨by omega,hw _⟩
  ·split at h
   ·cases h2 : number 2 r2 with
    | error c=>rw [h2] at h;cases h
    | ok q =>
     have e2:=num_len h2
     rw [h2] at h;simp only at h
     cases h3 : number 2 q.2 with
     | error c=>rw [h3] at h;cases h
     | ok q3 =>
      have e3:=num_len h3
      rw [h3] at h;simp only [Except.ok.injEq,Prod.mk.injEq] at h
      rw [← h.1,← h.2];exact ⟨by omega,by show (-9223372036854775808 : Int) ≤ 0 ∧ (0 : Int) ≤ 9223372036854775807;omega⟩
   ·cases h
/-- The state of the taking: the shape, the row of nodes, the reader. -/
structure GS (ok : Nat → Prop) (B : Nat) (s0 s1 kd s3 : Int) (w W : World) (v : Value) (out : List Nd) (r : List Int) : Prop where
 s : W.heap[w.heap.size]? = some (.cells #[.int .i64 s0,.int .i64 s1,.int .i64 kd,.int .i64 s3] 72 (0,0))
 R : Kd.R k75 75 W w.heap.size (fun k=>w.heap.size ≤ k ∧ k ≠ w.heap.size) v out
 rd : Rdr ok W B r
 off : Off B w W
variable {ok : Nat → Prop} {B : Nat} {s0 s1 kd s3 : Int} {w W W' : World} {v : Value} {out : List Nd} {r r' : List Int}
theorem GS.step (h : GS ok B s0 s1 kd s3 w W v out r) (hB : B < w.heap.size) (ho : Off B W W') (hr : Rdr ok W' B r') : GS ok B s0 s1 kd s3 w W' v out r' :=
 ⟨(ho.block _ (blk_lt h.s) (by omega)).trans h.s,Kd.R_step h.R (fun k hk hlt=>ho.block k hlt (by omega)),hr,h.off.trans ho⟩
theorem GS.below (h : GS ok B s0 s1 kd s3 w W v out r) (hB : B < w.heap.size) (hb : Below W.heap.size W W') : GS ok B s0 s1 kd s3 w W' v out r:=h.step hB (Off.of_below hb) (h.rd.below hb)
/-- Behind an append. -/
theorem GS.app {v1 : Value} {out1 : List Nd} (h : GS ok B s0 s1 kd s3 w W v out r) (hB : B < w.heap.size) (hok : ∀ k,ok k → k < w.heap.size) (hR : Kd.R k75 75 W' w.heap.size (fun k=>w.heap.size ≤ k ∧ k ≠ w.heap.size) v1 out1) (hb : Below w.heap.size W W') (hg : W.grownBy W' v.ownBlock) : GS ok B s0 s1 kd s3 w W' v1 out1 r:=by
 have hs:=h.off.size
 refine ⟨(hg.block _ (blk_lt h.s) (fun e=>(h.R.1 _ e.symm).2 rfl)).trans h.s,hR,?_,⟨hb.os.trans h.off.os,hb.tape.trans h.off.tape,hb.output.trans h.off.output,Nat.le_trans h.off.size hb.size,fun k hk hne=>(hb.block k hk).trans (h.off.block k hk hne)⟩⟩
 obtain ⟨A,c,hbx,hl,hF,hx⟩:=h.rd
 exact ⟨A,c,(hb.block B hB).trans hbx,hl,Kd.F_step hF (fun k hk _=>hb.block k (hok k hk)),hx⟩
set_option maxHeartbeats 1500000 in
set_option maxRecDepth 100000 in
theorem gives (ok : Nat → Prop) (B : Nat) (s0 s1 kd s3 : Int) (l : List Int) (w : World) (h : Rdr ok w B l) (hn : ∀ k,ok k → k ≠ B) (hok : ∀ k,ok k → k < w.heap.size) (hl : l.length ≤ 1000000) :
  Calls Try.prog 72 #[.pointer (some ⟨B,0,none⟩),.agg #[.int .i64 s0,.int .i64 s1,.int .i64 kd,.int .i64 s3]] w (Gives ok B w (get s0 s1 kd s3 l) (fun t v W=>Kd.R k75 75 W w.heap.size (fun k=>w.heap.size ≤ k) v t)):=by
 have hu:=Try.underlying75
 have hu2:=Try.underlying72
 have hB : B < w.heap.size:=by obtain ⟨A,c,hb,_⟩:=h;exact hb.lt
 have HN:=Aside0.mk hn
 have HOK:=Aside0.mk hok
 obtain ⟨W0,hW0⟩ : ∃ W0,w.alloc (.cells #[.int .i64 s0,.int .i64 s1,.int .i64 kd,.int .i64 s3] 72) = W0:=⟨_,rfl⟩
 have S0:=Aside0.mk (show GS ok B s0 s1 kd s3 w W0 (.slice none 0 0) [] l from by
  rw [← hW0]
  exact ⟨blk_new w _,Kd.R_nil _ _ _ _ _,h.below (below_alloc (Below.refl _ w) _),(FTake.Off.refl B w).alloc _⟩)
 have HW0:=Aside0.mk hW0
 clear h hn hok hW0
 have HC1:=Aside0.mk (number_calls ok B 4 l W0 S0.out.rd HN.out)
 go_enter Try.func72,Try.ntmps72
 go_wp2_with (fail)
 rw [HW0.out]
 clear HW0
 refine HC1.out.mono ?_
 cases h1 : number 4 l with
 | error c =>
  rintro e w1 ⟨ho,rfl⟩
  have hfin : Gives ok B w (get s0 s1 kd s3 l) (fun t v W=>Kd.R k75 75 W w.heap.size (fun k=>w.heap.size ≤ k) v t) (.panicked (fault c)) w1:=by unfold get;rw [h1];exact ⟨S0.out.off.trans ho,rfl⟩
  exact ⟨rfl,hfin⟩
 | ok q =>
  obtain ⟨n,r0⟩:=q
  rintro e w1 ⟨ho,hr1,_,rfl,rfl⟩
  have S1:=Aside0.mk (S0.out.step hB ho hr1)
  have hlen:=num_len h1
  have hnn : 0 ≤ n:=by
   have hv : n = val (l.take (cnt 4)):=by
    unfold number at h1;split at h1
    ·simp only [Except.ok.injEq,Prod.mk.injEq] at h1;exact h1.1.symm
    ·cases h1
   obtain ⟨_,_,_,_,_,hx⟩:=S0.out.rd
   rw [hv];exact (val_bound _ (fun x hx'=>hx x (List.mem_of_mem_take hx'))).1
  clear ho hr1 S0 HC1
  by_cases hbig : n > 4194304
  ·have db : decide (n > 4194304) = true:=decide_eq_true hbig
   have HF:=Aside0.mk (fail_calls (some ⟨B,0,none⟩) 4 w1)
   go_wp2_with (fail)
   refine HF.out.mono ?_
   rintro e w9 ⟨rfl,rfl⟩
   have hfin : Gives ok B w (get s0 s1 kd s3 l) (fun t v W=>Kd.R k75 75 W w.heap.size (fun k=>w.heap.size ≤ k) v t) (.panicked (fault 4)) w9:=by unfold get;rw [h1];simp only;rw [if_pos hbig];exact ⟨S1.out.off,rfl⟩
   exact ⟨rfl,hfin⟩
  ·have db : decide (n > 4194304) = false:=decide_eq_false hbig
   obtain ⟨m,rfl⟩:=Int.eq_ofNat_of_zero_le hnn
   clear hnn
   go_wp2_with (fail)
   go_loopw [16,6,7] (fun v16 v6 v7 w'=>∃ (i : Nat) (left : Int) (out : List Nd) (r : List Int),i ≤ m ∧ v16 = .int .u64 i ∧ v7 = .int .i64 left ∧ 0 ≤ left ∧ left ≤ 2 * i + 1 ∧ out.length = i ∧ i + r.length ≤ r0.length ∧ Aside0 (GS ok B s0 s1 kd s3 w w' v6 out r) ∧ Aside0 (nodes kd (m - i) left out r = nodes kd m 1 [] r0) ∧ Aside0 (∀ x ∈ out,PureNode.Wf x)) (fun v _ _ _=>m - (intOf v).toNat)
   case atStart=>exact ⟨0,1,[],r0,by omega,rfl,rfl,by omega,by omega,rfl,by omega,S1,⟨rfl⟩,⟨by simp⟩⟩
   case round =>
    obtain ⟨i,left,out,r,hi,rfl,rfl,hl0,hl1,hol,hrl,GI,HI,HWF⟩:=hrel
    clear S1
    by_cases hlt : i < m
    ·have d0 : decide ((i : Int) < (m : Int)) = true:=decide_eq_true (by omega)
     have k0 : wr.cell? ⟨w.heap.size,0,none⟩ = some (.int .i64 s0):=(blk_cell GI.out.s 0).trans rfl
     have k1 : wr.cell? ⟨w.heap.size,1,none⟩ = some (.int .i64 s1):=(blk_cell GI.out.s 1).trans rfl
     have k2 : wr.cell? ⟨w.heap.size,2,none⟩ = some (.int .i64 kd):=(blk_cell GI.out.s 2).trans rfl
     have k3 : wr.cell? ⟨w.heap.size,3,none⟩ = some (.int .i64 s3):=(blk_cell GI.out.s 3).trans rfl
     have HO:=Aside0.mk (FNodeOne.gives ok B s0 s1 kd s3 left r wr GI.out.rd HN.out (fun k hk=>by have:=HOK.out k hk;have:=blk_lt GI.out.s;omega))
     have hstep : nodes kd (m - i) left out r = match one kd left r with|.error c=>.error c|.ok (x,r1)=>nodes kd (m - (i + 1)) (if x.f0 = -1 then left else left + 2) (out ++ [x]) r1:=by
      rw [show m - i = (m - (i + 1)) + 1 by omega];rfl
     rw [hstep] at HI
     clear hstep
     go_wp2_with (fail)
     refine HO.out.mono ?_
     clear k0 k1 k2 k3
     cases h2 : one kd left r with
     | error c =>
      rw [h2] at HI
      rintro e w2 ⟨ho,rfl⟩
      have hfin : Gives ok B w (get s0 s1 kd s3 l) (fun t v W=>Kd.R k75 75 W w.heap.size (fun k=>w.heap.size ≤ k) v t) (.panicked (fault c)) w2:=by
       unfold get;rw [h1];simp only;rw [if_neg (by omega),Int.toNat_natCast,← HI.out];exact ⟨GI.out.off.trans ho,rfl⟩
      exact ⟨rfl,hfin⟩
     | ok q =>
      obtain ⟨x,r1⟩:=q
      rw [h2] at HI
      obtain ⟨hr1,hwf⟩:=one_len h2
      rintro e w2 ⟨ho,hrd,_,rfl,rfl⟩
      have G2:=Aside0.mk (GI.out.step hB ho hrd)
      have HWF2:=Aside0.mk (show ∀ y ∈ out ++ [x],PureNode.Wf y from fun y hy=>by rcases List.mem_append.1 hy with h|h;exact HWF.out y h;rw [List.mem_singleton.1 h];exact hwf)
      clear ho hrd GI HO HWF hwf h2
      have G3:=Aside0.mk (G2.out.below hB (below_alloc (Below.refl _ w2) (.cells #[.int .i64 x.f0,.int .i64 x.f1,.int .i64 x.f2,.int .i64 x.f3,.int .i64 x.f4,.int .i64 x.f5] 75)))
      have hx3 : Nod (w2.alloc (.cells #[.int .i64 x.f0,.int .i64 x.f1,.int .i64 x.f2,.int .i64 x.f3,.int .i64 x.f4,.int .i64 x.f5] 75)) w2.heap.size x:=blk_new w2 _
      have HX3:=Aside0.mk hx3
      clear hx3
      unfold nc
      go_wp2_with (fail)
      obtain ⟨w3,hw3⟩ : ∃ w3,w2.alloc (.cells #[.int .i64 x.f0,.int .i64 x.f1,.int .i64 x.f2,.int .i64 x.f3,.int .i64 x.f4,.int .i64 x.f5] 75) = w3:=⟨_,rfl⟩
      rw [hw3] at G3 HX3 ⊢
      clear hw3
      obtain ⟨lf,hlf⟩ : ∃ lf : Bool,(x.f0 == -1) = lf:=⟨_,rfl⟩
      have HLF:=Aside0.mk hlf
      clear hlf
      refine (node_leaf.calls x.f0 x.f1 x.f2 x.f3 x.f4 x.f5 lf _ (by rw [← HLF.out];rfl)).mono ?_
      rintro e w4 ⟨rfl,hb⟩
      have G4:=Aside0.mk (G3.out.below hB hb)
      have HX4:=Aside0.mk (show Nod w4 w2.heap.size x from blk_below HX3.out hb)
      have HS4:=Aside0.mk (show w.heap.size < w4.heap.size from blk_lt G4.out.s)
      clear hb G3 HX3 G2
      have c0:=HX4.out.c0
      have c1:=HX4.out.c1
      have c2:=HX4.out.c2
      have c3:=HX4.out.c3
      have c4:=HX4.out.c4
      have c5:=HX4.out.c5
      cases lf with
      | true =>
       rw [if_pos (beq_iff_eq.1 HLF.out)] at HI
       go_wp2_with (first|((with_reducible refine gate_builtin (b:=.append) (xs:=#[.tmp 27,.tmp 29]) rfl ?_);at_builtin;refine Kd.R_append k75 (w0:=w4) w.heap.size rfl (.tmp 27) (.tmp 29) 70 75 (.agg #[(.int .i64 0),(.int .i64 0),(.int .i64 0),(.int .i64 0),(.int .i64 0),(.int .i64 0)]) 48 rfl Try.underlying70 info75 rfl (by decide) (by omega) u6 out x [.int .i64 x.f0,.int .i64 x.f1,.int .i64 x.f2,.int .i64 x.f3,.int .i64 x.f4,.int .i64 x.f5] (fun k=>w.heap.size ≤ k ∧ k ≠ w.heap.size) (fun _=>False) rfl (by first|(go_simp;done)|(go_simp;rfl)) (k75_mkM _ _ _ x) (fun _ hk=>hk.elim) (fun k hk=>⟨by have:=HS4.out;omega,by have:=HS4.out;omega⟩) G4.out.R (Below.refl _ _) (by have:=HS4.out;omega) (by omega) ?_;intro v1 w5 hR5 hb5 hg5 ha5))
       have G5:=Aside0.mk (G4.out.app hB HOK.out hR5 hb5 hg5)
       clear hR5 hb5 hg5 ha5 c0 c1 c2 c3 c4 c5 G4 HX4
       exact ⟨⟨i + 1,left,out ++ [x],r1,by omega,by go_num,by go_num,by omega,by omega,by simp;omega,by omega,G5,HI,HWF2⟩,by simp [intOf];omega⟩
      | false =>
       rw [if_neg (beq_eq_false_iff_ne.1 HLF.out)] at HI
       go_wp2_with (first|((with_reducible refine gate_builtin (b:=.append) (xs:=#[.tmp 27,.tmp 29]) rfl ?_);at_builtin;refine Kd.R_append k75 (w0:=w4) w.heap.size rfl (.tmp 27) (.tmp 29) 70 75 (.agg #[(.int .i64 0),(.int .i64 0),(.int .i64 0),(.int .i64 0),(.int .i64 0),(.int .i64 0)]) 48 rfl Try.underlying70 info75 rfl (by decide) (by omega) u6 out x [.int .i64 x.f0,.int .i64 x.f1,.int .i64 x.f2,.int .i64 x.f3,.int .i64 x.f4,.int .i64 x.f5] (fun k=>w.heap.size ≤ k ∧ k ≠ w.heap.size) (fun _=>False) rfl (by first|(go_simp;done)|(go_simp;rfl)) (k75_mkM _ _ _ x) (fun _ hk=>hk.elim) (fun k hk=>⟨by have:=HS4.out;omega,by have:=HS4.out;omega⟩) G4.out.R (Below.refl _ _) (by have:=HS4.out;omega) (by omega) ?_;intro v1 w5 hR5 hb5 hg5 ha5))
       have G5:=Aside0.mk (G4.out.app hB HOK.out hR5 hb5 hg5)
       clear hR5 hb5 hg5 ha5 c0 c1 c2 c3 c4 c5 G4 HX4
       exact ⟨⟨i + 1,left + 2,out ++ [x],r1,by omega,by go_num,by go_num,by omega,by omega,by simp;omega,by omega,G5,HI,HWF2⟩,by simp [intOf];omega⟩
    ·obtain rfl : i = m:=by omega
     subst hol
     have d0 : decide ((out.length : Int) < (out.length : Int)) = false:=by simp
     have k0 : wr.cell? ⟨w.heap.size,0,none⟩ = some (.int .i64 s0):=(blk_cell GI.out.s 0).trans rfl
     have k1 : wr.cell? ⟨w.heap.size,1,none⟩ = some (.int .i64 s1):=(blk_cell GI.out.s 1).trans rfl
     have k2 : wr.cell? ⟨w.heap.size,2,none⟩ = some (.int .i64 kd):=(blk_cell GI.out.s 2).trans rfl
     have k3 : wr.cell? ⟨w.heap.size,3,none⟩ = some (.int .i64 s3):=(blk_cell GI.out.s 3).trans rfl
     obtain ⟨At,ct,hut,hct,hCt⟩:=Kd.R_reads GI.out.R
     subst hut
     have HR:=Aside0.mk (PureNode.right_f out (by omega) HWF.out s0 s1 kd s3 (out.length + 2) (by omega))
     have HCT:=Aside0.mk hCt
     have hgo : get s0 s1 kd s3 l = if Pure.rightT out s0 s1 kd s3 = true then .ok (out,r) else .error 3:=by
      have hi' : nodes kd out.length 1 [] r0 = .ok (out,r):=by have:=HI.out;rw [Nat.sub_self] at this;exact this.symm
      unfold get;rw [h1];simp only;rw [if_neg (by omega),Int.toNat_natCast,hi']
     have HGO:=Aside0.mk hgo
     clear hCt hgo
     go_wp2_with (fail)
     refine (node_Right.calls (out.length + 2) At ct out s0 s1 kd s3 _ _ HCT.out hct HR.out).mono ?_
     rintro e w5 ⟨rfl,hb⟩
     have G5:=Aside0.mk (GI.out.below hB hb)
     clear hb GI k0 k1 k2 k3 HCT HR
     cases hrt : Pure.rightT out s0 s1 kd s3 with
     | true =>
      have HRM:=Kd.R_mono (ok':=fun k=>w.heap.size ≤ k) G5.out.R (fun k hk=>hk.1)
      have hfin : Gives ok B w (get s0 s1 kd s3 l) (fun t v W=>Kd.R k75 75 W w.heap.size (fun k=>w.heap.size ≤ k) v t) (.returned (.slice At out.length ct)) w5:=by rw [HGO.out,if_pos hrt];exact ⟨G5.out.off,G5.out.rd,.slice At out.length ct,rfl,HRM⟩
      have HFIN:=Aside0.mk hfin
      clear hfin HRM G5 HGO
      go_wp2
      go_ret
      exact HFIN.out
     | false =>
      have HF:=Aside0.mk (fail_calls (some ⟨B,0,none⟩) 3 w5)
      go_wp2_with (fail)
      refine HF.out.mono ?_
      rintro e w9 ⟨rfl,rfl⟩
      have hfin : Gives ok B w (get s0 s1 kd s3 l) (fun t v W=>Kd.R k75 75 W w.heap.size (fun k=>w.heap.size ≤ k) v t) (.panicked (fault 3)) w9:=by rw [HGO.out,if_neg (by rw [hrt];simp)];exact ⟨G5.out.off,rfl⟩
      exact ⟨rfl,hfin⟩
end Go.Proofs.Ytebbnjgaikppgaa.FNodeGet

namespace Go.Proofs.Ytebbnjgaikppgaa.FNodeTaken
open Go.RowKit Go.Shelf Go.Proofs.YtebbnjgaikppgaaW.PrintWords Go.Proofs.YtebbnjgaikppgaaW.PrintLast Go.Proofs.YtebbnjgaikppgaaW.PrintMore Go.Proofs.Ytebbnjgaikppgaa.FTake Go.Proofs.Ytebbnjgaikppgaa.PA Go.Proofs.Ytebbnjgaikppgaa.FNodeOne Go.Proofs.Ytebbnjgaikppgaa.FNodeGet
set_option linter.unusedVariables false
set_option linter.unusedSimpArgs false
/-- The tree of some bytes, and the error. -/
def taken (s0 s1 kd s3 : Int) (l : List Int) : List Nd × Int:=match get s0 s1 kd s3 l with
 | .error c=>([],c)
 | .ok (t,r)=>if r.length > 0 then ([],3) else (t,0)
theorem one_ne {kd left : Int} {r : List Int} {c : Int} (h : one kd left r = .error c) : c ≠ 0:=by
 have ne : ∀ {n : Int} {r : List Int} {c : Int},number n r = .error c → c ≠ 0:=by
  intro n r c h;unfold number at h;split at h
  ·cases h
  ·cases h;decide
 unfold one at h
 cases h1 : number 1 r with
 | error c1=>rw [h1] at h;simp only [Except.error.injEq] at h;rw [← h];exact ne h1
 | ok q =>
  rw [h1] at h;simp only at h
  split at h
  ·split at h
   ·cases h2 : number 1 q.2 with
    | error c1=>rw [h2] at h;simp only [Except.error.injEq] at h;rw [← h];exact ne h2
    | ok q2=>rw [h2] at h;cases h
   ·cases h2 : number 8 q.2 with
    | error c1=>rw [h2] at h;simp only [Except.error.injEq] at h;rw [← h];exact ne h2
    | ok q2 =>
     rw [h2] at h;simp only at h
     cases h3 : number 4 q2.2 with
     | error c1=>rw [h3] at h;simp only [Except.error.injEq] at h;rw [← h];exact ne h3
     | ok q3=>rw [h3] at h;cases h
  ·split at h
   ·cases h2 : number 2 q.2 with
    | error c1=>rw [h2] at h;simp only [Except.error.injEq] at h;rw [← h];exact ne h2
    | ok q2 =>
     rw [h2] at h;simp only at h
     cases h3 : number 2 q2.2 with
     | error c1=>rw [h3] at h;simp only [Except.error.injEq] at h;rw [← h];exact ne h3
     | ok q3=>rw [h3] at h;cases h
   ·cases h;decide
theorem nodes_ne {kd : Int} : ∀ (n : Nat) (left : Int) (out : List Nd) (r : List Int) (c : Int),nodes kd n left out r = .error c → c ≠ 0
 | 0,_,_,_,_,h=>by cases h
 | n + 1,left,out,r,c,h=>by
  simp only [nodes] at h
  cases h1 : one kd left r with
  | error c1=>rw [h1] at h;simp only [Except.error.injEq] at h;rw [← h];exact one_ne h1
  | ok q=>rw [h1] at h;exact nodes_ne n _ _ _ _ h
theorem get_ne {s0 s1 kd s3 : Int} {l : List Int} {c : Int} (h : get s0 s1 kd s3 l = .error c) : c ≠ 0:=by
 unfold FNodeGet.get at h
 cases h1 : number 4 l with
 | error c1 =>
  rw [h1] at h;simp only [Except.error.injEq] at h
  unfold number at h1;split at h1
  ·cases h1
  ·cases h1;rw [← h];decide
 | ok q =>
  rw [h1] at h;simp only at h
  split at h
  ·cases h;decide
  ·cases h2 : nodes kd q.1.toNat 1 [] q.2 with
   | error c1=>rw [h2] at h;simp only [Except.error.injEq] at h;rw [← h];exact nodes_ne _ _ _ _ _ h2
   | ok q2 =>
    rw [h2] at h;simp only at h
    split at h
    ·cases h
    ·cases h;decide
def Shp (W : World) (S : Nat) (s0 s1 kd s3 : Int) : Prop:=W.heap[S]? = some (.cells #[.int .i64 s0,.int .i64 s1,.int .i64 kd,.int .i64 s3] 72 (0,0))
abbrev Row (W : World) (n₀ : Nat) (v : Value) (t : List Nd) : Prop:=Kd.R k75 75 W n₀ (fun k=>n₀ ≤ k) v t
set_option maxHeartbeats 1500000 in
set_option maxRecDepth 100000 in
theorem closure (ok : Nat → Prop) (B S T : Nat) (s0 s1 kd s3 : Int) (l : List Int) (w : World) (h : Rdr ok w B l) (hn : ∀ k,ok k → k ≠ B) (hok : ∀ k,ok k → k < w.heap.size) (hT : ∀ k,ok k → k ≠ T) (hl : l.length ≤ 1000000)
  (hS : Shp w S s0 s1 kd s3) (hb : Boxed w T 70 (.slice none 0 0)) (dT : T ≠ B) :
  Calls Try.prog 71 #[.pointer (some ⟨B,0,none⟩),.pointer (some ⟨S,0,none⟩),.pointer (some ⟨T,0,none⟩)] w fun e W =>
   Offs (fun k=>k = B ∨ k = T) w W ∧ ((∃ t r v,get s0 s1 kd s3 l = .ok (t,r) ∧ e = .returned (.tuple #[]) ∧ Rdr ok W B r ∧ Boxed W T 70 v ∧ Row W w.heap.size v t) ∨ ∃ c,get s0 s1 kd s3 l = .error c ∧ e = .panicked (fault c)):=by
 have hu2:=Try.underlying72
 have G:=FNodeGet.gives ok B s0 s1 kd s3 l w h hn hok hl
 have k0 : w.cell? ⟨S,0,none⟩ = some (.int .i64 s0):=(blk_cell hS 0).trans rfl
 have k1 : w.cell? ⟨S,1,none⟩ = some (.int .i64 s1):=(blk_cell hS 1).trans rfl
 have k2 : w.cell? ⟨S,2,none⟩ = some (.int .i64 kd):=(blk_cell hS 2).trans rfl
 have k3 : w.cell? ⟨S,3,none⟩ = some (.int .i64 s3):=(blk_cell hS 3).trans rfl
 have HBX:=Aside0.mk hb
 have HT:=Aside0.mk hT
 have hlt:=hb.lt
 clear h hn hok hT hS hb
 cases hg : get s0 s1 kd s3 l with
 | error c =>
  rw [hg] at G
  have HG:=Aside0.mk G
  clear G hg
  go_enter Try.func71,Try.ntmps71
  go_wp2_with (fail)
  refine HG.out.mono ?_
  rintro e w1 ⟨ho,rfl⟩
  exact ⟨rfl,Offs.of_off ho (Or.inl rfl),.inr ⟨c,rfl,rfl⟩⟩
 | ok q =>
  obtain ⟨t,r⟩:=q
  rw [hg] at G
  have HG:=Aside0.mk G
  clear G hg
  go_enter Try.func71,Try.ntmps71
  go_wp2_with (fail)
  refine HG.out.mono ?_
  rintro e w1 ⟨ho,hr,v,rfl,hR⟩
  obtain ⟨At,ct,rfl,hct,_⟩:=Kd.R_reads hR
  have bT:=Aside0.mk (ho.boxed HBX.out dT)
  have HO:=Aside0.mk ho
  have HRD:=Aside0.mk hr
  have HRW:=Aside0.mk hR
  have cT:=bT.out.cell
  have fT:=bT.out.frozen
  clear ho hr hR HG k0 k1 k2 k3
  go_wp2
  go_end0
  refine ⟨(Offs.of_off HO.out (Or.inl rfl)).setCell (p:=⟨T,0,none⟩) (.inl (Or.inr rfl)) _,.inl ⟨t,r,_,rfl,rfl,HRD.out.off ((Off.refl T w1).setCell 0 _) (Ne.symm dT) HT.out,bT.out.set _,?_⟩⟩
  exact Kd.R_step HRW.out (fun k hk _=>Below.heap_setCell _ _ _ k (show k ≠ T by omega))
set_option maxHeartbeats 1500000 in
set_option maxRecDepth 100000 in
theorem taken_calls (A : Option Addr) (c : Nat) (l : List Int) (s0 s1 kd s3 : Int) (w : World) (hr : Kd.C (Kd.int .u8) w A l.length l) (hc : l.length ≤ c) (hx : ∀ x ∈ l,0 ≤ x ∧ x < 256) (hl : l.length ≤ 1000000) :
  Calls Try.prog 49 #[.slice A l.length c,.agg #[.int .i64 s0,.int .i64 s1,.int .i64 kd,.int .i64 s3]] w fun e w' =>
   ∃ At ct,e = .returned (.tuple #[.slice At (taken s0 s1 kd s3 l).1.length ct,.int .i64 (taken s0 s1 kd s3 l).2]) ∧ (taken s0 s1 kd s3 l).1.length ≤ ct ∧ Kd.C k75 w' At (taken s0 s1 kd s3 l).1.length (taken s0 s1 kd s3 l).1 ∧ Below w.heap.size w w':=by
 have hu2:=Try.underlying72
 have hmf : ∀ (fn : Fn) (first cap : Array Value) (W : World),(Instr.makeFunc fn first cap).run Try.prog W = .ok (.func fn first cap) W:=fun _ _ _ _=>rfl
 obtain ⟨W0,hW0⟩ : ∃ W0,(w.alloc (.cells #[.int .i64 s0,.int .i64 s1,.int .i64 kd,.int .i64 s3] 72)).alloc (.cells #[.slice none 0 0] 70) = W0:=⟨_,rfl⟩
 have z1 : Shp W0 w.heap.size s0 s1 kd s3:=by rw [← hW0];exact blk_alloc (blk_new w _) _
 have z2 : Boxed W0 (w.heap.size + 1) 70 (.slice none 0 0):=by rw [← hW0];have:=Boxed.new (w.alloc (.cells #[.int .i64 s0,.int .i64 s1,.int .i64 kd,.int .i64 s3] 72)) 70 (.slice none 0 0);rwa [World.size_alloc] at this
 have hb0 : Below w.heap.size w W0:=by rw [← hW0];exact below_alloc (below_alloc (Below.refl _ w) _) _
 have hsz : W0.heap.size = w.heap.size + 2:=by rw [← hW0];simp
 have hF : Kd.F (Kd.int .u8) W0 (fun k=>k < w.heap.size) A l.length l:=Kd.F_below (Kd.C_F (Kd.heap_int .u8) hr) hb0
 have sb:=start_below A l.length c W0
 have sz:=start_size A l.length c W0
 have T:=FTake.try_calls 71 #[.pointer (some ⟨w.heap.size,0,none⟩),.pointer (some ⟨w.heap.size + 1,0,none⟩)] (fun k=>k < w.heap.size) A c l W0 (enters_of Try.func71 (by kernel_rfl) rfl)
  (fun r W=>∃ t v,get s0 s1 kd s3 l = .ok (t,r) ∧ Boxed W (w.heap.size + 1) 70 v ∧ Row W (w.heap.size + 4) v t ∧ Below w.heap.size w W)
  (fun c W=>get s0 s1 kd s3 l = .error c ∧ Below w.heap.size w W) (by
   refine (closure (fun k=>k < w.heap.size) (W0.heap.size + 1) w.heap.size (w.heap.size + 1) s0 s1 kd s3 l _ (FTake.start_rdr _ A c l W0 hF hc hx) (fun k hk=>by omega) (fun k hk=>by rw [sz];omega) (fun k hk=>by omega) hl ((sb.block _ (blk_lt z1)).trans z1) ((sb.block _ z2.lt).trans z2) (by omega)).mono ?_
   rintro e W ⟨ho,hh⟩
   have hbW : Below w.heap.size w W:=(hb0.trans (sb.mono (by omega))).trans (ho.below (by rw [sz];omega) (by omega))
   refine ⟨ho.boxed (FTake.start_err A l.length c W0) (by omega),?_⟩
   rcases hh with ⟨t,r,v,hg,rfl,hrd,hbx,hR⟩|⟨c,hg,rfl⟩
   ·rw [sz,hsz] at hR
    exact .inl ⟨_,r,rfl,hrd,t,v,hg,hbx,hR,hbW⟩
   ·exact .inr ⟨c,rfl,hg,hbW⟩)
 have HT:=Aside0.mk T
 have HW0:=Aside0.mk hW0
 have HZ:=Aside0.mk hsz
 clear T hr hx z1 z2 hb0 hF hW0 hsz sb sz
 go_enter Try.func49,Try.ntmps49
 go_wp2_with (fail)
 rw [HW0.out]
 clear HW0
 refine HT.out.mono ?_
 rintro e w2 ⟨c,W,rfl,ho,⟨r,⟨t,v,hg,hbx,hR,hb⟩,rfl⟩|⟨hg,hb⟩⟩
 ·have hz:=HZ.out
  have hb2:=Aside0.mk (hb.trans (ho.below (by have:=hb.size;omega) (by omega)))
  have hx2:=Aside0.mk (ho.boxed hbx (by omega))
  have hR2:=Aside0.mk (Kd.R_step hR (fun k hk hlt=>ho.block k hlt (by omega)))
  clear hbx hR hb ho HT
  by_cases hr0 : r.length > 0
  ·have hgl : taken s0 s1 kd s3 l = ([],3):=by unfold taken;rw [hg];simp only;rw [if_pos hr0]
   rw [if_pos hr0]
   have HGL:=Aside0.mk hgl
   clear hg hr0 hgl
   go_wp2
   go_ret2
   rw [HGL.out]
   exact ⟨none,0,rfl,Nat.le_refl _,Kd.C_nil _ _,hb2.out⟩
  ·have hgl : taken s0 s1 kd s3 l = (t,0):=by unfold taken;rw [hg];simp only;rw [if_neg hr0]
   obtain ⟨At,ct,rfl,hct,hC⟩:=Kd.R_reads hR2.out
   rw [if_neg hr0]
   have HGL:=Aside0.mk hgl
   have HC:=Aside0.mk hC
   have cx:=hx2.out.cell
   clear hg hr0 hC hgl
   go_wp2
   go_ret2
   rw [HGL.out]
   exact ⟨At,ct,rfl,hct,HC.out,hb2.out⟩
 ·have hz:=HZ.out
  have hb2:=Aside0.mk (hb.trans (ho.below (by have:=hb.size;omega) (by omega)))
  have hgl : taken s0 s1 kd s3 l = ([],c):=by unfold taken;rw [hg]
  have d1 : (c != 0) = true:=bne_iff_ne.mpr (get_ne hg)
  have HGL:=Aside0.mk hgl
  clear hg hb ho HT hgl
  go_wp2
  go_ret2
  rw [HGL.out]
  exact ⟨none,0,rfl,Nat.le_refl _,Kd.C_nil _ _,hb2.out⟩
end Go.Proofs.Ytebbnjgaikppgaa.FNodeTaken

namespace Go.Proofs.Ytebbnjgaikppgaa.PureNodePut
open Go.RowKit Go.Proofs.YtebbnjgaikppgaaW.PrintWords Go.Proofs.YtebbnjgaikppgaaW.PrintLast Go.Proofs.YtebbnjgaikppgaaW.PrintMore Go.Proofs.Ytebbnjgaikppgaa.Pure Go.Proofs.Ytebbnjgaikppgaa.PA Go.Proofs.Ytebbnjgaikppgaa.PureTake Go.Proofs.Ytebbnjgaikppgaa.PureVal Go.Proofs.Ytebbnjgaikppgaa.PureNode
set_option linter.unusedVariables false
set_option linter.unusedSimpArgs false
abbrev u (x : Int) : Int:=IntKind.u64.wrap x
theorem u_eq (x : Int) : u x = x % 18446744073709551616:=by simp [u,IntKind.wrap,IntKind.bits,IntKind.signed]
/-- A node's bytes. -/
def nb (kd : Int) (x : Nd) : List Int:=if x.f0 = -1 then (if kd = 0 then [0,x.f3 % 256] else [0] ++ (be 8 (u x.f4) ++ be 4 (u x.f5))) else [1] ++ (be 2 (u x.f0) ++ be 2 (u x.f1))
def bytesT (kd : Int) (t : List Nd) : List Int:=be 4 (u t.length) ++ t.flatMap (nb kd)
theorem nb_len (kd : Int) (x : Nd) : (nb kd x).length ≤ 13:=by
 unfold nb;split
 ·split <;> simp [be_len]
 ·simp [be_len]
theorem drop_rdT (t : List Nd) (i : Nat) (h : i < t.length) : t.drop i = nd t (i : Nat) :: t.drop (i + 1):=by
 rw [List.drop_eq_getElem_cons h]
 congr 1
 simp [nd,rd_T75,List.getD_eq_getElem?_getD,h]
theorem put_l0 (t : List Nd) (hl : t.length ≤ 1000000) (s0 s1 kd s3 : Int) : ∀ (d k i : Nat) (out : List Int),i + d = t.length → d + 20 < k → out.length + 13 * d ≤ 140000000000000 →
  node_Put.l0 k out t t.length i s0 s1 kd s3 = some (out ++ (t.drop i).flatMap (nb kd)):=by
 intro d
 induction d with
 | zero =>
  intro k i out e h2 h3
  obtain ⟨k,rfl⟩ : ∃ m,k = m + 1:=⟨k - 1,by omega⟩
  simp only [node_Put.l0]
  rw [if_neg (by omega),show i = t.length by omega,List.drop_length];simp
 | succ d ih =>
  intro k i out e h2 h3
  obtain ⟨k,rfl⟩ : ∃ m,k = m + 1:=⟨k - 1,by omega⟩
  have hnb:=nb_len kd (nd t (i : Nat))
  have hi : wrap64 ((i : Int) + 1) = ((i + 1 : Nat) : Int):=by rw [wrap_in (by omega) (by omega)];omega
  simp only [node_Put.l0]
  rw [if_pos (by omega),if_pos (by omega),if_pos (by omega)]
  unfold node_leaf.f
  simp only [Option.bind_some]
  rw [drop_rdT t i (by omega),List.flatMap_cons,← List.append_assoc]
  have key : ∀ o : List Int,o = out ++ nb kd (nd t (i : Nat)) → node_Put.l0 k o t t.length (wrap64 ((i : Int) + 1)) s0 s1 kd s3 = some (o ++ (t.drop (i + 1)).flatMap (nb kd)):=by
   intro o ho
   rw [hi]
   exact ih k (i + 1) o (by omega) (by omega) (by rw [ho,List.length_append];omega)
  unfold nb at key hnb ⊢
  by_cases hf : (nd t (i : Nat)).f0 = -1
  ·rw [if_pos hf] at key hnb ⊢
   rw [if_pos (show ((rd_T75 t (i : Nat)).f0 == -1) = true from beq_iff_eq.2 hf)]
   by_cases hk : kd = 0
   ·rw [if_pos hk] at key hnb ⊢
    rw [if_pos hk,if_pos (by simp;omega)]
    exact key _ rfl
   ·rw [if_neg hk] at key hnb ⊢
    rw [if_neg hk,if_pos (by omega)]
    unfold take_PutWhole.f
    rw [put_f _ _ 8 (by simp) k (by omega)]
    simp only [Option.bind_some,List.nil_append,show cnt 8 = 8 from rfl]
    rw [put_f _ _ 4 (by rw [be_len];omega) k (by omega)]
    simp only [Option.bind_some,show cnt 4 = 4 from rfl]
    rw [if_pos (by simp only [List.length_append,be_len,List.length_singleton];omega),List.append_assoc]
    exact key _ rfl
  ·rw [if_neg hf] at key hnb ⊢
   rw [if_neg (show ¬ ((rd_T75 t (i : Nat)).f0 == -1) = true from fun h=>hf (beq_iff_eq.1 h)),if_pos (by omega),put_f _ _ 2 (by simp) k (by omega)]
   simp only [Option.bind_some,List.nil_append,show cnt 2 = 2 from rfl]
   rw [put_f _ _ 2 (by rw [be_len];omega) k (by omega)]
   simp only [Option.bind_some,show cnt 2 = 2 from rfl]
   rw [if_pos (by simp only [List.length_append,be_len,List.length_singleton];omega),List.append_assoc]
   exact key _ rfl
theorem node_put_f (b : List Int) (t : List Nd) (hb : b.length ≤ 1000000) (hl : t.length ≤ 1000000) (hw : ∀ x ∈ t,Wf x) (s0 s1 kd s3 : Int) (k : Nat) (hk : t.length + 40 < k) :
  node_Put.f k b t s0 s1 kd s3 = some (if rightT t s0 s1 kd s3 = true then b ++ bytesT kd t else b):=by
 unfold node_Put.f
 rw [clone_f b (by omega),Option.bind_some,right_f t hl hw s0 s1 kd s3 k (by omega),Option.bind_some]
 by_cases h : rightT t s0 s1 kd s3 = true
 ·rw [if_pos h,if_pos h,put_f _ _ 4 (by simp) k (by omega)]
  simp only [Option.bind_some,List.nil_append,show cnt 4 = 4 from rfl]
  rw [if_pos (by rw [be_len];omega)]
  have:=put_l0 t hl s0 s1 kd s3 t.length k 0 (b ++ be 4 (u t.length)) (by omega) (by omega) (by rw [List.length_append,be_len];omega)
  rw [List.drop_zero,List.append_assoc] at this
  exact this
 ·rw [if_neg h,if_neg h]
theorem ref_l0 (t : List Nd) (hp : Plain t) (hl : t.length ≤ 1000000) (kd : Int) : ∀ (d k i : Nat) (out : List Int),i + d = t.length → d + 20 < k → out.length + 13 * d ≤ 140000000000000 →
  hornbeamref18_Put.l0 k t kd (strOfNums out) i = some (strOfNums (out ++ (t.drop i).flatMap (nb kd))):=by
 intro d
 induction d with
 | zero =>
  intro k i out e h2 h3
  obtain ⟨k,rfl⟩ : ∃ m,k = m + 1:=⟨k - 1,by omega⟩
  simp only [hornbeamref18_Put.l0]
  rw [if_neg (by omega),show i = t.length by omega,List.drop_length];simp
 | succ d ih =>
  intro k i out e h2 h3
  obtain ⟨k,rfl⟩ : ∃ m,k = m + 1:=⟨k - 1,by omega⟩
  have hnb:=nb_len kd (nd t (i : Nat))
  have hub : ∀ x : Int,0 ≤ u x ∧ u x < 18446744073709551616:=fun x=>by rw [u_eq];omega
  have hi : wrap64 ((i : Int) + 1) = ((i + 1 : Nat) : Int):=by rw [wrap_in (by omega) (by omega)];omega
  simp only [hornbeamref18_Put.l0]
  rw [if_pos (by omega),if_pos (by omega)]
  rw [drop_rdT t i (by omega),List.flatMap_cons,← List.append_assoc]
  have key : ∀ o : List Int,o = out ++ nb kd (nd t (i : Nat)) → hornbeamref18_Put.l0 k t kd (strOfNums o) (wrap64 ((i : Int) + 1)) = some (strOfNums (o ++ (t.drop (i + 1)).flatMap (nb kd))):=by
   intro o ho
   rw [hi]
   exact ih k (i + 1) o (by omega) (by omega) (by rw [ho,List.length_append];omega)
  have b1 : be 1 1 = [1]:=by decide
  have b0 : be 1 0 = [0]:=by decide
  unfold nb at key hnb ⊢
  rcases hp i (by omega) (by omega) with hf|hf
  ·rw [if_pos hf] at key hnb ⊢
   rw [if_neg (show ¬ (rd_T75 t (i : Nat)).f0 ≥ 0 by have : (rd_T75 t (i : Nat)).f0 = -1:=hf;omega),ref_put_f 0 1 (by omega) (by omega) k (by omega)]
   simp only [Option.bind_some,show cnt 1 = 1 from rfl,b0,← strOf_append]
   by_cases hk : kd = 0
   ·rw [if_pos hk] at key hnb ⊢
    rw [if_pos (by simp only [strOf_size,List.length_singleton];omega),if_pos hk,ref_put_f _ 1 (hub _).1 (hub _).2 k (by omega)]
    simp only [Option.bind_some,show cnt 1 = 1 from rfl,← strOf_append]
    rw [if_pos (by simp only [strOf_size,List.length_append,List.length_singleton,be_len];omega),List.append_assoc]
    have hb1 : [0] ++ be 1 (IntKind.u64.wrap (rd_T75 t (i : Nat)).f3) = [0,(nd t (i : Nat)).f3 % 256]:=by
     show [0] ++ be 1 (u (nd t (i : Nat)).f3) = _
     have e1 : u (nd t (i : Nat)).f3 / 256 ^ 0 % 256 = (nd t (i : Nat)).f3 % 256:=by rw [u_eq,Int.pow_zero,Int.ediv_one];omega
     simp only [be,List.singleton_append,e1]
    rw [hb1]
    exact key _ rfl
   ·rw [if_neg hk] at key hnb ⊢
    rw [if_pos (by simp only [strOf_size,List.length_singleton];omega),if_neg hk,ref_put_f _ 8 (hub _).1 (hub _).2 k (by omega)]
    simp only [Option.bind_some,show cnt 8 = 8 from rfl,← strOf_append]
    rw [if_pos (by simp only [strOf_size,List.length_append,List.length_singleton,be_len];omega),ref_put_f _ 4 (hub _).1 (hub _).2 k (by omega)]
    simp only [Option.bind_some,show cnt 4 = 4 from rfl,← strOf_append]
    rw [if_pos (by simp only [strOf_size,List.length_append,List.length_singleton,be_len];omega),List.append_assoc,List.append_assoc]
    exact key _ rfl
  ·rw [if_neg (show ¬ (nd t (i : Nat)).f0 = -1 by omega)] at key hnb ⊢
   rw [if_pos (show (rd_T75 t (i : Nat)).f0 ≥ 0 from hf),ref_put_f 1 1 (by omega) (by omega) k (by omega)]
   simp only [Option.bind_some,show cnt 1 = 1 from rfl,b1,← strOf_append]
   rw [if_pos (by simp only [strOf_size,List.length_singleton];omega),ref_put_f _ 2 (hub _).1 (hub _).2 k (by omega)]
   simp only [Option.bind_some,show cnt 2 = 2 from rfl,← strOf_append]
   rw [if_pos (by simp only [strOf_size,List.length_append,List.length_singleton,be_len];omega),ref_put_f _ 2 (hub _).1 (hub _).2 k (by omega)]
   simp only [Option.bind_some,show cnt 2 = 2 from rfl,← strOf_append]
   rw [if_pos (by simp only [strOf_size,List.length_append,List.length_singleton,be_len];omega),List.append_assoc,List.append_assoc]
   exact key _ rfl
theorem ref_put18_f (t : List Nd) (hl : t.length ≤ 1000000) (s0 s1 kd s3 : Int) (k : Nat) (hk : 4 * t.length + 40 < k) :
  hornbeamref18_Put.f k t s0 s1 kd s3 = some (if rightT t s0 s1 kd s3 = true then strOfNums (bytesT kd t) else (⟨#[]⟩ : ByteArray)):=by
 unfold hornbeamref18_Put.f
 rw [right18_f t s0 s1 kd s3 hl k (by omega),Option.bind_some]
 by_cases h : rightT t s0 s1 kd s3 = true
 ·have hp : Plain t:=by
   have h':=h
   unfold rightT at h'
   simp only [Bool.and_eq_true] at h'
   exact plain_of_all h'.2.2.1
  rw [if_pos h,if_pos h,ref_put_f _ 4 (by rw [show IntKind.u64.wrap (t.length : Int) = u t.length from rfl,u_eq];omega) (by rw [show IntKind.u64.wrap (t.length : Int) = u t.length from rfl,u_eq];omega) k (by omega)]
  simp only [Option.bind_some,show cnt 4 = 4 from rfl]
  have:=ref_l0 t hp hl kd t.length k 0 (be 4 (u t.length)) (by omega) (by omega) (by rw [be_len];omega)
  rw [List.drop_zero] at this
  exact this
 ·rw [if_neg h,if_neg h]
open Go.Proofs.Ytebbnjgaikppgaa.FTake (number val) in
theorem num1 (a : Int) (r : List Int) : number 1 (a :: r) = .ok (a,r):=by
 unfold FTake.number
 rw [if_pos (by show 1 ≤ (a :: r).length;simp)]
 show Except.ok (FTake.val [a],r) = _
 simp [FTake.val]
open Go.Proofs.Ytebbnjgaikppgaa.FNodeOne (one) in
theorem one_back (x : Nd) (s0 s1 kd s3 left : Int) (rest : List Int) (hm : mayS s0 s1 kd s3 = true) (h : oneS x s0 s1 kd s3 = true) (hw : Wf x) (hl : x.f0 ≥ 0 → x.f2 = left) : one kd left (nb kd x ++ rest) = .ok (x,rest):=by
 obtain ⟨f0,f1,f2,f3,f4,f5⟩:=x
 unfold oneS at h
 unfold mayS at hm
 simp only [Bool.and_eq_true,decide_eq_true_eq] at hm
 obtain ⟨⟨m1,m2,m3,m4⟩,m5⟩:=hm
 simp only at h hl hw
 have p2 : (256 : Int) ^ 2 = 65536:=rfl
 have p8 : (256 : Int) ^ 8 = 18446744073709551616:=rfl
 have p4 : (256 : Int) ^ 4 = 4294967296:=rfl
 by_cases hf : f0 ≥ 0
 ·rw [if_pos hf,decide_eq_true_eq] at h
  obtain ⟨a1,a2,a3,a4,a5,a6⟩:=h
  have hl':=hl hf
  subst hl' a4 a5 a6
  unfold nb
  simp only
  rw [if_neg (by omega),List.append_assoc,List.singleton_append,List.append_assoc]
  unfold FNodeOne.one
  rw [num1]
  simp only
  rw [if_pos trivial,num_be 2 (u f0) (by rw [u_eq];omega) 2 rfl (by omega)]
  simp only
  rw [num_be 2 (u f1) (by rw [u_eq];omega) 2 rfl (by omega)]
  simp only
  rw [u_eq,u_eq,p2,wrap_in (by omega) (by omega),wrap_in (by omega) (by omega),show f0 % 18446744073709551616 % 65536 = f0 by omega,show f1 % 18446744073709551616 % 65536 = f1 by omega,if_neg (by omega)]
 ·rw [if_neg hf] at h
  by_cases hc : f0 = -1 ∧ f1 = 0 ∧ f2 = 0
  ·rw [if_pos hc] at h
   obtain ⟨rfl,rfl,rfl⟩:=hc
   unfold nb
   simp only [if_true]
   by_cases hk : kd = 0
   ·subst hk
    rw [if_pos rfl,decide_eq_true_eq] at h
    rw [if_pos rfl,decide_eq_true_eq] at m5
    obtain ⟨a1,a2,a3,a4⟩:=h
    subst a3 a4
    rw [if_pos rfl]
    unfold FNodeOne.one
    rw [show [0,f3 % 256] ++ rest = 0 :: (f3 % 256 :: rest) from rfl,num1]
    simp only
    rw [if_pos trivial,if_pos trivial,num1]
    simp only
    rw [wrap_in (by omega) (by omega),show f3 % 256 = f3 by omega]
   ·rw [if_neg hk,decide_eq_true_eq] at h
    obtain ⟨a1,a2,a3,a4⟩:=h
    subst a1
    rw [if_neg hk,List.append_assoc,List.singleton_append,List.append_assoc]
    unfold FNodeOne.one
    rw [num1]
    simp only
    rw [if_pos trivial,if_neg hk,num_be 8 (u f4) (by rw [u_eq];omega) 8 rfl (by omega)]
    simp only
    rw [num_be 4 (u f5) (by rw [u_eq];omega) 4 rfl (by omega)]
    simp only
    have hw1 : -9223372036854775808 ≤ f4 ∧ f4 ≤ 9223372036854775807:=hw
    rw [u_eq,u_eq,p8,p4,show wrap64 (f4 % 18446744073709551616 % 18446744073709551616) = f4 by unfold wrap64;omega,show f5 % 18446744073709551616 % 4294967296 = f5 by omega,wrap_in (i:=f5) (by omega) (by omega)]
  ·rw [if_neg hc] at h;cases h
open Go.Proofs.Ytebbnjgaikppgaa.FNodeGet (nodes) in
theorem nodes_back (t : List Nd) (s0 s1 kd s3 : Int) (hm : mayS s0 s1 kd s3 = true) (hw : ∀ x ∈ t,Wf x) (ha : ∀ x ∈ t,oneS x s0 s1 kd s3 = true) (rest : List Int) : ∀ (d i : Nat) (left : Int) (out : List Nd),i + d = t.length → leftsS t d left i = true →
  nodes kd d left out ((t.drop i).flatMap (nb kd) ++ rest) = .ok (out ++ t.drop i,rest):=by
 intro d
 induction d with
 | zero =>
  intro i left out e h
  rw [show i = t.length by omega,List.drop_length]
  simp [FNodeGet.nodes]
 | succ d ih =>
  intro i left out e h
  have hmem : nd t (i : Nat) ∈ t:=rd_mem_node (by omega) (by omega)
  rw [drop_rdT t i (by omega),List.flatMap_cons,List.append_assoc]
  simp only [leftsS] at h
  have hplain:=ha _ hmem
  by_cases hf : (nd t (i : Nat)).f0 ≥ 0
  ·rw [if_pos (show (rd_T75 t (i : Nat)).f0 ≥ 0 from hf)] at h
   split at h
   ·rename_i hc
    simp only [FNodeGet.nodes]
    rw [one_back _ s0 s1 kd s3 left _ hm hplain (hw _ hmem) (fun _=>hc.1)]
    simp only
    rw [if_neg (by omega)]
    have:=ih (i + 1) (left + 2) (out ++ [nd t (i : Nat)]) (by omega) (by rw [show (((i + 1 : Nat)) : Int) = (i : Int) + 1 by omega];exact h)
    rw [this];simp
   ·cases h
  ·rw [if_neg (show ¬ (rd_T75 t (i : Nat)).f0 ≥ 0 from hf)] at h
   have hf1 : (nd t (i : Nat)).f0 = -1:=by
    have h2:=hplain
    unfold oneS at h2
    rw [if_neg hf] at h2
    split at h2
    ·rename_i hc;exact hc.1
    ·cases h2
   simp only [FNodeGet.nodes]
   rw [one_back _ s0 s1 kd s3 left _ hm hplain (hw _ hmem) (fun h0=>absurd h0 hf)]
   simp only
   rw [if_pos hf1]
   have:=ih (i + 1) left (out ++ [nd t (i : Nat)]) (by omega) (by rw [show (((i + 1 : Nat)) : Int) = (i : Int) + 1 by omega];exact h)
   rw [this];simp
/-- What is laid is taken again. -/
theorem get_back (t : List Nd) (hl : t.length ≤ 1000000) (hw : ∀ x ∈ t,Wf x) (s0 s1 kd s3 : Int) (h : rightT t s0 s1 kd s3 = true) : FNodeGet.get s0 s1 kd s3 (bytesT kd t) = .ok (t,[]):=by
 have hL:=right_lefts h
 have h':=h
 unfold rightT at h'
 simp only [Bool.and_eq_true] at h'
 have ha : ∀ x ∈ t,oneS x s0 s1 kd s3 = true:=fun x hx=>List.all_eq_true.1 h'.2.2.1 x hx
 unfold FNodeGet.get bytesT
 rw [num_be 4 (u t.length) (by rw [u_eq];omega) 4 rfl (by omega)]
 simp only
 have e1 : u (t.length : Int) % 256 ^ 4 = t.length:=by rw [u_eq,show (256 : Int) ^ 4 = 4294967296 from rfl];omega
 rw [e1,if_neg (by omega),Int.toNat_natCast]
 have:=nodes_back t s0 s1 kd s3 h'.1 hw ha [] t.length 0 1 [] (by omega) hL
 rw [List.drop_zero,List.append_nil,List.nil_append] at this
 rw [this]
 simp only
 rw [if_pos h]
theorem taken_back (t : List Nd) (hl : t.length ≤ 1000000) (hw : ∀ x ∈ t,Wf x) (s0 s1 kd s3 : Int) (h : rightT t s0 s1 kd s3 = true) : FNodeTaken.taken s0 s1 kd s3 (bytesT kd t) = (t,0):=by
 unfold FNodeTaken.taken
 rw [get_back t hl hw s0 s1 kd s3 h]
 simp
theorem nb_byte (kd : Int) (x : Nd) : ∀ y ∈ nb kd x,0 ≤ y ∧ y < 256:=by
 intro y hy
 unfold nb at hy
 split at hy
 ·split at hy
  ·simp only [List.mem_cons,List.not_mem_nil,or_false] at hy
   rcases hy with rfl|rfl <;> omega
  ·simp only [List.singleton_append,List.mem_cons,List.mem_append] at hy
   rcases hy with rfl|hy|hy
   ·omega
   ·exact be_byte _ _ y hy
   ·exact be_byte _ _ y hy
 ·simp only [List.singleton_append,List.mem_cons,List.mem_append] at hy
  rcases hy with rfl|hy|hy
  ·omega
  ·exact be_byte _ _ y hy
  ·exact be_byte _ _ y hy
theorem bytesT_byte (kd : Int) (t : List Nd) : ∀ y ∈ bytesT kd t,0 ≤ y ∧ y < 256:=by
 intro y hy
 unfold bytesT at hy
 rcases List.mem_append.1 hy with h|h
 ·exact be_byte _ _ y h
 ·obtain ⟨x,_,hx⟩:=List.mem_flatMap.1 h
  exact nb_byte kd x y hx
theorem flat_len (kd : Int) : ∀ t : List Nd,(t.flatMap (nb kd)).length ≤ 13 * t.length
 | []=>by simp
 | x :: t=>by
  have:=nb_len kd x
  have:=flat_len kd t
  simp only [List.flatMap_cons,List.length_append,List.length_cons];omega
theorem bytesT_len (kd : Int) (t : List Nd) : 4 ≤ (bytesT kd t).length ∧ (bytesT kd t).length ≤ 13 * t.length + 4:=by
 have:=flat_len kd t
 unfold bytesT
 rw [List.length_append,be_len];omega
end Go.Proofs.Ytebbnjgaikppgaa.PureNodePut

namespace Go.Proofs.Ytebbnjgaikppgaa.PureGet
open Go.RowKit Go.Proofs.YtebbnjgaikppgaaW.PrintWords Go.Proofs.YtebbnjgaikppgaaW.PrintLast Go.Proofs.YtebbnjgaikppgaaW.PrintMore Go.Proofs.Ytebbnjgaikppgaa.Pure Go.Proofs.Ytebbnjgaikppgaa.PureTake Go.Proofs.Ytebbnjgaikppgaa.PA
set_option linter.unusedVariables false
set_option linter.unusedSimpArgs false
abbrev Bytes (l : List Int) : Prop:=∀ x ∈ l,0 ≤ x ∧ x < 256
theorem bt_str (l : List Int) (hb : Bytes l) (i : Nat) (h : i < l.length) : bt (strOfNums l) (i : Int) = rd l (i : Int):=by
 have hs : i < (strOfNums l).size:=by rw [strOf_size];exact h
 have hx:=hb l[i] (List.getElem_mem h)
 unfold bt
 rw [rd_nat l i h,dif_pos (by simpa using hs)]
 show (((strOfNums l).data[i]'hs).toNat : Int) = l[i]
 simp [strOfNums]
 omega
theorem val_take (l : List Int) (j : Nat) (h : j < l.length) : FTake.val (l.take (j + 1)) = FTake.val (l.take j) * 256 + rd l (j : Int):=by
 rw [take_rd l j h,FTake.val_snoc]
theorem rd_drop (l : List Int) (a j : Nat) : rd (l.drop a) (j : Int) = rd l ((a + j : Nat) : Int):=by
 simp [rd,show ((a : Int) + (j : Int)).toNat = a + j by omega]
theorem byte_drop {l : List Int} (h : Bytes l) (a : Nat) : Bytes (l.drop a):=fun x hx=>h x (List.mem_of_mem_drop hx)
theorem byte_take {l : List Int} (h : Bytes l) (a : Nat) : Bytes (l.take a):=fun x hx=>h x (List.mem_of_mem_take hx)
theorem val_lt {l : List Int} (h : Bytes l) (j : Nat) (hj : j ≤ 7) : 0 ≤ FTake.val (l.take j) ∧ FTake.val (l.take j) < 72057594037927936:=by
 obtain ⟨a,b⟩:=FTake.val_bound (l.take j) (byte_take h j)
 have h1 : (l.take j).length ≤ j:=by simp;omega
 have:=FTake.pow_le (l.take j).length (by omega)
 omega
theorem get_l0 (l : List Int) (hb : Bytes l) (a m : Nat) (hm : m ≤ 8) (ha : a + m ≤ l.length) (hl : l.length ≤ 1000000) : ∀ (d k j : Nat),j + d = m → d < k →
  hornbeamref07_Get.l0 k (strOfNums l) a m (FTake.val ((l.drop a).take j)) j = some (FTake.val ((l.drop a).take m),((a + m : Nat) : Int),true):=by
 intro d
 induction d with
 | zero =>
  intro k j e h2
  obtain ⟨k,rfl⟩ : ∃ m,k = m + 1:=⟨k - 1,by omega⟩
  simp only [hornbeamref07_Get.l0]
  rw [if_neg (by omega),show j = m by omega,wrap_in (by omega) (by omega)];rfl
 | succ d ih =>
  intro k j e h2
  obtain ⟨k,rfl⟩ : ∃ m,k = m + 1:=⟨k - 1,by omega⟩
  obtain ⟨v0,v1⟩:=val_lt (byte_drop hb a) j (by omega)
  have hr : 0 ≤ rd l ((a + j : Nat) : Int) ∧ rd l ((a + j : Nat) : Int) < 256:=by rw [rd_nat l _ (by omega)];exact hb _ (List.getElem_mem _)
  simp only [hornbeamref07_Get.l0]
  rw [if_pos (by omega),wrap_in (i:=(a : Int) + j) (by omega) (by omega),if_pos (by omega),if_pos (by rw [strOf_size];omega),show ((a : Int) + j) = ((a + j : Nat) : Int) by omega,bt_str l hb _ (by omega),u64_wrap hr.1 (by omega),
   u64_wrap (x:=256 * _) (by omega) (by omega),u64_wrap (by omega) (by omega),wrap_in (i:=(j : Int) + 1) (by omega) (by omega),show 256 * FTake.val ((l.drop a).take j) + rd l ((a + j : Nat) : Int) = FTake.val ((l.drop a).take (j + 1)) by
    rw [val_take _ _ (by simp;omega),rd_drop];omega]
  exact ih k (j + 1) (by omega) (by omega)
theorem cnt_eq (n : Int) : FTake.cnt n = cnt n:=rfl
/-- The document's number at a place. -/
theorem ref_get_f (l : List Int) (hb : Bytes l) (a : Nat) (n : Int) (ha : a ≤ l.length) (hl : l.length ≤ 1000000) (k : Nat) (hk : 9 ≤ k) :
  hornbeamref07_Get.f k (strOfNums l) a n = some (match FTake.number n (l.drop a) with|.error _=>(0,(a : Int),false)|.ok (v,_)=>(v,((a + cnt n : Nat) : Int),true)):=by
 have hc:=cnt_le n
 unfold hornbeamref07_Get.f FTake.number
 rw [ref_count_f,Option.bind_some,cnt_eq,strOf_size,wrap_in (by omega) (by omega)]
 by_cases h : cnt n ≤ (l.drop a).length
 ·rw [if_pos h]
  simp only [List.length_drop] at h
  rw [if_neg (by omega)]
  exact get_l0 l hb a (cnt n) (by omega) (by omega) hl (cnt n) k 0 (by omega) (by omega)
 ·rw [if_neg h]
  simp only [List.length_drop] at h
  rw [if_pos (by omega)]
end Go.Proofs.Ytebbnjgaikppgaa.PureGet

namespace Go.Proofs.Ytebbnjgaikppgaa.PureNodeTake
open Go.RowKit Go.Proofs.YtebbnjgaikppgaaW.PrintWords Go.Proofs.YtebbnjgaikppgaaW.PrintLast Go.Proofs.YtebbnjgaikppgaaW.PrintMore Go.Proofs.Ytebbnjgaikppgaa.Pure Go.Proofs.Ytebbnjgaikppgaa.PA Go.Proofs.Ytebbnjgaikppgaa.PureTake Go.Proofs.Ytebbnjgaikppgaa.PureVal Go.Proofs.Ytebbnjgaikppgaa.PureNode Go.Proofs.Ytebbnjgaikppgaa.PureNodePut Go.Proofs.Ytebbnjgaikppgaa.FTake Go.Proofs.Ytebbnjgaikppgaa.FNodeGet
open Go.Proofs.Ytebbnjgaikppgaa.FNodeOne hiding Nd
set_option linter.unusedVariables false
set_option linter.unusedSimpArgs false
abbrev Bytes (l : List Int) : Prop:=∀ x ∈ l,0 ≤ x ∧ x < 256
theorem be_shift : ∀ (m : Nat) (x y : Int) (j : Nat),m ≤ j → be m (x + y * 256 ^ j) = be m x
 | 0,_,_,_,_=>rfl
 | m + 1,x,y,j,h=>by
  have hq : (0 : Int) < 256 ^ m:=Int.pow_pos (by omega)
  obtain ⟨d,rfl⟩ : ∃ d,j = m + (d + 1):=⟨j - m - 1,by omega⟩
  have e : x + y * 256 ^ (m + (d + 1)) = x + (y * 256 ^ d * 256) * 256 ^ m:=by
   rw [Int.pow_add,Int.pow_succ,← Int.mul_assoc,Int.mul_assoc y,Int.mul_comm (256 ^ m),← Int.mul_assoc,← Int.mul_assoc]
  simp only [be]
  rw [e,Int.add_mul_ediv_right _ _ (by omega),Int.add_mul_emod_self_right,← e,be_shift m x y _ (by omega)]
theorem be_val : ∀ (l : List Int),Bytes l → be l.length (val l) = l
 | [],_=>rfl
 | y :: l,h=>by
  have hy:=h y (by simp)
  have hl : Bytes l:=fun x hx=>h x (by simp [hx])
  have hb:=val_bound l hl
  have hq : (0 : Int) < 256 ^ l.length:=Int.pow_pos (by omega)
  rw [val_cons,List.length_cons]
  simp only [be]
  rw [Int.add_comm,be_shift l.length _ _ _ (Nat.le_refl _),be_val l hl,Int.add_mul_ediv_right _ _ (by omega),Int.ediv_eq_zero_of_lt hb.1 hb.2,Int.zero_add,Int.emod_eq_of_lt hy.1 hy.2]
theorem num_inv {n v : Int} {r r1 : List Int} (hb : Bytes r) (h : number n r = .ok (v,r1)) : r = be (FTake.cnt n) v ++ r1 ∧ 0 ≤ v ∧ v < 256 ^ FTake.cnt n ∧ Bytes r1:=by
 unfold number at h
 split at h
 ·rename_i hc
  simp only [Except.ok.injEq,Prod.mk.injEq] at h
  have ht : Bytes (r.take (FTake.cnt n)):=fun x hx=>hb x (List.mem_of_mem_take hx)
  have hlen : (r.take (FTake.cnt n)).length = FTake.cnt n:=by rw [List.length_take];omega
  have e:=be_val _ ht
  have bd:=val_bound _ ht
  rw [hlen] at e bd
  rw [← h.1,← h.2,e]
  exact ⟨(List.take_append_drop _ _).symm,bd.1,bd.2,fun x hx=>hb x (List.mem_of_mem_drop hx)⟩
 ·cases h
theorem be_mod8 (x : Int) : be 8 (x % 18446744073709551616) = be 8 x:=by
 have e : x = x % 18446744073709551616 + (x / 18446744073709551616) * 256 ^ 8:=by rw [show (256 : Int) ^ 8 = 18446744073709551616 from rfl];omega
 conv=>rhs;rw [e]
 rw [be_shift 8 _ _ 8 (by omega)]
theorem u_wrap (y : Int) (h0 : 0 ≤ y) (h1 : y < 18446744073709551616) : u (wrap64 y) = y:=by rw [u_eq];unfold wrap64;omega
theorem one_inv {kd left : Int} {r r1 : List Int} {x : Nd} (hb : Bytes r) (h : one kd left r = .ok (x,r1)) : r = nb kd x ++ r1 ∧ Bytes r1:=by
 have p1 : (256 : Int) ^ 1 = 256:=rfl
 have p2 : (256 : Int) ^ 2 = 65536:=rfl
 have p4 : (256 : Int) ^ 4 = 4294967296:=rfl
 have p8 : (256 : Int) ^ 8 = 18446744073709551616:=rfl
 unfold FNodeOne.one at h
 cases h1 : number 1 r with
 | error c=>rw [h1] at h;cases h
 | ok q =>
  obtain ⟨a,r2⟩:=q
  obtain ⟨e1,b1,b2,b3⟩:=num_inv hb h1
  rw [show FTake.cnt 1 = 1 from rfl] at e1 b2
  rw [p1] at b2
  have be1 : be 1 a = [a]:=by
   simp only [be,Int.pow_zero,Int.ediv_one];rw [Int.emod_eq_of_lt b1 b2]
  rw [be1] at e1
  rw [h1] at h
  simp only at h
  split at h
  ·rename_i ha
   subst ha
   split at h
   ·rename_i hk
    cases h2 : number 1 r2 with
    | error c=>rw [h2] at h;cases h
    | ok q =>
     obtain ⟨y,r3⟩:=q
     obtain ⟨e2,d1,d2,d3⟩:=num_inv b3 h2
     rw [show FTake.cnt 1 = 1 from rfl] at e2 d2
     rw [p1] at d2
     have be2 : be 1 y = [y]:=by
      simp only [be,Int.pow_zero,Int.ediv_one];rw [Int.emod_eq_of_lt d1 d2]
     rw [h2] at h;simp only [Except.ok.injEq,Prod.mk.injEq] at h
     obtain ⟨rfl,rfl⟩:=h
     refine ⟨?_,d3⟩
     rw [e1,e2,be2]
     unfold nb
     simp only [if_true]
     rw [if_pos hk,wrap_in (by omega) (by omega),Int.emod_eq_of_lt d1 (by omega)];rfl
   ·rename_i hk
    cases h2 : number 8 r2 with
    | error c=>rw [h2] at h;cases h
    | ok q =>
     obtain ⟨y,r3⟩:=q
     obtain ⟨e2,d1,d2,d3⟩:=num_inv b3 h2
     rw [show FTake.cnt 8 = 8 from rfl] at e2 d2
     rw [h2] at h;simp only at h
     cases h3 : number 4 r3 with
     | error c=>rw [h3] at h;cases h
     | ok q3 =>
      obtain ⟨z,r4⟩:=q3
      obtain ⟨e3,f1,f2,f3⟩:=num_inv d3 h3
      rw [show FTake.cnt 4 = 4 from rfl] at e3 f2
      rw [h3] at h;simp only [Except.ok.injEq,Prod.mk.injEq] at h
      obtain ⟨rfl,rfl⟩:=h
      refine ⟨?_,f3⟩
      rw [e1,e2,e3]
      unfold nb
      simp only [if_true]
      rw [if_neg hk,u_wrap y d1 (by omega),u_wrap z f1 (by omega)];simp
  ·split at h
   ·rename_i ha
    subst ha
    cases h2 : number 2 r2 with
    | error c=>rw [h2] at h;cases h
    | ok q =>
     obtain ⟨y,r3⟩:=q
     obtain ⟨e2,d1,d2,d3⟩:=num_inv b3 h2
     rw [show FTake.cnt 2 = 2 from rfl] at e2 d2
     rw [h2] at h;simp only at h
     cases h3 : number 2 r3 with
     | error c=>rw [h3] at h;cases h
     | ok q3 =>
      obtain ⟨z,r4⟩:=q3
      obtain ⟨e3,f1,f2,f3⟩:=num_inv d3 h3
      rw [show FTake.cnt 2 = 2 from rfl] at e3 f2
      rw [h3] at h;simp only [Except.ok.injEq,Prod.mk.injEq] at h
      obtain ⟨rfl,rfl⟩:=h
      refine ⟨?_,f3⟩
      rw [e1,e2,e3]
      unfold nb
      simp only
      rw [if_neg (by rw [wrap_in (by omega) (by omega)];omega),u_wrap y d1 (by omega),u_wrap z f1 (by omega)];simp
   ·cases h
theorem nodes_inv (kd : Int) : ∀ (n : Nat) (left : Int) (out : List Nd) (r : List Int) (t : List Nd) (r1 : List Int),Bytes r → nodes kd n left out r = .ok (t,r1) → ∃ s,t = out ++ s ∧ s.length = n ∧ r = s.flatMap (nb kd) ++ r1 ∧ (∀ x ∈ s,Wf x) ∧ s.length + r1.length ≤ r.length
 | 0,left,out,r,t,r1,hb,h=>by
  simp only [FNodeGet.nodes,Except.ok.injEq,Prod.mk.injEq] at h
  exact ⟨[],by simp [h.1],rfl,by simp [h.2],by simp,by simp [h.2]⟩
 | n + 1,left,out,r,t,r1,hb,h=>by
  simp only [FNodeGet.nodes] at h
  cases h1 : FNodeOne.one kd left r with
  | error c=>rw [h1] at h;cases h
  | ok q =>
   obtain ⟨x,r2⟩:=q
   obtain ⟨e,hb2⟩:=one_inv hb h1
   obtain ⟨hl,hwf⟩:=one_len h1
   rw [h1] at h
   simp only at h
   obtain ⟨s,e1,e2,e3,e4,e5⟩:=nodes_inv kd n _ _ _ _ _ hb2 h
   refine ⟨x :: s,by rw [e1];simp,by simp [e2],?_,?_,by simp;omega⟩
   ·rw [List.flatMap_cons,List.append_assoc,← e3];exact e
   ·intro z hz
    rcases List.mem_cons.1 hz with rfl|hz
    ·exact hwf
    ·exact e4 z hz
/-- What is taken has those bytes. -/
theorem get_inv {s0 s1 kd s3 : Int} {l r : List Int} {t : List Nd} (hb : Bytes l) (h : FNodeGet.get s0 s1 kd s3 l = .ok (t,r)) : l = bytesT kd t ++ r ∧ t.length ≤ l.length ∧ (∀ x ∈ t,Wf x) ∧ rightT t s0 s1 kd s3 = true:=by
 unfold FNodeGet.get at h
 cases h1 : number 4 l with
 | error c=>rw [h1] at h;cases h
 | ok q =>
  obtain ⟨n,r1⟩:=q
  obtain ⟨e1,b1,b2,b3⟩:=num_inv hb h1
  have hl1:=num_len h1
  rw [h1] at h
  simp only at h
  split at h
  ·cases h
  ·rename_i hbig
   cases h2 : FNodeGet.nodes kd n.toNat 1 [] r1 with
   | error c=>rw [h2] at h;cases h
   | ok q2 =>
    rw [h2] at h
    simp only at h
    split at h
    ·rename_i hr
     simp only [Except.ok.injEq,Prod.mk.injEq] at h
     obtain ⟨s,f1,f2,f3,f4,f5⟩:=nodes_inv kd n.toNat 1 [] r1 q2.1 q2.2 b3 h2
     rw [List.nil_append] at f1
     obtain ⟨rfl,rfl⟩:=h
     rw [f1] at hr ⊢
     refine ⟨?_,by omega,f4,hr⟩
     unfold bytesT
     have e : u (s.length : Int) = n:=by rw [u_eq];omega
     rw [e,List.append_assoc,← f3];exact e1
    ·cases h
theorem num_drop (l : List Int) (a : Nat) (n x : Int) (r : List Int) (ha : a ≤ l.length) (h : number n (l.drop a) = .ok (x,r)) : r = l.drop (a + PureTake.cnt n) ∧ a + PureTake.cnt n ≤ l.length:=by
 unfold number at h
 split at h
 ·rename_i hc
  simp only [Except.ok.injEq,Prod.mk.injEq] at h
  simp only [List.length_drop] at hc
  rw [← h.2,List.drop_drop]
  have e : PureTake.cnt n = FTake.cnt n:=rfl
  exact ⟨by rw [e],by rw [e];omega⟩
 ·cases h
theorem num_err {l : List Int} {n c : Int} (h : number n l = .error c) : c = 2:=by
 unfold number at h
 split at h
 ·cases h
 ·cases h;rfl
theorem l1_ok (l : List Int) (hb : Bytes l) (hl : l.length ≤ 1000000) (k a : Nat) (ha : a ≤ l.length) (hk : 9 ≤ k) (x2 x3 x4 x5 x15 : Int) (x17 : List Nd) (x18 x19 x20 : Int) (ss vs : List Int) (j : Nat) (hj : j < ss.length) (hv : vs.length ≤ 10) (q0 q1 q2 q3 q4 q5 : Int) (v : Int) (r : List Int) (h : number (rd ss j) (l.drop a) = .ok (v,r)) :
  hornbeamref18_Get.l1 (k + 1) (strOfNums l) a x2 x3 x4 x5 x15 x17 x18 x19 x20 ss vs j q0 q1 q2 q3 q4 q5 = hornbeamref18_Get.l1 k (strOfNums l) ((a + PureTake.cnt (rd ss j) : Nat) : Int) x2 x3 x4 x5 x15 x17 x18 x19 x20 ss (vs ++ [v]) (wrap64 ((j : Int) + 1)) q0 q1 q2 q3 q4 q5:=by
 simp only [hornbeamref18_Get.l1]
 rw [if_pos (by omega),if_pos (by omega),PureGet.ref_get_f l hb a _ ha hl k hk,h]
 simp only [Option.bind_some,if_true]
 rw [if_pos (by omega)]
theorem l1_err (l : List Int) (hb : Bytes l) (hl : l.length ≤ 1000000) (k a : Nat) (ha : a ≤ l.length) (hk : 9 ≤ k) (x2 x3 x4 x5 x15 : Int) (x17 : List Nd) (x18 x19 x20 : Int) (ss vs : List Int) (j : Nat) (hj : j < ss.length) (q0 q1 q2 q3 q4 q5 : Int) (c : Int) (h : number (rd ss j) (l.drop a) = .error c) :
  hornbeamref18_Get.l1 (k + 1) (strOfNums l) a x2 x3 x4 x5 x15 x17 x18 x19 x20 ss vs j q0 q1 q2 q3 q4 q5 = some ([],0,2):=by
 simp only [hornbeamref18_Get.l1]
 rw [if_pos (by omega),if_pos (by omega),PureGet.ref_get_f l hb a _ ha hl k hk,h]
 simp
/-- One round of the document's taking. -/
theorem l0_one (l : List Int) (hb : Bytes l) (hl : l.length ≤ 1000000) (s0 s1 kd s3 : Int) (n : Int) (k a : Nat) (left i : Int) (out : List Nd) (ha : a ≤ l.length) (hk : 20 ≤ k) (hi : i < n) (ho : out.length ≤ 1000000) :
  (∀ c,FNodeOne.one kd left (l.drop a) = .error c → hornbeamref18_Get.l0 (k + 6) (strOfNums l) a s0 s1 kd s3 n out left i = some ([],0,c)) ∧
  (∀ x r1,FNodeOne.one kd left (l.drop a) = .ok (x,r1) → ∃ a1 k1 : Nat,a1 ≤ l.length ∧ r1 = l.drop a1 ∧ a < a1 ∧ k ≤ k1 ∧ hornbeamref18_Get.l0 (k + 6) (strOfNums l) a s0 s1 kd s3 n out left i = hornbeamref18_Get.l0 k1 (strOfNums l) a1 s0 s1 kd s3 n (out ++ [x]) (if x.f0 = -1 then left else wrap64 (left + 2)) (IntKind.u64.wrap (i + 1))):=by
 have w1 : wrap64 1 = 1:=by simp [wrap64]
 have w2 : wrap64 2 = 2:=by simp [wrap64]
 have hstep : hornbeamref18_Get.l0 (k + 6) (strOfNums l) a s0 s1 kd s3 n out left i = ((hornbeamref07_Get.f (k + 5) (strOfNums l) a 1).bind fun bt507=>(if bt507.2.2 = true then (if bt507.1 > 1 then (some (([] : List Nd),0,3)) else (if bt507.1 = 1 then (hornbeamref18_Get.j1 (k + 5) (strOfNums l) bt507.2.1 s0 s1 kd s3 n out left i bt507.1 (([2,2] : List Int)) (-1) 0 0 0 0 0) else (if kd = 0 then (hornbeamref18_Get.j1 (k + 5) (strOfNums l) bt507.2.1 s0 s1 kd s3 n out left i bt507.1 (([1] : List Int)) (-1) 0 0 0 0 0) else (hornbeamref18_Get.j1 (k + 5) (strOfNums l) bt507.2.1 s0 s1 kd s3 n out left i bt507.1 (([8,4] : List Int)) (-1) 0 0 0 0 0)))) else (some (([] : List Nd),0,2)))):=by
  conv=>lhs;rw [show k + 6 = (k + 5) + 1 from rfl];simp only [hornbeamref18_Get.l0]
  rw [if_pos hi]
 rw [hstep,PureGet.ref_get_f l hb a 1 ha hl (k + 5) (by omega)]
 clear hstep
 unfold FNodeOne.one
 cases h1 : number 1 (l.drop a) with
 | error c =>
  obtain rfl:=num_err h1
  simp only [Option.bind_some]
  exact ⟨fun c h=>by simp only [Except.error.injEq] at h;rw [← h];rfl,fun x r1 h=>by cases h⟩
 | ok q =>
  obtain ⟨v,r2⟩:=q
  obtain ⟨rfl,hal⟩:=num_drop l a 1 v r2 ha h1
  obtain ⟨_,v0,v1,_⟩:=num_inv (fun x hx=>hb x (List.mem_of_mem_drop hx)) h1
  rw [show PureTake.cnt 1 = 1 from rfl] at hal ⊢
  simp only [Option.bind_some,if_true]
  by_cases hv1 : v > 1
  ·rw [if_pos hv1,if_neg (by omega),if_neg (by omega)]
   exact ⟨fun c h=>by simp only [Except.error.injEq] at h;rw [← h],fun x r1 h=>by cases h⟩
  rw [if_neg hv1]
  by_cases he1 : v = 1
  ·subst he1
   rw [if_pos rfl,if_neg (by omega),if_pos rfl]
   rw [show k + 5 = (k + 4) + 1 from rfl]
   simp only [hornbeamref18_Get.j1]
   cases h2 : number 2 (l.drop (a + 1)) with
   | error c =>
    obtain rfl:=num_err h2
    rw [show k + 4 = (k + 3) + 1 from rfl,show (0 : Int) = ((0 : Nat) : Int) from rfl,l1_err l hb hl (k + 3) (a + 1) hal (by omega) _ _ _ _ _ _ _ _ _ [2,2] [] 0 (by simp) _ _ _ _ _ _ 2 h2]
    exact ⟨fun c h=>by simp only [Except.error.injEq] at h;rw [← h];rfl,fun x r1 h=>by cases h⟩
   | ok q =>
    obtain ⟨y,r3⟩:=q
    obtain ⟨rfl,hal2⟩:=num_drop l (a + 1) 2 y r3 hal h2
    have e1:=l1_ok l hb hl (k + 3) (a + 1) hal (by omega) s0 s1 kd s3 n out left i 1 [2,2] [] 0 (by simp) (by simp) (-1) 0 0 0 0 0 y _ h2
    rw [show rd [2,2] ((0 : Nat) : Int) = 2 from rfl,show PureTake.cnt 2 = 2 from rfl] at e1
    rw [show PureTake.cnt 2 = 2 from rfl] at hal2 ⊢
    rw [show k + 4 = (k + 3) + 1 from rfl,show (0 : Int) = ((0 : Nat) : Int) from rfl]
    rw [show ((0 : Nat) : Int) = (0 : Int) from rfl] at e1 ⊢
    rw [e1,show (0 : Int) + 1 = 1 from rfl,w1]
    simp only
    cases h3 : number 2 (l.drop (a + 1 + 2)) with
    | error c =>
     obtain rfl:=num_err h3
     have e2:=l1_err l hb hl (k + 2) (a + 1 + 2) hal2 (by omega) s0 s1 kd s3 n out left i 1 [2,2] ([] ++ [y]) 1 (by simp) (-1) 0 0 0 0 0 2 h3
     rw [show ((1 : Nat) : Int) = (1 : Int) from rfl] at e2
     rw [show k + 3 = (k + 2) + 1 from rfl,e2]
     exact ⟨fun c h=>by simp only [Except.error.injEq] at h;rw [← h],fun x r1 h=>by cases h⟩
    | ok q =>
     obtain ⟨z,r4⟩:=q
     obtain ⟨rfl,hal3⟩:=num_drop l (a + 1 + 2) 2 z r4 hal2 h3
     have e2:=l1_ok l hb hl (k + 2) (a + 1 + 2) hal2 (by omega) s0 s1 kd s3 n out left i 1 [2,2] ([] ++ [y]) 1 (by simp) (by simp) (-1) 0 0 0 0 0 z _ h3
     rw [show rd [2,2] ((1 : Nat) : Int) = 2 from rfl,show PureTake.cnt 2 = 2 from rfl] at e2
     rw [show PureTake.cnt 2 = 2 from rfl] at hal3 ⊢
     rw [show ((1 : Nat) : Int) = (1 : Int) from rfl] at e2
     rw [show k + 3 = (k + 2) + 1 from rfl,e2,show (1 : Int) + 1 = 2 from rfl,w2,show k + 2 = (k + 1) + 1 from rfl]
     simp only [hornbeamref18_Get.l1]
     rw [if_neg (by simp),if_pos trivial,if_pos (by simp),if_pos (by simp),if_pos (by omega)]
     refine ⟨fun c h=>(by cases h),fun x r1 h=>?_⟩
     simp only [Except.ok.injEq,Prod.mk.injEq] at h
     obtain ⟨rfl,rfl⟩:=h
     obtain ⟨_,y0,y1,_⟩:=num_inv (fun x hx=>hb x (List.mem_of_mem_drop hx)) h2
     have y1' : y < 65536:=y1
     refine ⟨a + 1 + 2 + 2,k + 1,hal3,rfl,by omega,by omega,?_⟩
     rw [if_neg (show ¬ wrap64 y = -1 by rw [wrap_in (by omega) (by omega)];omega)]
     rfl
  ·have he0 : v = 0:=by omega
   subst he0
   rw [if_pos rfl,if_neg (show ¬ (0 : Int) = 1 by omega)]
   by_cases hkd : kd = 0
   ·rw [if_pos hkd,if_pos hkd]
    rw [show k + 5 = (k + 4) + 1 from rfl]
    simp only [hornbeamref18_Get.j1]
    cases h2 : number 1 (l.drop (a + 1)) with
    | error c =>
     obtain rfl:=num_err h2
     have e1:=l1_err l hb hl (k + 3) (a + 1) hal (by omega) s0 s1 kd s3 n out left i 0 [1] [] 0 (by simp) (-1) 0 0 0 0 0 2 h2
     rw [show ((0 : Nat) : Int) = (0 : Int) from rfl] at e1
     rw [show k + 4 = (k + 3) + 1 from rfl,e1]
     exact ⟨fun c h=>by simp only [Except.error.injEq] at h;rw [← h],fun x r1 h=>by cases h⟩
    | ok q =>
     obtain ⟨y,r3⟩:=q
     obtain ⟨rfl,hal2⟩:=num_drop l (a + 1) 1 y r3 hal h2
     have e1:=l1_ok l hb hl (k + 3) (a + 1) hal (by omega) s0 s1 kd s3 n out left i 0 [1] [] 0 (by simp) (by simp) (-1) 0 0 0 0 0 y _ h2
     rw [show rd [1] ((0 : Nat) : Int) = 1 from rfl,show PureTake.cnt 1 = 1 from rfl] at e1
     rw [show PureTake.cnt 1 = 1 from rfl] at hal2 ⊢
     rw [show ((0 : Nat) : Int) = (0 : Int) from rfl] at e1
     rw [show k + 4 = (k + 3) + 1 from rfl,e1,show (0 : Int) + 1 = 1 from rfl,w1,show k + 3 = (k + 2) + 1 from rfl]
     simp only [hornbeamref18_Get.l1]
     rw [if_neg (by simp),if_neg (by omega),if_pos hkd,if_pos (by simp),if_pos (by omega)]
     refine ⟨fun c h=>(by cases h),fun x r1 h=>?_⟩
     simp only [Except.ok.injEq,Prod.mk.injEq] at h
     obtain ⟨rfl,rfl⟩:=h
     refine ⟨a + 1 + 1,k + 2,hal2,rfl,by omega,by omega,?_⟩
     rw [if_pos rfl]
     rfl
   ·rw [if_neg hkd,if_neg hkd]
    rw [show k + 5 = (k + 4) + 1 from rfl]
    simp only [hornbeamref18_Get.j1]
    cases h2 : number 8 (l.drop (a + 1)) with
    | error c =>
     obtain rfl:=num_err h2
     have e1:=l1_err l hb hl (k + 3) (a + 1) hal (by omega) s0 s1 kd s3 n out left i 0 [8,4] [] 0 (by simp) (-1) 0 0 0 0 0 2 h2
     rw [show ((0 : Nat) : Int) = (0 : Int) from rfl] at e1
     rw [show k + 4 = (k + 3) + 1 from rfl,e1]
     exact ⟨fun c h=>by simp only [Except.error.injEq] at h;rw [← h],fun x r1 h=>by cases h⟩
    | ok q =>
     obtain ⟨y,r3⟩:=q
     obtain ⟨rfl,hal2⟩:=num_drop l (a + 1) 8 y r3 hal h2
     have e1:=l1_ok l hb hl (k + 3) (a + 1) hal (by omega) s0 s1 kd s3 n out left i 0 [8,4] [] 0 (by simp) (by simp) (-1) 0 0 0 0 0 y _ h2
     rw [show rd [8,4] ((0 : Nat) : Int) = 8 from rfl,show PureTake.cnt 8 = 8 from rfl] at e1
     rw [show PureTake.cnt 8 = 8 from rfl] at hal2 ⊢
     rw [show ((0 : Nat) : Int) = (0 : Int) from rfl] at e1
     rw [show k + 4 = (k + 3) + 1 from rfl,e1,show (0 : Int) + 1 = 1 from rfl,w1]
     simp only
     cases h3 : number 4 (l.drop (a + 1 + 8)) with
     | error c =>
      obtain rfl:=num_err h3
      have e2:=l1_err l hb hl (k + 2) (a + 1 + 8) hal2 (by omega) s0 s1 kd s3 n out left i 0 [8,4] ([] ++ [y]) 1 (by simp) (-1) 0 0 0 0 0 2 h3
      rw [show ((1 : Nat) : Int) = (1 : Int) from rfl] at e2
      rw [show k + 3 = (k + 2) + 1 from rfl,e2]
      exact ⟨fun c h=>by simp only [Except.error.injEq] at h;rw [← h],fun x r1 h=>by cases h⟩
     | ok q =>
      obtain ⟨z,r4⟩:=q
      obtain ⟨rfl,hal3⟩:=num_drop l (a + 1 + 8) 4 z r4 hal2 h3
      have e2:=l1_ok l hb hl (k + 2) (a + 1 + 8) hal2 (by omega) s0 s1 kd s3 n out left i 0 [8,4] ([] ++ [y]) 1 (by simp) (by simp) (-1) 0 0 0 0 0 z _ h3
      rw [show rd [8,4] ((1 : Nat) : Int) = 4 from rfl,show PureTake.cnt 4 = 4 from rfl] at e2
      rw [show PureTake.cnt 4 = 4 from rfl] at hal3 ⊢
      rw [show ((1 : Nat) : Int) = (1 : Int) from rfl] at e2
      rw [show k + 3 = (k + 2) + 1 from rfl,e2,show (1 : Int) + 1 = 2 from rfl,w2,show k + 2 = (k + 1) + 1 from rfl]
      simp only [hornbeamref18_Get.l1]
      rw [if_neg (by simp),if_neg (by omega),if_neg hkd,if_pos (by simp),if_pos (by simp),if_pos (by omega)]
      refine ⟨fun c h=>(by cases h),fun x r1 h=>?_⟩
      simp only [Except.ok.injEq,Prod.mk.injEq] at h
      obtain ⟨rfl,rfl⟩:=h
      refine ⟨a + 1 + 8 + 4,k + 1,hal3,rfl,by omega,by omega,?_⟩
      rw [if_pos rfl]
      rfl
theorem ref_l0 (l : List Int) (hb : Bytes l) (hl : l.length ≤ 100000) (s0 s1 kd s3 : Int) (n : Nat) (hn : n ≤ 4194304) : ∀ (d k a i : Nat) (left : Int) (out : List Nd),a + d = l.length → i ≤ n → i ≤ a → out.length = i → 0 ≤ left → left ≤ 2 * i + 1 → 6 * d + 4 * l.length + 60 < k →
  hornbeamref18_Get.l0 k (strOfNums l) a s0 s1 kd s3 n out left i = some (match FNodeGet.nodes kd (n - i) left out (l.drop a) with
   | .error c=>([],0,c)
   | .ok (t,r1)=>if rightT t s0 s1 kd s3 = true then (t,(l.length : Int) - r1.length,0) else ([],0,3)):=by
 intro d
 induction d using Nat.strongRecOn with
 | ind d ih =>
  intro k a i left out e hin hia hol h0 h1 hk
  by_cases hi : i < n
  ·obtain ⟨k,rfl⟩ : ∃ m,k = m + 6:=⟨k - 6,by omega⟩
   obtain ⟨E,O⟩:=l0_one l hb (by omega) s0 s1 kd s3 n k a left i out (by omega) (by omega) (by omega) (by omega)
   rw [show n - i = (n - (i + 1)) + 1 by omega]
   simp only [FNodeGet.nodes]
   cases hone : FNodeOne.one kd left (l.drop a) with
   | error c=>rw [E c hone]
   | ok q =>
    obtain ⟨x,r1⟩:=q
    obtain ⟨a1,k1,ha1,rfl,hlt,hk1,he⟩:=O x r1 hone
    rw [he]
    simp only
    have hu : IntKind.u64.wrap ((i : Int) + 1) = ((i + 1 : Nat) : Int):=by
     rw [u64_wrap (by omega) (by omega)];omega
    have hwl : wrap64 (left + 2) = left + 2:=wrap_in (by omega) (by omega)
    rw [hu,hwl]
    have hb2 : 0 ≤ (if x.f0 = -1 then left else left + 2) ∧ (if x.f0 = -1 then left else left + 2) ≤ 2 * ((i + 1 : Nat) : Int) + 1:=by split <;> omega
    exact ih (l.length - a1) (by omega) k1 a1 (i + 1) _ (out ++ [x]) (by omega) (by omega) (by omega) (by simp;omega) hb2.1 hb2.2 (by omega)
  ·obtain ⟨k,rfl⟩ : ∃ m,k = m + 1:=⟨k - 1,by omega⟩
   rw [show n - i = 0 by omega]
   simp only [hornbeamref18_Get.l0,FNodeGet.nodes]
   rw [if_neg (by omega),right18_f out s0 s1 kd s3 (by omega) k (by omega),Option.bind_some]
   by_cases hr : rightT out s0 s1 kd s3 = true
   ·rw [if_pos hr,if_pos hr,List.length_drop]
    congr 3;omega
   ·rw [if_neg hr,if_neg hr]
/-- The document's tree. -/
theorem ref_get18 (l : List Int) (hb : Bytes l) (hl : l.length ≤ 100000) (s0 s1 kd s3 : Int) (k : Nat) (hk : 10 * l.length + 80 < k) :
  hornbeamref18_Get.f k (strOfNums l) 0 s0 s1 kd s3 = some (match FNodeGet.get s0 s1 kd s3 l with|.error c=>([],0,c)|.ok (t,r)=>(t,(l.length : Int) - r.length,0)):=by
 unfold hornbeamref18_Get.f FNodeGet.get
 have h0:=PureGet.ref_get_f l hb 0 4 (by omega) (by omega) k (by omega)
 rw [show ((0 : Nat) : Int) = 0 from rfl,List.drop_zero] at h0
 rw [h0]
 cases h1 : number 4 l with
 | error c =>
  obtain rfl:=num_err h1
  simp
 | ok q =>
  obtain ⟨n,r⟩:=q
  obtain ⟨_,n0,n1,_⟩:=num_inv hb h1
  obtain ⟨rfl,hal⟩:=num_drop l 0 4 n r (by omega) (by rw [List.drop_zero];exact h1)
  simp only [Option.bind_some,if_true]
  by_cases hbig : n > 4194304
  ·rw [if_pos hbig,if_pos hbig]
  ·rw [if_neg hbig,if_neg hbig]
   obtain ⟨m,rfl⟩:=Int.eq_ofNat_of_zero_le n0
   have:=ref_l0 l hb hl s0 s1 kd s3 m (by omega) (l.length - (0 + PureTake.cnt 4)) k (0 + PureTake.cnt 4) 0 1 [] (by omega) (by omega) (by omega) rfl (by omega) (by omega) (by omega)
   rw [show ((0 : Nat) : Int) = 0 from rfl,Nat.sub_zero] at this
   rw [this,Int.toNat_natCast]
   congr 1
   cases FNodeGet.nodes kd m 1 [] (l.drop (0 + PureTake.cnt 4)) with
   | error c=>rfl
   | ok q2 =>
    simp only
    split <;> rfl
end Go.Proofs.Ytebbnjgaikppgaa.PureNodeTake

namespace Go.Proofs.Ytebbnjgaikppgaa.FNodeRight
open Go.RowKit Go.Shelf Go.Proofs.YtebbnjgaikppgaaW.PrintWords Go.Proofs.YtebbnjgaikppgaaW.PrintLast Go.Proofs.YtebbnjgaikppgaaW.PrintMore Go.Proofs.Ytebbnjgaikppgaa.PA Go.Proofs.Ytebbnjgaikppgaa.PureTake Go.Proofs.Ytebbnjgaikppgaa.Pure Go.Proofs.Ytebbnjgaikppgaa.PureNode Go.Proofs.Ytebbnjgaikppgaa.PureNodePut Go.Proofs.Ytebbnjgaikppgaa.FNodeTaken
set_option linter.unusedVariables false
set_option linter.unusedSimpArgs false
theorem fixed18 (k : Nat) (hk : 30 ≤ k) : hornbeamlaw18_fixed.f k = some true:=at_rounds hornbeamlaw18_fixed.mono hk (by decide +kernel)
theorem same_l0 (t : List Nd) (hl : t.length ≤ 1000000) : ∀ (d k i : Nat),i + d = t.length → d < k → hornbeamref18_Same.l0 k t t i = some true:=by
 intro d
 induction d with
 | zero =>
  intro k i e h2
  obtain ⟨k,rfl⟩ : ∃ m,k = m + 1:=⟨k - 1,by omega⟩
  simp only [hornbeamref18_Same.l0]
  rw [if_neg (by omega)]
 | succ d ih =>
  intro k i e h2
  obtain ⟨k,rfl⟩ : ∃ m,k = m + 1:=⟨k - 1,by omega⟩
  simp only [hornbeamref18_Same.l0]
  rw [if_pos (by omega),if_pos (by omega),if_pos (by omega),if_neg (by simp),wrap_in (by omega) (by omega)]
  exact ih k (i + 1) (by omega) (by omega)
theorem same_f (t : List Nd) (hl : t.length ≤ 1000000) (k : Nat) (hk : t.length < k) : hornbeamref18_Same.f k t t = some true:=by
 unfold hornbeamref18_Same.f
 rw [if_pos rfl]
 exact same_l0 t hl t.length k 0 (by omega) (by omega)
section
open Go.Lib
theorem below_bytes (w : World) (e : TypeId) (s : ByteArray) : Below w.heap.size w (bytesWorld w e s) :=
 ⟨rfl,rfl,rfl,by rw [bytesWorld_size];omega,fun k hk=>bytesWorld_at_old w e s k hk⟩
theorem C_bytes (w : World) (e : TypeId) (l : List Int) (hx : ∀ x ∈ l,0 ≤ x ∧ x < 256) (hl : l.length ≤ 9223372036854775807) : Kd.C (Kd.int .u8) (bytesWorld w e (strOfNums l)) (some ⟨w.heap.size,0,none⟩) l.length l:=by
 refine Kd.C_of_reads (enc:=Value.int .u8) (d:=0) (h1:=fun _=>rfl) ⟨rfl,hl,fun _=>⟨_,rfl,fun j hj=>?_⟩⟩
 rw [add_plain]
 refine (bytesWorld_cell w e (strOfNums l) j (by rw [strOf_size];exact hj)).trans ?_
 have h1:=hx l[j] (List.getElem_mem hj)
 rw [Go.strOfNums_data]
 simp only [List.getD_eq_getElem?_getD,List.getElem?_map,List.getElem?_eq_getElem hj,Option.map_some,Option.getD_some]
 congr 2
 simp
 omega
end
theorem _root_.Go.Proofs.Ytebbnjgaikppgaa.FNodeTaken.Shp.k0 {W : World} {S : Nat} {s0 s1 kd s3 : Int} (h : Shp W S s0 s1 kd s3) : W.cell? ⟨S,0,none⟩ = some (.int .i64 s0):=(blk_cell h 0).trans rfl
theorem _root_.Go.Proofs.Ytebbnjgaikppgaa.FNodeTaken.Shp.k1 {W : World} {S : Nat} {s0 s1 kd s3 : Int} (h : Shp W S s0 s1 kd s3) : W.cell? ⟨S,1,none⟩ = some (.int .i64 s1):=(blk_cell h 1).trans rfl
theorem _root_.Go.Proofs.Ytebbnjgaikppgaa.FNodeTaken.Shp.k2 {W : World} {S : Nat} {s0 s1 kd s3 : Int} (h : Shp W S s0 s1 kd s3) : W.cell? ⟨S,2,none⟩ = some (.int .i64 kd):=(blk_cell h 2).trans rfl
theorem _root_.Go.Proofs.Ytebbnjgaikppgaa.FNodeTaken.Shp.k3 {W : World} {S : Nat} {s0 s1 kd s3 : Int} (h : Shp W S s0 s1 kd s3) : W.cell? ⟨S,3,none⟩ = some (.int .i64 s3):=(blk_cell h 3).trans rfl
/-- The shape lies in its box, and nothing that was there has changed. -/
def St (w : World) (s0 s1 kd s3 : Int) (W : World) : Prop:=Shp W w.heap.size s0 s1 kd s3 ∧ Below w.heap.size w W
theorem St.step {w W W1 : World} {s0 s1 kd s3 : Int} (h : St w s0 s1 kd s3 W) (hb : Below W.heap.size W W1) : St w s0 s1 kd s3 W1:=⟨blk_below h.1 hb,below_step h.2 hb⟩
end Go.Proofs.Ytebbnjgaikppgaa.FNodeRight

namespace Go.Proofs.Ytebbnjgaikppgaa.FNodeTakes
open Go.RowKit Go.Shelf Go.Proofs.YtebbnjgaikppgaaW.PrintWords Go.Proofs.YtebbnjgaikppgaaW.PrintLast Go.Proofs.YtebbnjgaikppgaaW.PrintMore Go.Proofs.Ytebbnjgaikppgaa.PA Go.Proofs.Ytebbnjgaikppgaa.PureTake Go.Proofs.Ytebbnjgaikppgaa.Pure Go.Proofs.Ytebbnjgaikppgaa.PureNode Go.Proofs.Ytebbnjgaikppgaa.PureNodePut Go.Proofs.Ytebbnjgaikppgaa.PureNodeTake Go.Proofs.Ytebbnjgaikppgaa.FNodeTaken Go.Proofs.Ytebbnjgaikppgaa.FNodeRight
set_option linter.unusedVariables false
set_option linter.unusedSimpArgs false
set_option maxHeartbeats 3000000 in
set_option maxRecDepth 100000 in
theorem law_calls (A : Option Addr) (c : Nat) (l : List Int) (s0 s1 kd s3 : Int) (w : World) (hrl : Kd.C (Kd.int .u8) w A l.length l) (hcl : l.length ≤ c) (hx : ∀ x ∈ l,0 ≤ x ∧ x < 256) :
  Calls Try.prog 14 #[.slice A l.length c,.agg #[.int .i64 s0,.int .i64 s1,.int .i64 kd,.int .i64 s3]] w fun e w'=>e = .returned (.bool true) ∧ Below w.heap.size w w':=by
 have hu2:=Try.underlying72
 have HRL:=Aside0.mk hrl
 have HX:=Aside0.mk hx
 clear hrl hx
 have S0:=Aside0.mk (show St w s0 s1 kd s3 (w.alloc (.cells #[.int .i64 s0,.int .i64 s1,.int .i64 kd,.int .i64 s3] 72)) from ⟨blk_new w _,below_alloc (Below.refl _ w) _⟩)
 have HFX:=Aside0.mk (fixed18 30 (by omega))
 by_cases h1 : l.length > 2000
 ·have d1 : decide ((l.length : Int) > 2000) = true:=decide_eq_true (by omega)
  go_enter Try.func14,Try.ntmps14
  go_wp2_with (fail)
  refine (hornbeamlaw18_fixed.calls 30 true _ HFX.out).mono ?_
  rintro e w8 ⟨rfl,hb⟩
  have S8:=Aside0.mk (S0.out.step hb)
  clear hb
  go_wp2
  go_ret
  exact ⟨rfl,S8.out.2⟩
 have d1 : decide ((l.length : Int) > 2000) = false:=decide_eq_false (by omega)
 have HMY:=Aside0.mk (may_f s0 s1 kd s3 1000 (by omega))
 obtain ⟨my,hmy⟩ : ∃ my,mayS s0 s1 kd s3 = my:=⟨_,rfl⟩
 rw [hmy] at HMY
 clear hmy
 have HRG:=Aside0.mk (ref_get18 l HX.out (by omega) s0 s1 kd s3 30000 (by omega))
 go_enter Try.func14,Try.ntmps14
 go_wp2_with (fail)
 refine (hornbeamref18_May.calls 1000 s0 s1 kd s3 my _ HMY.out).mono ?_
 rintro e w1 ⟨rfl,⟨nd1,rfl⟩⟩
 have S1:=Aside0.mk (show St w s0 s1 kd s3 ((w.alloc (.cells #[.int .i64 s0,.int .i64 s1,.int .i64 kd,.int .i64 s3] 72)).drewN nd1) from ⟨S0.out.1,below_drewN S0.out.2 _⟩)
 clear S0
 generalize (w.alloc (.cells #[.int .i64 s0,.int .i64 s1,.int .i64 kd,.int .i64 s3] 72)).drewN nd1 = w1 at S1 ⊢
 cases my with
 | false =>
  go_wp2_with (fail)
  refine (hornbeamlaw18_fixed.calls 30 true _ HFX.out).mono ?_
  rintro e w8 ⟨rfl,hb⟩
  have S8:=Aside0.mk (S1.out.step hb)
  clear hb
  go_wp2
  go_ret
  exact ⟨rfl,S8.out.2⟩
 | true =>
  have q0:=S1.out.1.k0
  have q1:=S1.out.1.k1
  have q2:=S1.out.1.k2
  have q3:=S1.out.1.k3
  go_wp2_with (fail)
  clear q0 q1 q2 q3
  refine (taken_calls A c l s0 s1 kd s3 _ (Kd.C_below HRL.out S1.out.2) hcl HX.out (by omega)).mono ?_
  rintro e w2 ⟨At,ct,rfl,hct,hCt,hb⟩
  have S2:=Aside0.mk (S1.out.step hb)
  have HCT:=Aside0.mk hCt
  clear hb hCt S1
  have q0:=S2.out.1.k0
  have q1:=S2.out.1.k1
  have q2:=S2.out.1.k2
  have q3:=S2.out.1.k3
  have hcv:=Kd.C_string (P:=Try.prog) (A:=A) (c:=c) Try.underlying22 Try.underlying5 Try.underlying9 (Kd.C_below HRL.out S2.out.2)
  unfold taken at hct HCT ⊢
  cases hg : FNodeGet.get s0 s1 kd s3 l with
  | error cE =>
   rw [hg] at HRG hct HCT
   simp only at HRG hct HCT ⊢
   have hne:=get_ne hg
   have de0 : (cE == 0) = false:=beq_eq_false_iff_ne.2 hne
   have dee : (cE != cE) = false:=by simp
   have de1 : (cE != 0) = true:=bne_iff_ne.2 hne
   clear hg hne
   go_wp2_with (fail)
   clear q0 q1 q2 q3 hcv
   refine (hornbeamref18_Get.calls 30000 (strOfNums l) 0 s0 s1 kd s3 _ _ _ _ HRG.out).mono ?_
   rintro e w3 ⟨v3,rfl,hR3,hb⟩
   obtain ⟨A3,c3,rfl,hl3,hC3⟩:=Kd.R_reads hR3
   have S3:=Aside0.mk (S2.out.step hb)
   have HC3:=Aside0.mk hC3
   have HCT3:=Aside0.mk (Kd.C_below HCT.out hb)
   clear hb hR3 hC3 S2 HCT
   go_wp2_with (fail)
   refine (hornbeamref18_Same.calls 1000 At ct [] A3 c3 [] true _ HCT3.out hct HC3.out hl3 (same_f [] (by simp) 1000 (by simp))).mono ?_
   rintro e w4 ⟨rfl,⟨nd4,rfl⟩⟩
   have S4:=Aside0.mk (show St w s0 s1 kd s3 (w3.drewN nd4) from ⟨S3.out.1,below_drewN S3.out.2 _⟩)
   clear S3 HC3 HCT3
   generalize w3.drewN nd4 = w4 at S4 ⊢
   go_wp2_with (fail)
   have SD:=Aside0.mk (show St w s0 s1 kd s3 w4.drew from ⟨S4.out.1,below_drew1 S4.out.2⟩)
   refine start_ (n:=15) (S:=fun w'=>St w s0 s1 kd s3 w') (ds:=[]) #[false,false,false,false,false,false,false,false,false,false,false,false,false,false,false] (by kernel_rfl) rfl rfl SD.out (fun hHeld=>?_)
   refine one_ (i:=0) (N:=some 64) #[true,false,false,false,false,false,false,false,false,false,false,false,false,false,false] rfl rfl (by kernel_rfl) (by decide) (fun K hK=>?_)
   refine goes_ Try.func42 (by kernel_rfl) rfl #[] (by rfl) rfl rfl (by (try simp only [List.map_toArray,List.map_cons,List.map_nil]);first|done|rfl) ?_
   refine (hornbeamlaw18_fixed.calls 30 true _ HFX.out).mono ?_
   rintro e w8 ⟨rfl,hb⟩
   refine ⟨_,rfl,?_⟩
   have S8:=Aside0.mk (SD.out.step hb)
   have HB8:=Aside0.mk hb
   clear hb hHeld
   refine hK.out _ _ S8.out (fun hHeld=>?_)
   clear hK K
   refine norm_ (a':=?_) ?_ ?_
   rotate_left
   ·show Act.put _ (some 64) _ = _
    simp only [Act.put,List.setIfInBounds_toArray,List.set_cons_zero,List.set_cons_succ,i64_w,i32_w]
    rfl
   refine take_ (i:=1) (N:=some 65) (v:=?_) (a':=?_) #[true,true,false,false,false,false,false,false,false,false,false,false,false,false,false] rfl rfl (by kernel_rfl) (fun _ _ _ h=>h) (Or.inl ⟨by rfl,?_⟩) hHeld ?_ ?_
   rotate_left
   ·intro w' s
    have q0:=s.1.k0
    clear s
    go_simp
    with_reducible rfl
   rotate_left
   ·simp only [Act.put,List.setIfInBounds_toArray,List.set_cons_zero,List.set_cons_succ,i64_w,i32_w]
    rfl
   refine take_ (i:=2) (N:=some 66) (v:=?_) (a':=?_) #[true,true,true,false,false,false,false,false,false,false,false,false,false,false,false] rfl rfl (by kernel_rfl) (fun _ _ _ h=>h) (Or.inl ⟨by rfl,?_⟩) hHeld ?_ ?_
   rotate_left
   ·intro w' s
    have q0:=s.1.k0
    clear s
    go_simp
    with_reducible rfl
   rotate_left
   ·simp only [Act.put,List.setIfInBounds_toArray,List.set_cons_zero,List.set_cons_succ,i64_w,i32_w]
    rfl
   refine take_ (i:=3) (N:=some 67) (v:=?_) (a':=?_) #[true,true,true,true,false,false,false,false,false,false,false,false,false,false,false] rfl rfl (by kernel_rfl) (fun _ _ _ h=>h) (Or.inl ⟨by rfl,?_⟩) hHeld ?_ ?_
   rotate_left
   ·intro w' s
    have q0:=s.1.k0
    clear s
    go_simp
    with_reducible rfl
   rotate_left
   ·simp only [Act.put,List.setIfInBounds_toArray,List.set_cons_zero,List.set_cons_succ,i64_w,i32_w]
    rfl
   refine take_ (i:=4) (N:=some 68) (v:=?_) (a':=?_) #[true,true,true,true,true,false,false,false,false,false,false,false,false,false,false] rfl rfl (by kernel_rfl) (fun _ _ _ h=>h) (Or.inl ⟨by rfl,?_⟩) hHeld ?_ ?_
   rotate_left
   ·intro w' s
    have q0:=s.1.k0
    clear s
    go_simp
    with_reducible rfl
   rotate_left
   ·simp only [Act.put,List.setIfInBounds_toArray,List.set_cons_zero,List.set_cons_succ,i64_w,i32_w]
    rfl
   refine take_ (i:=5) (N:=some 69) (v:=undef) (a':=?_) #[true,true,true,true,true,true,false,false,false,false,false,false,false,false,false] rfl rfl (by kernel_rfl) (fun _ _ _ h=>h) (Or.inr ⟨by rfl,rfl⟩) hHeld ?_ ?_
   rotate_left
   ·simp only [Act.put,List.setIfInBounds_toArray,List.set_cons_zero,List.set_cons_succ,i64_w,i32_w]
    rfl
   refine take_ (i:=6) (N:=some 70) (v:=undef) (a':=?_) #[true,true,true,true,true,true,true,false,false,false,false,false,false,false,false] rfl rfl (by kernel_rfl) (fun _ _ _ h=>h) (Or.inr ⟨by rfl,rfl⟩) hHeld ?_ ?_
   rotate_left
   ·simp only [Act.put,List.setIfInBounds_toArray,List.set_cons_zero,List.set_cons_succ,i64_w,i32_w]
    rfl
   refine take_ (i:=7) (N:=some 71) (v:=undef) (a':=?_) #[true,true,true,true,true,true,true,true,false,false,false,false,false,false,false] rfl rfl (by kernel_rfl) (fun _ _ _ h=>h) (Or.inr ⟨by rfl,rfl⟩) hHeld ?_ ?_
   rotate_left
   ·simp only [Act.put,List.setIfInBounds_toArray,List.set_cons_zero,List.set_cons_succ,i64_w,i32_w]
    rfl
   refine take_ (i:=8) (N:=some 72) (v:=undef) (a':=?_) #[true,true,true,true,true,true,true,true,true,false,false,false,false,false,false] rfl rfl (by kernel_rfl) (fun _ _ _ h=>h) (Or.inr ⟨by rfl,rfl⟩) hHeld ?_ ?_
   rotate_left
   ·simp only [Act.put,List.setIfInBounds_toArray,List.set_cons_zero,List.set_cons_succ,i64_w,i32_w]
    rfl
   refine take_ (i:=9) (N:=some 73) (v:=undef) (a':=?_) #[true,true,true,true,true,true,true,true,true,true,false,false,false,false,false] rfl rfl (by kernel_rfl) (fun _ _ _ h=>h) (Or.inr ⟨by rfl,rfl⟩) hHeld ?_ ?_
   rotate_left
   ·simp only [Act.put,List.setIfInBounds_toArray,List.set_cons_zero,List.set_cons_succ,i64_w,i32_w]
    rfl
   refine take_ (i:=10) (N:=some 74) (v:=undef) (a':=?_) #[true,true,true,true,true,true,true,true,true,true,true,false,false,false,false] rfl rfl (by kernel_rfl) (fun _ _ _ h=>h) (Or.inr ⟨by rfl,rfl⟩) hHeld ?_ ?_
   rotate_left
   ·simp only [Act.put,List.setIfInBounds_toArray,List.set_cons_zero,List.set_cons_succ,i64_w,i32_w]
    rfl
   refine take_ (i:=11) (N:=some 75) (v:=undef) (a':=?_) #[true,true,true,true,true,true,true,true,true,true,true,true,false,false,false] rfl rfl (by kernel_rfl) (fun _ _ _ h=>h) (Or.inr ⟨by rfl,rfl⟩) hHeld ?_ ?_
   rotate_left
   ·simp only [Act.put,List.setIfInBounds_toArray,List.set_cons_zero,List.set_cons_succ,i64_w,i32_w]
    rfl
   refine take_ (i:=12) (N:=some 76) (v:=?_) (a':=?_) #[true,true,true,true,true,true,true,true,true,true,true,true,true,false,false] rfl rfl (by kernel_rfl) (fun _ _ _ h=>h) (Or.inl ⟨by rfl,?_⟩) hHeld ?_ ?_
   rotate_left
   ·intro w' s
    have q0:=s.1.k0
    clear s
    go_simp
    with_reducible rfl
   rotate_left
   ·simp only [Act.put,List.setIfInBounds_toArray,List.set_cons_zero,List.set_cons_succ,i64_w,i32_w]
    rfl
   refine take_ (i:=13) (N:=some 77) (v:=?_) (a':=?_) #[true,true,true,true,true,true,true,true,true,true,true,true,true,true,false] rfl rfl (by kernel_rfl) (fun _ _ _ h=>h) (Or.inl ⟨by rfl,?_⟩) hHeld ?_ ?_
   rotate_left
   ·intro w' s
    have q0:=s.1.k0
    clear s
    go_simp
    with_reducible rfl
   rotate_left
   ·simp only [Act.put,List.setIfInBounds_toArray,List.set_cons_zero,List.set_cons_succ,i64_w,i32_w]
    rfl
   refine take_ (i:=14) (N:=some 4) (v:=?_) (a':=?_) #[true,true,true,true,true,true,true,true,true,true,true,true,true,true,true] rfl rfl (by kernel_rfl) (fun _ _ _ h=>h) (Or.inl ⟨by rfl,?_⟩) hHeld ?_ ?_
   rotate_left
   ·intro w' s
    have q0:=s.1.k0
    clear s
    go_simp
    with_reducible rfl
   rotate_left
   ·simp only [Act.put,List.setIfInBounds_toArray,List.set_cons_zero,List.set_cons_succ,i64_w,i32_w]
    rfl
   refine done_ (by kernel_rfl) ?_
   go_wp2
   go_ret
   exact ⟨rfl,S8.out.2⟩
  | ok q =>
   obtain ⟨t,r⟩:=q
   rw [hg] at HRG hct HCT
   simp only at HRG hct HCT ⊢
   obtain ⟨hbt,htl,hwf,hrt⟩:=get_inv HX.out hg
   by_cases hr : r.length > 0
   ·rw [if_pos hr] at hct HCT ⊢
    have dlt : decide (((l.length : Int) - r.length) < (l.length : Int)) = true:=decide_eq_true (by omega)
    clear hg hbt hwf hrt
    go_wp2_with (fail)
    clear q0 q1 q2 q3 hcv
    refine (hornbeamref18_Get.calls 30000 (strOfNums l) 0 s0 s1 kd s3 _ _ _ _ HRG.out).mono ?_
    rintro e w3 ⟨v3,rfl,hR3,hb⟩
    have S3:=Aside0.mk (S2.out.step hb)
    have HCT3:=Aside0.mk (Kd.C_below HCT.out hb)
    clear hb hR3 S2 HCT
    go_wp2_with (fail)
    refine (hornbeamref18_Same.calls 1000 At ct [] none 0 [] true _ HCT3.out hct (Kd.C_nil _ _) (Nat.le_refl _) (same_f [] (by simp) 1000 (by simp))).mono ?_
    rintro e w4 ⟨rfl,⟨nd4,rfl⟩⟩
    have S4:=Aside0.mk (show St w s0 s1 kd s3 (w3.drewN nd4) from ⟨S3.out.1,below_drewN S3.out.2 _⟩)
    clear S3 HCT3
    generalize w3.drewN nd4 = w4 at S4 ⊢
    go_wp2_with (fail)
    have SD:=Aside0.mk (show St w s0 s1 kd s3 w4.drew from ⟨S4.out.1,below_drew1 S4.out.2⟩)
    refine start_ (n:=15) (S:=fun w'=>St w s0 s1 kd s3 w') (ds:=[]) #[false,false,false,false,false,false,false,false,false,false,false,false,false,false,false] (by kernel_rfl) rfl rfl SD.out (fun hHeld=>?_)
    refine one_ (i:=0) (N:=some 64) #[true,false,false,false,false,false,false,false,false,false,false,false,false,false,false] rfl rfl (by kernel_rfl) (by decide) (fun K hK=>?_)
    refine goes_ Try.func42 (by kernel_rfl) rfl #[] (by rfl) rfl rfl (by (try simp only [List.map_toArray,List.map_cons,List.map_nil]);first|done|rfl) ?_
    refine (hornbeamlaw18_fixed.calls 30 true _ HFX.out).mono ?_
    rintro e w8 ⟨rfl,hb⟩
    refine ⟨_,rfl,?_⟩
    have S8:=Aside0.mk (SD.out.step hb)
    have HB8:=Aside0.mk hb
    clear hb hHeld
    refine hK.out _ _ S8.out (fun hHeld=>?_)
    clear hK K
    refine norm_ (a':=?_) ?_ ?_
    rotate_left
    ·show Act.put _ (some 64) _ = _
     simp only [Act.put,List.setIfInBounds_toArray,List.set_cons_zero,List.set_cons_succ,i64_w,i32_w]
     rfl
    refine take_ (i:=1) (N:=some 65) (v:=?_) (a':=?_) #[true,true,false,false,false,false,false,false,false,false,false,false,false,false,false] rfl rfl (by kernel_rfl) (fun _ _ _ h=>h) (Or.inl ⟨by rfl,?_⟩) hHeld ?_ ?_
    rotate_left
    ·intro w' s
     have q0:=s.1.k0
     clear s
     go_simp
     with_reducible rfl
    rotate_left
    ·simp only [Act.put,List.setIfInBounds_toArray,List.set_cons_zero,List.set_cons_succ,i64_w,i32_w]
     rfl
    refine take_ (i:=2) (N:=some 66) (v:=?_) (a':=?_) #[true,true,true,false,false,false,false,false,false,false,false,false,false,false,false] rfl rfl (by kernel_rfl) (fun _ _ _ h=>h) (Or.inl ⟨by rfl,?_⟩) hHeld ?_ ?_
    rotate_left
    ·intro w' s
     have q0:=s.1.k0
     clear s
     go_simp
     with_reducible rfl
    rotate_left
    ·simp only [Act.put,List.setIfInBounds_toArray,List.set_cons_zero,List.set_cons_succ,i64_w,i32_w]
     rfl
    refine take_ (i:=3) (N:=some 67) (v:=?_) (a':=?_) #[true,true,true,true,false,false,false,false,false,false,false,false,false,false,false] rfl rfl (by kernel_rfl) (fun _ _ _ h=>h) (Or.inl ⟨by rfl,?_⟩) hHeld ?_ ?_
    rotate_left
    ·intro w' s
     have q0:=s.1.k0
     clear s
     go_simp
     with_reducible rfl
    rotate_left
    ·simp only [Act.put,List.setIfInBounds_toArray,List.set_cons_zero,List.set_cons_succ,i64_w,i32_w]
     rfl
    refine take_ (i:=4) (N:=some 68) (v:=?_) (a':=?_) #[true,true,true,true,true,false,false,false,false,false,false,false,false,false,false] rfl rfl (by kernel_rfl) (fun _ _ _ h=>h) (Or.inl ⟨by rfl,?_⟩) hHeld ?_ ?_
    rotate_left
    ·intro w' s
     have q0:=s.1.k0
     clear s
     go_simp
     with_reducible rfl
    rotate_left
    ·simp only [Act.put,List.setIfInBounds_toArray,List.set_cons_zero,List.set_cons_succ,i64_w,i32_w]
     rfl
    refine take_ (i:=5) (N:=some 69) (v:=undef) (a':=?_) #[true,true,true,true,true,true,false,false,false,false,false,false,false,false,false] rfl rfl (by kernel_rfl) (fun _ _ _ h=>h) (Or.inr ⟨by rfl,rfl⟩) hHeld ?_ ?_
    rotate_left
    ·simp only [Act.put,List.setIfInBounds_toArray,List.set_cons_zero,List.set_cons_succ,i64_w,i32_w]
     rfl
    refine take_ (i:=6) (N:=some 70) (v:=undef) (a':=?_) #[true,true,true,true,true,true,true,false,false,false,false,false,false,false,false] rfl rfl (by kernel_rfl) (fun _ _ _ h=>h) (Or.inr ⟨by rfl,rfl⟩) hHeld ?_ ?_
    rotate_left
    ·simp only [Act.put,List.setIfInBounds_toArray,List.set_cons_zero,List.set_cons_succ,i64_w,i32_w]
     rfl
    refine take_ (i:=7) (N:=some 71) (v:=undef) (a':=?_) #[true,true,true,true,true,true,true,true,false,false,false,false,false,false,false] rfl rfl (by kernel_rfl) (fun _ _ _ h=>h) (Or.inr ⟨by rfl,rfl⟩) hHeld ?_ ?_
    rotate_left
    ·simp only [Act.put,List.setIfInBounds_toArray,List.set_cons_zero,List.set_cons_succ,i64_w,i32_w]
     rfl
    refine take_ (i:=8) (N:=some 72) (v:=undef) (a':=?_) #[true,true,true,true,true,true,true,true,true,false,false,false,false,false,false] rfl rfl (by kernel_rfl) (fun _ _ _ h=>h) (Or.inr ⟨by rfl,rfl⟩) hHeld ?_ ?_
    rotate_left
    ·simp only [Act.put,List.setIfInBounds_toArray,List.set_cons_zero,List.set_cons_succ,i64_w,i32_w]
     rfl
    refine take_ (i:=9) (N:=some 73) (v:=undef) (a':=?_) #[true,true,true,true,true,true,true,true,true,true,false,false,false,false,false] rfl rfl (by kernel_rfl) (fun _ _ _ h=>h) (Or.inr ⟨by rfl,rfl⟩) hHeld ?_ ?_
    rotate_left
    ·simp only [Act.put,List.setIfInBounds_toArray,List.set_cons_zero,List.set_cons_succ,i64_w,i32_w]
     rfl
    refine take_ (i:=10) (N:=some 74) (v:=undef) (a':=?_) #[true,true,true,true,true,true,true,true,true,true,true,false,false,false,false] rfl rfl (by kernel_rfl) (fun _ _ _ h=>h) (Or.inr ⟨by rfl,rfl⟩) hHeld ?_ ?_
    rotate_left
    ·simp only [Act.put,List.setIfInBounds_toArray,List.set_cons_zero,List.set_cons_succ,i64_w,i32_w]
     rfl
    refine take_ (i:=11) (N:=some 75) (v:=undef) (a':=?_) #[true,true,true,true,true,true,true,true,true,true,true,true,false,false,false] rfl rfl (by kernel_rfl) (fun _ _ _ h=>h) (Or.inr ⟨by rfl,rfl⟩) hHeld ?_ ?_
    rotate_left
    ·simp only [Act.put,List.setIfInBounds_toArray,List.set_cons_zero,List.set_cons_succ,i64_w,i32_w]
     rfl
    refine take_ (i:=12) (N:=some 76) (v:=?_) (a':=?_) #[true,true,true,true,true,true,true,true,true,true,true,true,true,false,false] rfl rfl (by kernel_rfl) (fun _ _ _ h=>h) (Or.inl ⟨by rfl,?_⟩) hHeld ?_ ?_
    rotate_left
    ·intro w' s
     have q0:=s.1.k0
     clear s
     go_simp
     with_reducible rfl
    rotate_left
    ·simp only [Act.put,List.setIfInBounds_toArray,List.set_cons_zero,List.set_cons_succ,i64_w,i32_w]
     rfl
    refine take_ (i:=13) (N:=some 77) (v:=?_) (a':=?_) #[true,true,true,true,true,true,true,true,true,true,true,true,true,true,false] rfl rfl (by kernel_rfl) (fun _ _ _ h=>h) (Or.inl ⟨by rfl,?_⟩) hHeld ?_ ?_
    rotate_left
    ·intro w' s
     have q0:=s.1.k0
     clear s
     go_simp
     with_reducible rfl
    rotate_left
    ·simp only [Act.put,List.setIfInBounds_toArray,List.set_cons_zero,List.set_cons_succ,i64_w,i32_w]
     rfl
    refine take_ (i:=14) (N:=some 4) (v:=?_) (a':=?_) #[true,true,true,true,true,true,true,true,true,true,true,true,true,true,true] rfl rfl (by kernel_rfl) (fun _ _ _ h=>h) (Or.inl ⟨by rfl,?_⟩) hHeld ?_ ?_
    rotate_left
    ·intro w' s
     have q0:=s.1.k0
     clear s
     go_simp
     with_reducible rfl
    rotate_left
    ·simp only [Act.put,List.setIfInBounds_toArray,List.set_cons_zero,List.set_cons_succ,i64_w,i32_w]
     rfl
    refine done_ (by kernel_rfl) ?_
    go_wp2
    go_ret
    exact ⟨rfl,S8.out.2⟩
   ·rw [if_neg hr] at hct HCT ⊢
    obtain rfl : r = []:=List.eq_nil_of_length_eq_zero (by omega)
    have dlt : decide (((l.length : Int) - ([] : List Int).length) < (l.length : Int)) = false:=decide_eq_false (by simp)
    have HNP:=Aside0.mk (show node_Put.f 4000 [] t s0 s1 kd s3 = some l by
     rw [node_put_f [] t (by simp) (by omega) hwf s0 s1 kd s3 4000 (by omega),if_pos hrt,hbt];simp)
    clear hg hbt hwf hrt
    go_wp2_with (fail)
    clear q0 q1 q2 q3 hcv
    refine (hornbeamref18_Get.calls 30000 (strOfNums l) 0 s0 s1 kd s3 _ _ _ _ HRG.out).mono ?_
    rintro e w3 ⟨v3,rfl,hR3,hb⟩
    obtain ⟨A3,c3,rfl,hl3,hC3⟩:=Kd.R_reads hR3
    have S3:=Aside0.mk (S2.out.step hb)
    have HC3:=Aside0.mk hC3
    have HCT3:=Aside0.mk (Kd.C_below HCT.out hb)
    clear hb hR3 hC3 S2 HCT
    go_wp2_with (fail)
    refine (hornbeamref18_Same.calls 4000 At ct t A3 c3 t true _ HCT3.out hct HC3.out hl3 (same_f t (by omega) 4000 (by omega))).mono ?_
    rintro e w4 ⟨rfl,⟨nd4,rfl⟩⟩
    have S4:=Aside0.mk (show St w s0 s1 kd s3 (w3.drewN nd4) from ⟨S3.out.1,below_drewN S3.out.2 _⟩)
    have HCT:=Aside0.mk (Kd.C_below HCT3.out (show Below w3.heap.size w3 (w3.drewN nd4) from below_drewN (Below.refl _ _) _))
    clear S3 HC3 HCT3
    generalize w3.drewN nd4 = w4 at S4 HCT ⊢
    go_wp2_with (fail)
    have SD:=Aside0.mk (show St w s0 s1 kd s3 w4.drew from ⟨S4.out.1,below_drew1 S4.out.2⟩)
    refine start_ (n:=15) (S:=fun w'=>St w s0 s1 kd s3 w') (ds:=[]) #[false,false,false,false,false,false,false,false,false,false,false,false,false,false,false] (by kernel_rfl) rfl rfl SD.out (fun hHeld=>?_)
    refine one_ (i:=0) (N:=some 64) #[true,false,false,false,false,false,false,false,false,false,false,false,false,false,false] rfl rfl (by kernel_rfl) (by decide) (fun K hK=>?_)
    refine goes_ Try.func42 (by kernel_rfl) rfl #[] (by rfl) rfl rfl (by (try simp only [List.map_toArray,List.map_cons,List.map_nil]);first|done|rfl) ?_
    refine (hornbeamlaw18_fixed.calls 30 true _ HFX.out).mono ?_
    rintro e w8 ⟨rfl,hb⟩
    refine ⟨_,rfl,?_⟩
    have S8:=Aside0.mk (SD.out.step hb)
    have HB8:=Aside0.mk hb
    clear hb hHeld
    refine hK.out _ _ S8.out (fun hHeld=>?_)
    clear hK K
    refine norm_ (a':=?_) ?_ ?_
    rotate_left
    ·show Act.put _ (some 64) _ = _
     simp only [Act.put,List.setIfInBounds_toArray,List.set_cons_zero,List.set_cons_succ,i64_w,i32_w]
     rfl
    refine take_ (i:=1) (N:=some 65) (v:=?_) (a':=?_) #[true,true,false,false,false,false,false,false,false,false,false,false,false,false,false] rfl rfl (by kernel_rfl) (fun _ _ _ h=>h) (Or.inl ⟨by rfl,?_⟩) hHeld ?_ ?_
    rotate_left
    ·intro w' s
     have q0:=s.1.k0
     clear s
     go_simp
     with_reducible rfl
    rotate_left
    ·simp only [Act.put,List.setIfInBounds_toArray,List.set_cons_zero,List.set_cons_succ,i64_w,i32_w]
     rfl
    refine take_ (i:=2) (N:=some 66) (v:=?_) (a':=?_) #[true,true,true,false,false,false,false,false,false,false,false,false,false,false,false] rfl rfl (by kernel_rfl) (fun _ _ _ h=>h) (Or.inl ⟨by rfl,?_⟩) hHeld ?_ ?_
    rotate_left
    ·intro w' s
     have q0:=s.1.k0
     clear s
     go_simp
     with_reducible rfl
    rotate_left
    ·simp only [Act.put,List.setIfInBounds_toArray,List.set_cons_zero,List.set_cons_succ,i64_w,i32_w]
     rfl
    refine take_ (i:=3) (N:=some 67) (v:=?_) (a':=?_) #[true,true,true,true,false,false,false,false,false,false,false,false,false,false,false] rfl rfl (by kernel_rfl) (fun _ _ _ h=>h) (Or.inl ⟨by rfl,?_⟩) hHeld ?_ ?_
    rotate_left
    ·intro w' s
     have q0:=s.1.k0
     clear s
     go_simp
     with_reducible rfl
    rotate_left
    ·simp only [Act.put,List.setIfInBounds_toArray,List.set_cons_zero,List.set_cons_succ,i64_w,i32_w]
     rfl
    refine take_ (i:=4) (N:=some 68) (v:=?_) (a':=?_) #[true,true,true,true,true,false,false,false,false,false,false,false,false,false,false] rfl rfl (by kernel_rfl) (fun _ _ _ h=>h) (Or.inl ⟨by rfl,?_⟩) hHeld ?_ ?_
    rotate_left
    ·intro w' s
     have q0:=s.1.k0
     clear s
     go_simp
     with_reducible rfl
    rotate_left
    ·simp only [Act.put,List.setIfInBounds_toArray,List.set_cons_zero,List.set_cons_succ,i64_w,i32_w]
     rfl
    refine take_ (i:=5) (N:=some 69) (v:=?_) (a':=?_) #[true,true,true,true,true,true,false,false,false,false,false,false,false,false,false] rfl rfl (by kernel_rfl) (fun _ _ _ h=>h) (Or.inl ⟨by rfl,?_⟩) hHeld ?_ ?_
    rotate_left
    ·intro w' s
     have q0:=s.1.k0
     clear s
     go_simp
     with_reducible rfl
    rotate_left
    ·simp only [Act.put,List.setIfInBounds_toArray,List.set_cons_zero,List.set_cons_succ,i64_w,i32_w]
     rfl
    refine take_ (i:=6) (N:=some 70) (v:=?_) (a':=?_) #[true,true,true,true,true,true,true,false,false,false,false,false,false,false,false] rfl rfl (by kernel_rfl) (fun _ _ _ h=>h) (Or.inl ⟨by rfl,?_⟩) hHeld ?_ ?_
    rotate_left
    ·intro w' s
     have q0:=s.1.k0;have q1:=s.1.k1;have q2:=s.1.k2;have q3:=s.1.k3
     clear s
     go_simp
     with_reducible rfl
    rotate_left
    ·simp only [Act.put,List.setIfInBounds_toArray,List.set_cons_zero,List.set_cons_succ,i64_w,i32_w]
     rfl
    refine take_ (i:=9) (N:=some 73) (v:=?_) (a':=?_) #[true,true,true,true,true,true,true,false,false,true,false,false,false,false,false] rfl rfl (by kernel_rfl) (fun _ _ _ h=>h) (Or.inl ⟨by rfl,?_⟩) hHeld ?_ ?_
    rotate_left
    ·intro w' s
     have q0:=s.1.k0
     clear s
     go_simp
     with_reducible rfl
    rotate_left
    ·simp only [Act.put,List.setIfInBounds_toArray,List.set_cons_zero,List.set_cons_succ,i64_w,i32_w]
     rfl
    refine take_ (i:=10) (N:=some 74) (v:=?_) (a':=?_) #[true,true,true,true,true,true,true,false,false,true,true,false,false,false,false] rfl rfl (by kernel_rfl) (fun _ _ _ h=>h) (Or.inl ⟨by rfl,?_⟩) hHeld ?_ ?_
    rotate_left
    ·intro w' s
     have q0:=Kd.C_string (P:=Try.prog) (A:=A) (c:=c) Try.underlying22 Try.underlying5 Try.underlying9 (Kd.C_below HRL.out s.2)
     clear s
     go_simp
     with_reducible rfl
    rotate_left
    ·simp only [Act.put,List.setIfInBounds_toArray,List.set_cons_zero,List.set_cons_succ,i64_w,i32_w]
     rfl
    refine one_ (i:=7) (N:=some 71) #[true,true,true,true,true,true,true,true,false,true,true,false,false,false,false] rfl rfl (by kernel_rfl) (by decide) (fun K hK=>?_)
    refine goes_ Try.func48 (by kernel_rfl) rfl #[.slice none 0 0,.slice At t.length ct,.agg #[.int .i64 s0,.int .i64 s1,.int .i64 kd,.int .i64 s3]] (by rfl) rfl rfl (by (try simp only [List.map_toArray,List.map_cons,List.map_nil]);first|done|rfl) ?_
    refine (node_Put.calls 4000 none 0 [] At ct t s0 s1 kd s3 _ _ (Kd.C_nil _ _) (Nat.le_refl _) (Kd.C_below (Kd.C_below HCT.out (below_drew (Below.refl _ _))) HB8.out) hct HNP.out).mono ?_
    rintro e w9 ⟨v9,rfl,hR,hb⟩
    refine ⟨_,rfl,?_⟩
    obtain ⟨A9,c9,rfl,hl9,hC9⟩:=Kd.R_reads hR
    have S9:=Aside0.mk (S8.out.step hb)
    have HC9:=Aside0.mk hC9
    clear hb hHeld hR hC9 hl9
    refine hK.out _ _ S9.out (fun hHeld=>?_)
    clear hK K
    refine norm_ (a':=?_) ?_ ?_
    rotate_left
    ·show Act.put _ (some 71) _ = _
     simp only [Act.put,List.setIfInBounds_toArray,List.set_cons_zero,List.set_cons_succ,i64_w,i32_w]
     rfl
    refine one_ (i:=8) (N:=some 72) #[true,true,true,true,true,true,true,true,true,true,true,false,false,false,false] rfl rfl (by kernel_rfl) (by decide) (fun K hK=>?_)
    refine value_ (w1:=w9) (v:=.string (strOfNums l)) (by rfl) rfl (by have hcv:=Kd.C_string (P:=Try.prog) (A:=A9) (c:=c9) Try.underlying22 Try.underlying5 Try.underlying9 HC9.out;go_simp) ?_
    refine hK.out _ _ hHeld (fun _=>?_)
    clear hK K
    refine norm_ (a':=?_) ?_ ?_
    rotate_left
    ·show Act.put _ (some 72) _ = _
     simp only [Act.put,List.setIfInBounds_toArray,List.set_cons_zero,List.set_cons_succ,i64_w,i32_w]
     rfl
    refine take_ (i:=11) (N:=some 75) (v:=?_) (a':=?_) #[true,true,true,true,true,true,true,true,true,true,true,true,false,false,false] rfl rfl (by kernel_rfl) (fun _ _ _ h=>h) (Or.inl ⟨by rfl,?_⟩) hHeld ?_ ?_
    rotate_left
    ·intro w' s
     have q0:=s.1.k0
     clear s
     go_simp
     with_reducible rfl
    rotate_left
    ·simp only [Act.put,List.setIfInBounds_toArray,List.set_cons_zero,List.set_cons_succ,i64_w,i32_w]
     rfl
    refine take_ (i:=12) (N:=some 76) (v:=?_) (a':=?_) #[true,true,true,true,true,true,true,true,true,true,true,true,true,false,false] rfl rfl (by kernel_rfl) (fun _ _ _ h=>h) (Or.inl ⟨by rfl,?_⟩) hHeld ?_ ?_
    rotate_left
    ·intro w' s
     have q0:=s.1.k0
     clear s
     go_simp
     with_reducible rfl
    rotate_left
    ·simp only [Act.put,List.setIfInBounds_toArray,List.set_cons_zero,List.set_cons_succ,i64_w,i32_w]
     rfl
    refine take_ (i:=13) (N:=some 77) (v:=?_) (a':=?_) #[true,true,true,true,true,true,true,true,true,true,true,true,true,true,false] rfl rfl (by kernel_rfl) (fun _ _ _ h=>h) (Or.inl ⟨by rfl,?_⟩) hHeld ?_ ?_
    rotate_left
    ·intro w' s
     have q0:=s.1.k0
     clear s
     go_simp
     with_reducible rfl
    rotate_left
    ·simp only [Act.put,List.setIfInBounds_toArray,List.set_cons_zero,List.set_cons_succ,i64_w,i32_w]
     rfl
    refine take_ (i:=14) (N:=some 4) (v:=?_) (a':=?_) #[true,true,true,true,true,true,true,true,true,true,true,true,true,true,true] rfl rfl (by kernel_rfl) (fun _ _ _ h=>h) (Or.inl ⟨by rfl,?_⟩) hHeld ?_ ?_
    rotate_left
    ·intro w' s
     have q0:=s.1.k0
     clear s
     go_simp
     with_reducible rfl
    rotate_left
    ·simp only [Act.put,List.setIfInBounds_toArray,List.set_cons_zero,List.set_cons_succ,i64_w,i32_w]
     rfl
    refine done_ (by kernel_rfl) ?_
    go_wp2
    go_ret
    exact ⟨rfl,S9.out.2⟩
end Go.Proofs.Ytebbnjgaikppgaa.FNodeTakes
