/- take.Put and the document's Put: the lowest bytes of a number, the highest first. -/
import Derived.Test.YtnagfbadjbkhmaaPureKit
import Derived.Test.YtnagfbadjbkhmaaPAx2
import Derived.Test.YtnagfbadjbkhmaaPAx5
namespace Go.Proofs.Ytnagfbadjbkhmaa.PureTake
open Go.RowKit Go.Proofs.YtnagfbadjbkhmaaW.PrintWords Go.Proofs.YtnagfbadjbkhmaaW.PrintLast Go.Proofs.YtnagfbadjbkhmaaW.PrintMore Go.Proofs.Ytnagfbadjbkhmaa.Pure Go.Proofs.Ytnagfbadjbkhmaa.PA
set_option linter.unusedVariables false
set_option linter.unusedSimpArgs false
/-- How many bytes are meant. -/
def cnt (n : Int) : Nat:=if n < 0 then 0 else if n > 8 then 8 else n.toNat
theorem cnt_le (n : Int) : cnt n ≤ 8:=by unfold cnt;split <;> (try split) <;> omega
/-- The lowest m bytes of a number, the highest of them first. -/
def be : Nat → Int → List Int
 | 0,_=>[]
 | m + 1,x=>(x / 256 ^ m) % 256 :: be m x
theorem be_len (m : Nat) (x : Int) : (be m x).length = m:=by
 induction m with
 | zero=>rfl
 | succ m ih=>simp [be,ih]
theorem be_byte (m : Nat) (x : Int) : ∀ y ∈ be m x,0 ≤ y ∧ y < 256:=by
 induction m with
 | zero=>simp [be]
 | succ m ih =>
  intro y hy
  rcases List.mem_cons.1 hy with rfl|hy
  ·omega
  ·exact ih y hy
theorem u64_wrap {x : Int} (h0 : 0 ≤ x) (h1 : x < 18446744073709551616) : IntKind.u64.wrap x = x:=by
 simp [IntKind.wrap,IntKind.bits,IntKind.signed];omega
theorem count_f (n : Int) : take_count.f n = some (cnt n : Int):=by
 unfold take_count.f cnt mn mx
 repeat' split
 all_goals (first|rfl|(congr 1;omega))
theorem ref_count_f (n : Int) : hornbeamref07_Count.f n = some (cnt n : Int):=by
 unfold hornbeamref07_Count.f cnt
 split
 ·rfl
 ·split
  ·rfl
  ·congr 1;omega
theorem clone_f (l : List Int) (hl : l.length < 140737488355328) : slices_Clone_byte_byte.f l = some l:=by
 unfold slices_Clone_byte_byte.f
 simp [hl]
theorem shr_at (x : Int) (i : Nat) (hi : i ≤ 7) : shr .u64 x (8 * (i : Int)) = x / 256 ^ i:=by
 have : i = 0 ∨ i = 1 ∨ i = 2 ∨ i = 3 ∨ i = 4 ∨ i = 5 ∨ i = 6 ∨ i = 7:=by omega
 rcases this with rfl|rfl|rfl|rfl|rfl|rfl|rfl|rfl <;> rfl
theorem put_l0 (x : Int) : ∀ (m k : Nat) (acc : List Int),m ≤ 8 → m < k → acc.length + m < 140737488355328 →
  take_Put.l0 k x acc ((m : Int) - 1) = some (acc ++ be m x):=by
 intro m
 induction m with
 | zero =>
  intro k acc _ h2 _
  obtain ⟨k,rfl⟩ : ∃ m,k = m + 1:=⟨k - 1,by omega⟩
  simp only [take_Put.l0]
  rw [if_neg (by omega)];simp [be]
 | succ m ih =>
  intro k acc h1 h2 h3
  obtain ⟨k,rfl⟩ : ∃ m,k = m + 1:=⟨k - 1,by omega⟩
  simp only [take_Put.l0]
  rw [if_pos (by omega),show (((m + 1 : Nat) : Int) - 1) = (m : Int) by omega,wrap_in (i:=8 * (m : Int)) (by omega) (by omega),if_pos (by omega),if_pos (by omega),
   wrap_in (i:=(m : Int) - 1) (by omega) (by omega),ih k _ (by omega) (by omega) (by simp;omega),shr_at _ _ (by omega)]
  simp [be]
theorem put_f (l : List Int) (x n : Int) (hl : l.length < 140737488355000) (k : Nat) (hk : 9 ≤ k) : take_Put.f k l x n = some (l ++ be (cnt n) x):=by
 have:=cnt_le n
 unfold take_Put.f
 rw [clone_f l (by omega),count_f]
 simp only [Option.bind_some]
 rw [wrap_in (by omega) (by omega),put_l0 x _ _ _ (by omega) (by omega) (by omega)]
theorem nums_byte (y : Int) (h0 : 0 ≤ y) (h1 : y < 256) : y % 256 = y:=by omega
theorem strOf_append (a b : List Int) : strOfNums (a ++ b) = strOfNums a ++ strOfNums b:=by
 apply ByteArray.ext
 simp [strOfNums]
theorem strOf_size (a : List Int) : (strOfNums a).size = a.length:=by simp [strOfNums,ByteArray.size]
theorem tdiv_nn (a : Int) (h : 0 ≤ a) : Int.tdiv a 256 = a / 256:=Int.tdiv_eq_ediv_of_nonneg h
theorem tmod_nn (a : Int) (h : 0 ≤ a) : Int.tmod a 256 = a % 256:=Int.tmod_eq_emod_of_nonneg h
theorem ref_put_l0 (x n : Int) (h0 : 0 ≤ x) (h1 : x < 18446744073709551616) : ∀ (d k j : Nat),j + d = cnt n → d < k →
  hornbeamref07_Put.l0 k (x / 256 ^ j) n (strOfNums (be j x)) j = some (strOfNums (be (cnt n) x)):=by
 have hc:=cnt_le n
 intro d
 induction d with
 | zero =>
  intro k j e h2
  obtain ⟨k,rfl⟩ : ∃ m,k = m + 1:=⟨k - 1,by omega⟩
  simp only [hornbeamref07_Put.l0]
  rw [ref_count_f,Option.bind_some,if_neg (by omega),show j = cnt n by omega]
 | succ d ih =>
  intro k j e h2
  obtain ⟨k,rfl⟩ : ∃ m,k = m + 1:=⟨k - 1,by omega⟩
  have hq : 0 ≤ x / 256 ^ j:=Int.ediv_nonneg h0 (Int.pow_nonneg (by omega))
  have hq1 : x / 256 ^ j ≤ x:=Int.ediv_le_self _ h0
  simp only [hornbeamref07_Put.l0]
  rw [ref_count_f,Option.bind_some,if_pos (by omega)]
  simp only [Option.bind_some]
  rw [tmod_nn _ hq,tdiv_nn _ hq,Int.emod_emod_of_dvd _ (Int.dvd_refl 256),if_pos (by simp only [strOf_size,be_len,List.length_singleton];omega),← strOf_append,List.singleton_append,
   show (x / 256 ^ j % 256 :: be j x) = be (j + 1) x from rfl,wrap_in (by omega) (by omega),u64_wrap (by omega) (by omega),Int.ediv_ediv_of_nonneg (Int.pow_nonneg (by omega)),← Int.pow_succ]
  exact ih k (j + 1) (by omega) (by omega)
theorem ref_put_f (x n : Int) (h0 : 0 ≤ x) (h1 : x < 18446744073709551616) (k : Nat) (hk : 9 ≤ k) : hornbeamref07_Put.f k x n = some (strOfNums (be (cnt n) x)):=by
 have hc:=cnt_le n
 have:=ref_put_l0 x n h0 h1 (cnt n) k 0 (by omega) (by omega)
 unfold hornbeamref07_Put.f
 rw [show (x / 256 ^ 0) = x by simp] at this
 exact this
end Go.Proofs.Ytnagfbadjbkhmaa.PureTake
