/- The number of bytes that were put. -/
import Derived.Test.YtnagfbadjbkhmaaPureTake
import Derived.Test.YtnagfbadjbkhmaaFTake
namespace Go.Proofs.Ytnagfbadjbkhmaa.PureVal
open Go.RowKit Go.Proofs.YtnagfbadjbkhmaaW.PrintWords Go.Proofs.YtnagfbadjbkhmaaW.PrintLast Go.Proofs.YtnagfbadjbkhmaaW.PrintMore Go.Proofs.Ytnagfbadjbkhmaa.FTake
set_option linter.unusedVariables false
set_option linter.unusedSimpArgs false
theorem val_cons (y : Int) (l : List Int) : val (y :: l) = y * 256 ^ l.length + val l:=by
 have go : ∀ (l : List Int) (a : Int),l.foldl (fun x y=>x * 256 + y) a = a * 256 ^ l.length + val l:=by
  intro l
  induction l with
  | nil=>intro a;simp [val]
  | cons z l ih =>
   intro a
   have h1:=ih (a * 256 + z)
   have h2:=ih (0 * 256 + z)
   simp only [List.foldl_cons,val] at h1 h2 ⊢
   rw [h1,h2,List.length_cons,Int.pow_succ,Int.add_mul,Int.zero_mul,Int.zero_add,Int.mul_assoc,Int.mul_comm 256,Int.add_assoc]
 have:=go l (0 * 256 + y)
 simp only [val,List.foldl_cons] at this ⊢
 rw [this];simp
theorem val_be (m : Nat) (hm : m ≤ 8) (x : Int) (h0 : 0 ≤ x) : val (PureTake.be m x) = x % 256 ^ m:=by
 have : m = 0 ∨ m = 1 ∨ m = 2 ∨ m = 3 ∨ m = 4 ∨ m = 5 ∨ m = 6 ∨ m = 7 ∨ m = 8:=by omega
 induction m with
 | zero=>simp [PureTake.be,val]
 | succ m ih =>
  rw [PureTake.be,val_cons,ih (by omega) (by omega),PureTake.be_len]
  have hq : (0 : Int) < 256 ^ m:=Int.pow_pos (by omega)
  rw [Int.pow_succ]
  generalize (256 : Int) ^ m = q at *
  have e1:=Int.emod_add_mul_ediv x q
  have e2:=Int.emod_add_mul_ediv (x / q) 256
  have b1:=Int.emod_nonneg x (show q ≠ 0 by omega)
  have b2:=Int.emod_lt_of_pos x hq
  have b3:=Int.emod_nonneg (x / q) (show (256 : Int) ≠ 0 by omega)
  have b4:=Int.emod_lt_of_pos (x / q) (show (0 : Int) < 256 by omega)
  symm
  have e3 : x = (x / q % 256 * q + x % q) + (q * 256) * (x / q / 256):=by
   conv=>lhs;rw [← e1,← e2]
   rw [Int.mul_add,Int.add_comm (q * _),Int.mul_comm q (x / q % 256),Int.mul_assoc];omega
  have b5 : x / q % 256 * q + x % q < q * 256:=by
   have : x / q % 256 * q ≤ 255 * q:=Int.mul_le_mul_of_nonneg_right (by omega) (by omega)
   omega
  have b6 : 0 ≤ x / q % 256 * q + x % q:=by
   have : 0 ≤ x / q % 256 * q:=Int.mul_nonneg b3 (by omega)
   omega
  conv=>lhs;rw [e3]
  rw [Int.add_mul_emod_self_left,Int.emod_eq_of_lt b6 b5]

theorem num_be (k : Int) (n : Int) (h0 : 0 ≤ n) (m : Nat) (hm : cnt k = m) (h8 : m ≤ 8) (rest : List Int) : number k (PureTake.be m n ++ rest) = .ok (n % 256 ^ m,rest):=by
 unfold number
 rw [hm,if_pos (by rw [List.length_append,PureTake.be_len];omega)]
 have hl:=PureTake.be_len m n
 rw [show (PureTake.be m n ++ rest).take m = PureTake.be m n by rw [List.take_append_of_le_length (by omega),List.take_of_length_le (by omega)],
  show (PureTake.be m n ++ rest).drop m = rest by rw [List.drop_append_of_le_length (by omega),List.drop_of_length_le (by omega)];rfl,val_be m h8 n h0]
end Go.Proofs.Ytnagfbadjbkhmaa.PureVal
