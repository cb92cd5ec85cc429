/- What a float64's word says: its sign and rung; the order of floats is the order of the signed rungs; the bit operations on 64 bits. -/
import Derived.Test.YtnagfbadjbkhmaaFlt
import Derived.Test.YtnagfbadjbkhmaaPureKit
import Derived.Laws.BitsLemmas
namespace Go.Proofs.Ytnagfbadjbkhmaa.PureFlt
open Go.RowKit Go.Proofs.Ytnagfbadjbkhmaa.Pure
set_option linter.unusedVariables false
set_option linter.unusedSimpArgs false

/-- A word's rung, and whether it is negative. -/
def rg (a : Nat) : Nat:=a % 9223372036854775808
def sg (a : Nat) : Bool:=a / 9223372036854775808 % 2 == 1
/-- No number. -/
def nan (a : Nat) : Prop:=9218868437227405312 < rg a
instance (a : Nat) : Decidable (nan a):=by unfold nan;infer_instance
/-- The signed rung. -/
def sgn (s : Bool) (x : Nat) : Int:=if s then -(x : Int) else (x : Int)
def val (a : Nat) : Int:=sgn (sg a) (rg a)

/-- A rung's magnitude, in units of the least place. -/
def M (r : Nat) : Nat:=if r < 4503599627370496 then r else (4503599627370496 + r % 4503599627370496) * 2 ^ (r / 4503599627370496 - 1)
theorem M_lt {r s : Nat} (h : r < s) : M r < M s:=by
 unfold M
 have B : (4503599627370496 : Nat) = 2 ^ 52:=rfl
 by_cases hs : s < 4503599627370496
 ·rw [if_pos hs,if_pos (by omega)];exact h
 ·rw [if_neg hs]
  have hs1 : 1 ≤ s / 4503599627370496:=by omega
  have p : 1 ≤ 2 ^ (s / 4503599627370496 - 1):=Nat.one_le_two_pow
  by_cases hr : r < 4503599627370496
  ·rw [if_pos hr]
   calc r < 4503599627370496:=hr
    _ ≤ (4503599627370496 + s % 4503599627370496) * 1:=by omega
    _ ≤ _:=Nat.mul_le_mul_left _ p
  ·rw [if_neg hr]
   by_cases hq : r / 4503599627370496 = s / 4503599627370496
   ·rw [hq];exact Nat.mul_lt_mul_of_pos_right (by omega) (by omega)
   ·have hq' : r / 4503599627370496 + 1 ≤ s / 4503599627370496:=by omega
    have e1 : 2 ^ (r / 4503599627370496 - 1) * 2 = 2 ^ (r / 4503599627370496):=by
     rw [← Nat.pow_succ];congr 1;omega
    have e2 : 2 ^ (r / 4503599627370496) ≤ 2 ^ (s / 4503599627370496 - 1):=Nat.pow_le_pow_right (by decide) (by omega)
    have p1 : 0 < 2 ^ (r / 4503599627370496 - 1):=Nat.two_pow_pos _
    calc (4503599627370496 + r % 4503599627370496) * 2 ^ (r / 4503599627370496 - 1)
      < (4503599627370496 * 2) * 2 ^ (r / 4503599627370496 - 1):=Nat.mul_lt_mul_of_pos_right (by omega) p1
     _ = 4503599627370496 * 2 ^ (r / 4503599627370496):=by rw [Nat.mul_assoc,Nat.mul_comm 2,e1]
     _ ≤ 4503599627370496 * 2 ^ (s / 4503599627370496 - 1):=Nat.mul_le_mul_left _ e2
     _ ≤ _:=Nat.mul_le_mul_right _ (by omega)
theorem M_lt_iff {r s : Nat} : M r < M s ↔ r < s:=by
 constructor
 ·intro h
  rcases Nat.lt_trichotomy r s with h1|h1|h1
  ·exact h1
  ·subst h1;omega
  ·have:=M_lt h1;omega
 ·exact M_lt
theorem M_inj {r s : Nat} : M r = M s ↔ r = s:=by
 constructor
 ·intro h
  rcases Nat.lt_trichotomy r s with h1|h1|h1
  ·have:=M_lt h1;omega
  ·exact h1
  ·have:=M_lt h1;omega
 ·rintro rfl;rfl
theorem M_zero : M 0 = 0:=rfl

theorem compare_congr {a b c d : Int} (h1 : a < b ↔ c < d) (h2 : a = b ↔ c = d) : compare a b = compare c d:=by
 show compareOfLessAndEq a b = compareOfLessAndEq c d
 unfold compareOfLessAndEq
 by_cases x : a < b
 ·rw [if_pos x,if_pos (h1.mp x)]
 ·rw [if_neg x,if_neg (fun y=>x (h1.mpr y))]
  by_cases z : a = b
  ·rw [if_pos z,if_pos (h2.mp z)]
  ·rw [if_neg z,if_neg (fun y=>z (h2.mpr y))]
theorem sgn_mul (s : Bool) (x c : Nat) : sgn s (x * c) = sgn s x * (c : Int):=by
 unfold sgn;split <;> simp [Int.natCast_mul,Int.neg_mul]
theorem compare_scale (s t : Bool) (x y c : Nat) (hc : 0 < c) : compare (sgn s (x * c)) (sgn t (y * c)) = compare (sgn s x) (sgn t y):=by
 rw [sgn_mul,sgn_mul]
 have hc' : (0 : Int) < c:=by exact_mod_cast hc
 exact compare_congr (Int.mul_lt_mul_right hc') ⟨fun h=>Int.eq_of_mul_eq_mul_right (by omega) h,fun h=>by rw [h]⟩
theorem compare_M (s t : Bool) (x y : Nat) : compare (sgn s (M x)) (sgn t (M y)) = compare (sgn s x) (sgn t y):=by
 have a1:=@M_lt_iff x y;have a2:=@M_lt_iff y x;have a3:=@M_inj x y
 have z1 : M x = 0 ↔ x = 0:=by have:=@M_inj x 0;rwa [M_zero] at this
 have z2 : M y = 0 ↔ y = 0:=by have:=@M_inj y 0;rwa [M_zero] at this
 apply compare_congr <;> unfold sgn <;> cases s <;> cases t <;> simp only [Bool.false_eq_true,if_false,if_true] <;> omega

/-- What the model reads in a word: a number by its rung, in units of the least place. -/
theorem read_num {a : Nat} (h : rg a < 9218868437227405312) : ∃ m e,Ieee.double.read a = .number (sg a) m e ∧ -1074 ≤ e ∧ M (rg a) = m * 2 ^ (e + 1074).toNat:=by
 have hb : Ieee.double.binade = 4503599627370496:=rfl
 have hi : Ieee.double.infRung = 9218868437227405312:=rfl
 have hs : Ieee.double.signWeight = 9223372036854775808:=rfl
 have hl : Ieee.double.leastPlace = -1074:=rfl
 unfold Ieee.Format.read
 simp only [hb,hi,hs,hl]
 by_cases h1 : rg a < 4503599627370496
 ·refine ⟨rg a,-1074,?_,by omega,?_⟩
  ·rw [if_pos (show a % 9223372036854775808 < 4503599627370496 from h1)];rfl
  ·unfold M;rw [if_pos h1];simp
 ·refine ⟨4503599627370496 + rg a % 4503599627370496,-1074 + ((rg a / 4503599627370496 - 1 : Nat) : Int),?_,by omega,?_⟩
  ·rw [if_neg (show ¬ a % 9223372036854775808 < 4503599627370496 from h1),if_pos (show a % 9223372036854775808 < 9218868437227405312 from h)];rfl
  ·unfold M;rw [if_neg h1,show (-1074 + ((rg a / 4503599627370496 - 1 : Nat) : Int) + 1074).toNat = rg a / 4503599627370496 - 1 by omega]
theorem read_inf {a : Nat} (h : rg a = 9218868437227405312) : Ieee.double.read a = .infinity (sg a):=by
 have hb : Ieee.double.binade = 4503599627370496:=rfl
 have hi : Ieee.double.infRung = 9218868437227405312:=rfl
 have hs : Ieee.double.signWeight = 9223372036854775808:=rfl
 have h' : a % 9223372036854775808 = 9218868437227405312:=h
 unfold Ieee.Format.read
 simp only [hb,hi,hs,h']
 rfl
theorem read_nan {a : Nat} (h : nan a) : ∃ x,Ieee.double.read a = .nan (sg a) x:=by
 have hb : Ieee.double.binade = 4503599627370496:=rfl
 have hi : Ieee.double.infRung = 9218868437227405312:=rfl
 have hs : Ieee.double.signWeight = 9223372036854775808:=rfl
 have h' : 9218868437227405312 < a % 9223372036854775808:=h
 refine ⟨a % 9223372036854775808 - 9218868437227405312,?_⟩
 unfold Ieee.Format.read
 simp only [hb,hi,hs]
 rw [if_neg (by omega),if_neg (by omega),if_neg (by omega)];rfl
theorem signed_eq (s : Bool) (m k : Nat) : Ieee.signed s m k = sgn s (m * 2 ^ k):=by
 unfold Ieee.signed sgn;simp only [Nat.shiftLeft_eq]
/-- The order of floats. -/
theorem order_nan {a b : Nat} (h : nan a ∨ nan b) : FloatKind.f64.format.order a b = none:=by
 show (Ieee.double.read a).order (Ieee.double.read b) = none
 rcases h with h|h
 ·obtain ⟨x,e⟩:=read_nan h;rw [e];rfl
 ·obtain ⟨x,e⟩:=read_nan h;rw [e];cases Ieee.double.read a <;> rfl
theorem order_num {a b : Nat} (ha : ¬ nan a) (hb : ¬ nan b) : FloatKind.f64.format.order a b = some (compare (val a) (val b)):=by
 show (Ieee.double.read a).order (Ieee.double.read b) = _
 unfold nan at ha hb
 by_cases a1 : rg a < 9218868437227405312 <;> by_cases b1 : rg b < 9218868437227405312
 ·obtain ⟨m,i,ea,hi,hm⟩:=read_num a1
  obtain ⟨n,j,eb,hj,hn⟩:=read_num b1
  rw [ea,eb]
  show some (compare (Ieee.signed (sg a) m (i - min i j).toNat) (Ieee.signed (sg b) n (j - min i j).toNat)) = _
  congr 1
  rw [signed_eq,signed_eq,← compare_scale (sg a) (sg b) _ _ (2 ^ (min i j + 1074).toNat) (Nat.two_pow_pos _),
   Nat.mul_assoc,Nat.mul_assoc,← Nat.pow_add,← Nat.pow_add,
   show (i - min i j).toNat + (min i j + 1074).toNat = (i + 1074).toNat by omega,
   show (j - min i j).toNat + (min i j + 1074).toNat = (j + 1074).toNat by omega,← hm,← hn,compare_M]
  rfl
 ·obtain ⟨m,i,ea,hi,hm⟩:=read_num a1
  have b2 : rg b = 9218868437227405312:=by omega
  rw [ea,read_inf b2]
  show some (if sg b then Ordering.gt else Ordering.lt) = _
  congr 1
  unfold val sgn
  cases sg a <;> cases sg b <;> simp only [Bool.false_eq_true,if_false,if_true] <;> symm <;> first|(rw [Int.compare_eq_gt];omega)|(rw [Int.compare_eq_lt];omega)
 ·obtain ⟨n,j,eb,hj,hn⟩:=read_num b1
  have a2 : rg a = 9218868437227405312:=by omega
  rw [eb,read_inf a2]
  show some (if sg a then Ordering.lt else Ordering.gt) = _
  congr 1
  unfold val sgn
  cases sg a <;> cases sg b <;> simp only [Bool.false_eq_true,if_false,if_true] <;> symm <;> first|(rw [Int.compare_eq_gt];omega)|(rw [Int.compare_eq_lt];omega)
 ·have a2 : rg a = 9218868437227405312:=by omega
  have b2 : rg b = 9218868437227405312:=by omega
  rw [read_inf a2,read_inf b2]
  show some (compare (sg b).toNat (sg a).toNat) = _
  unfold val sgn;rw [a2,b2]
  cases sg a <;> cases sg b <;> rfl
theorem eq_iff {a b : Nat} : Flt.eq a b = true ↔ ¬ nan a ∧ ¬ nan b ∧ val a = val b:=by
 unfold Flt.eq
 by_cases ha : nan a
 ·rw [order_nan (Or.inl ha)];simp [ha]
 by_cases hb : nan b
 ·rw [order_nan (Or.inr hb)];simp [hb]
 rw [order_num ha hb];simp [ha,hb,Int.compare_eq_eq]
theorem lt_iff {a b : Nat} : Flt.lt a b = true ↔ ¬ nan a ∧ ¬ nan b ∧ val a < val b:=by
 unfold Flt.lt
 by_cases ha : nan a
 ·rw [order_nan (Or.inl ha)];simp [ha]
 by_cases hb : nan b
 ·rw [order_nan (Or.inr hb)];simp [hb]
 rw [order_num ha hb];simp [ha,hb,Int.compare_eq_lt]
theorem gt_iff {a b : Nat} : Flt.gt a b = true ↔ ¬ nan a ∧ ¬ nan b ∧ val b < val a:=by
 unfold Flt.gt
 by_cases ha : nan a
 ·rw [order_nan (Or.inl ha)];simp [ha]
 by_cases hb : nan b
 ·rw [order_nan (Or.inr hb)];simp [hb]
 rw [order_num ha hb];simp [ha,hb,Int.compare_eq_gt]
theorem le_iff {a b : Nat} : Flt.le a b = true ↔ ¬ nan a ∧ ¬ nan b ∧ val a ≤ val b:=by
 rw [← Flt.fold_le,Bool.or_eq_true,lt_iff,eq_iff]
 constructor
 ·rintro (⟨h1,h2,h3⟩|⟨h1,h2,h3⟩) <;> exact ⟨h1,h2,by omega⟩
 ·rintro ⟨h1,h2,h3⟩
  rcases Int.lt_or_eq_of_le h3 with h|h
  ·exact Or.inl ⟨h1,h2,h⟩
  ·exact Or.inr ⟨h1,h2,h⟩
theorem ge_iff {a b : Nat} : Flt.ge a b = true ↔ ¬ nan a ∧ ¬ nan b ∧ val b ≤ val a:=by
 rw [← Flt.fold_ge,Bool.or_eq_true,gt_iff,eq_iff]
 constructor
 ·rintro (⟨h1,h2,h3⟩|⟨h1,h2,h3⟩) <;> exact ⟨h1,h2,by omega⟩
 ·rintro ⟨h1,h2,h3⟩
  rcases Int.lt_or_eq_of_le h3 with h|h
  ·exact Or.inl ⟨h1,h2,h⟩
  ·exact Or.inr ⟨h1,h2,by omega⟩
/-- A word by its sign and rung. -/
theorem word_eq {a : Nat} (h : a < 18446744073709551616) : (sg a = true ∧ a = 9223372036854775808 + rg a) ∨ (sg a = false ∧ a = rg a):=by
 unfold sg rg
 by_cases c : a < 9223372036854775808
 ·right;exact ⟨by rw [show a / 9223372036854775808 = 0 by omega];rfl,by omega⟩
 ·left;exact ⟨by rw [show a / 9223372036854775808 = 1 by omega];rfl,by omega⟩
theorem rg_lt (a : Nat) : rg a < 9223372036854775808:=Nat.mod_lt _ (by decide)
theorem val_pos {a : Nat} (h : sg a = false) : val a = rg a:=by unfold val sgn;rw [h];rfl
theorem val_neg {a : Nat} (h : sg a = true) : val a = -(rg a : Int):=by unfold val sgn;rw [h];rfl

/-! ### bits -/
theorem wrap_u64 (n : Int) : IntKind.u64.wrap n = n % 18446744073709551616:=by simp [IntKind.wrap,IntKind.bits,IntKind.signed]
theorem wraps_u64 (n : Int) (h₀ : 0 ≤ n) (h₁ : n < 2 ^ 64) : IntKind.u64.wrap n = n:=by rw [wrap_u64];omega
theorem and_two_pow (a i : Nat) : a &&& 2 ^ i = (a.testBit i).toNat * 2 ^ i:=by
 apply Nat.eq_of_testBit_eq;intro j
 rw [Nat.testBit_and]
 cases h : a.testBit i
 ·rw [Nat.testBit_two_pow]
  by_cases e : i = j
  ·subst e;simp [h]
  ·simp [e]
 ·simp only [Bool.toNat_true,Nat.one_mul,Nat.testBit_two_pow]
  by_cases e : i = j
  ·subst e;simp [h]
  ·simp [e]
theorem and_sign (a : Nat) (h : a < 18446744073709551616) : Go.bits .and .u64 (a : Int) 9223372036854775808 = if 9223372036854775808 ≤ a then 9223372036854775808 else 0:=by
 rw [show (9223372036854775808 : Int) = ((9223372036854775808 : Nat) : Int) from rfl,(bits_nat .u64 64 (by decide) wraps_u64 a 9223372036854775808 h (by decide)).1,
  show (9223372036854775808 : Nat) = 2 ^ 63 from rfl,and_two_pow,Nat.testBit_eq_decide_div_mod_eq]
 by_cases c : 2 ^ 63 ≤ a
 ·rw [if_pos c,show a / 2 ^ 63 % 2 = 1 by omega];rfl
 ·rw [if_neg c,show a / 2 ^ 63 % 2 = 0 by omega];rfl
theorem or_sign (a : Nat) (h : a < 9223372036854775808) : Go.bits .or .u64 (a : Int) 9223372036854775808 = (a : Int) + 9223372036854775808:=by
 rw [show (9223372036854775808 : Int) = ((9223372036854775808 : Nat) : Int) from rfl,(bits_nat .u64 64 (by decide) wraps_u64 a 9223372036854775808 (by omega) (by decide)).2,
  Nat.or_comm]
 have:=Nat.two_pow_add_eq_or_of_lt (i:=63) (b:=a) h 1
 rw [show (9223372036854775808 : Nat) = 2 ^ 63 * 1 from rfl,← this];omega
theorem xor_ones (a : Nat) (h : a < 18446744073709551616) : Go.bits .xor .u64 18446744073709551615 (a : Int) = 18446744073709551615 - (a : Int):=by
 unfold Go.bits
 show IntKind.u64.wrap ((BitVec.ofInt 64 18446744073709551615 ^^^ BitVec.ofInt 64 (a : Int)).toNat : Int) = _
 rw [show BitVec.ofInt 64 18446744073709551615 = BitVec.allOnes 64 by decide,BitVec.allOnes_xor,BitVec.ofInt_natCast,BitVec.toNat_not,BitVec.toNat_ofNat,
  Nat.mod_eq_of_lt (show a < 2 ^ 64 from h),wrap_u64]
 omega
theorem andNot_sign (a : Nat) (h : a < 18446744073709551616) : Go.bits .andNot .u64 (a : Int) 9223372036854775808 = (a : Int) % 9223372036854775808:=by
 have e : Go.bits .andNot .u64 (a : Int) 9223372036854775808 = Go.bits .and .u64 (a : Int) (2 ^ 63 - 1):=by
  unfold Go.bits
  show IntKind.u64.wrap ((BitVec.ofInt 64 (a : Int) &&& ~~~ BitVec.ofInt 64 9223372036854775808).toNat : Int) = IntKind.u64.wrap ((BitVec.ofInt 64 (a : Int) &&& BitVec.ofInt 64 (2 ^ 63 - 1)).toNat : Int)
  rw [show ~~~ BitVec.ofInt 64 9223372036854775808 = BitVec.ofInt 64 (2 ^ 63 - 1) by decide]
 rw [e,bits_mask .u64 64 (by decide) wraps_u64 63 (by decide) a (by omega) (by omega)];rfl
end Go.Proofs.Ytnagfbadjbkhmaa.PureFlt
