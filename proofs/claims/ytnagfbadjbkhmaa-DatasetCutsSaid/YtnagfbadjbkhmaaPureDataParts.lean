/- Datasets: what Great, Full, Column, Row and Same answer (for DatasetParts). -/
import Derived.Test.YtnagfbadjbkhmaaPureKit
import Derived.Test.YtnagfbadjbkhmaaPAx2
import Derived.Test.YtnagfbadjbkhmaaPAx7
import Derived.Test.YtnagfbadjbkhmaaPAx8
import Derived.Test.YtnagfbadjbkhmaaPAx9
import Derived.Test.YtnagfbadjbkhmaaPAx10
import Derived.Test.YtnagfbadjbkhmaaPAx11
namespace Go.Proofs.Ytnagfbadjbkhmaa.PureDataParts
open Go.RowKit Go.Proofs.YtnagfbadjbkhmaaW.PrintWords Go.Proofs.YtnagfbadjbkhmaaW.PrintLast Go.Proofs.YtnagfbadjbkhmaaW.PrintMore Go.Proofs.Ytnagfbadjbkhmaa.Pure Go.Proofs.Ytnagfbadjbkhmaa.PA
set_option linter.unusedVariables false
set_option linter.unusedSimpArgs false
theorem beqd (a b : Int) : (a == b) = decide (a = b):=by
 by_cases h : a = b <;> simp [h]
/-- Are there as many values as rows and columns say? -/
def shp (r c : Int) (n : Nat) : Bool:=decide (0 ≤ r) && decide (r ≤ 16777216) && decide (0 ≤ c) && decide (c ≤ 16777216) && decide ((n : Int) = wrap64 (r * c))
theorem shp_is {r c : Int} {n : Nat} (h : shp r c n = true) : 0 ≤ r ∧ r ≤ 16777216 ∧ 0 ≤ c ∧ c ≤ 16777216 ∧ (n : Int) = r * c:=by
 simp only [shp,Bool.and_eq_true,decide_eq_true_eq] at h
 obtain ⟨⟨⟨⟨h1,h2⟩,h3⟩,h4⟩,h5⟩:=h
 have hm : r * c ≤ 16777216 * 16777216:=Int.mul_le_mul h2 h4 h3 (by decide)
 have hn : 0 ≤ r * c:=Int.mul_nonneg h1 h3
 refine ⟨h1,h2,h3,h4,?_⟩
 rw [h5,wrap_in (by omega) (by omega)]
theorem shp_of {R C n : Nat} (hr : R ≤ 1000) (hc : C ≤ 1000) (h : n = R * C) : shp R C n = true:=by
 have hm : R * C ≤ 1000 * 1000:=Nat.mul_le_mul hr hc
 simp only [shp,Bool.and_eq_true,decide_eq_true_eq]
 refine ⟨⟨⟨⟨by omega,by omega⟩,by omega⟩,by omega⟩,?_⟩
 rw [← Int.natCast_mul,wrap_in (by omega) (by omega)];omega
/-- The column's values. -/
def col (R : Nat) (l : List Nat) (j : Nat) : List Nat:=(l.take ((j + 1) * R)).drop (j * R)
theorem cut_in {R C j : Nat} {n : Nat} (h : shp R C n = true) (hj : j < C) :
  wrap64 ((j : Int) * (R : Int)) = ((j * R : Nat) : Int) ∧ wrap64 (wrap64 ((j : Int) + 1) * (R : Int)) = (((j + 1) * R : Nat) : Int) ∧ (j + 1) * R ≤ n:=by
 obtain ⟨_,h2,_,h4,h5⟩:=shp_is h
 have hs : (j + 1) * R ≤ C * R:=Nat.mul_le_mul_right R hj
 have h0 : j * R ≤ (j + 1) * R:=Nat.mul_le_mul_right R (Nat.le_succ j)
 have h5' : n = R * C:=by rw [← Int.natCast_mul] at h5;omega
 have hb : C * R ≤ 16777216 * 16777216:=Nat.mul_le_mul (by omega) (by omega)
 rw [Nat.mul_comm R C] at h5'
 refine ⟨?_,?_,by omega⟩
 ·rw [← Int.natCast_mul,wrap_in (by omega) (by omega)]
 ·rw [wrap_in (i:=(j : Int) + 1) (by omega) (by omega),show (j : Int) + 1 = ((j + 1 : Nat) : Int) by omega,← Int.natCast_mul,wrap_in (by omega) (by omega)]
theorem col_length {R C j : Nat} {l : List Nat} (h : shp R C l.length = true) (hj : j < C) : (col R l j).length = R:=by
 have:=(cut_in h hj).2.2
 have e : (j + 1) * R = j * R + R:=Nat.succ_mul j R
 simp only [col,List.length_drop,List.length_take];omega
theorem place_in {R C i j : Nat} {n : Nat} (h : shp R C n = true) (hj : j < C) (hi : i < R) :
  wrap64 (wrap64 ((j : Int) * (R : Int)) + (i : Int)) = ((j * R + i : Nat) : Int) ∧ j * R + i < n:=by
 obtain ⟨c1,c2,c3⟩:=cut_in h hj
 obtain ⟨_,h2,_,h4,h5⟩:=shp_is h
 have hb : (C : Nat) * R ≤ 16777216 * 16777216:=Nat.mul_le_mul (by omega) (by omega)
 have h5' : n = R * C:=by rw [← Int.natCast_mul] at h5;omega
 rw [Nat.mul_comm R C] at h5'
 have e : (j + 1) * R = j * R + R:=Nat.succ_mul j R
 refine ⟨?_,by omega⟩
 rw [c1,wrap_in (by omega) (by omega)];omega
section
variable (a0 a1 a2 a3 a4 a5 a6 r c : Int) (l : List Nat) (t : List Int)
theorem shaped_f : dataset_shaped.f a0 a1 a2 a3 a4 a5 a6 r c l t = some (shp r c l.length):=by
 unfold dataset_shaped.f shp
 by_cases h1 : r ≥ 0 <;> by_cases h2 : r ≤ 16777216 <;> by_cases h3 : c ≥ 0 <;> by_cases h4 : c ≤ 16777216 <;> simp [h1,h2,h3,h4,beqd]
theorem clone_f (l : List Nat) (hl : l.length < 17592186044416) : slices_Clone_float64_float64.f l = some l:=by
 unfold slices_Clone_float64_float64.f
 simp [hl]
/-- No column. -/
theorem column_none (k : Int) (h : shp r c l.length = false ∨ k < 0 ∨ c ≤ k) : dataset_Column.f a0 a1 a2 a3 a4 a5 a6 r c l t k = some []:=by
 unfold dataset_Column.f
 rw [shaped_f,Option.bind_some]
 by_cases hs : shp r c l.length = true
 ·rw [if_pos hs]
  by_cases h0 : k < 0
  ·rw [if_pos h0]
  ·rw [if_neg h0,if_pos]
   rcases h with h|h|h
   ·rw [hs] at h;cases h
   ·omega
   ·exact h
 ·rw [if_neg hs]
theorem column_f {R C j : Nat} (h : shp R C l.length = true) (hj : j < C) (hl : l.length < 17592186044416) :
  dataset_Column.f a0 a1 a2 a3 a4 a5 a6 R C l t j = some (col R l j):=by
 obtain ⟨c1,c2,c3⟩:=cut_in h hj
 have e : (j + 1) * R = j * R + R:=Nat.succ_mul j R
 unfold dataset_Column.f
 rw [shaped_f,Option.bind_some,if_pos h,if_neg (by omega),if_neg (by omega),c1,c2,if_pos (by omega),if_pos (by omega),if_pos (by omega)]
 rw [Int.toNat_natCast,Int.toNat_natCast,clone_f _ (by simp only [List.length_drop,List.length_take];omega)];rfl
/-- No row. -/
theorem row_none (m : Nat) (hm : 0 < m) (k : Int) (h : shp r c l.length = false ∨ k < 0 ∨ r ≤ k) : dataset_Row.f m a0 a1 a2 a3 a4 a5 a6 r c l t k = some []:=by
 obtain ⟨m,rfl⟩ : ∃ q,m = q + 1:=⟨m - 1,by omega⟩
 unfold dataset_Row.f
 rw [shaped_f,Option.bind_some]
 by_cases hs : shp r c l.length = true
 ·rw [if_pos hs]
  by_cases h0 : k < 0
  ·rw [if_pos h0,dataset_Row.j0,if_pos rfl]
  ·rw [if_neg h0,dataset_Row.j0,if_pos]
   rcases h with h|h|h
   ·rw [hs] at h;cases h
   ·omega
   ·simpa using h
 ·rw [if_neg hs,dataset_Row.j0,if_pos rfl]
/-- The row's values. -/
def row (R C : Nat) (l : List Nat) (i : Nat) : List Nat:=(List.range C).map fun j=>l.getD (j * R + i) 0
theorem row_l0 {R C i : Nat} (h : shp R C l.length = true) (hi : i < R) : ∀ (d k j : Nat) (acc : List Nat),j + d = C → d < k → acc = (List.range j).map (fun j=>l.getD (j * R + i) 0) →
  dataset_Row.l0 k i acc C j a0 a1 a2 a3 a4 a5 a6 R C l t = some (row R C l i):=by
 have hC : C ≤ 16777216:=by have:=shp_is h;omega
 intro d
 induction d with
 | zero =>
  intro k j acc h1 h2 h3
  obtain ⟨k,rfl⟩ : ∃ m,k = m + 1:=⟨k - 1,by omega⟩
  obtain rfl : j = C:=by omega
  rw [dataset_Row.l0,if_neg (by omega),h3];rfl
 | succ d ih =>
  intro k j acc h1 h2 h3
  obtain ⟨k,rfl⟩ : ∃ m,k = m + 1:=⟨k - 1,by omega⟩
  obtain ⟨p1,p2⟩:=place_in h (show j < C by omega) hi
  have hlen : acc.length = j:=by rw [h3];simp
  rw [dataset_Row.l0,if_pos (by omega),p1,if_pos (by omega),if_pos (by omega),if_pos (by omega),wrap_in (by omega) (by omega),show (j : Int) + 1 = ((j + 1 : Nat) : Int) by omega]
  refine ih k (j + 1) _ (by omega) (by omega) ?_
  rw [h3,List.range_succ,List.map_append];simp only [rdOf,Int.toNat_natCast,List.map_cons,List.map_nil]
theorem row_f {R C i : Nat} (m : Nat) (hm : C + 1 < m) (h : shp R C l.length = true) (hi : i < R) :
  dataset_Row.f m a0 a1 a2 a3 a4 a5 a6 R C l t i = some (row R C l i):=by
 obtain ⟨m,rfl⟩ : ∃ q,m = q + 1:=⟨m - 1,by omega⟩
 unfold dataset_Row.f
 rw [shaped_f,Option.bind_some,if_pos h,if_neg (by omega),dataset_Row.j0,if_neg (by simp;omega)]
 exact row_l0 a0 a1 a2 a3 a4 a5 a6 l t h hi C m 0 [] (by omega) (by omega) rfl
end
theorem row_length (R C : Nat) (l : List Nat) (i : Nat) : (row R C l i).length = C:=by simp [row]
theorem row_get {R C : Nat} (l : List Nat) {i j : Nat} (hj : j < C) : (row R C l i).getD j 0 = l.getD (j * R + i) 0:=by
 simp [row,hj]
theorem of_l0 (l : List Int) (hl : l.length < 17592186044416) : ∀ (d k i : Nat) (acc : List Nat),i + d = l.length → d < k → acc.length = i →
  hornbeamref06_Of.l0 k l acc i = some (acc ++ (l.drop i).map Flt.fbits):=by
 intro d
 induction d with
 | zero =>
  intro k i acc h1 h2 h3
  obtain ⟨k,rfl⟩ : ∃ m,k = m + 1:=⟨k - 1,by omega⟩
  simp only [hornbeamref06_Of.l0]
  rw [if_neg (by omega),List.drop_eq_nil_of_le (by omega)];simp
 | succ d ih =>
  intro k i acc h1 h2 h3
  obtain ⟨k,rfl⟩ : ∃ m,k = m + 1:=⟨k - 1,by omega⟩
  simp only [hornbeamref06_Of.l0]
  rw [if_pos (by omega),if_pos (by omega),if_pos (by omega),wrap_in (by omega) (by omega)]
  have:=ih k (i + 1) (acc ++ [Flt.fbits (rd l i)]) (by omega) (by omega) (by simp;omega)
  rw [show ((i : Int) + 1) = ((i + 1 : Nat) : Int) by omega,this,drop_rd l i (by omega)]
  simp
theorem of_f (l : List Int) (hl : l.length < 17592186044416) (k : Nat) (hk : l.length < k) : hornbeamref06_Of.f k l = some (l.map Flt.fbits):=by
 unfold hornbeamref06_Of.f
 have:=of_l0 l hl l.length k 0 [] (by omega) hk rfl
 simpa using this
theorem same6_l0 (a : List Nat) (hl : a.length ≤ 9223372036854775807) : ∀ (d k i : Nat),i + d = a.length → d < k → hornbeamref06_Same.l0 k a a i = some true:=by
 intro d
 induction d with
 | zero =>
  intro k i h1 h2
  obtain ⟨k,rfl⟩ : ∃ m,k = m + 1:=⟨k - 1,by omega⟩
  rw [hornbeamref06_Same.l0,if_neg (by omega)]
 | succ d ih =>
  intro k i h1 h2
  obtain ⟨k,rfl⟩ : ∃ m,k = m + 1:=⟨k - 1,by omega⟩
  rw [hornbeamref06_Same.l0,if_pos (by omega),if_pos (by omega),if_pos (by omega),if_pos rfl,wrap_in (by omega) (by omega),show ((i : Int) + 1) = ((i + 1 : Nat) : Int) by omega,ih k (i + 1) (by omega) (by omega)]
theorem same6_self (a : List Nat) (hl : a.length ≤ 9223372036854775807) (k : Nat) (hk : a.length < k) : hornbeamref06_Same.f k a a = some true:=by
 unfold hornbeamref06_Same.f
 rw [if_pos rfl]
 exact same6_l0 a hl a.length k 0 (by omega) hk
section
variable (a0 a1 a2 a3 a4 a5 a6 r c : Int) (l : List Int) (t : List Int)
theorem full_f (k : Nat) (hk : l.length < k) (hl : l.length < 17592186044416) (ht : t.length < 17592186044416) :
  hornbeamref09_Plain_Full.f k a0 a1 a2 a3 a4 a5 a6 r c l t = some (a0,a1,a2,a3,a4,a5,a6,r,c,l.map Flt.fbits,t):=by
 unfold hornbeamref09_Plain_Full.f
 rw [of_f l hl k hk]
 simp [ht]
theorem great_f : hornbeamlaw09_Great.f a0 a1 a2 a3 a4 a5 a6 r c l t = some (decide (500 < l.length) || decide (200 < t.length)):=by
 unfold hornbeamlaw09_Great.f
 by_cases h : (l.length : Int) > 500
 ·rw [if_pos h];simp;omega
 ·rw [if_neg h]
  have h1 : ¬ 500 < l.length:=by omega
  simp only [h1,decide_false,Bool.false_or]
  congr 1;apply decide_eq_decide.mpr;omega
theorem same9_l1 (hl : t.length < 17592186044416) : ∀ (d k i : Nat),i + d = t.length → d < k →
  hornbeamref09_Same.l1 k i a0 a1 a2 a3 a4 a5 a6 r c l t a0 a1 a2 a3 a4 a5 a6 r c l t = some true:=by
 intro d
 induction d with
 | zero =>
  intro k i h1 h2
  obtain ⟨k,rfl⟩ : ∃ m,k = m + 1:=⟨k - 1,by omega⟩
  rw [hornbeamref09_Same.l1,if_neg (by omega)]
 | succ d ih =>
  intro k i h1 h2
  obtain ⟨k,rfl⟩ : ∃ m,k = m + 1:=⟨k - 1,by omega⟩
  rw [hornbeamref09_Same.l1,if_pos (by omega),if_pos (by omega),if_pos (by omega),if_pos rfl,wrap_in (by omega) (by omega),show ((i : Int) + 1) = ((i + 1 : Nat) : Int) by omega,ih k (i + 1) (by omega) (by omega)]
theorem same9_l0 (hl : l.length < 17592186044416) (ht : t.length < 17592186044416) : ∀ (d k i : Nat),i + d = l.length → d + t.length + 1 < k →
  hornbeamref09_Same.l0 k i a0 a1 a2 a3 a4 a5 a6 r c l t a0 a1 a2 a3 a4 a5 a6 r c l t = some true:=by
 intro d
 induction d with
 | zero =>
  intro k i h1 h2
  obtain ⟨k,rfl⟩ : ∃ m,k = m + 1:=⟨k - 1,by omega⟩
  rw [hornbeamref09_Same.l0,if_neg (by omega)]
  exact same9_l1 a0 a1 a2 a3 a4 a5 a6 r c l t ht t.length k 0 (by omega) (by omega)
 | succ d ih =>
  intro k i h1 h2
  obtain ⟨k,rfl⟩ : ∃ m,k = m + 1:=⟨k - 1,by omega⟩
  rw [hornbeamref09_Same.l0,if_pos (by omega),if_pos (by omega),if_pos (by omega),if_pos rfl,wrap_in (by omega) (by omega),show ((i : Int) + 1) = ((i + 1 : Nat) : Int) by omega,ih k (i + 1) (by omega) (by omega)]
theorem same9_self (hl : l.length < 17592186044416) (ht : t.length < 17592186044416) (k : Nat) (hk : l.length + t.length + 2 < k) :
  hornbeamref09_Same.f k a0 a1 a2 a3 a4 a5 a6 r c l t a0 a1 a2 a3 a4 a5 a6 r c l t = some true:=by
 obtain ⟨k,rfl⟩ : ∃ m,k = m + 1:=⟨k - 1,by omega⟩
 unfold hornbeamref09_Same.f
 rw [if_neg (by simp),if_pos rfl,if_pos rfl,if_pos rfl,hornbeamref09_Same.j0,if_neg (by simp)]
 exact same9_l0 a0 a1 a2 a3 a4 a5 a6 r c l t hl ht l.length k 0 (by omega) (by omega)
end
end Go.Proofs.Ytnagfbadjbkhmaa.PureDataParts
