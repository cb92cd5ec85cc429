/- Datasets: what Great, Full and shaped answer. -/
import Derived.Test.YtnagfbadjbkhmaaPureKit
import Derived.Test.YtnagfbadjbkhmaaPAx1
import Derived.Test.YtnagfbadjbkhmaaPAx4
import Derived.Test.YtnagfbadjbkhmaaPAx1
namespace Go.Proofs.Ytnagfbadjbkhmaa.PureDataParts
open Go.RowKit Go.Proofs.YtnagfbadjbkhmaaW.PrintWords Go.Proofs.YtnagfbadjbkhmaaW.PrintLast Go.Proofs.YtnagfbadjbkhmaaW.PrintMore Go.Proofs.Ytnagfbadjbkhmaa.Pure Go.Proofs.Ytnagfbadjbkhmaa.PA
set_option linter.unusedVariables false
set_option linter.unusedSimpArgs false
theorem beqd (a b : Int) : (a == b) = decide (a = b):=by
 by_cases h : a = b <;> simp [h]
/-- Are there as many values as rows and columns say? -/
def shp (r c : Int) (n : Nat) : Bool:=decide (0 ≤ r) && decide (r ≤ 16777216) && decide (0 ≤ c) && decide (c ≤ 16777216) && decide ((n : Int) = wrap64 (r * c))
theorem shp_is {r c : Int} {n : Nat} (h : shp r c n = true) : 0 ≤ r ∧ r ≤ 16777216 ∧ 0 ≤ c ∧ c ≤ 16777216 ∧ (n : Int) = r * c:=by
 simp only [shp,Bool.and_eq_true,decide_eq_true_eq] at h
 obtain ⟨⟨⟨⟨h1,h2⟩,h3⟩,h4⟩,h5⟩:=h
 have hm : r * c ≤ 16777216 * 16777216:=Int.mul_le_mul h2 h4 h3 (by decide)
 have hn : 0 ≤ r * c:=Int.mul_nonneg h1 h3
 refine ⟨h1,h2,h3,h4,?_⟩
 rw [h5,wrap_in (by omega) (by omega)]
theorem shp_of {R C n : Nat} (hr : R ≤ 1000) (hc : C ≤ 1000) (h : n = R * C) : shp R C n = true:=by
 have hm : R * C ≤ 1000 * 1000:=Nat.mul_le_mul hr hc
 simp only [shp,Bool.and_eq_true,decide_eq_true_eq]
 refine ⟨⟨⟨⟨by omega,by omega⟩,by omega⟩,by omega⟩,?_⟩
 rw [← Int.natCast_mul,wrap_in (by omega) (by omega)];omega
section
variable (a0 a1 a2 a3 a4 a5 a6 r c : Int) (l : List Nat) (t : List Int)
theorem shaped_f : dataset_shaped.f a0 a1 a2 a3 a4 a5 a6 r c l t = some (shp r c l.length):=by
 unfold dataset_shaped.f shp
 by_cases h1 : r ≥ 0 <;> by_cases h2 : r ≤ 16777216 <;> by_cases h3 : c ≥ 0 <;> by_cases h4 : c ≤ 16777216 <;> simp [h1,h2,h3,h4,beqd]
end
theorem of_l0 (l : List Int) (hl : l.length < 17592186044416) : ∀ (d k i : Nat) (acc : List Nat),i + d = l.length → d < k → acc.length = i →
  hornbeamref06_Of.l0 k l acc i = some (acc ++ (l.drop i).map Flt.fbits):=by
 intro d
 induction d with
 | zero =>
  intro k i acc h1 h2 h3
  obtain ⟨k,rfl⟩ : ∃ m,k = m + 1:=⟨k - 1,by omega⟩
  simp only [hornbeamref06_Of.l0]
  rw [if_neg (by omega),List.drop_eq_nil_of_le (by omega)];simp
 | succ d ih =>
  intro k i acc h1 h2 h3
  obtain ⟨k,rfl⟩ : ∃ m,k = m + 1:=⟨k - 1,by omega⟩
  simp only [hornbeamref06_Of.l0]
  rw [if_pos (by omega),if_pos (by omega),if_pos (by omega),wrap_in (by omega) (by omega)]
  have:=ih k (i + 1) (acc ++ [Flt.fbits (rd l i)]) (by omega) (by omega) (by simp;omega)
  rw [show ((i : Int) + 1) = ((i + 1 : Nat) : Int) by omega,this,drop_rd l i (by omega)]
  simp
theorem of_f (l : List Int) (hl : l.length < 17592186044416) (k : Nat) (hk : l.length < k) : hornbeamref06_Of.f k l = some (l.map Flt.fbits):=by
 unfold hornbeamref06_Of.f
 have:=of_l0 l hl l.length k 0 [] (by omega) hk rfl
 simpa using this
section
variable (a0 a1 a2 a3 a4 a5 a6 r c : Int) (l : List Int) (t : List Int)
theorem full_f (k : Nat) (hk : l.length < k) (hl : l.length < 17592186044416) (ht : t.length < 17592186044416) :
  hornbeamref09_Plain_Full.f k a0 a1 a2 a3 a4 a5 a6 r c l t = some (a0,a1,a2,a3,a4,a5,a6,r,c,l.map Flt.fbits,t):=by
 unfold hornbeamref09_Plain_Full.f
 rw [of_f l hl k hk]
 simp [ht]
theorem great_f : hornbeamlaw09_Great.f a0 a1 a2 a3 a4 a5 a6 r c l t = some (decide (500 < l.length) || decide (200 < t.length)):=by
 unfold hornbeamlaw09_Great.f
 by_cases h : (l.length : Int) > 500
 ·rw [if_pos h];simp;omega
 ·rw [if_neg h]
  have h1 : ¬ 500 < l.length:=by omega
  simp only [h1,decide_false,Bool.false_or]
  congr 1;apply decide_eq_decide.mpr;omega
end
end Go.Proofs.Ytnagfbadjbkhmaa.PureDataParts
