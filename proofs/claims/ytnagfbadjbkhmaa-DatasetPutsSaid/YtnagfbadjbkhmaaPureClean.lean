/- Which values are clean, by the program and by the document; which targets may be. -/
import Derived.Test.YtnagfbadjbkhmaaPureFlt
import Derived.Test.YtnagfbadjbkhmaaFData09
import Derived.Test.YtnagfbadjbkhmaaPAx2
import Derived.Test.YtnagfbadjbkhmaaPAx9
namespace Go.Proofs.Ytnagfbadjbkhmaa.PureClean
open Go.RowKit Go.Proofs.Ytnagfbadjbkhmaa.Pure Go.Proofs.Ytnagfbadjbkhmaa.PureFlt Go.Proofs.Ytnagfbadjbkhmaa.PA Go.Proofs.Ytnagfbadjbkhmaa.FData09 Go.Proofs.Ytnagfbadjbkhmaa.FTarget
set_option linter.unusedVariables false
set_option linter.unusedSimpArgs false
theorem val_zero : val 0 = 0:=rfl
theorem nan_zero : ¬ nan 0:=by decide
/-- The word that stands for a number's place: no sign at zero; one word for what is missing. -/
def clean (a : Nat) : Nat:=if nan a then 9221120237041090561 else if val a = 0 then 0 else a
theorem missing (a : Nat) : rank_Missing.f a = some (decide (nan a)):=by
 unfold rank_Missing.f
 congr 1
 by_cases h : nan a
 ·have : Flt.eq a a = false:=by
   cases e : Flt.eq a a
   ·rfl
   ·exact absurd h (eq_iff.mp e).1
  rw [this];simp [h]
 ·rw [eq_iff.mpr ⟨h,h,rfl⟩];simp [h]
theorem eq_zero {a : Nat} (h : ¬ nan a) : (Flt.eq a 0 = true) = (val a = 0):=by
 rw [eq_iff];simp [h,nan_zero,val_zero]
theorem clean_f (a : Nat) : rank_Clean.f a = some (clean a):=by
 unfold rank_Clean.f clean
 rw [missing]
 show (if decide (nan a) = true then _ else _) = _
 by_cases h : nan a
 ·simp [h,Flt.fbits]
 ·simp only [h,decide_false,Bool.false_eq_true,if_false]
  by_cases e : val a = 0
  ·rw [if_pos (by rw [eq_zero h];exact e),if_pos e]
  ·rw [if_neg (by rw [eq_zero h];exact e),if_neg e]
theorem ref_missing (a : Nat) : hornbeamref06_Missing.f a = some (decide (nan a)):=by
 unfold hornbeamref06_Missing.f
 by_cases h : nan a
 ·have h1 : ¬ Flt.le a 0 = true:=fun e=>(le_iff.mp e).1 h
  have h2 : Flt.ge a 0 = false:=by
   cases e : Flt.ge a 0
   ·rfl
   ·exact absurd h (ge_iff.mp e).1
  rw [if_neg h1,h2];simp [h]
 ·by_cases c : val a ≤ 0
  ·rw [if_pos (le_iff.mpr ⟨h,nan_zero,by rw [val_zero];exact c⟩)];simp [h]
  ·rw [if_neg (fun e=>c (by have:=(le_iff.mp e).2.2;rwa [val_zero] at this)),ge_iff.mpr ⟨h,nan_zero,by rw [val_zero];omega⟩];simp [h]
theorem ref_bits (a : Nat) : hornbeamref06_Bits.f a = some (clean a : Int):=by
 unfold hornbeamref06_Bits.f clean
 rw [ref_missing]
 show (if decide (nan a) = true then _ else _) = _
 by_cases h : nan a
 ·simp [h]
 ·simp only [h,decide_false,Bool.false_eq_true,if_false,Flt.ubits]
  by_cases g : Flt.ge a 0 = true
  ·rw [if_pos g]
   have g':=(ge_iff.mp g).2.2;rw [val_zero] at g'
   by_cases l : Flt.le a 0 = true
   ·rw [if_pos l]
    have l':=(le_iff.mp l).2.2;rw [val_zero] at l'
    rw [if_pos (by omega)];rfl
   ·rw [if_neg l,if_neg (fun e=>l (le_iff.mpr ⟨h,nan_zero,by rw [val_zero];omega⟩))]
  ·rw [if_neg g,if_neg (fun e=>g (ge_iff.mpr ⟨h,nan_zero,by rw [val_zero];omega⟩))]
theorem cl_eq (x : Nat) : cl x = decide (clean x = x):=by
 unfold cl dataset_clean.f
 rw [clean_f]
 show ((x : Int) == (clean x : Int)) = _
 by_cases h : clean x = x
 ·rw [h];simp
 ·have : ¬ ((x : Int) = (clean x : Int)):=fun e=>h (by omega)
  rw [beq_eq_false_iff_ne.mpr this];simp [h]
theorem target_f (k0 k1 k2 k3 k4 k5 k6 t : Int) (h0 : k0 = 0 ∨ k0 = 1) (h1 : k0 = 0 → k1 ≤ 256) : hornbeamref09_Target.f 9 k0 k1 k2 k3 k4 k5 k6 t = some (may k0 k1 t):=by
 unfold hornbeamref09_Target.f may
 rcases h0 with rfl|rfl
 ·have h2:=h1 rfl
  rw [if_pos rfl,if_neg (show ¬ ((0 : Int) = 1) by decide)]
  unfold class_
  by_cases a : t < 0
  ·rw [if_pos a,if_pos (Or.inl a)];simp only [hornbeamref09_Target.j0,if_true]
  ·rw [if_neg a]
   by_cases b : t > 255
   ·rw [if_pos b,if_pos (Or.inr (by omega))];simp only [hornbeamref09_Target.j0,if_true]
   ·rw [if_neg b]
    by_cases c : t ≥ k1
    ·rw [if_pos (Or.inr c)];simp only [hornbeamref09_Target.j0,c,decide_true,if_true]
    ·rw [if_neg (fun h=>h.elim a c)];simp only [hornbeamref09_Target.j0,c,decide_false,Bool.false_eq_true,if_false];rw [if_neg (show ¬ ((0 : Int) = 1) by decide)]
 ·rw [if_neg (show ¬ ((1 : Int) = 0) by decide),if_pos rfl]
  unfold mean
  simp only [hornbeamref09_Target.j0,Bool.false_eq_true,if_false,if_true]
  by_cases a : t < -1048576
  ·rw [if_pos a,if_pos (Or.inl a)]
  ·rw [if_neg a]
   by_cases b : t > 1048576
   ·rw [if_pos b,if_pos (Or.inr b)]
   ·rw [if_neg b,if_neg (fun h=>h.elim a b)]
end Go.Proofs.Ytnagfbadjbkhmaa.PureClean
