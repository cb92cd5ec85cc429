/- rank.*, hornbeamref06.*: what the printed functions compute, in plain terms. -/
import Derived.Test.YtlmmlhljflladaaPureFlt
import Derived.Test.YtlmmlhljflladaaPAx1
import Derived.Test.YtlmmlhljflladaaPAx1
import Derived.Test.YtlmmlhljflladaaPAx4
import Derived.Test.YtlmmlhljflladaaPAx2
import Derived.Test.YtlmmlhljflladaaPAx2
import Derived.Test.YtlmmlhljflladaaPAx5
import Derived.Test.YtlmmlhljflladaaPAx3
namespace Go.Proofs.Ytlmmlhljflladaa.PureRank
open Go.RowKit Go.Proofs.Ytlmmlhljflladaa.Pure Go.Proofs.Ytlmmlhljflladaa.PureFlt Go.Proofs.Ytlmmlhljflladaa.PA
set_option linter.unusedVariables false
set_option linter.unusedSimpArgs false

theorem val_zero : val 0 = 0 := rfl
theorem nan_zero : ¬ nan 0 := by decide
/-- What is known of a word that is a number. -/
theorem num_word {a : Nat} (h : a < 18446744073709551616) (hn : ¬ nan a) :
    (a = 9223372036854775808 + rg a ∧ sg a = true ∧ val a = -(rg a : Int) ∨ a = rg a ∧ sg a = false ∧ val a = rg a) ∧ rg a ≤ 9218868437227405312 := by
  unfold nan at hn
  refine ⟨?_, by omega⟩
  rcases word_eq h with ⟨h1, h2⟩ | ⟨h1, h2⟩
  · exact Or.inl ⟨h2, h1, val_neg h1⟩
  · exact Or.inr ⟨h2, h1, val_pos h1⟩
/-- The word that stands for a number's place: no sign at zero; one word for what is missing. -/
def clean (a : Nat) : Nat := if nan a then 9221120237041090561 else if val a = 0 then 0 else a
/-- The key: a number's place among all. -/
def key (a : Nat) : Int := if nan a then 0 else if 0 ≤ val a then 9223372036854775808 + val a else 9223372036854775807 + val a
theorem missing (a : Nat) : rank_Missing.f a = some (decide (nan a)) := by
  unfold rank_Missing.f
  congr 1
  by_cases h : nan a
  · have : Flt.eq a a = false := by
      cases e : Flt.eq a a
      · rfl
      · exact absurd h (eq_iff.mp e).1
    rw [this]; simp [h]
  · rw [eq_iff.mpr ⟨h, h, rfl⟩]; simp [h]
theorem eq_zero {a : Nat} (h : ¬ nan a) : (Flt.eq a 0 = true) = (val a = 0) := by
  rw [eq_iff]; simp [h, nan_zero, val_zero]
theorem clean_f (a : Nat) : rank_Clean.f a = some (clean a) := by
  unfold rank_Clean.f clean
  rw [missing]
  show (if decide (nan a) = true then _ else _) = _
  by_cases h : nan a
  · simp [h, Flt.fbits]
  · simp only [h, decide_false, Bool.false_eq_true, if_false]
    by_cases e : val a = 0
    · rw [if_pos (by rw [eq_zero h]; exact e), if_pos e]
    · rw [if_neg (by rw [eq_zero h]; exact e), if_neg e]
theorem clean_lt {a : Nat} (h : a < 18446744073709551616) : clean a < 18446744073709551616 := by
  unfold clean; split
  · decide
  · split
    · decide
    · exact h
theorem key_f {a : Nat} (h : a < 18446744073709551616) : rank_Key.f a = some (key a) := by
  unfold rank_Key.f
  rw [missing, clean_f]
  show (if decide (nan a) = true then some 0 else _) = _
  by_cases hn : nan a
  · simp [hn, key]
  · have w := num_word h hn
    simp only [hn, decide_false, Bool.false_eq_true, if_false, Option.bind_some]
    have c := clean_lt h
    have es : ∀ x : Nat, Flt.ubits x = (x : Int) := fun _ => rfl
    rw [show Go.bits .and .u64 (Flt.ubits (clean a)) 9223372036854775808 = _ from and_sign _ c]
    simp only [es]
    have e : clean a = if val a = 0 then 0 else a := by unfold clean; rw [if_neg hn]
    unfold key
    rw [if_neg hn]
    by_cases z : val a = 0
    · rw [e, if_pos z]
      rw [if_pos (by decide), or_sign 0 (by decide), if_pos (by omega), z]; rfl
    · rw [e, if_neg z] 
      rcases w with ⟨⟨w1, w2, w3⟩ | ⟨w1, w2, w3⟩, w4⟩
      · rw [if_pos (show 9223372036854775808 ≤ a by omega), if_neg (by decide), xor_ones a h, if_neg (by omega)]
        congr 1; omega
      · rw [if_neg (show ¬ 9223372036854775808 ≤ a by omega), if_pos rfl, or_sign a (by omega), if_pos (by omega)]
        congr 1; omega
theorem fixed : hornbeamlaw06_fixed.f = some true := by decide +kernel
theorem ref_missing (a : Nat) : hornbeamref06_Missing.f a = some (decide (nan a)) := by
  unfold hornbeamref06_Missing.f
  by_cases h : nan a
  · have h1 : ¬ Flt.le a 0 = true := fun e => (le_iff.mp e).1 h
    have h2 : Flt.ge a 0 = false := by
      cases e : Flt.ge a 0
      · rfl
      · exact absurd h (ge_iff.mp e).1
    rw [if_neg h1, h2]; simp [h]
  · by_cases c : val a ≤ 0
    · rw [if_pos (le_iff.mpr ⟨h, nan_zero, by rw [val_zero]; exact c⟩)]; simp [h]
    · rw [if_neg (fun e => c (by have := (le_iff.mp e).2.2; rwa [val_zero] at this)), ge_iff.mpr ⟨h, nan_zero, by rw [val_zero]; omega⟩]; simp [h]
theorem ref_bits (a : Nat) : hornbeamref06_Bits.f a = some (clean a : Int) := by
  unfold hornbeamref06_Bits.f clean
  rw [ref_missing]
  show (if decide (nan a) = true then _ else _) = _
  by_cases h : nan a
  · simp [h]
  · simp only [h, decide_false, Bool.false_eq_true, if_false, Flt.ubits]
    by_cases g : Flt.ge a 0 = true
    · rw [if_pos g]
      have g' := (ge_iff.mp g).2.2; rw [val_zero] at g'
      by_cases l : Flt.le a 0 = true
      · rw [if_pos l]
        have l' := (le_iff.mp l).2.2; rw [val_zero] at l'
        rw [if_pos (by omega)]; rfl
      · rw [if_neg l, if_neg (fun e => l (le_iff.mpr ⟨h, nan_zero, by rw [val_zero]; omega⟩))]
    · rw [if_neg g, if_neg (fun e => g (ge_iff.mpr ⟨h, nan_zero, by rw [val_zero]; omega⟩))]
theorem ref_key {a : Nat} (h : a < 18446744073709551616) : hornbeamref06_Key.f a = some (key a) := by
  unfold hornbeamref06_Key.f key
  rw [ref_missing, ref_bits]
  show (if decide (nan a) = true then _ else _) = _
  by_cases hn : nan a
  · simp [hn]
  · have w := num_word h hn
    simp only [hn, decide_false, Bool.false_eq_true, if_false, Option.bind_some]
    have e : clean a = if val a = 0 then 0 else a := by unfold clean; rw [if_neg hn]
    rw [wrap_u64, wrap_u64]
    by_cases z : val a = 0
    · rw [e, if_pos z, if_neg (by decide), if_pos (by omega), z]; rfl
    · rw [e, if_neg z]
      rcases w with ⟨⟨w1, w2, w3⟩ | ⟨w1, w2, w3⟩, w4⟩
      · rw [if_pos (show (a : Int) ≥ 9223372036854775808 by omega), if_neg (by omega)]; congr 1; omega
      · rw [if_neg (show ¬ (a : Int) ≥ 9223372036854775808 by omega), if_pos (by omega)]; congr 1; omega
theorem is_f (n : Int) : hornbeamref06_Is.f n = some (decide (n = 0 ∨ (4503599627370495 ≤ n ∧ n ≤ 18442240474082181120 ∧ n ≠ 9223372036854775807))) := by
  unfold hornbeamref06_Is.f
  by_cases h0 : n = 0
  · simp [h0]
  · rw [if_neg h0]
    by_cases h1 : n ≥ 4503599627370495
    · rw [if_pos h1]
      by_cases h2 : n ≤ 18442240474082181120
      · rw [if_pos h2]; congr 1; rw [Bool.eq_iff_iff]; simp; omega
      · rw [if_neg h2]; congr 1; symm; simp; omega
    · rw [if_neg h1]; congr 1; symm; simp; omega
theorem cmp_u64 (a b : Int) : cmp_Compare_uint64.f a b = some (if a < b then -1 else if a > b then 1 else 0) := by
  unfold cmp_Compare_uint64.f cmp_isNaN_uint64.f
  simp only [Option.bind_some, bne_self_eq_false, Bool.false_eq_true, if_false]
  split
  · rfl
  · split <;> rfl
/-- The order by keys. -/
def cmp (a b : Nat) : Int := if key a < key b then -1 else if key a > key b then 1 else 0
theorem cmp_f {a b : Nat} (ha : a < 18446744073709551616) (hb : b < 18446744073709551616) : rank_Cmp.f a b = some (cmp a b) := by
  unfold rank_Cmp.f
  rw [key_f ha, key_f hb]
  show (cmp_Compare_uint64.f (key a) (key b)).bind _ = _
  rw [cmp_u64]; rfl
theorem key_pos {a : Nat} (h : a < 18446744073709551616) (hn : ¬ nan a) : 4503599627370495 ≤ key a ∧ key a ≤ 18442240474082181120 ∧ key a ≠ 9223372036854775807 := by
  have w := num_word h hn
  unfold key; rw [if_neg hn]
  split <;> omega
theorem key_nan {a : Nat} (hn : nan a) : key a = 0 := by unfold key; rw [if_pos hn]
theorem key_lt {a b : Nat} (h : ¬ nan a) (h' : ¬ nan b) : key a < key b ↔ val a < val b := by
  unfold key; rw [if_neg h, if_neg h']; split <;> split <;> omega
theorem ref_cmp {a b : Nat} (ha : a < 18446744073709551616) (hb : b < 18446744073709551616) (k : Nat) : hornbeamref06_Cmp.f (k + 1) a b = some (cmp a b) := by
  unfold hornbeamref06_Cmp.f
  rw [ref_missing, ref_missing]
  show (if decide (nan a) = true then _ else _) = _
  have ka := @key_pos a ha; have kb := @key_pos b hb
  by_cases hn : nan a <;> by_cases hm : nan b
  · simp only [hn, hm, decide_true, if_true, Option.bind_some, hornbeamref06_Cmp.j0]
    unfold cmp; rw [key_nan hn, key_nan hm]; rfl
  · simp only [hn, hm, decide_true, decide_false, if_true, Option.bind_some, hornbeamref06_Cmp.j0, Bool.false_eq_true, if_false, ref_missing]
    have := kb hm
    unfold cmp; rw [key_nan hn, if_pos (by omega)]
  · simp only [hn, hm, decide_true, decide_false, if_true, Option.bind_some, hornbeamref06_Cmp.j0, Bool.false_eq_true, if_false, ref_missing]
    have := ka hn
    unfold cmp; rw [key_nan hm, if_neg (by omega), if_pos (by omega)]
  · simp only [hn, hm, decide_true, decide_false, if_true, Option.bind_some, hornbeamref06_Cmp.j0, Bool.false_eq_true, if_false, ref_missing]
    have l1 := key_lt hn hm; have l2 := key_lt hm hn
    unfold cmp
    by_cases c1 : val a < val b
    · rw [if_pos (lt_iff.mpr ⟨hn, hm, c1⟩), if_pos (l1.mpr c1)]
    · rw [if_neg (fun e => c1 (lt_iff.mp e).2.2), if_neg (fun e => c1 (l1.mp e))]
      by_cases c2 : val b < val a
      · rw [if_pos (gt_iff.mpr ⟨hn, hm, c2⟩), if_pos (l2.mpr c2)]
      · rw [if_neg (fun e => c2 (gt_iff.mp e).2.2), if_neg (fun e => c2 (l2.mp e))]
theorem ref_cmp' {a b : Nat} (ha : a < 18446744073709551616) (hb : b < 18446744073709551616) {k : Nat} (hk : 0 < k) : hornbeamref06_Cmp.f k a b = some (cmp a b) := by
  obtain ⟨k, rfl⟩ : ∃ m, k = m + 1 := ⟨k - 1, by omega⟩
  exact ref_cmp ha hb k
/-- The key's word: what rank.Of tries. -/
def unkey (n : Int) : Nat := if n < 9223372036854775808 then (18446744073709551615 - n).toNat else (n - 9223372036854775808).toNat
theorem of_f {n : Int} (h0 : 0 ≤ n) (h1 : n ≤ 18446744073709551615) (k : Nat) :
    rank_Of.f (k + 1) n = some (if n = 0 then (9221120237041090561, true) else if key (unkey n) = n then (unkey n, true) else (0, false)) := by
  unfold rank_Of.f
  by_cases z : n = 0
  · rw [if_pos z, if_pos z]
    unfold math_NaN.f
    simp only [Option.bind_some]
    rw [clean_f]
    show some (clean (Flt.fbits 9221120237041090561), true) = _
    rw [show clean (Flt.fbits 9221120237041090561) = 9221120237041090561 by decide]
  · rw [if_neg z, if_neg z]
    obtain ⟨m, rfl⟩ := Int.eq_ofNat_of_zero_le h0
    rw [and_sign m (by omega), xor_ones m (by omega), andNot_sign m (by omega)]
    have key' : ∀ x : Int, 0 ≤ x → x < 18446744073709551616 → rank_Of.j0 (k + 1) (m : Int) x = some (if key x.toNat = (m : Int) then (x.toNat, true) else (0, false)) := by
      intro x x0 x1
      simp only [rank_Of.j0, Flt.fbits]
      rw [key_f (a := x.toNat) (by omega)]
      simp only [Option.bind_some]
      split <;> rfl
    unfold unkey
    by_cases c : 9223372036854775808 ≤ m
    · rw [if_pos c, if_neg (by decide), key' _ (by omega) (by omega), if_neg (show ¬ (m : Int) < 9223372036854775808 by omega),
        show (m : Int) % 9223372036854775808 = (m : Int) - 9223372036854775808 by omega]
    · rw [if_neg c, if_pos rfl, key' _ (by omega) (by omega), if_pos (show (m : Int) < 9223372036854775808 by omega)]
/-- A key's word is what the number cleaned is. -/
theorem unkey_key {a : Nat} (h : a < 18446744073709551616) (hn : ¬ nan a) : unkey (key a) = clean a := by
  have w := num_word h hn
  have e : clean a = if val a = 0 then 0 else a := by unfold clean; rw [if_neg hn]
  rw [e]
  by_cases p : 0 ≤ val a
  · have ek : key a = 9223372036854775808 + val a := by unfold key; rw [if_neg hn, if_pos p]
    rw [ek]; unfold unkey; rw [if_neg (show ¬ 9223372036854775808 + val a < 9223372036854775808 by omega)]
    by_cases z : val a = 0
    · rw [if_pos z]; omega
    · rw [if_neg z]; omega
  · have ek : key a = 9223372036854775807 + val a := by unfold key; rw [if_neg hn, if_neg p]
    rw [ek]; unfold unkey; rw [if_pos (show 9223372036854775807 + val a < 9223372036854775808 by omega), if_neg (show ¬ val a = 0 by omega)]; omega
theorem nan_clean {a : Nat} : nan (clean a) ↔ nan a := by
  unfold clean
  by_cases h : nan a
  · rw [if_pos h]; exact ⟨fun _ => h, fun _ => by decide⟩
  · rw [if_neg h]; split
    · exact ⟨fun x => absurd x nan_zero, fun x => absurd x h⟩
    · rfl
theorem val_clean {a : Nat} (h : ¬ nan a) : val (clean a) = val a := by
  unfold clean; rw [if_neg h]; split
  · rename_i z; rw [z]; rfl
  · rfl
theorem key_clean (a : Nat) : key (clean a) = key a := by
  by_cases h : nan a
  · rw [key_nan h, key_nan (nan_clean.mpr h)]
  · unfold key; rw [if_neg h, if_neg (fun x => h (nan_clean.mp x)), val_clean h]
theorem clean_clean (a : Nat) : clean (clean a) = clean a := by
  by_cases h : nan a
  · have : clean a = 9221120237041090561 := by unfold clean; rw [if_pos h]
    rw [this]; decide
  · by_cases z : val a = 0
    · have : clean a = 0 := by unfold clean; rw [if_neg h, if_pos z]
      rw [this]; decide
    · have : clean a = a := by unfold clean; rw [if_neg h, if_neg z]
      rw [this, this]
/-- Which numbers are keys. -/
theorem is_key {n : Int} (h0 : 0 ≤ n) (h1 : n ≤ 18446744073709551615) (hz : n ≠ 0) :
    (key (unkey n) = n) ↔ (4503599627370495 ≤ n ∧ n ≤ 18442240474082181120 ∧ n ≠ 9223372036854775807) := by
  have hu : unkey n < 18446744073709551616 := by unfold unkey; split <;> omega
  constructor
  · intro h
    by_cases hn : nan (unkey n)
    · rw [key_nan hn] at h; omega
    · rw [← h]; exact key_pos hu hn
  · rintro ⟨g1, g2, g3⟩
    have hr : rg (unkey n) = (if n < 9223372036854775808 then 9223372036854775807 - n else n - 9223372036854775808).toNat := by
      unfold rg unkey; split <;> omega
    have hn : ¬ nan (unkey n) := by unfold nan; rw [hr]; split <;> omega
    have w := num_word hu hn
    have hd : unkey n = (if n < 9223372036854775808 then 18446744073709551615 - n else n - 9223372036854775808).toNat := by unfold unkey; split <;> rfl
    have ek : key (unkey n) = if 0 ≤ val (unkey n) then 9223372036854775808 + val (unkey n) else 9223372036854775807 + val (unkey n) := by unfold key; rw [if_neg hn]
    rw [ek]
    by_cases c : n < 9223372036854775808
    · rw [if_pos c] at hr hd
      split <;> omega
    · rw [if_neg c] at hr hd
      split <;> omega
theorem clean_unkey {n : Int} (h0 : 0 ≤ n) (h1 : n ≤ 18446744073709551615) (hz : n ≠ 0) (h : key (unkey n) = n) : clean (unkey n) = unkey n := by
  have hu : unkey n < 18446744073709551616 := by unfold unkey; split <;> omega
  by_cases hn : nan (unkey n)
  · rw [key_nan hn] at h; omega
  · have := unkey_key hu hn; rw [h] at this; exact this.symm
theorem wf64 {x : Int} (h : (Lit.int .u64 x).wf = true) : 0 ≤ x ∧ x ≤ 18446744073709551615 ∧ Flt.fbits x < 18446744073709551616 := by
  have := wf_u64 h; unfold Flt.fbits; omega
end Go.Proofs.Ytlmmlhljflladaa.PureRank
