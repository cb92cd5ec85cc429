/- The plain law behind PartDrawn: which rows are drawn, and which aren't, is the document's. -/
import Derived.Test.YtkfnhbhfadhbkaaPurePart
import Derived.Test.YtkfnhbhfadhbkaaPAx19
namespace Go.Proofs.Ytkfnhbhfadhbkaa.Pure
open Go.RowKit Go.Proofs.YtkfnhbhfadhbkaaW.PrintWords Go.Proofs.YtkfnhbhfadhbkaaW.PrintLast Go.Proofs.YtkfnhbhfadhbkaaW.PrintMore Go.Proofs.Ytkfnhbhfadhbkaa.PA
set_option linter.unusedVariables false

def upto (n : Nat) : List Int := (List.range n).map (fun (i : Nat) => (i : Int))
theorem upto_succ (n : Nat) : upto (n + 1) = upto n ++ [(n : Int)] := by simp [upto, List.range_succ]
theorem upto_len (n : Nat) : (upto n).length = n := by simp [upto]

theorem numbers_loop (n : Nat) (hn : n ≤ 9223372036854775807) : ∀ (d k i : Nat) (x : List Int), x.length = n → x.take i = upto i → i + d = n → d < k → part_numbers.l0 k x (n : Int) (i : Int) = some (upto n) := by
  intro d
  induction d with
  | zero =>
    intro k i x hx ht hi hk
    obtain ⟨k, rfl⟩ : ∃ m, k = m + 1 := ⟨k - 1, by omega⟩
    simp only [part_numbers.l0]
    rw [if_neg (by omega)]
    obtain rfl : i = n := by omega
    rw [← ht, List.take_of_length_le (by omega)]
  | succ d ih =>
    intro k i x hx ht hi hk
    obtain ⟨k, rfl⟩ : ∃ m, k = m + 1 := ⟨k - 1, by omega⟩
    simp only [part_numbers.l0]
    rw [if_pos (by omega), if_pos (by omega), if_pos (by omega), wrap_in (by omega) (by omega)]
    refine ih k (i + 1) _ (by rw [List.length_set]; exact hx) ?_ (by omega) (by omega)
    rw [upto_succ, ← ht, Int.toNat_natCast, List.take_succ_eq_append_getElem (by rw [List.length_set]; omega)]
    have e : (List.take i x).set i (i : Int) = List.take i x := List.set_eq_of_length_le (by rw [List.length_take]; omega)
    simp [List.take_set, e]
theorem numbers_f (k : Nat) (l : List Int) (hl : l.length ≤ 500) (hk : 510 < k) : part_numbers.f k l = some (upto l.length) := by
  unfold part_numbers.f
  rw [if_pos (by omega), if_pos (by omega)]
  simp only [Option.bind_some, Int.toNat_natCast, List.length_replicate]
  exact numbers_loop l.length (by omega) l.length k 0 _ (by simp) (by simp [upto]) (by omega) (by omega)

theorem drawn_loop (l : List Int) (hl : l.length ≤ 500) : ∀ (d k i : Nat), i + d = l.length → d < k →
    hornbeamref17_Drawn.l0 k l ((upto i).filter (fun j => decide (rd l j > 0))) ((upto i).filter (fun j => !decide (rd l j > 0))) (i : Int) =
      some ((upto l.length).filter (fun j => decide (rd l j > 0)), (upto l.length).filter (fun j => !decide (rd l j > 0))) := by
  intro d
  induction d with
  | zero =>
    intro k i hi hk
    obtain ⟨k, rfl⟩ : ∃ m, k = m + 1 := ⟨k - 1, by omega⟩
    simp only [hornbeamref17_Drawn.l0]
    rw [if_neg (by omega)]
    obtain rfl : i = l.length := by omega
    rfl
  | succ d ih =>
    intro k i hi hk
    obtain ⟨k, rfl⟩ : ∃ m, k = m + 1 := ⟨k - 1, by omega⟩
    simp only [hornbeamref17_Drawn.l0]
    have h1 := List.length_filter_le (fun j => decide (rd l j > 0)) (upto i)
    have h2 := List.length_filter_le (fun j => !decide (rd l j > 0)) (upto i)
    rw [upto_len] at h1 h2
    rw [if_pos (by omega), if_pos (by omega)]
    have := ih k (i + 1) (by omega) (by omega)
    rw [upto_succ, List.filter_append, List.filter_append, show (((i + 1 : Nat)) : Int) = (i : Int) + 1 by omega] at this
    by_cases hp : rd l (i : Int) > 0
    · rw [if_pos hp, if_pos (by omega), wrap_in (by omega) (by omega)]
      simpa [hp] using this
    · rw [if_neg hp, if_pos (by omega), wrap_in (by omega) (by omega)]
      simpa [hp] using this

theorem PartDrawn : hornbeamlaw17_PartDrawn.Pure := by
  intro l h0
  refine ⟨1000, ?_⟩
  unfold hornbeamlaw17_PartDrawn.f
  by_cases hg : (l.length : Int) > 500
  · rw [if_pos hg, part_fixed 1000 (by omega)]; rfl
  · rw [if_neg hg]
    have hd : hornbeamref17_Drawn.f 1000 l = some ((upto l.length).filter (fun j => decide (rd l j > 0)), (upto l.length).filter (fun j => !decide (rd l j > 0))) := by
      unfold hornbeamref17_Drawn.f
      have := drawn_loop l (by omega) l.length 1000 0 (by omega) (by omega)
      simpa [upto] using this
    have hc : (upto l.length).length < 17592186044416 ∧ (∀ i ∈ upto l.length, 0 ≤ i ∧ i < (l.length : Int)) := by
      refine ⟨by rw [upto_len]; omega, fun i hi => ?_⟩
      obtain ⟨j, hj, rfl⟩ := List.mem_map.1 hi
      have := List.mem_range.1 hj
      omega
    have h1 := List.length_filter_le (fun j => decide (rd l j > 0)) (upto l.length)
    have h2 := List.length_filter_le (fun j => !decide (rd l j > 0)) (upto l.length)
    rw [upto_len] at h1 h2
    have e1 : part_Drawn.f 1000 l = some ((upto l.length).filter (fun j => decide (rd l j > 0))) := by
      unfold part_Drawn.f part_Drawn.g
      rw [numbers_f 1000 l (by omega) (by omega)]
      simp only [Option.bind_some]
      rw [if_pos hc]
    have e2 : part_Out.f 1000 l = some ((upto l.length).filter (fun j => !decide (rd l j > 0))) := by
      unfold part_Out.f part_Out.g
      rw [numbers_f 1000 l (by omega) (by omega)]
      simp only [Option.bind_some]
      rw [if_pos hc]
    rw [hd, part_fixed 1000 (by omega), e1, e2]
    simp only [Option.bind_some, if_true]
    rw [same_f _ _ (by omega) 1000 (by omega)]
    simp only [Option.bind_some, decide_true, if_true]
    rw [same_f _ _ (by omega) 1000 (by omega)]
    simp
end Go.Proofs.Ytkfnhbhfadhbkaa.Pure
