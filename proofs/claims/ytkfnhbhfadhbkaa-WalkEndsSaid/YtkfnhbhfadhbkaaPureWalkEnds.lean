/- The plain law behind WalkEnds: down a tree that is right for as many columns as a row has, it comes to a leaf; each leaf's way fits the row. -/
import Derived.Test.YtkfnhbhfadhbkaaPureWalkPlaces
import Derived.Test.YtkfnhbhfadhbkaaPureRef18
import Derived.Test.YtkfnhbhfadhbkaaPAx8
namespace Go.Proofs.Ytkfnhbhfadhbkaa.Pure
open Go.RowKit Go.Proofs.YtkfnhbhfadhbkaaW.PrintWords Go.Proofs.YtkfnhbhfadhbkaaW.PrintLast Go.Proofs.YtkfnhbhfadhbkaaW.PrintMore Go.Proofs.Ytkfnhbhfadhbkaa.PA
set_option linter.unusedVariables false

/-- Which kid of node p the row goes to. -/
def kidS (t : List S29) (row : List Int) (p : Int) : Int := if rd row (rd_T29 t p).f0 ≤ (rd_T29 t p).f1 then (rd_T29 t p).f2 else (rd_T29 t p).f2 + 1
/-- The nodes that the row comes to. -/
inductive Way (t : List S29) (row : List Int) : Int → Prop where
  | root : Way t row 0
  | kid (p : Int) : Way t row p → 0 ≤ p → p < t.length → (rd_T29 t p).f0 ≥ 0 → Way t row (kidS t row p)

structure Tree (t : List S29) (row : List Int) : Prop where
  len : t.length ≤ 300
  node : ∀ i, 0 ≤ i → i < (t.length : Int) → (rd_T29 t i).f0 = -1 ∨ (0 ≤ (rd_T29 t i).f0 ∧ (rd_T29 t i).f0 < row.length)
  kids : ∀ j, 0 ≤ j → j < (t.length : Int) → (rd_T29 t j).f0 ≥ 0 → 1 ≤ (rd_T29 t j).f2 ∧ j < (rd_T29 t j).f2 ∧ (rd_T29 t j).f2 + 2 ≤ t.length
  up : ∀ a b, 0 ≤ a → a < b → b < (t.length : Int) → (rd_T29 t a).f0 ≥ 0 → (rd_T29 t b).f0 ≥ 0 → (rd_T29 t a).f2 + 2 ≤ (rd_T29 t b).f2

theorem walk_down {t : List S29} {row : List Int} (hT : Tree t row) : ∀ (d : Nat) (at_ st : Int), st + d = t.length → st ≤ at_ → 0 ≤ at_ → at_ < t.length → Way t row at_ →
    0 ≤ walkR t row d at_ ∧ walkR t row d at_ < t.length ∧ (rd_T29 t (walkR t row d at_)).f0 = -1 ∧ Way t row (walkR t row d at_) := by
  intro d
  induction d with
  | zero => intro at_ st h1 h2 h3 h4 _; omega
  | succ d ih =>
    intro at_ st h1 h2 h3 h4 hw
    simp only [walkR]
    rw [if_neg (by omega)]
    have hlen := hT.len
    rcases hT.node at_ h3 h4 with hn | hn
    · rw [if_pos hn]; exact ⟨h3, h4, hn, hw⟩
    · have hk := hT.kids at_ h3 h4 hn.1
      have hway := Way.kid at_ hw h3 h4 hn.1
      unfold kidS at hway
      rw [if_neg (by omega), if_neg (by omega)]
      by_cases hle : rd row (rd_T29 t at_).f0 ≤ (rd_T29 t at_).f1
      · rw [if_pos hle] at hway ⊢
        exact ih _ (st + 1) (by omega) (by omega) (by omega) (by omega) hway
      · rw [if_neg hle] at hway ⊢
        rw [wrap_in (by omega) (by omega)]
        exact ih _ (st + 1) (by omega) (by omega) (by omega) (by omega) hway

theorem way_up {t : List S29} {row : List Int} {x : Int} (h : Way t row x) : x = 0 ∨ ∃ p, Way t row p ∧ 0 ≤ p ∧ p < (t.length : Int) ∧ (rd_T29 t p).f0 ≥ 0 ∧ x = kidS t row p := by
  cases h with
  | root => exact .inl rfl
  | kid p hw h0 h1 hf => exact .inr ⟨p, hw, h0, h1, hf, rfl⟩

theorem up_loop {t : List S29} {row : List Int} (hT : Tree t row) : ∀ (d k : Nat) (x : Int), (d : Int) ≤ t.length → 2 * d + 1 < k → Way t row x →
    (x = 0 ∨ ∃ p, Way t row p ∧ 0 ≤ p ∧ p < (t.length : Int) ∧ (rd_T29 t p).f0 ≥ 0 ∧ x = kidS t row p ∧ p < d) →
    hornbeamlaw20_WalkEnds.l0 k t row x ((d : Int) - 1) = some true := by
  intro d
  induction d with
  | zero =>
    intro k x hd hk hw hp
    obtain ⟨k, rfl⟩ : ∃ m, k = m + 1 := ⟨k - 1, by omega⟩
    simp only [hornbeamlaw20_WalkEnds.l0, fixed_true]
    rw [if_neg (by omega)]
    rcases hp with rfl | ⟨p, _, h0, _, _, _, hlt⟩
    · simp
    · omega
  | succ d ih =>
    intro k x hd hk hw hp
    obtain ⟨k, rfl⟩ : ∃ m, k = m + 2 := ⟨k - 2, by omega⟩
    have hlen := hT.len
    have hi : ((d + 1 : Nat) : Int) - 1 = (d : Int) := by omega
    rw [hi]
    simp only [hornbeamlaw20_WalkEnds.l0]
    rw [if_pos (by omega), if_pos (by omega), if_pos (by omega)]
    have hnode := hT.node d (by omega) (by omega)
    have hkids := hT.kids d (by omega) (by omega)
    have up1 : ∀ p, 0 ≤ p → p < (t.length : Int) → (rd_T29 t p).f0 ≥ 0 → (rd_T29 t (d : Int)).f0 ≥ 0 → p ≠ (d : Int) → (rd_T29 t p).f2 + 2 ≤ (rd_T29 t (d : Int)).f2 ∨ (rd_T29 t (d : Int)).f2 + 2 ≤ (rd_T29 t p).f2 := by
      intro p h0 h1 h2 h3 hne
      rcases Int.lt_or_gt_of_ne hne with hlt | hgt
      · exact .inl (hT.up p d h0 hlt (by omega) h2 h3)
      · exact .inr (hT.up d p (by omega) hgt h1 h3 h2)
    have hkd : kidS t row (d : Int) = if rd row (rd_T29 t (d : Int)).f0 ≤ (rd_T29 t (d : Int)).f1 then (rd_T29 t (d : Int)).f2 else (rd_T29 t (d : Int)).f2 + 1 := rfl
    generalize hnd : rd_T29 t (d : Int) = nd at hnode hkids up1 hkd
    -- node d isn't the parent: on with the next one
    have skip : (x = 0 ∨ ∃ p, Way t row p ∧ 0 ≤ p ∧ p < (t.length : Int) ∧ (rd_T29 t p).f0 ≥ 0 ∧ x = kidS t row p ∧ p < (d : Int)) →
        hornbeamlaw20_WalkEnds.j4 (k + 1) t row x (d : Int) true nd.f0 nd.f1 nd.f2 nd.f3 nd.f4 nd.f5 = some true := by
      intro hp'
      simp only [hornbeamlaw20_WalkEnds.j4, if_true]
      rw [wrap_in (by omega) (by omega)]
      exact ih k x (by omega) (by omega) hw hp'
    by_cases hf : nd.f0 < 0
    · rw [if_pos hf]
      refine skip (hp.imp id ?_)
      rintro ⟨p, hw1, h0, h1, h2, h3, h4⟩
      refine ⟨p, hw1, h0, h1, h2, h3, ?_⟩
      have : p ≠ (d : Int) := fun e => by rw [e, hnd] at h2; omega
      omega
    · rw [if_neg hf]
      have hk3 := hkids (by omega)
      have take : hornbeamlaw20_WalkEnds.l0 (k + 1) t row (d : Int) ((d : Int) - 1) = some true → x = kidS t row (d : Int) →
          hornbeamlaw20_WalkEnds.j4 (k + 1) t row x (d : Int) false nd.f0 nd.f1 nd.f2 nd.f3 nd.f4 nd.f5 = hornbeamlaw20_WalkEnds.l0 k t row (d : Int) ((d : Int) - 1) := by
        intro _ hx
        simp only [hornbeamlaw20_WalkEnds.j4, Bool.false_eq_true, if_false]
        rw [if_pos (by omega), if_pos (by omega), wrap_in (by omega) (by omega), hx, hkd]
        by_cases hle : rd row nd.f0 ≤ nd.f1
        · rw [if_pos hle, decide_eq_true hle]
          simp
        · rw [if_neg hle, decide_eq_false hle]
          rw [show (nd.f2 + 1 == nd.f2) = false from beq_eq_false_iff_ne.mpr (by omega)]
          simp
      have hit : x = nd.f2 ∨ x = nd.f2 + 1 → x = kidS t row (d : Int) ∧ Way t row (d : Int) := by
        intro hx
        rcases hp with rfl | ⟨p, hw1, h0, h1, h2, h3, h4⟩
        · omega
        · by_cases e : p = (d : Int)
          · subst e; exact ⟨h3, hw1⟩
          · have hu := up1 p h0 h1 h2 (by omega) e
            have hk4 : kidS t row p = (rd_T29 t p).f2 ∨ kidS t row p = (rd_T29 t p).f2 + 1 := by unfold kidS; split <;> simp
            omega
      have miss : ¬ (x = nd.f2 ∨ x = nd.f2 + 1) → (x = 0 ∨ ∃ p, Way t row p ∧ 0 ≤ p ∧ p < (t.length : Int) ∧ (rd_T29 t p).f0 ≥ 0 ∧ x = kidS t row p ∧ p < (d : Int)) := by
        intro hx
        refine hp.imp id ?_
        rintro ⟨p, hw1, h0, h1, h2, h3, h4⟩
        refine ⟨p, hw1, h0, h1, h2, h3, ?_⟩
        have : p ≠ (d : Int) := fun e => by
          rw [e, hkd] at h3
          split at h3 <;> omega
        omega
      have next_ : Way t row (d : Int) → ∀ k', 2 * d + 1 < k' → hornbeamlaw20_WalkEnds.l0 k' t row (d : Int) ((d : Int) - 1) = some true := by
        intro hwd k' hk'
        refine ih k' (d : Int) (by omega) hk' hwd ?_
        rcases way_up hwd with h | ⟨p, hw1, h0, h1, h2, h3⟩
        · exact .inl h
        · refine .inr ⟨p, hw1, h0, h1, h2, h3, ?_⟩
          have hk5 := hT.kids p h0 h1 h2
          have hk4 : kidS t row p = (rd_T29 t p).f2 ∨ kidS t row p = (rd_T29 t p).f2 + 1 := by unfold kidS; split <;> simp
          omega
      by_cases e1 : x = nd.f2
      · rw [if_pos e1]
        obtain ⟨q1, q2⟩ := hit (.inl e1)
        rw [take (next_ q2 (k + 1) (by omega)) q1]
        exact next_ q2 k (by omega)
      · rw [if_neg e1, wrap_in (i := nd.f2 + 1) (by omega) (by omega)]
        by_cases e2 : x = nd.f2 + 1
        · rw [show (x != nd.f2 + 1) = false from bne_eq_false_iff_eq.mpr e2]
          obtain ⟨q1, q2⟩ := hit (.inr e2)
          rw [take (next_ q2 (k + 1) (by omega)) q1]
          exact next_ q2 k (by omega)
        · rw [show (x != nd.f2 + 1) = true from bne_iff_ne.mpr e2]
          exact skip (miss (by omega))

theorem WalkEnds : hornbeamlaw20_WalkEnds.Pure := by
  intro t row b h0 h1 _
  refine ⟨3000, ?_⟩
  have key : ∀ kind classes, hornbeamlaw20_WalkEnds.j0 3000 t row kind classes = some true := by
    intro kind classes
    have yes : hornbeamlaw20_WalkEnds.j1 2999 t row true = some true := by
      simp only [hornbeamlaw20_WalkEnds.j1, if_true, fixed_true]; rfl
    simp only [hornbeamlaw20_WalkEnds.j0]
    by_cases g1 : (t.length : Int) > 300
    · rw [if_pos g1]; exact yes
    rw [if_neg g1]
    by_cases g2 : (row.length : Int) > 100
    · rw [if_pos g2]; exact yes
    rw [if_neg g2, right18_f t _ _ _ _ (by omega) 2999 (by omega)]
    simp only [Option.bind_some]
    cases hr : rightT t (row.length : Int) 256 kind classes with
    | false => exact yes
    | true =>
      have hlf := right_lefts hr
      obtain ⟨c1, c2, c3⟩ := lefts_facts t t.length 1 0 (by omega) (by omega) hlf
      have hT : Tree t row := ⟨by omega, fun i hi0 hi1 => right_node hr hi0 hi1, fun j hj0 hj1 hf => by have := c2 j hj0 hj1 hf; omega, fun a b ha hab hb hfa hfb => c3 a b ha hab hb hfa hfb⟩
      obtain ⟨w0, w1, w2, w3⟩ := walk_down hT t.length 0 0 (by omega) (by omega) (by omega) (by omega) Way.root
      simp only [Bool.not_true, hornbeamlaw20_WalkEnds.j1, Bool.false_eq_true, if_false, place_eq, Option.bind_some]
      rw [if_neg (by omega), if_neg (by omega), if_pos w0, if_pos w1, show ((rd_T29 t (walkR t row t.length 0)).f0 != -1) = false from bne_eq_false_iff_eq.mpr w2]
      simp only [hornbeamlaw20_WalkEnds.j2, Bool.false_eq_true, if_false]
      rw [wrap_in (by omega) (by omega)]
      refine up_loop hT t.length 2997 _ (by omega) (by omega) w3 ?_
      rcases way_up w3 with h | ⟨p, q1, q2, q3, q4, q5⟩
      · exact .inl h
      · exact .inr ⟨p, q1, q2, q3, q4, q5, q3⟩
  unfold hornbeamlaw20_WalkEnds.f
  split <;> exact key _ _
end Go.Proofs.Ytkfnhbhfadhbkaa.Pure
