/- To which leaf any row of bins comes down any nodes is what the document says: the plain law behind WalkPlaces, over lists and whole numbers; for every list of nodes and every row. -/
import Derived.Test.YtkfnhbhfadhbkaaPureKit
import Derived.Test.YtkfnhbhfadhbkaaPAx3
namespace Go.Proofs.Ytkfnhbhfadhbkaa.Pure
open Go.RowKit Go.Proofs.YtkfnhbhfadhbkaaW.PrintWords Go.Proofs.YtkfnhbhfadhbkaaW.PrintLast Go.Proofs.YtkfnhbhfadhbkaaW.PrintMore Go.Proofs.Ytkfnhbhfadhbkaa.PA


/-- The walk of the document. -/
def walkR (l0 : List S29) (l1 : List Int) : Nat → Int → Int
  | 0, _ => -1
  | d + 1, at_ => if at_ < 0 ∨ at_ ≥ l0.length then -1 else if (rd_T29 l0 at_).f0 = -1 then at_ else
      if (rd_T29 l0 at_).f0 < -1 ∨ (rd_T29 l0 at_).f0 ≥ l1.length then -1 else
      if rd l1 (rd_T29 l0 at_).f0 ≤ (rd_T29 l0 at_).f1 then walkR l0 l1 d (rd_T29 l0 at_).f2 else walkR l0 l1 d (wrap64 ((rd_T29 l0 at_).f2 + 1))

theorem ref_place (l0 : List S29) (l1 : List Int) (hl : l0.length ≤ 9223372036854775807) : ∀ (d k : Nat) (at_ st : Int), 0 ≤ st → st + d = l0.length → 3 * d < k →
    hornbeamref20_Place.l0 k l0 l1 at_ st = some (walkR l0 l1 d at_) := by
  intro d
  induction d with
  | zero =>
    intro k at_ st h0 hd hk
    obtain ⟨k, rfl⟩ : ∃ m, k = m + 1 := ⟨k - 1, by omega⟩
    simp only [hornbeamref20_Place.l0, walkR]
    rw [if_neg (by omega)]
  | succ d ih =>
    intro k at_ st h0 hd hk
    obtain ⟨k, rfl⟩ : ∃ m, k = m + 3 := ⟨k - 3, by omega⟩
    have hw : wrap64 (st + 1) = st + 1 := wrap_in (by omega) (by omega)
    have e : hornbeamref20_Place.l0 (k + 3) l0 l1 at_ st = hornbeamref20_Place.j1 (k + 2) l0 l1 at_ st (decide (at_ < 0 ∨ at_ ≥ l0.length)) := by
      simp only [hornbeamref20_Place.l0]
      rw [if_pos (by omega)]
      by_cases h : at_ < 0
      · rw [if_pos h, decide_eq_true (.inl h)]
      · rw [if_neg h]
        by_cases h2 : at_ ≥ (l0.length : Int)
        · rw [decide_eq_true h2, decide_eq_true (.inr h2)]
        · rw [decide_eq_false h2, decide_eq_false (by omega)]
    rw [e]
    simp only [hornbeamref20_Place.j1, walkR]
    by_cases hb : at_ < 0 ∨ at_ ≥ (l0.length : Int)
    · rw [decide_eq_true hb, if_pos rfl, if_pos hb]
    · rw [decide_eq_false hb, if_neg (by simp), if_neg hb, if_pos (by omega), if_pos (by omega)]
      generalize rd_T29 l0 at_ = nd
      by_cases h1 : nd.f0 = -1
      · rw [if_pos h1, if_pos h1]
      · rw [if_neg h1, if_neg h1]
        have e2 : (if nd.f0 < -1 then hornbeamref20_Place.j2 (k + 1) l0 l1 st true nd.f0 nd.f1 nd.f2 nd.f3 nd.f4 nd.f5 else hornbeamref20_Place.j2 (k + 1) l0 l1 st (decide (nd.f0 ≥ (l1.length : Int))) nd.f0 nd.f1 nd.f2 nd.f3 nd.f4 nd.f5)
            = hornbeamref20_Place.j2 (k + 1) l0 l1 st (decide (nd.f0 < -1 ∨ nd.f0 ≥ l1.length)) nd.f0 nd.f1 nd.f2 nd.f3 nd.f4 nd.f5 := by
          by_cases h : nd.f0 < -1
          · rw [if_pos h, decide_eq_true (.inl h)]
          · rw [if_neg h]
            by_cases h2 : nd.f0 ≥ (l1.length : Int)
            · rw [decide_eq_true h2, decide_eq_true (.inr h2)]
            · rw [decide_eq_false h2, decide_eq_false (by omega)]
        rw [e2]
        simp only [hornbeamref20_Place.j2]
        by_cases hc : nd.f0 < -1 ∨ nd.f0 ≥ (l1.length : Int)
        · rw [decide_eq_true hc, if_pos rfl, if_pos hc]
        · rw [decide_eq_false hc, if_neg (by simp), if_neg hc, if_pos (by omega), if_pos (by omega), hw]
          by_cases hle : rd l1 nd.f0 ≤ nd.f1
          · rw [if_pos hle, if_pos hle]; exact ih _ _ _ (by omega) (by omega) (by omega)
          · rw [if_neg hle, if_neg hle]; exact ih _ _ _ (by omega) (by omega) (by omega)

theorem vis_place (l0 : List S29) (l1 : List Int) : ∀ (d : Nat) (at_ : Int),
    FWalk.pick ((FWalk.vis (walk_Place.g l0) (fun i => rd l1 i) l0.length l1.length d at_).find? (fun x => walk_Place.g l0 x.1 0 == -1)) = walkR l0 l1 d at_ := by
  intro d
  induction d with
  | zero => intro at_; rfl
  | succ d ih =>
    intro at_
    simp only [FWalk.vis, walkR]
    by_cases hb : at_ < 0 ∨ at_ ≥ (l0.length : Int)
    · rw [if_pos hb, dif_neg (by omega)]; rfl
    · have hin : 0 ≤ at_ ∧ at_ < (l0.length : Int) := by omega
      rw [if_neg hb, dif_pos hin]
      have hcast : ((at_.toNat : Nat) : Int) = at_ := by omega
      have hg : ∀ j, walk_Place.g l0 at_.toNat j = (match j with | 0 => (rd_T29 l0 at_).f0 | 1 => (rd_T29 l0 at_).f1 | 2 => (rd_T29 l0 at_).f2 | 3 => (rd_T29 l0 at_).f3 | 4 => (rd_T29 l0 at_).f4 | _ => (rd_T29 l0 at_).f5) := by
        intro j; unfold walk_Place.g; rw [hcast]; rfl
      have h0 := hg 0
      have h1 := hg 1
      have h2 := hg 2
      simp only at h0 h1 h2
      simp only [List.find?_cons]
      by_cases hf : (rd_T29 l0 at_).f0 = -1
      · rw [if_pos hf, h0, hf]; simpa [FWalk.pick] using hcast
      · rw [if_neg hf, h0]
        have hne : ((rd_T29 l0 at_).f0 == -1) = false := beq_eq_false_iff_ne.mpr hf
        rw [hne]
        simp only
        by_cases hc : (rd_T29 l0 at_).f0 < -1 ∨ (rd_T29 l0 at_).f0 ≥ (l1.length : Int)
        · rw [if_pos hc, if_neg (by omega)]; rfl
        · rw [if_neg hc, if_pos (by omega), ih]
          have hz : rd l1 (((rd_T29 l0 at_).f0.toNat : Nat) : Int) = rd l1 (rd_T29 l0 at_).f0 := by congr 1; omega
          unfold FWalk.next
          simp only [h0, h1, h2, hz]
          by_cases hle : rd l1 (rd_T29 l0 at_).f0 ≤ (rd_T29 l0 at_).f1
          · rw [if_pos hle, if_neg (by omega)]
          · rw [if_neg hle, if_pos (by omega)]

theorem place_eq (l0 : List S29) (l1 : List Int) : walk_Place.f l0 l1 = some (walkR l0 l1 l0.length 0) := by
  exact congrArg some (vis_place l0 l1 l0.length 0)

theorem fixed_true : hornbeamlaw20_fixed.f = some true := by
  unfold hornbeamlaw20_fixed.f
  simp only [Option.bind_some, place_eq]
  decide +kernel

theorem WalkPlaces : hornbeamlaw20_WalkPlaces.Pure := by
  intro l0 l1 h0 _
  refine ⟨3 * l0.length + 2, ?_⟩
  have key : ∀ b, hornbeamlaw20_WalkPlaces.j0 (3 * l0.length + 2) l0 l1 b = some true := by
    intro b
    simp only [hornbeamlaw20_WalkPlaces.j0, fixed_true, Option.bind_some, if_true]
    split
    · rfl
    · rw [place_eq]
      unfold hornbeamref20_Place.f
      rw [ref_place l0 l1 h0.1 l0.length _ 0 0 (by omega) (by omega) (by omega)]
      simp
  unfold hornbeamlaw20_WalkPlaces.f
  split <;> exact key _

end Go.Proofs.Ytkfnhbhfadhbkaa.Pure
