/- What walk.Place computes: the walk down the nodes, as plain recursion. -/
import Derived.Test.YtlmmlhljflladaaPureKit
import Derived.Test.YtlmmlhljflladaaPAx6
import Derived.Test.YtlmmlhljflladaaPAx6
namespace Go.Proofs.Ytlmmlhljflladaa.Pure
open Go.RowKit Go.Proofs.YtlmmlhljflladaaW.PrintWords Go.Proofs.YtlmmlhljflladaaW.PrintLast Go.Proofs.YtlmmlhljflladaaW.PrintMore Go.Proofs.Ytlmmlhljflladaa.PA

/-- The walk of the document. -/
def walkR (l0 : List S59) (l1 : List Int) : Nat → Int → Int
  | 0, _ => -1
  | d + 1, at_ => if at_ < 0 ∨ at_ ≥ l0.length then -1 else if (rd_T59 l0 at_).f0 = -1 then at_ else
      if (rd_T59 l0 at_).f0 < -1 ∨ (rd_T59 l0 at_).f0 ≥ l1.length then -1 else
      if rd l1 (rd_T59 l0 at_).f0 ≤ (rd_T59 l0 at_).f1 then walkR l0 l1 d (rd_T59 l0 at_).f2 else walkR l0 l1 d (wrap64 ((rd_T59 l0 at_).f2 + 1))

theorem vis_place (l0 : List S59) (l1 : List Int) : ∀ (d : Nat) (at_ : Int),
    FWalk.pick ((FWalk.vis (walk_Place.g l0) (fun i => rd l1 i) l0.length l1.length d at_).find? (fun x => walk_Place.g l0 x.1 0 == -1)) = walkR l0 l1 d at_ := by
  intro d
  induction d with
  | zero => intro at_; rfl
  | succ d ih =>
    intro at_
    simp only [FWalk.vis, walkR]
    by_cases hb : at_ < 0 ∨ at_ ≥ (l0.length : Int)
    · rw [if_pos hb, dif_neg (by omega)]; rfl
    · have hin : 0 ≤ at_ ∧ at_ < (l0.length : Int) := by omega
      rw [if_neg hb, dif_pos hin]
      have hcast : ((at_.toNat : Nat) : Int) = at_ := by omega
      have hg : ∀ j, walk_Place.g l0 at_.toNat j = (match j with | 0 => (rd_T59 l0 at_).f0 | 1 => (rd_T59 l0 at_).f1 | 2 => (rd_T59 l0 at_).f2 | 3 => (rd_T59 l0 at_).f3 | 4 => (rd_T59 l0 at_).f4 | _ => (rd_T59 l0 at_).f5) := by
        intro j; unfold walk_Place.g; rw [hcast]; rfl
      have h0 := hg 0
      have h1 := hg 1
      have h2 := hg 2
      simp only at h0 h1 h2
      simp only [List.find?_cons]
      by_cases hf : (rd_T59 l0 at_).f0 = -1
      · rw [if_pos hf, h0, hf]; simpa [FWalk.pick] using hcast
      · rw [if_neg hf, h0]
        have hne : ((rd_T59 l0 at_).f0 == -1) = false := beq_eq_false_iff_ne.mpr hf
        rw [hne]
        simp only
        by_cases hc : (rd_T59 l0 at_).f0 < -1 ∨ (rd_T59 l0 at_).f0 ≥ (l1.length : Int)
        · rw [if_pos hc, if_neg (by omega)]; rfl
        · rw [if_neg hc, if_pos (by omega), ih]
          have hz : rd l1 (((rd_T59 l0 at_).f0.toNat : Nat) : Int) = rd l1 (rd_T59 l0 at_).f0 := by congr 1; omega
          unfold FWalk.next
          simp only [h0, h1, h2, hz]
          by_cases hle : rd l1 (rd_T59 l0 at_).f0 ≤ (rd_T59 l0 at_).f1
          · rw [if_pos hle, if_neg (by omega)]
          · rw [if_neg hle, if_pos (by omega)]

theorem place_eq (l0 : List S59) (l1 : List Int) : walk_Place.f l0 l1 = some (walkR l0 l1 l0.length 0) := by
  exact congrArg some (vis_place l0 l1 l0.length 0)

theorem fixed_true : hornbeamlaw20_fixed.f = some true := by
  unfold hornbeamlaw20_fixed.f
  simp only [Option.bind_some, place_eq]
  decide +kernel

end Go.Proofs.Ytlmmlhljflladaa.Pure
