/- slices.SortFunc at []float64: the contract for a row of the call's own (any compare function that is a strict weak order). -/
import Derived.Shelf.SlSortCmp.Whole1
import Derived.Shelf.SlSortCmp.NoneTotal
import Derived.Shelf.Lay
import Derived.Shelf.SlGeneric
import Derived.Ground.SlsfProg
import Derived.Test.YtnagfbadjbkhmaaFlt
namespace Go.Proofs.Ytnagfbadjbkhmaa.FSort
open Go.RowKit Go.Shelf Go.Lib Go.Sort Go.Proofs.YtnagfbadjbkhmaaW.PrintWords Go.Proofs.YtnagfbadjbkhmaaW.PrintLast Go.Proofs.YtnagfbadjbkhmaaW.PrintMore
set_option linter.unusedVariables false
abbrev enc : Nat → Value := Value.float .f64
/-- What the row holds behind the sort. -/
def sortT (cf : Nat → Nat → Int) (l : List Nat) : List Nat := (pdq (ltOf cf) l.toArray 0 l.toArray.size (Lib.bitLen l.toArray.size) true true).toList
theorem holds_of {w : World} {g cap : Nat} {l : List Nat} (h : Kd.C Flt.kf w (some ⟨g, 0, none⟩) l.length l) (hf : ∃ cur e, w.heap[g]? = some (.cells cur e (0, 0))) : Holds enc w g 0 l.toArray := by
  intro j hj
  have hj' : j < l.length := by simpa using hj
  obtain ⟨ad, e, hx⟩ := Flt.at_kf h (j : Int) (by omega) (by omega)
  cases e
  refine ⟨?_, ?_⟩
  · have e1 : rdOf (0 : Nat) l (j : Int) = l.toArray[j]! := by simp [rdOf, hj']
    rw [← e1, ← hx]
    congr 1
    simp [Addr.add]
  · obtain ⟨cur, e, hh⟩ := hf
    unfold World.frozen?
    simp only [hh]
    simp
/-- The world behind the sort: the row, and that nothing below is turned. -/
theorem sorted_world {w : World} {base e g cap : Nat} {ok : Nat → Prop} {l : List Nat} (h : Kd.R Flt.kf e w base ok (.slice (some ⟨g, 0, none⟩) l.length cap) l) (hne : l ≠ []) (d' : Array Nat) (hd : d'.size = l.length) (n : Nat) (os : Array Obj) :
    Kd.R Flt.kf e (sortWorld enc w g 0 n d' os) base ok (.slice (some ⟨g, 0, none⟩) l.length cap) d'.toList ∧ Below base w (sortWorld enc w g 0 n d' os) := by
  obtain ⟨h0, inner, ⟨hl, ho⟩, hr⟩ := h
  rcases ho with ⟨hv, _⟩ | ⟨g', cap', cur, hv, hg, hh, hn, hc, hs, ht⟩
  · cases hv
  cases hv
  have hlt : g < w.heap.size := by
    rcases Nat.lt_or_ge g w.heap.size with h | h
    · exact h
    · rw [Array.getElem?_eq_none h] at hh; cases hh
  have hheap : ∀ k, k < w.heap.size → (sortWorld enc w g 0 n d' os).heap[k]? = (w.heap.modify g (onCells (putCells enc 0 d')))[k]? := by
    intro k hk
    show ((w.heap.modify g (onCells (putCells enc 0 d'))) ++ os)[k]? = _
    rw [Array.getElem?_append_left (by simpa using hk)]
  have hsz : w.heap.size ≤ (sortWorld enc w g 0 n d' os).heap.size := by
    show w.heap.size ≤ ((w.heap.modify g (onCells (putCells enc 0 d'))) ++ os).size
    simp
  have hd1 : Flt.kf.sz = 1 := rfl
  have hcap : l.length ≤ cap := hn
  refine ⟨⟨h0, encs enc d'.toList, ⟨by simp [encs, hd1], .inr ⟨g, cap, putCells enc 0 d' cur, ?_, hg, ?_, ?_, hc, ?_, ?_⟩⟩, ?_⟩, ⟨rfl, rfl, rfl, hsz, ?_⟩⟩
  · simp [hd]
  · rw [hheap g hlt, Array.getElem?_modify, if_pos rfl, hh]; rfl
  · simp [hd]; exact hcap
  · simp [putCells, hs]
  · rw [hd1] at hs ⊢
    apply List.ext_getElem?
    intro i
    simp only [List.getElem?_take, encs, Array.length_toList, hd, Nat.mul_one]
    by_cases hi : i < l.length
    · rw [if_pos hi]
      have hci : i < cur.size := by omega
      have hdi : i < d'.size := by omega
      simp only [putCells, Array.getElem?_toList, Array.getElem?_mapIdx, Array.getElem?_eq_getElem hci, Option.map_some, List.getElem?_map, Array.getElem?_eq_getElem hdi]
      rw [if_pos (by omega), Nat.sub_zero, getElem!_pos d' i hdi]
    · rw [if_neg hi]
      symm
      rw [List.getElem?_eq_none]
      simp; omega
  · exact Kd.reps_scalar _
  · intro k hk
    rcases Nat.lt_or_ge k w.heap.size with h | h
    · rw [hheap k h, Array.getElem?_modify, if_neg (by omega)]
    · omega
shelf_lay_g SlLaysF.n6 Slsf 6 at Try 98 as Try.sortF
/-- slices.SortFunc at a row of the call's own. -/
theorem sort_calls (cf : Nat → Nat → Int) (hO : SWO (ltOf cf)) (g : Nat) (eg : ∀ args w, (callFunc g args).run Try.prog w = .ok (.enter g args) w)
    (hcf : ∀ (x y : Nat) (W : World), Calls Try.prog g #[.float .f64 x, .float .f64 y] W fun e w' => e = .returned (.int .i64 (cf x y)) ∧ ∃ q, w' = W.drewN q)
    {w : World} {base : Nat} {ok : Nat → Prop} {A : Option Addr} {cap : Nat} {l : List Nat} (h : Kd.R Flt.kf 36 w base ok (.slice A l.length cap) l) (hl : l.length < 4611686018427387904) :
    Calls Try.prog 98 #[.slice A l.length cap, .func (.func g) #[] #[]] w fun e w' =>
      e = .returned (.tuple #[]) ∧ Kd.R Flt.kf 36 w' base ok (.slice A l.length cap) (sortT cf l) ∧ Below base w w' := by
  by_cases hne : l = []
  · subst hne
    have hs : sortT cf [] = [] := by
      have := pdq_sorts (ltOf cf) hO #[] 0 0 (Lib.bitLen 0) true true (Nat.le_refl _) (Nat.le_refl _) (Or.inl rfl)
      have h2 := this.1.1
      have : (sortT cf []).length = 0 := by simpa [sortT] using h2
      exact List.eq_nil_of_length_eq_zero this
    have hcon := AnyF.slices_SortFunc_none (P := Try.prog) { Try.sortF with } A cap (.func (.func g) #[] #[]) w
    change Calls Try.prog 98 _ _ _ at hcon
    refine hcon.mono ?_
    rintro e w' ⟨he, rfl⟩
    rw [hs]
    exact ⟨he, h, Below.refl _ _⟩
  · obtain ⟨A', c', he, hlen, hC⟩ := Kd.R_reads h
    cases he
    have h' := h
    obtain ⟨h0, inner, ⟨hl0, ho⟩, hr⟩ := h'
    rcases ho with ⟨hv, h2⟩ | ⟨g', cap', cur, hv, hg, hh, hn, hc, hs, ht⟩
    · exact absurd (List.eq_nil_of_length_eq_zero h2) hne
    cases hv
    have hlt : g' < w.heap.size := by
      rcases Nat.lt_or_ge g' w.heap.size with h | h
      · exact h
      · rw [Array.getElem?_eq_none h] at hh; cases hh
    have hH := holds_of (cap := cap) hC ⟨cur, _, hh⟩
    have hcmp : CmpReads Try.prog g #[] enc cf g' 0 l.toArray.size w := fun _ _ _ _ x y => hcf x y _
    have hcon := Any.slices_SortFunc_eq Try.sortF enc (fun _ => rfl) cf hO g #[] g' 0 cap l.toArray w eg hcmp.lays hH hlt (by simpa using hl)
    change Calls Try.prog 98 _ _ _ at hcon
    rw [show l.toArray.size = l.length by simp] at hcon
    refine hcon.mono ?_
    rintro e w' ⟨he, n, os, rfl⟩
    have hp := (pdq_sorts (ltOf cf) hO l.toArray 0 l.toArray.size (Lib.bitLen l.toArray.size) true true (Nat.zero_le _) (Nat.le_refl _) (Or.inl rfl)).1.1
    have hw := sorted_world h hne (pdq (ltOf cf) l.toArray 0 l.toArray.size (Lib.bitLen l.toArray.size) true true) (by rw [hp]; simp) n os
    refine ⟨he, ?_⟩
    rw [show l.toArray.size = l.length by simp] at hw
    unfold sortT
    rw [show l.toArray.size = l.length by simp]
    exact hw
end Go.Proofs.Ytnagfbadjbkhmaa.FSort
