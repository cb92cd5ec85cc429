/- slices.SortFunc at []float64: the contract for a row of the call's own (any compare function that is a strict weak order). -/
import Derived.Shelf.SlSortCmp.Whole1
import Derived.Shelf.SlSortCmp.NoneTotal
import Derived.Ground.SlsfProg
import Derived.Test.YtlmmlhljflladaaFlt
namespace Go.Proofs.Ytlmmlhljflladaa.FSort
open Go.RowKit Go.Shelf Go.Lib Go.Sort Go.Proofs.YtlmmlhljflladaaW.PrintWords Go.Proofs.YtlmmlhljflladaaW.PrintLast Go.Proofs.YtlmmlhljflladaaW.PrintMore
set_option linter.unusedVariables false
abbrev enc : Nat → Value := Value.float .f64
/-- What the row holds behind the sort. -/
def sortT (cf : Nat → Nat → Int) (l : List Nat) : List Nat := (pdq (ltOf cf) l.toArray 0 l.toArray.size (Lib.bitLen l.toArray.size) true true).toList
theorem holds_of {w : World} {g cap : Nat} {l : List Nat} (h : Kd.C Flt.kf w (some ⟨g, 0, none⟩) l.length l) (hf : ∃ cur e, w.heap[g]? = some (.cells cur e (0, 0))) : Holds enc w g 0 l.toArray := by
  intro j hj
  have hj' : j < l.length := by simpa using hj
  obtain ⟨ad, e, hx⟩ := Flt.at_kf h (j : Int) (by omega) (by omega)
  cases e
  refine ⟨?_, ?_⟩
  · have e1 : rdOf (0 : Nat) l (j : Int) = l.toArray[j]! := by simp [rdOf, hj']
    rw [← e1, ← hx]
    congr 1
    simp [Addr.add]
  · obtain ⟨cur, e, hh⟩ := hf
    unfold World.frozen?
    simp only [hh]
    simp
/-- The world behind the sort: the row, and that nothing below is turned. -/
theorem sorted_world {w : World} {base e g cap : Nat} {ok : Nat → Prop} {l : List Nat} (h : Kd.R Flt.kf e w base ok (.slice (some ⟨g, 0, none⟩) l.length cap) l) (hne : l ≠ []) (d' : Array Nat) (hd : d'.size = l.length) (n : Nat) (os : Array Obj) :
    Kd.R Flt.kf e (sortWorld enc w g 0 n d' os) base ok (.slice (some ⟨g, 0, none⟩) l.length cap) d'.toList ∧ Below base w (sortWorld enc w g 0 n d' os) := by
  obtain ⟨h0, inner, ⟨hl, ho⟩, hr⟩ := h
  rcases ho with ⟨hv, _⟩ | ⟨g', cap', cur, hv, hg, hh, hn, hc, hs, ht⟩
  · cases hv
  cases hv
  have hlt : g < w.heap.size := by
    rcases Nat.lt_or_ge g w.heap.size with h | h
    · exact h
    · rw [Array.getElem?_eq_none h] at hh; cases hh
  have hheap : ∀ k, k < w.heap.size → (sortWorld enc w g 0 n d' os).heap[k]? = (w.heap.modify g (onCells (putCells enc 0 d')))[k]? := by
    intro k hk
    show ((w.heap.modify g (onCells (putCells enc 0 d'))) ++ os)[k]? = _
    rw [Array.getElem?_append_left (by simpa using hk)]
  have hsz : w.heap.size ≤ (sortWorld enc w g 0 n d' os).heap.size := by
    show w.heap.size ≤ ((w.heap.modify g (onCells (putCells enc 0 d'))) ++ os).size
    simp
  have hd1 : Flt.kf.sz = 1 := rfl
  have hcap : l.length ≤ cap := hn
  refine ⟨⟨h0, encs enc d'.toList, ⟨by simp [encs, hd1], .inr ⟨g, cap, putCells enc 0 d' cur, ?_, hg, ?_, ?_, hc, ?_, ?_⟩⟩, ?_⟩, ⟨rfl, rfl, rfl, hsz, ?_⟩⟩
  · simp [hd]
  · rw [hheap g hlt, Array.getElem?_modify, if_pos rfl, hh]; rfl
  · simp [hd]; exact hcap
  · simp [putCells, hs]
  · rw [hd1] at hs ⊢
    apply List.ext_getElem?
    intro i
    simp only [List.getElem?_take, encs, Array.length_toList, hd, Nat.mul_one]
    by_cases hi : i < l.length
    · rw [if_pos hi]
      have hci : i < cur.size := by omega
      have hdi : i < d'.size := by omega
      simp only [putCells, Array.getElem?_toList, Array.getElem?_mapIdx, Array.getElem?_eq_getElem hci, Option.map_some, List.getElem?_map, Array.getElem?_eq_getElem hdi]
      rw [if_pos (by omega), Nat.sub_zero, getElem!_pos d' i hdi]
    · rw [if_neg hi]
      symm
      rw [List.getElem?_eq_none]
      simp; omega
  · exact Kd.reps_scalar _
  · intro k hk
    rcases Nat.lt_or_ge k w.heap.size with h | h
    · rw [hheap k h, Array.getElem?_modify, if_neg (by omega)]
    · omega
def Try.sortF_ren : Go.Shelf.Ren := ⟨fun | 6 => 48 | 15 => 56 | 14 => 55 | 28 => 68 | 29 => 69 | 20 => 60 | 21 => 61 | 22 => 62 | 23 => 63 | 24 => 64 | 25 => 65 | 26 => 66 | 27 => 67 | 46 => 70 | 47 => 71 | 48 => 72 | 49 => 73 | 50 => 74 | 57 => 75 | n => n, fun | 22 => 36 | 24 => 23 | 25 => 32 | 3 => 3 | 39 => 75 | 0 => 0 | 53 => 87 | 55 => 22 | 4 => 4 | 46 => 80 | 45 => 79 | 50 => 84 | 5 => 5 | 9 => 9 | 66 => 89 | 70 => 93 | 76 => 95 | 77 => 96 | n => n, fun | n => n⟩
theorem Try.sortF : Go.Proofs.SlLaysF.n6 Try.prog Try.sortF_ren := {
  mixed := by kernel_rfl
  f6 := ⟨Try.f48.name, by decide, Try.func48.trans (congrArg some (by kernel_rfl))⟩
  f14 := ⟨Try.f55.name, by decide, Try.func55.trans (congrArg some (by kernel_rfl))⟩
  f15 := Try.func56.trans (congrArg some (by kernel_rfl))
  f20 := ⟨Try.f60.name, by decide, Try.func60.trans (congrArg some (by kernel_rfl))⟩
  f21 := ⟨Try.f61.name, by decide, Try.func61.trans (congrArg some (by kernel_rfl))⟩
  f22 := ⟨Try.f62.name, by decide, Try.func62.trans (congrArg some (by kernel_rfl))⟩
  f23 := ⟨Try.f63.name, by decide, Try.func63.trans (congrArg some (by kernel_rfl))⟩
  f24 := ⟨Try.f64.name, by decide, Try.func64.trans (congrArg some (by kernel_rfl))⟩
  f25 := ⟨Try.f65.name, by decide, Try.func65.trans (congrArg some (by kernel_rfl))⟩
  f26 := ⟨Try.f66.name, by decide, Try.func66.trans (congrArg some (by kernel_rfl))⟩
  f27 := ⟨Try.f67.name, by decide, Try.func67.trans (congrArg some (by kernel_rfl))⟩
  f28 := Try.func68.trans (congrArg some (by kernel_rfl))
  f29 := Try.func69.trans (congrArg some (by kernel_rfl))
  f46 := ⟨Try.f70.name, by decide, Try.func70.trans (congrArg some (by kernel_rfl))⟩
  f47 := Try.func71.trans (congrArg some (by kernel_rfl))
  f48 := Try.func72.trans (congrArg some (by kernel_rfl))
  f49 := ⟨Try.f73.name, by decide, Try.func73.trans (congrArg some (by kernel_rfl))⟩
  f50 := ⟨Try.f74.name, by decide, Try.func74.trans (congrArg some (by kernel_rfl))⟩
  f57 := ⟨Try.f75.name, by decide, Try.func75.trans (congrArg some (by kernel_rfl))⟩
  t0 := Try.underlying0
  a0 := Try.isAgg0
  z0 := Try.sizeOf0
  v0 := Try.zeroValue0
  t3 := Try.underlying3
  a3 := Try.isAgg3
  z3 := Try.sizeOf3
  v3 := Try.zeroValue3
  t4 := Try.underlying4
  a4 := Try.isAgg4
  z4 := Try.sizeOf4
  v4 := Try.zeroValue4
  t5 := Try.underlying5
  a5 := Try.isAgg5
  z5 := Try.sizeOf5
  v5 := Try.zeroValue5
  t9 := Try.underlying9
  a9 := Try.isAgg9
  z9 := Try.sizeOf9
  v9 := Try.zeroValue9
  t22 := Try.underlying36
  a22 := Try.isAgg36
  z22 := Try.sizeOf36
  v22 := Try.zeroValue36
  a24 := Try.isAgg23
  z24 := Try.sizeOf23
  t25 := Try.underlying32
  a25 := Try.isAgg32
  z25 := Try.sizeOf32
  v25 := Try.zeroValue32
  t39 := Try.underlying75
  a39 := Try.isAgg75
  z39 := Try.sizeOf75
  v39 := Try.zeroValue75
  t45 := Try.underlying79
  a45 := Try.isAgg79
  z45 := Try.sizeOf79
  v45 := Try.zeroValue79
  t46 := Try.underlying80
  a46 := Try.isAgg80
  z46 := Try.sizeOf80
  v46 := Try.zeroValue80
  t50 := Try.underlying84
  a50 := Try.isAgg84
  z50 := Try.sizeOf84
  v50 := Try.zeroValue84
  t53 := Try.underlying87
  a53 := Try.isAgg87
  z53 := Try.sizeOf87
  v53 := Try.zeroValue87
  t55 := Try.underlying22
  a55 := Try.isAgg22
  z55 := Try.sizeOf22
  v55 := Try.zeroValue22
  t66 := Try.underlying89
  a66 := Try.isAgg89
  z66 := Try.sizeOf89
  v66 := Try.zeroValue89
  t70 := Try.underlying93
  a70 := Try.isAgg93
  z70 := Try.sizeOf93
  v70 := Try.zeroValue93
  t76 := Try.underlying95
  a76 := Try.isAgg95
  z76 := Try.sizeOf95
  v76 := Try.zeroValue95
  t77 := Try.underlying96
  a77 := Try.isAgg96
  z77 := Try.sizeOf96
  v77 := Try.zeroValue96 }
/-- slices.SortFunc at a row of the call's own. -/
theorem sort_calls (cf : Nat → Nat → Int) (hO : SWO (ltOf cf)) (g : Nat) (eg : ∀ args w, (callFunc g args).run Try.prog w = .ok (.enter g args) w)
    (hcf : ∀ (x y : Nat) (W : World), Calls Try.prog g #[.float .f64 x, .float .f64 y] W fun e w' => e = .returned (.int .i64 (cf x y)) ∧ ∃ q, w' = W.drewN q)
    {w : World} {base : Nat} {ok : Nat → Prop} {A : Option Addr} {cap : Nat} {l : List Nat} (h : Kd.R Flt.kf 23 w base ok (.slice A l.length cap) l) (hl : l.length < 4611686018427387904) :
    Calls Try.prog 48 #[.slice A l.length cap, .func (.func g) #[] #[]] w fun e w' =>
      e = .returned (.tuple #[]) ∧ Kd.R Flt.kf 23 w' base ok (.slice A l.length cap) (sortT cf l) ∧ Below base w w' := by
  by_cases hne : l = []
  · subst hne
    have hs : sortT cf [] = [] := by
      have := pdq_sorts (ltOf cf) hO #[] 0 0 (Lib.bitLen 0) true true (Nat.le_refl _) (Nat.le_refl _) (Or.inl rfl)
      have h2 := this.1.1
      have : (sortT cf []).length = 0 := by simpa [sortT] using h2
      exact List.eq_nil_of_length_eq_zero this
    have hcon := AnyF.slices_SortFunc_none (P := Try.prog) { Try.sortF with } A cap (.func (.func g) #[] #[]) w
    change Calls Try.prog 48 _ _ _ at hcon
    refine hcon.mono ?_
    rintro e w' ⟨he, rfl⟩
    rw [hs]
    exact ⟨he, h, Below.refl _ _⟩
  · obtain ⟨A', c', he, hlen, hC⟩ := Kd.R_reads h
    cases he
    have h' := h
    obtain ⟨h0, inner, ⟨hl0, ho⟩, hr⟩ := h'
    rcases ho with ⟨hv, h2⟩ | ⟨g', cap', cur, hv, hg, hh, hn, hc, hs, ht⟩
    · exact absurd (List.eq_nil_of_length_eq_zero h2) hne
    cases hv
    have hlt : g' < w.heap.size := by
      rcases Nat.lt_or_ge g' w.heap.size with h | h
      · exact h
      · rw [Array.getElem?_eq_none h] at hh; cases hh
    have hH := holds_of (cap := cap) hC ⟨cur, _, hh⟩
    have hcmp : CmpReads Try.prog g #[] enc cf g' 0 l.toArray.size w := fun _ _ _ _ x y => hcf x y _
    have hcon := Any.slices_SortFunc_eq Try.sortF enc (fun _ => rfl) cf hO g #[] g' 0 cap l.toArray w eg hcmp.lays hH hlt (by simpa using hl)
    change Calls Try.prog 48 _ _ _ at hcon
    rw [show l.toArray.size = l.length by simp] at hcon
    refine hcon.mono ?_
    rintro e w' ⟨he, n, os, rfl⟩
    have hp := (pdq_sorts (ltOf cf) hO l.toArray 0 l.toArray.size (Lib.bitLen l.toArray.size) true true (Nat.zero_le _) (Nat.le_refl _) (Or.inl rfl)).1.1
    have hw := sorted_world h hne (pdq (ltOf cf) l.toArray 0 l.toArray.size (Lib.bitLen l.toArray.size) true true) (by rw [hp]; simp) n os
    refine ⟨he, ?_⟩
    rw [show l.toArray.size = l.length by simp] at hw
    unfold sortT
    rw [show l.toArray.size = l.length by simp]
    exact hw
end Go.Proofs.Ytlmmlhljflladaa.FSort
