/- slices.SortFunc at []float64: the contract for a row of the call's own (any compare function that is a strict weak order). -/
import Derived.Shelf.SlSortCmp.Whole1
import Derived.Shelf.SlSortCmp.NoneTotal
import Derived.Ground.SlsfProg
import Derived.Test.YtnagfbadjbkhmaaFlt
namespace Go.Proofs.Ytnagfbadjbkhmaa.FSort
open Go.RowKit Go.Shelf Go.Lib Go.Sort Go.Proofs.YtnagfbadjbkhmaaW.PrintWords Go.Proofs.YtnagfbadjbkhmaaW.PrintLast Go.Proofs.YtnagfbadjbkhmaaW.PrintMore
set_option linter.unusedVariables false
abbrev enc : Nat → Value := Value.float .f64
/-- What the row holds behind the sort. -/
def sortT (cf : Nat → Nat → Int) (l : List Nat) : List Nat := (pdq (ltOf cf) l.toArray 0 l.toArray.size (Lib.bitLen l.toArray.size) true true).toList
theorem holds_of {w : World} {g cap : Nat} {l : List Nat} (h : Kd.C Flt.kf w (some ⟨g, 0, none⟩) l.length l) (hf : ∃ cur e, w.heap[g]? = some (.cells cur e (0, 0))) : Holds enc w g 0 l.toArray := by
  intro j hj
  have hj' : j < l.length := by simpa using hj
  obtain ⟨ad, e, hx⟩ := Flt.at_kf h (j : Int) (by omega) (by omega)
  cases e
  refine ⟨?_, ?_⟩
  · have e1 : rdOf (0 : Nat) l (j : Int) = l.toArray[j]! := by simp [rdOf, hj']
    rw [← e1, ← hx]
    congr 1
    simp [Addr.add]
  · obtain ⟨cur, e, hh⟩ := hf
    unfold World.frozen?
    simp only [hh]
    simp
/-- The world behind the sort: the row, and that nothing below is turned. -/
theorem sorted_world {w : World} {base e g cap : Nat} {ok : Nat → Prop} {l : List Nat} (h : Kd.R Flt.kf e w base ok (.slice (some ⟨g, 0, none⟩) l.length cap) l) (hne : l ≠ []) (d' : Array Nat) (hd : d'.size = l.length) (n : Nat) (os : Array Obj) :
    Kd.R Flt.kf e (sortWorld enc w g 0 n d' os) base ok (.slice (some ⟨g, 0, none⟩) l.length cap) d'.toList ∧ Below base w (sortWorld enc w g 0 n d' os) := by
  obtain ⟨h0, inner, ⟨hl, ho⟩, hr⟩ := h
  rcases ho with ⟨hv, _⟩ | ⟨g', cap', cur, hv, hg, hh, hn, hc, hs, ht⟩
  · cases hv
  cases hv
  have hlt : g < w.heap.size := by
    rcases Nat.lt_or_ge g w.heap.size with h | h
    · exact h
    · rw [Array.getElem?_eq_none h] at hh; cases hh
  have hheap : ∀ k, k < w.heap.size → (sortWorld enc w g 0 n d' os).heap[k]? = (w.heap.modify g (onCells (putCells enc 0 d')))[k]? := by
    intro k hk
    show ((w.heap.modify g (onCells (putCells enc 0 d'))) ++ os)[k]? = _
    rw [Array.getElem?_append_left (by simpa using hk)]
  have hsz : w.heap.size ≤ (sortWorld enc w g 0 n d' os).heap.size := by
    show w.heap.size ≤ ((w.heap.modify g (onCells (putCells enc 0 d'))) ++ os).size
    simp
  have hd1 : Flt.kf.sz = 1 := rfl
  have hcap : l.length ≤ cap := hn
  refine ⟨⟨h0, encs enc d'.toList, ⟨by simp [encs, hd1], .inr ⟨g, cap, putCells enc 0 d' cur, ?_, hg, ?_, ?_, hc, ?_, ?_⟩⟩, ?_⟩, ⟨rfl, rfl, rfl, hsz, ?_⟩⟩
  · simp [hd]
  · rw [hheap g hlt, Array.getElem?_modify, if_pos rfl, hh]; rfl
  · simp [hd]; exact hcap
  · simp [putCells, hs]
  · rw [hd1] at hs ⊢
    apply List.ext_getElem?
    intro i
    simp only [List.getElem?_take, encs, Array.length_toList, hd, Nat.mul_one]
    by_cases hi : i < l.length
    · rw [if_pos hi]
      have hci : i < cur.size := by omega
      have hdi : i < d'.size := by omega
      simp only [putCells, Array.getElem?_toList, Array.getElem?_mapIdx, Array.getElem?_eq_getElem hci, Option.map_some, List.getElem?_map, Array.getElem?_eq_getElem hdi]
      rw [if_pos (by omega), Nat.sub_zero, getElem!_pos d' i hdi]
    · rw [if_neg hi]
      symm
      rw [List.getElem?_eq_none]
      simp; omega
  · exact Kd.reps_scalar _
  · intro k hk
    rcases Nat.lt_or_ge k w.heap.size with h | h
    · rw [hheap k h, Array.getElem?_modify, if_neg (by omega)]
    · omega
def Try.sortF_ren : Go.Shelf.Ren := ⟨fun | 6 => 98 | 15 => 104 | 14 => 103 | 28 => 114 | 29 => 115 | 20 => 106 | 21 => 107 | 22 => 108 | 23 => 109 | 24 => 110 | 25 => 111 | 26 => 112 | 27 => 113 | 46 => 116 | 47 => 117 | 48 => 118 | 49 => 119 | 50 => 120 | 57 => 121 | n => n, fun | 22 => 30 | 24 => 36 | 25 => 78 | 3 => 3 | 39 => 137 | 0 => 0 | 53 => 154 | 55 => 37 | 4 => 4 | 46 => 148 | 45 => 147 | 50 => 75 | 5 => 5 | 9 => 9 | 66 => 156 | 70 => 138 | 76 => 161 | 77 => 162 | n => n, fun | n => n⟩
theorem Try.sortF : Go.Proofs.SlLaysF.n6 Try.prog Try.sortF_ren := {
  mixed := by kernel_rfl
  f6 := ⟨Try.f98.name, by decide, Try.func98.trans (congrArg some (by kernel_rfl))⟩
  f14 := ⟨Try.f103.name, by decide, Try.func103.trans (congrArg some (by kernel_rfl))⟩
  f15 := Try.func104.trans (congrArg some (by kernel_rfl))
  f20 := ⟨Try.f106.name, by decide, Try.func106.trans (congrArg some (by kernel_rfl))⟩
  f21 := ⟨Try.f107.name, by decide, Try.func107.trans (congrArg some (by kernel_rfl))⟩
  f22 := ⟨Try.f108.name, by decide, Try.func108.trans (congrArg some (by kernel_rfl))⟩
  f23 := ⟨Try.f109.name, by decide, Try.func109.trans (congrArg some (by kernel_rfl))⟩
  f24 := ⟨Try.f110.name, by decide, Try.func110.trans (congrArg some (by kernel_rfl))⟩
  f25 := ⟨Try.f111.name, by decide, Try.func111.trans (congrArg some (by kernel_rfl))⟩
  f26 := ⟨Try.f112.name, by decide, Try.func112.trans (congrArg some (by kernel_rfl))⟩
  f27 := ⟨Try.f113.name, by decide, Try.func113.trans (congrArg some (by kernel_rfl))⟩
  f28 := Try.func114.trans (congrArg some (by kernel_rfl))
  f29 := Try.func115.trans (congrArg some (by kernel_rfl))
  f46 := ⟨Try.f116.name, by decide, Try.func116.trans (congrArg some (by kernel_rfl))⟩
  f47 := Try.func117.trans (congrArg some (by kernel_rfl))
  f48 := Try.func118.trans (congrArg some (by kernel_rfl))
  f49 := ⟨Try.f119.name, by decide, Try.func119.trans (congrArg some (by kernel_rfl))⟩
  f50 := ⟨Try.f120.name, by decide, Try.func120.trans (congrArg some (by kernel_rfl))⟩
  f57 := ⟨Try.f121.name, by decide, Try.func121.trans (congrArg some (by kernel_rfl))⟩
  t0 := Try.underlying0
  a0 := Try.isAgg0
  z0 := Try.sizeOf0
  v0 := Try.zeroValue0
  t3 := Try.underlying3
  a3 := Try.isAgg3
  z3 := Try.sizeOf3
  v3 := Try.zeroValue3
  t4 := Try.underlying4
  a4 := Try.isAgg4
  z4 := Try.sizeOf4
  v4 := Try.zeroValue4
  t5 := Try.underlying5
  a5 := Try.isAgg5
  z5 := Try.sizeOf5
  v5 := Try.zeroValue5
  t9 := Try.underlying9
  a9 := Try.isAgg9
  z9 := Try.sizeOf9
  v9 := Try.zeroValue9
  t22 := Try.underlying30
  a22 := Try.isAgg30
  z22 := Try.sizeOf30
  v22 := Try.zeroValue30
  a24 := Try.isAgg36
  z24 := Try.sizeOf36
  t25 := Try.underlying78
  a25 := Try.isAgg78
  z25 := Try.sizeOf78
  v25 := Try.zeroValue78
  t39 := Try.underlying137
  a39 := Try.isAgg137
  z39 := Try.sizeOf137
  v39 := Try.zeroValue137
  t45 := Try.underlying147
  a45 := Try.isAgg147
  z45 := Try.sizeOf147
  v45 := Try.zeroValue147
  t46 := Try.underlying148
  a46 := Try.isAgg148
  z46 := Try.sizeOf148
  v46 := Try.zeroValue148
  t50 := Try.underlying75
  a50 := Try.isAgg75
  z50 := Try.sizeOf75
  v50 := Try.zeroValue75
  t53 := Try.underlying154
  a53 := Try.isAgg154
  z53 := Try.sizeOf154
  v53 := Try.zeroValue154
  t55 := Try.underlying37
  a55 := Try.isAgg37
  z55 := Try.sizeOf37
  v55 := Try.zeroValue37
  t66 := Try.underlying156
  a66 := Try.isAgg156
  z66 := Try.sizeOf156
  v66 := Try.zeroValue156
  t70 := Try.underlying138
  a70 := Try.isAgg138
  z70 := Try.sizeOf138
  v70 := Try.zeroValue138
  t76 := Try.underlying161
  a76 := Try.isAgg161
  z76 := Try.sizeOf161
  v76 := Try.zeroValue161
  t77 := Try.underlying162
  a77 := Try.isAgg162
  z77 := Try.sizeOf162
  v77 := Try.zeroValue162 }
/-- slices.SortFunc at a row of the call's own. -/
theorem sort_calls (cf : Nat → Nat → Int) (hO : SWO (ltOf cf)) (g : Nat) (eg : ∀ args w, (callFunc g args).run Try.prog w = .ok (.enter g args) w)
    (hcf : ∀ (x y : Nat) (W : World), Calls Try.prog g #[.float .f64 x, .float .f64 y] W fun e w' => e = .returned (.int .i64 (cf x y)) ∧ ∃ q, w' = W.drewN q)
    {w : World} {base : Nat} {ok : Nat → Prop} {A : Option Addr} {cap : Nat} {l : List Nat} (h : Kd.R Flt.kf 36 w base ok (.slice A l.length cap) l) (hl : l.length < 4611686018427387904) :
    Calls Try.prog 98 #[.slice A l.length cap, .func (.func g) #[] #[]] w fun e w' =>
      e = .returned (.tuple #[]) ∧ Kd.R Flt.kf 36 w' base ok (.slice A l.length cap) (sortT cf l) ∧ Below base w w' := by
  by_cases hne : l = []
  · subst hne
    have hs : sortT cf [] = [] := by
      have := pdq_sorts (ltOf cf) hO #[] 0 0 (Lib.bitLen 0) true true (Nat.le_refl _) (Nat.le_refl _) (Or.inl rfl)
      have h2 := this.1.1
      have : (sortT cf []).length = 0 := by simpa [sortT] using h2
      exact List.eq_nil_of_length_eq_zero this
    have hcon := AnyF.slices_SortFunc_none (P := Try.prog) { Try.sortF with } A cap (.func (.func g) #[] #[]) w
    change Calls Try.prog 98 _ _ _ at hcon
    refine hcon.mono ?_
    rintro e w' ⟨he, rfl⟩
    rw [hs]
    exact ⟨he, h, Below.refl _ _⟩
  · obtain ⟨A', c', he, hlen, hC⟩ := Kd.R_reads h
    cases he
    have h' := h
    obtain ⟨h0, inner, ⟨hl0, ho⟩, hr⟩ := h'
    rcases ho with ⟨hv, h2⟩ | ⟨g', cap', cur, hv, hg, hh, hn, hc, hs, ht⟩
    · exact absurd (List.eq_nil_of_length_eq_zero h2) hne
    cases hv
    have hlt : g' < w.heap.size := by
      rcases Nat.lt_or_ge g' w.heap.size with h | h
      · exact h
      · rw [Array.getElem?_eq_none h] at hh; cases hh
    have hH := holds_of (cap := cap) hC ⟨cur, _, hh⟩
    have hcmp : CmpReads Try.prog g #[] enc cf g' 0 l.toArray.size w := fun _ _ _ _ x y => hcf x y _
    have hcon := Any.slices_SortFunc_eq Try.sortF enc (fun _ => rfl) cf hO g #[] g' 0 cap l.toArray w eg hcmp.lays hH hlt (by simpa using hl)
    change Calls Try.prog 98 _ _ _ at hcon
    rw [show l.toArray.size = l.length by simp] at hcon
    refine hcon.mono ?_
    rintro e w' ⟨he, n, os, rfl⟩
    have hp := (pdq_sorts (ltOf cf) hO l.toArray 0 l.toArray.size (Lib.bitLen l.toArray.size) true true (Nat.zero_le _) (Nat.le_refl _) (Or.inl rfl)).1.1
    have hw := sorted_world h hne (pdq (ltOf cf) l.toArray 0 l.toArray.size (Lib.bitLen l.toArray.size) true true) (by rw [hp]; simp) n os
    refine ⟨he, ?_⟩
    rw [show l.toArray.size = l.length by simp] at hw
    unfold sortT
    rw [show l.toArray.size = l.length by simp]
    exact hw
end Go.Proofs.Ytnagfbadjbkhmaa.FSort
