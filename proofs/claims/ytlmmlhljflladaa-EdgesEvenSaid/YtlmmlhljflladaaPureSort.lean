/- Sorting: what rank.Sort and the document's Sort compute is the one sorted list of the cleaned values. -/
import Derived.Test.YtlmmlhljflladaaPureBin
import Derived.Test.YtlmmlhljflladaaPAx7
import Derived.Test.YtlmmlhljflladaaPAx10
import Derived.Test.YtlmmlhljflladaaPAx8
namespace Go.Proofs.Ytlmmlhljflladaa.PureSort
open Go.RowKit Go.Proofs.YtlmmlhljflladaaW.PrintWords Go.Proofs.YtlmmlhljflladaaW.PrintLast Go.Proofs.YtlmmlhljflladaaW.PrintMore Go.Proofs.Ytlmmlhljflladaa.Pure Go.Proofs.Ytlmmlhljflladaa.PureFlt Go.Proofs.Ytlmmlhljflladaa.PureRank Go.Proofs.Ytlmmlhljflladaa.PureBin Go.Proofs.Ytlmmlhljflladaa.PA
set_option linter.unusedVariables false
set_option linter.unusedSimpArgs false
abbrev le (a b : Nat) : Prop := key a ≤ key b
theorem clean_w64 {a : Nat} (h : a < 18446744073709551616) : clean a < 18446744073709551616 := clean_lt h
/-- The key tells a cleaned number. -/
theorem key_inj {a b : Nat} (ha : a < 18446744073709551616) (hb : b < 18446744073709551616) (h : key a = key b) : clean a = clean b := by
  by_cases na : nan a <;> by_cases nb : nan b
  · unfold clean; rw [if_pos na, if_pos nb]
  · have := key_pos hb nb; rw [key_nan na] at h; omega
  · have := key_pos ha na; rw [key_nan nb] at h; omega
  · rw [← unkey_key ha na, ← unkey_key hb nb, h]
/-- Sorted lists of cleaned numbers that hold the same are one. -/
theorem one {l₁ l₂ : List Nat} (w1 : ∀ x ∈ l₁, x < 18446744073709551616 ∧ clean x = x) (hp : l₁.Perm l₂) (h1 : l₁.Pairwise le) (h2 : l₂.Pairwise le) : l₁ = l₂ := by
  refine List.Perm.eq_of_pairwise ?_ h1 h2 hp
  intro a b ha hb hab hba
  have a1 := w1 a ha
  have b1 := w1 b (hp.mem_iff.mpr hb)
  have := key_inj a1.1 b1.1 (Int.le_antisymm hab hba)
  rw [a1.2, b1.2] at this; exact this
/-! the document's -/
/-- Where a value goes, from place p down. -/
def pos (out : List Nat) (x : Nat) : Nat → Nat
  | 0 => 0
  | p + 1 => if cmp (out.getD p 0) x > 0 then pos out x p else p + 1
def ins (out : List Nat) (x : Nat) : List Nat := out.take (pos out x out.length) ++ [clean x] ++ out.drop (pos out x out.length)
theorem pos_le (out : List Nat) (x : Nat) : ∀ p, pos out x p ≤ p := by
  intro p; induction p with
  | zero => exact Nat.le_refl _
  | succ p ih => simp only [pos]; split <;> omega
theorem rdd (l : List Nat) (i : Nat) : rdOf (0 : Nat) l (i : Int) = l.getD i 0 := by simp [rdOf]
theorem gd (l : List Nat) (i : Nat) (h : i < l.length) : l.getD i 0 = l[i] := by simp [List.getD_eq_getElem?_getD, h]
theorem getD_w {l : List Nat} (h : W64 l) (i : Nat) : l.getD i 0 < 18446744073709551616 := by
  by_cases hi : i < l.length
  · rw [gd l i hi]; exact h _ (List.getElem_mem hi)
  · rw [List.getD_eq_getElem?_getD, List.getElem?_eq_none (by omega)]; decide
theorem cmp_pos {a b : Nat} : cmp a b > 0 ↔ key b < key a := by unfold cmp; repeat (first | omega | split)
theorem ref_l1 (l out : List Nat) (hl : W64 l) (ho : W64 out) (hn : out.length < 17592186044000) (i : Nat) (hi : i < l.length) : ∀ (p k : Nat), p ≤ out.length → p + 1 < k →
    ∃ k', k' + p + 1 ≥ k ∧ hornbeamref06_Sort.l1 k l out i p = hornbeamref06_Sort.l0 k' l (out.take (pos out l[i] p) ++ [clean l[i]] ++ out.drop (pos out l[i] p)) (wrap64 (i + 1)) := by
  intro p
  induction p with
  | zero =>
    intro k hp hk
    obtain ⟨k, rfl⟩ : ∃ m, k = m + 1 := ⟨k - 1, by omega⟩
    refine ⟨k, by omega, ?_⟩
    rw [hornbeamref06_Sort.l1, if_neg (by omega)]
    simp only [Option.bind_some]
    rw [if_pos (by omega), if_pos (by omega)]
    simp only [Int.toNat_natCast, List.drop_zero, List.take_zero, List.nil_append, List.length_nil, Nat.zero_add]
    rw [if_pos (by omega), if_pos (by omega), if_pos (by omega)]
    have e : hornbeamref06_Clean.f (rdOf (0 : Nat) l (i : Int)) = some (clean l[i]) := by
      rw [rdf l i hi]; unfold hornbeamref06_Clean.f; rw [ref_bits]; rfl
    rw [e]
    simp only [Option.bind_some, pos, List.take_zero, List.nil_append, List.drop_zero, List.length_nil, List.length_singleton]
    rw [if_pos (by decide), if_pos (by omega)]
  | succ p ih =>
    intro k hp hk
    obtain ⟨k, rfl⟩ : ∃ m, k = m + 1 := ⟨k - 1, by omega⟩
    have hw : wrap64 (((p + 1 : Nat) : Int) - 1) = (p : Int) := by rw [wrap_in (by omega) (by omega)]; omega
    rw [hornbeamref06_Sort.l1, if_pos (by omega), hw, if_pos (by omega), if_pos (by omega), if_pos (by omega), if_pos (by omega), rdf l i hi, rdd, ref_cmp' (getD_w ho _) (hl _ (List.getElem_mem hi)) (by omega), Option.bind_some]
    by_cases c : cmp (out.getD p 0) l[i] > 0
    · rw [if_pos c]
      obtain ⟨k', h1, h2⟩ := ih k (by omega) (by omega)
      refine ⟨k', by omega, ?_⟩
      rw [h2]; simp only [pos]; rw [if_pos c]
    · refine ⟨k, by omega, ?_⟩
      rw [if_neg c]
      simp only [Option.bind_some]
      rw [if_pos (by omega), if_pos (by omega)]
      simp only [Int.toNat_natCast, List.nil_append, List.length_nil, Nat.zero_add, pos]
      rw [if_neg c, if_pos (by rw [List.length_drop]; omega)]
      have e : hornbeamref06_Clean.f l[i] = some (clean l[i]) := by unfold hornbeamref06_Clean.f; rw [ref_bits]; rfl
      rw [e]
      simp only [Option.bind_some]
      rw [if_pos (by rw [List.length_take]; omega), if_pos (by simp only [List.length_append, List.length_take, List.length_drop, List.length_singleton]; omega)]
theorem ins_w {out : List Nat} {x : Nat} (ho : W64 out) (hx : x < 18446744073709551616) : W64 (ins out x) := by
  intro y hy
  unfold ins at hy
  simp only [List.mem_append, List.mem_singleton] at hy
  rcases hy with (h | h) | h
  · exact ho y (List.mem_of_mem_take h)
  · rw [h]; exact clean_lt hx
  · exact ho y (List.mem_of_mem_drop h)
theorem ins_len (out : List Nat) (x : Nat) : (ins out x).length = out.length + 1 := by
  have := pos_le out x out.length
  unfold ins; simp; omega
theorem ins_perm (out : List Nat) (x : Nat) : (ins out x).Perm (clean x :: out) := by
  unfold ins
  rw [List.append_assoc, List.singleton_append]
  refine List.perm_middle.trans ?_
  rw [List.take_append_drop]
theorem pos_behind {out : List Nat} {x : Nat} : ∀ p j, pos out x p ≤ j → j < p → key x < key (out.getD j 0) := by
  intro p
  induction p with
  | zero => intro j _ h; omega
  | succ p ih =>
    intro j h1 h2
    simp only [pos] at h1
    by_cases c : cmp (out.getD p 0) x > 0
    · rw [if_pos c] at h1
      by_cases e : j = p
      · subst e; exact cmp_pos.mp c
      · exact ih j h1 (by omega)
    · rw [if_neg c] at h1; omega
theorem pos_ahead {out : List Nat} {x : Nat} : ∀ p, pos out x p ≠ 0 → key (out.getD (pos out x p - 1) 0) ≤ key x := by
  intro p
  induction p with
  | zero => intro h; exact absurd rfl h
  | succ p ih =>
    simp only [pos]
    by_cases c : cmp (out.getD p 0) x > 0
    · rw [if_pos c]; exact ih
    · rw [if_neg c]; intro _; rw [Nat.add_sub_cancel]; exact Int.not_lt.mp (fun h => c (cmp_pos.mpr h))
theorem ins_sorted {out : List Nat} {x : Nat} (h : out.Pairwise le) : (ins out x).Pairwise le := by
  have hq := pos_le out x out.length
  have hb := @pos_behind out x out.length
  have ha := @pos_ahead out x out.length
  unfold ins
  generalize pos out x out.length = q at *
  have hi := List.pairwise_iff_getElem.mp h
  have A : ∀ y ∈ out.take q, key y ≤ key x := by
    intro y hy
    obtain ⟨j, hj, rfl⟩ := List.mem_iff_getElem.mp hy
    rw [List.length_take] at hj
    rw [List.getElem_take]
    have hq0 : q ≠ 0 := by omega
    have := ha hq0
    rw [gd out (q - 1) (by omega)] at this
    by_cases e : j = q - 1
    · subst e; exact this
    · exact Int.le_trans (hi j (q - 1) (by omega) (by omega) (by omega)) this
  have B : ∀ y ∈ out.drop q, key x ≤ key y := by
    intro y hy
    obtain ⟨j, hj, rfl⟩ := List.mem_iff_getElem.mp hy
    rw [List.length_drop] at hj
    rw [List.getElem_drop]
    have := hb (q + j) (by omega) (by omega)
    rw [gd out (q + j) (by omega)] at this
    omega
  have hsplit := List.pairwise_append.mp (by rw [List.take_append_drop]; exact h : (out.take q ++ out.drop q).Pairwise le)
  rw [List.append_assoc, List.singleton_append, List.pairwise_append]
  refine ⟨hsplit.1, List.pairwise_cons.mpr ⟨?_, hsplit.2.1⟩, ?_⟩
  · intro y hy; show key (clean x) ≤ key y; rw [key_clean]; exact B y hy
  · intro y hy z hz
    rcases List.mem_cons.mp hz with h | h
    · subst h; show key y ≤ key (clean x); rw [key_clean]; exact A y hy
    · exact hsplit.2.2 y hy z h
theorem ref_l0 (l : List Nat) (hl : W64 l) (hm : l.length ≤ 300) : ∀ (d k i : Nat) (out : List Nat), i + d = l.length → out.length = i → d * 400 + 10 < k → W64 out → (∀ x ∈ out, clean x = x) → out.Pairwise le → out.Perm ((l.take i).map clean) →
    ∃ r, hornbeamref06_Sort.l0 k l out i = some r ∧ r.Pairwise le ∧ r.Perm (l.map clean) ∧ ∀ x ∈ r, x < 18446744073709551616 ∧ clean x = x := by
  intro d
  induction d with
  | zero =>
    intro k i out h1 h2 h3 h4 h5 h6 h7
    obtain ⟨k, rfl⟩ : ∃ m, k = m + 1 := ⟨k - 1, by omega⟩
    refine ⟨out, ?_, h6, ?_, fun x hx => ⟨h4 x hx, h5 x hx⟩⟩
    · rw [hornbeamref06_Sort.l0, if_neg (by omega)]
    · rw [List.take_of_length_le (by omega)] at h7; exact h7
  | succ d ih =>
    intro k i out h1 h2 h3 h4 h5 h6 h7
    obtain ⟨k, rfl⟩ : ∃ m, k = m + 1 := ⟨k - 1, by omega⟩
    have hi : i < l.length := by omega
    have hdk : d * 400 + 400 + 10 < k + 1 := by rw [Nat.succ_mul] at h3; exact h3
    clear h3
    rw [hornbeamref06_Sort.l0, if_pos (by omega)]
    obtain ⟨k', g1, g2⟩ := ref_l1 l out hl h4 (by omega) i hi out.length k (Nat.le_refl _) (by omega)
    rw [g2, wrap_in (by omega) (by omega), show ((i : Int) + 1) = ((i + 1 : Nat) : Int) by omega]
    have hk' : d * 400 + 10 < k' := by
      generalize d * 400 = D at hdk ⊢
      omega
    clear hdk g1 g2
    refine ih k' (i + 1) (ins out l[i]) (by omega) (by rw [ins_len]; omega) hk' (ins_w h4 (hl _ (List.getElem_mem hi))) ?_ (ins_sorted h6) ?_
    · intro x hx
      unfold ins at hx
      simp only [List.mem_append, List.mem_singleton] at hx
      rcases hx with (h | h) | h
      · exact h5 x (List.mem_of_mem_take h)
      · rw [h]; exact clean_clean _
      · exact h5 x (List.mem_of_mem_drop h)
    · refine (ins_perm out l[i]).trans ?_
      rw [List.take_succ_eq_append_getElem hi, List.map_append, List.map_singleton]
      refine (List.Perm.cons _ h7).trans ?_
      exact (List.perm_append_singleton _ _).symm
theorem ref_sort (l : List Nat) (hl : W64 l) (hm : l.length ≤ 300) (k : Nat) (hk : l.length * 400 + 10 < k) :
    ∃ r, hornbeamref06_Sort.f k l = some r ∧ r.Pairwise le ∧ r.Perm (l.map clean) ∧ ∀ x ∈ r, x < 18446744073709551616 ∧ clean x = x := by
  unfold hornbeamref06_Sort.f
  exact ref_l0 l hl hm l.length k 0 [] (by omega) rfl hk (fun x hx => by cases hx) (fun x hx => by cases hx) List.Pairwise.nil (by simp)
/-! rank.Sort -/
theorem ky_eq {x : Nat} (h : x < 18446744073709551616) : SortF.ky x = key x := by unfold SortF.ky; rw [key_f h]; rfl
theorem sort_l0 (l : List Nat) (hm : l.length < 17592186044416) : ∀ (d k i : Nat) (acc : List Nat), i + d = l.length → d < k → acc.length = i →
    rank_Sort.l0 k acc l l.length i = some (FSort.sortT SortF.cf (acc ++ (l.drop i).map clean)) := by
  intro d
  induction d with
  | zero =>
    intro k i acc h1 h2 h3
    obtain ⟨k, rfl⟩ : ∃ m, k = m + 1 := ⟨k - 1, by omega⟩
    rw [rank_Sort.l0, if_neg (by omega), if_pos (by omega), List.drop_eq_nil_of_le (by omega)]; simp
  | succ d ih =>
    intro k i acc h1 h2 h3
    obtain ⟨k, rfl⟩ : ∃ m, k = m + 1 := ⟨k - 1, by omega⟩
    have hi : i < l.length := by omega
    rw [rank_Sort.l0, if_pos (by omega), if_pos (by omega), if_pos (by omega), rdf l i hi, clean_f, Option.bind_some, if_pos (by omega), wrap_in (by omega) (by omega),
      show ((i : Int) + 1) = ((i + 1 : Nat) : Int) by omega, ih k (i + 1) _ (by omega) (by omega) (by simp; omega)]
    rw [show l.drop i = _ from List.drop_eq_getElem_cons hi]
    simp only [List.map_cons, List.append_assoc, List.singleton_append]
theorem sort_f (l : List Nat) (hm : l.length < 17592186044416) (k : Nat) (hk : l.length < k) : rank_Sort.f k l = some (FSort.sortT SortF.cf (l.map clean)) := by
  unfold rank_Sort.f
  have := sort_l0 l hm l.length k 0 [] (by omega) hk rfl
  simpa using this
theorem sortT_spec (l : List Nat) (hl : W64 l) : (FSort.sortT SortF.cf l).Perm l ∧ (FSort.sortT SortF.cf l).Pairwise le := by
  have h := Go.Sort.pdq_sorts (Go.Proofs.ltOf SortF.cf) SortF.swo l.toArray 0 l.toArray.size (Lib.bitLen l.toArray.size) true true (Nat.zero_le _) (Nat.le_refl _) (Or.inl rfl)
  unfold FSort.sortT
  generalize Go.Sort.pdq (Go.Proofs.ltOf SortF.cf) l.toArray 0 l.toArray.size (Lib.bitLen l.toArray.size) true true = d' at h
  obtain ⟨⟨hs, _, hp⟩, hso⟩ := h
  have hsz : d'.size = l.length := by rw [hs]; simp
  have hp' : d'.toList.Perm l := by
    rw [← hs] at hp
    have e1 : d'.extract 0 d'.size = d' := by simp
    rw [e1, hs] at hp
    have e2 : l.toArray.extract 0 l.toArray.size = l.toArray := by simp
    rw [e2] at hp; simpa using hp
  refine ⟨hp', ?_⟩
  rw [List.pairwise_iff_getElem]
  intro i j hi hj hij
  have hi' : i < d'.size := by simpa using hi
  have hj' : j < d'.size := by simpa using hj
  have := hso i j (Nat.zero_le _) hij (by rw [← hs]; exact hj')
  rw [SortF.lt_eq, getElem!_pos d' i hi', getElem!_pos d' j hj'] at this
  have := of_decide_eq_false this
  have wi : d'[i] < 18446744073709551616 := hl _ (hp'.mem_iff.mp (by simp))
  have wj : d'[j] < 18446744073709551616 := hl _ (hp'.mem_iff.mp (by simp))
  rw [ky_eq wi, ky_eq wj] at this
  show key d'.toList[i] ≤ key d'.toList[j]
  rw [Array.getElem_toList, Array.getElem_toList]; omega
/-- Both sorts answer the same. -/
theorem sorts_same (l : List Nat) (hl : W64 l) (r : List Nat) (h1 : r.Pairwise le) (h2 : r.Perm (l.map clean)) (h3 : ∀ x ∈ r, x < 18446744073709551616 ∧ clean x = x) : FSort.sortT SortF.cf (l.map clean) = r := by
  have hw : W64 (l.map clean) := by
    intro x hx; obtain ⟨y, hy, rfl⟩ := List.mem_map.mp hx; exact clean_lt (hl y hy)
  have s := sortT_spec (l.map clean) hw
  refine (one h3 (h2.trans s.1.symm) h1 s.2).symm
theorem same_l0 (a : List Nat) (hl : a.length ≤ 9223372036854775807) : ∀ (d k i : Nat), i + d = a.length → d < k → hornbeamref06_Same.l0 k a a i = some true := by
  intro d
  induction d with
  | zero =>
    intro k i h1 h2
    obtain ⟨k, rfl⟩ : ∃ m, k = m + 1 := ⟨k - 1, by omega⟩
    rw [hornbeamref06_Same.l0, if_neg (by omega)]
  | succ d ih =>
    intro k i h1 h2
    obtain ⟨k, rfl⟩ : ∃ m, k = m + 1 := ⟨k - 1, by omega⟩
    rw [hornbeamref06_Same.l0, if_pos (by omega), if_pos (by omega), if_pos (by omega), if_pos rfl, wrap_in (by omega) (by omega), show ((i : Int) + 1) = ((i + 1 : Nat) : Int) by omega, ih k (i + 1) (by omega) (by omega)]
theorem same_self (a : List Nat) (hl : a.length ≤ 9223372036854775807) (k : Nat) (hk : a.length < k) : hornbeamref06_Same.f k a a = some true := by
  unfold hornbeamref06_Same.f
  rw [if_pos rfl]
  exact same_l0 a hl a.length k 0 (by omega) hk
end Go.Proofs.Ytlmmlhljflladaa.PureSort
