/- node.Right, node.Depth and their helpers come to what the document says. -/
import Derived.Test.YtebbnjgaikppgaaPureRef18
import Derived.Test.YtebbnjgaikppgaaPAx16
namespace Go.Proofs.Ytebbnjgaikppgaa.PureNode
open Go.RowKit Go.Proofs.YtebbnjgaikppgaaW.PrintWords Go.Proofs.YtebbnjgaikppgaaW.PrintLast Go.Proofs.YtebbnjgaikppgaaW.PrintMore Go.Proofs.Ytebbnjgaikppgaa.Pure Go.Proofs.Ytebbnjgaikppgaa.PA
set_option linter.unusedVariables false
set_option linter.unusedSimpArgs false
abbrev Nd := S75
abbrev nd (t : List Nd) (i : Int) : Nd := rd_T75 t i
theorem may_f2 (c b kd cl : Int) : node_Shape_may.f c b kd cl = some (mayS c b kd cl) := by
  unfold node_Shape_may.f mayS
  by_cases h1 : c < 1
  · rw [if_pos h1, decide_eq_false (by omega)]; rfl
  rw [if_neg h1]
  by_cases h2 : c > 1024
  · rw [if_pos h2, decide_eq_false (by omega)]; rfl
  rw [if_neg h2]
  by_cases h3 : b < 2
  · rw [if_pos h3, decide_eq_false (by omega)]; rfl
  rw [if_neg h3]
  by_cases h4 : b > 256
  · rw [if_pos h4, decide_eq_false (by omega)]; rfl
  rw [if_neg h4, decide_eq_true (show 1 ≤ c ∧ c ≤ 1024 ∧ 2 ≤ b ∧ b ≤ 256 by omega), Bool.true_and]
  by_cases h5 : kd = 0
  · rw [if_pos h5, if_pos h5]
    by_cases h6 : cl ≥ 2 <;> by_cases h7 : cl ≤ 256 <;> simp [h5, h6, h7] <;> omega
  · rw [if_neg h5, if_neg h5]
    by_cases h6 : kd = 1 <;> by_cases h7 : cl = 0 <;> simp [h6, h7]
theorem size_abs (n : Int) (h0 : -9223372036854775808 ≤ n) (h1 : n ≤ 9223372036854775807) : sizeS n = if n ≥ 0 then n else -n := by
  unfold sizeS
  split
  · simp [IntKind.wrap, IntKind.bits, IntKind.signed]; omega
  · simp [IntKind.wrap, IntKind.bits, IntKind.signed, wrap64]; omega
/-- A node's numbers are numbers. -/
def Wf (n : Nd) : Prop := -9223372036854775808 ≤ n.f4 ∧ n.f4 ≤ 9223372036854775807
theorem one_eq (c b kd cl : Int) (n : Nd) (hw : Wf n) : node_Right.one c b kd cl n = oneS n c b kd cl := by
  unfold node_Right.one node_Shape_right.f node_leaf.f oneS
  simp only [Option.bind_some, node_Shape_right.j0, node_leaf.f]
  obtain ⟨f0, f1, f2, f3, f4, f5⟩ := n
  obtain ⟨hw0, hw1⟩ := hw
  simp only at hw0 hw1 ⊢
  by_cases h0 : f0 = -1
  · subst h0
    simp only [show ((-1 : Int) ≥ 0) = False by simp, if_false]
    by_cases hk : kd = 0
    · subst hk
      by_cases h1 : f1 = 0 <;> by_cases h2 : f2 = 0 <;> by_cases h3 : f3 ≥ 0 <;> by_cases h4 : f4 = 0 <;> by_cases h5 : f5 = 0 <;> simp [h1, h2, h3, h4, h5] <;> omega
    · have hs := size_abs f4 hw0 hw1
      by_cases h1 : f1 = 0 <;> by_cases h2 : f2 = 0 <;> by_cases h3 : f3 = 0 <;> by_cases h5 : f5 ≥ 1 <;> by_cases h6 : f5 ≤ 1048576 <;> simp [hk, h1, h2, h3, h5, h6] <;> try omega
      have e1 : IntKind.u64.wrap (1048576 * IntKind.u64.wrap f5) = 1048576 * f5 := by simp [IntKind.wrap, IntKind.bits, IntKind.signed]; omega
      have e2 : wrap64 (1048576 * f5) = 1048576 * f5 := wrap_in (by omega) (by omega)
      have e3 : wrap64 (-(1048576 * f5)) = -(1048576 * f5) := wrap_in (by omega) (by omega)
      rw [e2, e3, e1, hs]
      by_cases h7 : -(1048576 * f5) ≤ f4
      · simp only [h7, if_true, Option.getD_some, decide_eq_decide]
        split <;> omega
      · simp only [h7, if_false, Option.getD_some]
        symm
        apply decide_eq_false
        split <;> omega
  · have e0 : (f0 == -1) = false := beq_eq_false_iff_ne.2 h0
    by_cases h1 : f0 ≥ 0
    · by_cases h2 : f0 < c <;> by_cases h3 : f1 ≥ 0 <;> by_cases h4 : f1 < b <;> by_cases h5 : f3 = 0 <;> by_cases h6 : f4 = 0 <;> by_cases h7 : f5 = 0 <;> simp [e0, h0, h1, h2, h3, h4, h5, h6, h7] <;> omega
    · simp [e0, h0, h1]
/-! ### How deep the nodes stand -/
def depsS (t : List Nd) : Nat → List Int → Int → List Int
  | 0, out, i => if out.length = t.length then out else []
  | d + 1, out, i => if i ≥ out.length then (if out.length = t.length then out else []) else if (nd t i).f0 = -1 then depsS t d out (i + 1) else
      if (nd t i).f2 = out.length then (if out.length + 2 > t.length then [] else depsS t d (out ++ [wrap64 (rd out i + 1), wrap64 (rd out i + 1)]) (i + 1)) else []
theorem deps_l0 (t : List Nd) (hl : t.length ≤ 1000000) : ∀ (d k i : Nat) (out : List Int), i + d = t.length → d < k → out.length ≤ t.length →
    node_depths.l0 k t out t t.length i = some (depsS t d out i) := by
  intro d
  induction d with
  | zero =>
    intro k i out h1 h2 h3
    obtain ⟨k, rfl⟩ : ∃ m, k = m + 1 := ⟨k - 1, by omega⟩
    simp only [node_depths.l0, depsS]
    rw [if_neg (by omega)]
    by_cases h : out.length = t.length
    · rw [if_pos (by omega), if_pos h]
    · rw [if_neg (by omega), if_neg h]
  | succ d ih =>
    intro k i out h1 h2 h3
    obtain ⟨k, rfl⟩ : ∃ m, k = m + 1 := ⟨k - 1, by omega⟩
    simp only [node_depths.l0, depsS]
    rw [if_pos (by omega), if_pos (by omega), if_pos (by omega), wrap_in (i := (i : Int) + 1) (by omega) (by omega), wrap_in (i := (out.length : Int) + 2) (by omega) (by omega), show ((i : Int) + 1) = ((i + 1 : Nat) : Int) by omega]
    by_cases hi : (i : Int) ≥ out.length
    · rw [if_pos hi, if_pos hi]
      by_cases h : out.length = t.length
      · rw [if_pos (by omega), if_pos h]
      · rw [if_neg (by omega), if_neg h]
    rw [if_neg hi, if_neg hi]
    unfold node_leaf.f
    rw [Option.bind_some]
    by_cases h0 : (rd_T75 t i).f0 = -1
    · rw [if_pos (beq_iff_eq.2 h0), if_pos h0]
      exact ih k (i + 1) out (by omega) (by omega) h3
    rw [if_neg (by simpa using h0), if_neg h0]
    by_cases h2 : (rd_T75 t i).f2 = out.length
    · rw [if_pos h2, if_pos h2]
      by_cases h4 : out.length + 2 > t.length
      · rw [if_pos (by omega), if_pos h4]
      · rw [if_neg (by omega), if_neg h4, if_pos (by omega), Option.bind_some, if_pos (by simp; omega)]
        exact ih k (i + 1) _ (by omega) (by omega) (by simp; omega)
    · rw [if_neg h2, if_neg h2]
def depsT (t : List Nd) : List Int := if t.length = 0 then [] else depsS t t.length [0] 0
theorem depths_f (t : List Nd) (hl : t.length ≤ 1000000) (k : Nat) (hk : t.length < k) : node_depths.f k t = some (depsT t) := by
  unfold node_depths.f depsT
  by_cases h : t.length = 0
  · rw [if_pos (by omega), if_pos h]
  · rw [if_neg (by omega), if_neg h, if_pos (by omega), if_pos (by omega)]
    exact deps_l0 t hl t.length k 0 [0] (by omega) hk (by simp; omega)
/-- Each node is a leaf, or has a feature. -/
def Plain (t : List Nd) : Prop := ∀ i : Int, 0 ≤ i → i < t.length → (nd t i).f0 = -1 ∨ 0 ≤ (nd t i).f0
theorem lefts_ahead (t : List Nd) : ∀ (d : Nat) (left i : Int), i + d = t.length → leftsS t d left i = true → 0 < d → i < left := by
  intro d
  induction d with
  | zero => intro left i _ _ h; omega
  | succ d ih =>
    intro left i hi h _
    simp only [leftsS] at h
    by_cases h1 : (rd_T75 t i).f0 ≥ 0
    · rw [if_pos h1] at h
      by_cases h2 : (rd_T75 t i).f2 = left ∧ ¬ left ≤ i
      · omega
      · rw [if_neg h2] at h; cases h
    · rw [if_neg h1] at h
      by_cases hd : 0 < d
      · have := ih left (i + 1) (by omega) h hd; omega
      · obtain rfl : d = 0 := by omega
        have := of_decide_eq_true h; omega
theorem deps_none (t : List Nd) (hp : Plain t) : ∀ (d : Nat) (out : List Int) (i : Int), 0 ≤ i → i + d = t.length → leftsS t d out.length i = false → depsS t d out i = [] := by
  intro d
  induction d with
  | zero =>
    intro out i h0 hi h
    have h := of_decide_eq_false h
    simp only [depsS]; rw [if_neg (by omega)]
  | succ d ih =>
    intro out i h0 hi h
    simp only [depsS]
    by_cases hio : i ≥ out.length
    · rw [if_pos hio, if_neg (by omega)]
    rw [if_neg hio]
    simp only [leftsS] at h
    rcases hp i h0 (by omega) with h1 | h1
    · rw [if_pos h1]
      have h1' : (rd_T75 t i).f0 = -1 := h1
      rw [if_neg (by rw [h1']; omega)] at h
      exact ih out (i + 1) (by omega) (by omega) h
    · have h1' : (rd_T75 t i).f0 ≥ 0 := h1
      rw [if_pos h1'] at h
      rw [if_neg (by omega)]
      by_cases h2 : (nd t i).f2 = out.length
      · rw [if_pos h2]
        rw [if_pos ⟨h2, by omega⟩] at h
        by_cases h3 : out.length + 2 > t.length
        · rw [if_pos h3]
        · rw [if_neg h3]
          refine ih _ (i + 1) (by omega) (by omega) ?_
          rw [List.length_append, List.length_cons, List.length_cons, List.length_nil]
          rw [show ((out.length + (0 + 1 + 1) : Nat) : Int) = out.length + 2 by omega]
          exact h
      · rw [if_neg h2]
/-- What the list of depths is like, where the kids stand as they are to. -/
theorem deps_some (t : List Nd) (hp : Plain t) : ∀ (d : Nat) (out : List Int) (i : Int), 0 ≤ i → i + d = t.length → leftsS t d out.length i = true →
    ∃ r, depsS t d out i = out ++ r ∧ (out ++ r).length = t.length ∧
      (∀ a, i ≤ a → a < t.length → 0 ≤ (nd t a).f0 → rd (out ++ r) (nd t a).f2 = wrap64 (rd (out ++ r) a + 1) ∧ rd (out ++ r) ((nd t a).f2 + 1) = wrap64 (rd (out ++ r) a + 1)) ∧
      (∀ j : Int, out.length ≤ j → j < t.length → ∃ a, i ≤ a ∧ a < j ∧ 0 ≤ (nd t a).f0 ∧ ((nd t a).f2 = j ∨ (nd t a).f2 + 1 = j)) := by
  intro d
  induction d with
  | zero =>
    intro out i h0 hi h
    have h := of_decide_eq_true h
    refine ⟨[], ?_, ?_, fun a h1 h2 => by omega, fun j h1 h2 => by omega⟩
    · simp only [depsS]; rw [if_pos (by omega)]; simp
    · simp; omega
  | succ d ih =>
    intro out i h0 hi h
    have hlt := lefts_ahead t (d + 1) _ i hi h (by omega)
    simp only [depsS]
    rw [if_neg (by omega)]
    simp only [leftsS] at h
    rcases hp i h0 (by omega) with h1 | h1
    · have h1' : (rd_T75 t i).f0 = -1 := h1
      rw [if_pos h1]
      rw [if_neg (by rw [h1']; omega)] at h
      obtain ⟨r, e1, e2, e3, e4⟩ := ih out (i + 1) (by omega) (by omega) h
      refine ⟨r, e1, e2, fun a ha hb hc => ?_, fun j hj hj2 => ?_⟩
      · by_cases e : a = i
        · subst e; omega
        · exact e3 a (by omega) hb hc
      · obtain ⟨a, q1, q2, q3, q4⟩ := e4 j hj hj2
        exact ⟨a, by omega, q2, q3, q4⟩
    · have h1' : (rd_T75 t i).f0 ≥ 0 := h1
      rw [if_neg (by omega)]
      rw [if_pos h1'] at h
      by_cases h2 : (rd_T75 t i).f2 = out.length ∧ ¬ (out.length : Int) ≤ i
      · rw [if_pos h2] at h
        have hle := (lefts_facts t d _ (i + 1) (by omega) (by omega) h).1
        have h2' : (nd t i).f2 = out.length := h2.1
        rw [if_pos h2', if_neg (by omega)]
        obtain ⟨r, e1, e2, e3, e4⟩ := ih (out ++ [wrap64 (rd out i + 1), wrap64 (rd out i + 1)]) (i + 1) (by omega) (by omega) (by
          rw [List.length_append, List.length_cons, List.length_cons, List.length_nil]
          rw [show ((out.length + (0 + 1 + 1) : Nat) : Int) = out.length + 2 by omega]
          exact h)
        refine ⟨[wrap64 (rd out i + 1), wrap64 (rd out i + 1)] ++ r, by rw [e1, List.append_assoc], by rw [← List.append_assoc]; exact e2, fun a ha hb hc => ?_, fun j hj hj2 => ?_⟩
        · rw [← List.append_assoc]
          by_cases e : a = i
          · subst e
            have g : ∀ j : Nat, j < out.length → rd (out ++ [wrap64 (rd out a + 1), wrap64 (rd out a + 1)] ++ r) (j : Int) = rd out j := fun j hj => by
              simp [rd, List.getElem?_append_left, hj, List.append_assoc]
            obtain ⟨a, rfl⟩ := Int.eq_ofNat_of_zero_le h0
            rw [h2', g a (by omega)]
            constructor
            · simp [rd]
            · simp [rd, show ((out.length : Int) + 1).toNat = out.length + 1 by omega]
          · exact e3 a (by omega) hb hc
        · by_cases hj3 : j < out.length + 2
          · exact ⟨i, by omega, by omega, h1, by omega⟩
          · obtain ⟨a, q1, q2, q3, q4⟩ := e4 j (by simp; omega) hj2
            exact ⟨a, by omega, q2, q3, q4⟩
      · rw [if_neg h2] at h; cases h
theorem par_spec (t : List Nd) (i : Int) : ∀ (d : Nat) (j : Int), 0 ≤ j → 0 ≤ parS t i d j → j ≤ parS t i d j ∧ parS t i d j < i ∧ 0 ≤ (nd t (parS t i d j)).f0 ∧ ((nd t (parS t i d j)).f2 = i ∨ wrap64 ((nd t (parS t i d j)).f2 + 1) = i) := by
  intro d
  induction d with
  | zero => intro j hj h; simp [parS] at h
  | succ d ih =>
    intro j hj h
    simp only [parS] at h ⊢
    split
    · rename_i h1
      rw [if_pos h1] at h
      split
      · rename_i h2; exact ⟨by omega, h1, h2.1, h2.2⟩
      · rename_i h2
        rw [if_neg h2] at h
        have := ih (j + 1) (by omega) h
        exact ⟨by omega, this.2⟩
    · rename_i h1
      rw [if_neg h1] at h; omega
theorem par_found (t : List Nd) (i a : Int) (ha : 0 ≤ (nd t a).f0) (hb : (nd t a).f2 = i ∨ wrap64 ((nd t a).f2 + 1) = i) : ∀ (d : Nat) (j : Int), 0 ≤ j → j ≤ a → a < i → i ≤ j + d → 0 ≤ parS t i d j := by
  intro d
  induction d with
  | zero => intro j h0 h1 h2 h3; omega
  | succ d ih =>
    intro j h0 h1 h2 h3
    simp only [parS]
    rw [if_pos (by omega)]
    split
    · exact h0
    · rename_i hn
      by_cases e : j = a
      · subst e; exact absurd ⟨ha, hb⟩ hn
      · exact ih (j + 1) (by omega) (by omega) h2 (by omega)
/-- The greatest, from one on. -/
def mxS (m : Int) : List Int → Int
  | [] => m
  | x :: l => mxS (if x > m then x else m) l
theorem mxS_ge : ∀ (l : List Int) (m : Int), m ≤ mxS m l
  | [], m => Int.le_refl _
  | x :: l, m => by
    have := mxS_ge l (if x > m then x else m)
    simp only [mxS]
    refine Int.le_trans ?_ this
    split <;> omega
theorem max_l0 (l : List Int) (hl : l.length ≤ 1000000) : ∀ (d k i : Nat) (m : Int), i + d = l.length → d < k → slices_Max_int_int.l0 k l m i = some (mxS m (l.drop i)) := by
  intro d
  induction d with
  | zero =>
    intro k i m h1 h2
    obtain ⟨k, rfl⟩ : ∃ m, k = m + 1 := ⟨k - 1, by omega⟩
    simp only [slices_Max_int_int.l0]
    rw [if_neg (by omega), List.drop_eq_nil_of_le (by omega)]; rfl
  | succ d ih =>
    intro k i m h1 h2
    obtain ⟨k, rfl⟩ : ∃ m, k = m + 1 := ⟨k - 1, by omega⟩
    simp only [slices_Max_int_int.l0]
    rw [if_pos (by omega), if_pos (by omega), wrap_in (by omega) (by omega), show ((i : Int) + 1) = ((i + 1 : Nat) : Int) by omega, ih k (i + 1) _ (by omega) (by omega), drop_rd l i (by omega)]
    simp only [mxS, mx]
theorem max_f (l : List Int) (hl : l.length ≤ 1000000) (h0 : l.length ≠ 0) (k : Nat) (hk : l.length < k) : slices_Max_int_int.f k l = some (mxS (rd l 0) (l.drop 1)) := by
  unfold slices_Max_int_int.f
  rw [if_neg (by omega), if_pos (by omega)]
  exact max_l0 l hl (l.length - 1) k 1 _ (by omega) (by omega)
theorem deep_out (t : List Nd) (out : List Int) (hlen : out.length = t.length) (h0 : t.length ≠ 0 → rd out 0 = 0) (hL : t.length ≤ 1000000)
    (hk : ∀ a : Int, 0 ≤ a → a < t.length → 0 ≤ (nd t a).f0 → rd out (nd t a).f2 = wrap64 (rd out a + 1) ∧ rd out ((nd t a).f2 + 1) = wrap64 (rd out a + 1))
    (hb : ∀ a : Int, 0 ≤ a → a < t.length → 0 ≤ (nd t a).f0 → 0 ≤ (nd t a).f2 ∧ (nd t a).f2 ≤ t.length)
    (hc : ∀ j : Int, 1 ≤ j → j < t.length → ∃ a, 0 ≤ a ∧ a < j ∧ 0 ≤ (nd t a).f0 ∧ ((nd t a).f2 = j ∨ (nd t a).f2 + 1 = j)) :
    ∀ (d i : Nat) (m : Int), i + d = t.length → deepS t d (out.take i) m i = mxS m (out.drop i) := by
  intro d
  induction d with
  | zero => intro i m h; simp only [deepS]; rw [List.drop_eq_nil_of_le (by omega)]; rfl
  | succ d ih =>
    intro i m h
    have hi : i < out.length := by omega
    simp only [deepS]
    rw [drop_rd out i hi]
    simp only [mxS]
    by_cases hi0 : (i : Int) > 0
    · rw [if_pos hi0]
      obtain ⟨a, q1, q2, q3, q4⟩ := hc i (by omega) (by omega)
      have hab := hb a q1 (by omega) q3
      have hw : wrap64 ((nd t a).f2 + 1) = (nd t a).f2 + 1 := wrap_in (by omega) (by omega)
      have hf := par_found t i a q3 (by rw [hw]; exact q4) (i : Int).toNat 0 (by omega) q1 q2 (by omega)
      have hs := par_spec t i (i : Int).toNat 0 (by omega) hf
      generalize parS t i (i : Int).toNat 0 = p at hf hs ⊢
      rw [if_neg (by omega)]
      have hpb := hb p hf (by omega) hs.2.2.1
      have hwp : wrap64 ((nd t p).f2 + 1) = (nd t p).f2 + 1 := wrap_in (by omega) (by omega)
      have hv : rd out i = wrap64 (rd out p + 1) := by
        have := hk p hf (by omega) hs.2.2.1
        rcases hs.2.2.2 with e | e
        · rw [← e]; exact this.1
        · rw [← e, hwp]; exact this.2
      have ht : rd (out.take i) p = rd out p := by
        simp only [rd, List.getD_eq_getElem?_getD, List.getElem?_take]
        rw [if_pos (by omega)]
      rw [ht, ← hv, ← take_rd out i hi, show ((i : Int) + 1) = ((i + 1 : Nat) : Int) by omega, ih (i + 1) _ (by omega)]
    · obtain rfl : i = 0 := by omega
      rw [if_neg hi0]
      have hv : rd out (0 : Nat) = 0 := h0 (by omega)
      rw [show (List.take 0 out ++ [0]) = out.take 1 by rw [take_rd out 0 hi, hv], hv, show (((0 : Nat) : Int) + 1) = ((1 : Nat) : Int) by omega, ih 1 _ (by omega)]
/-- Where all nodes are plain: the depths, and the document's depth. -/
theorem depths_doc (t : List Nd) (hl : t.length ≤ 1000000) (hp : Plain t) (hn : t.length ≠ 0) :
    (depthS t < 0 ∧ depsT t = []) ∨ (leftsS t t.length 1 0 = true ∧ (depsT t).length = t.length ∧ 0 ≤ depthS t ∧ mxS (rd (depsT t) 0) ((depsT t).drop 1) = depthS t) := by
  unfold depsT depthS
  rw [if_neg hn]
  cases hL : leftsS t t.length 1 0 with
  | false =>
    left
    refine ⟨by simp, deps_none t hp t.length [0] 0 (by omega) (by omega) ?_⟩
    simpa using hL
  | true =>
    right
    obtain ⟨r, e1, e2, e3, e4⟩ := deps_some t hp t.length [0] 0 (by omega) (by omega) (by simpa using hL)
    have hfacts := (lefts_facts t t.length 1 0 (by omega) (by omega) hL).2.1
    rw [e1]
    have hd := deep_out t ([0] ++ r) e2 (fun _ => by simp [rd]) hl (fun a h0 h1 h2 => e3 a h0 h1 h2) (fun a h0 h1 h2 => by
      have := hfacts a h0 h1 h2
      show 0 ≤ (rd_T75 t a).f2 ∧ (rd_T75 t a).f2 ≤ t.length
      omega) (fun j h1 h2 => e4 j (by simpa using h1) h2) t.length 0 0 (by omega)
    rw [List.take_zero, List.drop_zero] at hd
    have hd : deepS t t.length [] 0 0 = mxS 0 ([0] ++ r) := hd
    have hmx : mxS 0 ([0] ++ r) = mxS 0 r := by simp [mxS]
    have hge := mxS_ge r 0
    refine ⟨rfl, e2, ?_, ?_⟩
    · show 0 ≤ cond true (deepS t t.length [] 0 0) (-1)
      rw [cond_true, hd, hmx]; exact hge
    · show mxS (rd ([0] ++ r) 0) (([0] ++ r).drop 1) = cond true (deepS t t.length [] 0 0) (-1)
      rw [cond_true, hd, hmx]; simp [rd]
theorem deps_len (t : List Nd) : ∀ (d : Nat) (out : List Int) (i : Int), out.length ≤ t.length → (depsS t d out i).length ≤ t.length := by
  intro d
  induction d with
  | zero => intro out i h; simp only [depsS]; split <;> simp [h]
  | succ d ih =>
    intro out i h
    simp only [depsS]
    split
    · split <;> simp [h]
    · split
      · exact ih _ _ h
      · split
        · split
          · simp
          · exact ih _ _ (by simp; omega)
        · simp
theorem all_one (t : List Nd) (hw : ∀ x ∈ t, Wf x) (c b kd cl : Int) : t.all (node_Right.one c b kd cl) = t.all (fun n => oneS n c b kd cl) := by
  induction t with
  | nil => rfl
  | cons x t ih =>
    rw [List.all_cons, List.all_cons, one_eq _ _ _ _ _ (hw x (by simp)), ih (fun y hy => hw y (by simp [hy]))]
theorem plain_of_all {t : List Nd} {c b kd cl : Int} (h : t.all (fun n => oneS n c b kd cl) = true) : Plain t := by
  intro i h0 h1
  have hn := List.all_eq_true.1 h _ (rd_mem_node h0 h1)
  show (rd_T75 t i).f0 = -1 ∨ 0 ≤ (rd_T75 t i).f0
  generalize rd_T75 t i = n at hn
  unfold oneS at hn
  split at hn
  · right; omega
  · split at hn
    · rename_i hh; left; exact hh.1
    · cases hn
theorem right_f (t : List Nd) (hl : t.length ≤ 1000000) (hw : ∀ x ∈ t, Wf x) (c b kd cl : Int) (k : Nat) (hk : t.length + 1 < k) : node_Right.f k t c b kd cl = some (rightT t c b kd cl) := by
  unfold node_Right.f node_Right.g
  rw [depths_f t hl k (by omega), Option.bind_some, may_f2, Option.bind_some, all_one t hw]
  unfold rightT
  cases mayS c b kd cl with
  | false => rfl
  | true =>
    rw [if_pos rfl, Bool.true_and]
    by_cases hn : t.length = 0
    · rw [if_pos (by unfold depsT; rw [if_pos hn]; rfl), decide_eq_false (by omega)]; rfl
    · rw [decide_eq_true hn, Bool.true_and]
      have hdl : (depsT t).length ≤ t.length := by unfold depsT; split; simp; exact deps_len t _ _ _ (by simp; omega)
      cases ha : t.all (fun n => oneS n c b kd cl) with
      | false =>
        rw [Bool.false_and]
        by_cases h0 : (depsT t).length = 0
        · rw [if_pos h0]
        · rw [if_neg h0, max_f _ (by omega) h0 k (by omega), Option.bind_some]; split <;> rfl
      | true =>
        rw [Bool.true_and]
        rcases depths_doc t hl (plain_of_all ha) hn with ⟨h1, h2⟩ | ⟨_, h2, h3, h4⟩
        · rw [h2, decide_eq_false (by omega)]; rfl
        · rw [if_neg (by omega), max_f _ (by omega) (by omega) k (by omega), Option.bind_some, h4]
          by_cases h5 : depthS t > 32
          · rw [if_pos h5, decide_eq_false (by omega)]
          · rw [if_neg h5, decide_eq_true (by omega)]
end Go.Proofs.Ytebbnjgaikppgaa.PureNode
