import Derived.Test.YtebbnjgaikppgaaPureNodeOne
import Derived.Test.YtebbnjgaikppgaaPAx24
namespace Go.Proofs.Ytebbnjgaikppgaa
open Go.RowKit Go.Proofs.YtebbnjgaikppgaaW.PrintWords Go.Proofs.YtebbnjgaikppgaaW.PrintLast Go.Proofs.YtebbnjgaikppgaaW.PrintMore Go.Proofs.Ytebbnjgaikppgaa.Pure Go.Proofs.Ytebbnjgaikppgaa.PureNode Go.Proofs.Ytebbnjgaikppgaa.PA
set_option linter.unusedVariables false
theorem Pure.wrap12 : wrap64 (1 + 1) = 2 := by rw [wrap_in (by omega) (by omega)]; rfl
/-- How many leaves there are from node i on. -/
def Pure.leavesS (t : List Nd) : Nat → Nat → Nat
  | 0, _ => 0
  | d + 1, i => (if (nd t i).f0 = -1 then 1 else 0) + Pure.leavesS t d (i + 1)
theorem Pure.leavesS_le (t : List Nd) : ∀ d i, Pure.leavesS t d i ≤ d := by
  intro d
  induction d with
  | zero => intro i; exact Nat.le_refl _
  | succ d ih => intro i; have := ih (i + 1); simp only [Pure.leavesS]; split <;> omega
theorem Pure.leaves_l0 (t : List Nd) (hl : t.length ≤ 1000) : ∀ (d k i n : Nat), i + d = t.length → d < k → n + d ≤ 1000 → node_Leaves.l0 k n t t.length i = some ((n + Pure.leavesS t d i : Nat) : Int) := by
  intro d
  induction d with
  | zero =>
    intro k i n h1 h2 h3
    obtain ⟨k, rfl⟩ : ∃ m, k = m + 1 := ⟨k - 1, by omega⟩
    simp only [node_Leaves.l0, Pure.leavesS]
    rw [if_neg (by omega)]; rfl
  | succ d ih =>
    intro k i n h1 h2 h3
    obtain ⟨k, rfl⟩ : ∃ m, k = m + 1 := ⟨k - 1, by omega⟩
    simp only [node_Leaves.l0, Pure.leavesS, node_leaf.f, Option.bind_some]
    rw [if_pos (by omega), if_pos (by omega), if_pos (by omega), wrap_in (i := (i : Int) + 1) (by omega) (by omega), wrap_in (i := (n : Int) + 1) (by omega) (by omega), show ((i : Int) + 1) = ((i + 1 : Nat) : Int) by omega, show ((n : Int) + 1) = ((n + 1 : Nat) : Int) by omega]
    by_cases h : (rd_T75 t i).f0 = -1
    · rw [if_pos (beq_iff_eq.2 h), if_pos h, ih k (i + 1) (n + 1) (by omega) (by omega) (by omega)]; congr 2; omega
    · rw [if_neg (by simpa using h), if_neg h, ih k (i + 1) n (by omega) (by omega) (by omega)]; congr 2; omega
theorem Pure.leaves_f (t : List Nd) (hl : t.length ≤ 150) (k : Nat) (hk : t.length < k) : node_Leaves.f k t = some (Pure.leavesS t t.length 0 : Int) := by
  unfold node_Leaves.f
  have := Pure.leaves_l0 t (by omega) t.length k 0 0 (by omega) hk (by omega)
  simpa using this
/-- A tree that is right has one leaf more than inner nodes. -/
theorem Pure.leaves_right (t : List Nd) (hp : Plain t) : ∀ (d i m : Nat), i + d = t.length → leftsS t d m i = true → 2 * Pure.leavesS t d i + t.length = 2 * d + m := by
  intro d
  induction d with
  | zero => intro i m h1 h; have := of_decide_eq_true h; simp only [Pure.leavesS]; omega
  | succ d ih =>
    intro i m h1 h
    simp only [leftsS] at h
    simp only [Pure.leavesS]
    rcases hp i (by omega) (by omega) with h5 | h5
    · have h5' : (rd_T75 t i).f0 = -1 := h5
      rw [if_neg (by omega)] at h
      rw [if_pos h5]
      have := ih (i + 1) m (by omega) (by simpa using h)
      omega
    · have h5' : 0 ≤ (rd_T75 t i).f0 := h5
      rw [if_pos (by omega)] at h
      rw [if_neg (by omega)]
      by_cases h6 : (rd_T75 t i).f2 = m ∧ ¬ (m : Int) ≤ i
      · rw [if_pos h6] at h
        have := ih (i + 1) (m + 2) (by omega) (by
          rw [show ((m + 2 : Nat) : Int) = (m : Int) + 2 by omega, show ((i + 1 : Nat) : Int) = (i : Int) + 1 by omega]; exact h)
        omega
      · rw [if_neg h6] at h; cases h
theorem Pure.depth_right (t : List Nd) (hl : t.length ≤ 1000000) {c b kd cl : Int} (h : rightT t c b kd cl = true) (k : Nat) (hk : t.length < k) :
    (node_depths.f k t).bind (fun d => (slices_Max_int_int.f k d).bind fun m => some m) = some (depthS t) := by
  have hn : t.length ≠ 0 := by
    unfold rightT at h
    simp only [Bool.and_eq_true] at h
    exact of_decide_eq_true h.2.1
  have h0 : 0 ≤ depthS t := by
    unfold rightT at h
    simp only [Bool.and_eq_true] at h
    exact (of_decide_eq_true h.2.2.2).1
  rw [depths_f t hl k hk, Option.bind_some]
  rcases depths_doc t hl (Pure.plain_right h) hn with ⟨h1, _⟩ | ⟨_, h2, _, h4⟩
  · omega
  · rw [max_f _ (by omega) (by omega) k (by omega), Option.bind_some, h4]
theorem Pure.depth_f (t : List Nd) (hl : t.length ≤ 150) (hw : ∀ x ∈ t, Wf x) (k : Nat) (hk : 500 ≤ k) :
    node_Depth.f k t = some (if (rightT t 1024 256 0 256 || rightT t 1024 256 1 0) = true then depthS t else 0) := by
  obtain ⟨k, rfl⟩ : ∃ m, k = m + 1 := ⟨k - 1, by omega⟩
  obtain ⟨k, rfl⟩ : ∃ m, k = m + 1 := ⟨k - 1, by omega⟩
  obtain ⟨k, rfl⟩ : ∃ m, k = m + 1 := ⟨k - 1, by omega⟩
  unfold node_Depth.f
  rw [Option.bind_some]
  simp only [node_Depth.l0, Pure.wrap01, Pure.wrap12]
  rw [if_pos (by decide), if_pos (by decide), if_pos (by decide), if_pos (by decide), if_pos (by decide), if_pos (by decide), if_neg (by decide)]
  show ((node_Right.f (k + 1 + 1) t 1024 256 0 256).bind fun t431 => if t431 = true then (node_depths.f (k + 1 + 1) t).bind fun t432 => (slices_Max_int_int.f (k + 1 + 1) t432).bind fun t435 => some t435 else
    (node_Right.f (k + 1) t 1024 256 1 0).bind fun t431 => if t431 = true then (node_depths.f (k + 1) t).bind fun t432 => (slices_Max_int_int.f (k + 1) t432).bind fun t435 => some t435 else some 0) = _
  rw [right_f t (by omega) hw _ _ _ _ _ (by omega), right_f t (by omega) hw _ _ _ _ _ (by omega), Option.bind_some, Option.bind_some]
  cases h1 : rightT t 1024 256 0 256 with
  | true => rw [if_pos rfl, Pure.depth_right t (by omega) h1 _ (by omega)]; rfl
  | false =>
    rw [if_neg (by simp), Bool.false_or]
    cases h2 : rightT t 1024 256 1 0 with
    | true => rw [if_pos rfl, if_pos rfl, Pure.depth_right t (by omega) h2 _ (by omega)]
    | false => rfl
theorem Pure.counts_l0 (t : List Nd) (hl : t.length ≤ 150) (hw : ∀ x ∈ t, Wf x) : ∀ (d k i n : Nat), i + d = t.length → 2000 + d < k → n + d ≤ 1000 → n + Pure.leavesS t d i = Pure.leavesS t t.length 0 →
    hornbeamlaw18_NodeCounts.l0 k t n t t.length i = some true := by
  intro d
  induction d with
  | zero =>
    intro k i n h1 h2 h3 h4
    obtain ⟨k, rfl⟩ : ∃ m, k = m + 1 := ⟨k - 1, by omega⟩
    simp only [hornbeamlaw18_NodeCounts.l0]
    rw [if_neg (by omega), right18_f t _ _ _ _ (by omega) k (by omega), right18_f t _ _ _ _ (by omega) k (by omega), Option.bind_some, Option.bind_some]
    have h4 : n = Pure.leavesS t t.length 0 := by simpa [Pure.leavesS] using h4
    have hj : ∀ b : Bool, b = (rightT t 1024 256 0 256 || rightT t 1024 256 1 0) → hornbeamlaw18_NodeCounts.j1 k t n b = some true := by
      intro b hb
      obtain ⟨k, rfl⟩ : ∃ m, k = m + 1 := ⟨k - 1, by omega⟩
      simp only [hornbeamlaw18_NodeCounts.j1]
      rw [deep_f t (by omega) k (by omega), Pure.fixed18 k (by omega), Pure.depth_f t hl hw k (by omega), Pure.leaves_f t hl k (by omega), ← hb, ← h4]
      simp only [Option.bind_some, if_true]
      cases b with
      | false => simp
      | true =>
        have hlr : ∃ c b kd cl, rightT t c b kd cl = true := by
          cases h1 : rightT t 1024 256 0 256 with
          | true => exact ⟨_, _, _, _, h1⟩
          | false => rw [h1, Bool.false_or] at hb; exact ⟨_, _, _, _, hb.symm⟩
        obtain ⟨c, b, kd, cl, hr⟩ := hlr
        have hL := Pure.leaves_right t (Pure.plain_right hr) t.length 0 1 (by omega) (right_lefts hr)
        rw [if_pos rfl, if_pos rfl, if_pos rfl, wrap_in (by omega) (by omega), wrap_in (by omega) (by omega)]
        congr 1
        exact beq_iff_eq.2 (by omega)
    cases h1 : rightT t 1024 256 0 256 with
    | true => rw [if_pos rfl]; exact hj true (by rw [h1]; rfl)
    | false => rw [if_neg (by simp)]; exact hj _ (by rw [h1]; rfl)
  | succ d ih =>
    intro k i n h1 h2 h3 h4
    obtain ⟨k, rfl⟩ : ∃ m, k = m + 1 := ⟨k - 1, by omega⟩
    simp only [Pure.leavesS] at h4
    simp only [hornbeamlaw18_NodeCounts.l0]
    rw [if_pos (by omega), if_pos (by omega), if_pos (by omega), wrap_in (i := (i : Int) + 1) (by omega) (by omega), wrap_in (i := (n : Int) + 1) (by omega) (by omega), show ((i : Int) + 1) = ((i + 1 : Nat) : Int) by omega, show ((n : Int) + 1) = ((n + 1 : Nat) : Int) by omega]
    by_cases h : (rd_T75 t i).f0 = -1
    · rw [if_pos h]
      rw [if_pos h] at h4
      exact ih k (i + 1) (n + 1) (by omega) (by omega) (by omega) (by omega)
    · rw [if_neg h]
      rw [if_neg h] at h4
      exact ih k (i + 1) n (by omega) (by omega) (by omega) (by omega)
theorem Pure.NodeCounts : hornbeamlaw18_NodeCounts.Pure := by
  intro t ht
  refine ⟨4000, ?_⟩
  unfold hornbeamlaw18_NodeCounts.f
  by_cases h : (t.length : Int) > 150
  · rw [if_pos h, Pure.fixed18 4000 (by omega)]; rfl
  rw [if_neg h]
  exact Pure.counts_l0 t (by omega) (Pure.wf_all ht.2.2) t.length 4000 0 0 (by omega) (by omega) (by omega) (by omega)
end Go.Proofs.Ytebbnjgaikppgaa
