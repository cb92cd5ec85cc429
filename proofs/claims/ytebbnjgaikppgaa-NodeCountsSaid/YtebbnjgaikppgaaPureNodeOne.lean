import Derived.Test.YtebbnjgaikppgaaPureNode
import Derived.Test.YtebbnjgaikppgaaPAx19
namespace Go.Proofs.Ytebbnjgaikppgaa
open Go.RowKit Go.Proofs.YtebbnjgaikppgaaW.PrintWords Go.Proofs.YtebbnjgaikppgaaW.PrintLast Go.Proofs.YtebbnjgaikppgaaW.PrintMore Go.Proofs.Ytebbnjgaikppgaa.Pure Go.Proofs.Ytebbnjgaikppgaa.PureNode Go.Proofs.Ytebbnjgaikppgaa.PA
set_option linter.unusedVariables false
theorem Pure.fixed18 (k : Nat) (hk : 30 ≤ k) : hornbeamlaw18_fixed.f k = some true := at_rounds hornbeamlaw18_fixed.mono hk (by decide +kernel)
theorem Pure.wrap01 : wrap64 (0 + 1) = 1 := by rw [wrap_in (by omega) (by omega)]; rfl
/-- How often each node is a kid: those from 1 to ahead of m, once each. -/
def Pure.ofS (m n : Nat) : List Int := (List.range n).map (fun j => if 1 ≤ j ∧ j < m then 1 else 0)
theorem Pure.ofS_rd (m n j : Nat) (h : j < n) : rd (Pure.ofS m n) (j : Int) = if 1 ≤ j ∧ j < m then 1 else 0 := by
  simp [rd, Pure.ofS, h]
theorem Pure.ofS_set (m n : Nat) (h : m + 2 ≤ n) (h1 : 1 ≤ m) : ((Pure.ofS m n).set m 1).set (m + 1) 1 = Pure.ofS (m + 2) n := by
  apply List.ext_getElem
  · simp [Pure.ofS]
  · intro j h2 h3
    simp only [List.getElem_set, Pure.ofS, List.getElem_map, List.getElem_range]
    split
    · rw [if_pos (by omega)]
    · split
      · rw [if_pos (by omega)]
      · split <;> split <;> first | rfl | omega
theorem Pure.one_l1 (n m : Nat) (hm : m = n) (hn : n ≤ 1000) : ∀ (d k j : Nat), j + d = n → d + 40 < k → hornbeamlaw18_NodeOne.l1 k (Pure.ofS m n) n j = some true := by
  intro d
  have hlen : (Pure.ofS m n).length = n := by simp [Pure.ofS]
  induction d with
  | zero =>
    intro k j h1 h2
    obtain ⟨k, rfl⟩ : ∃ m, k = m + 1 := ⟨k - 1, by omega⟩
    simp only [hornbeamlaw18_NodeOne.l1]
    rw [if_neg (by omega), Pure.fixed18 k (by omega)]; rfl
  | succ d ih =>
    intro k j h1 h2
    obtain ⟨k, rfl⟩ : ∃ m, k = m + 1 := ⟨k - 1, by omega⟩
    simp only [hornbeamlaw18_NodeOne.l1]
    rw [if_pos (by omega), if_pos (by omega), if_pos (by omega), Pure.ofS_rd m n j (by omega), wrap_in (by omega) (by omega), show ((j : Int) + 1) = ((j + 1 : Nat) : Int) by omega, ih k (j + 1) (by omega) (by omega)]
    by_cases h : (j : Int) = 0
    · rw [if_pos h, if_pos (if_neg (by omega)), if_neg (by omega)]
    · rw [if_neg h, if_pos (by omega), if_pos (if_pos (by omega))]
theorem Pure.one_l0 (t : List Nd) (hl : t.length ≤ 1000) (hp : Plain t) : ∀ (d k i m : Nat), i + d = t.length → d + t.length + 50 < k → 1 ≤ m → leftsS t d m i = true →
    hornbeamlaw18_NodeOne.l0 k t (Pure.ofS m t.length) t t.length i = some true := by
  intro d
  induction d with
  | zero =>
    intro k i m h1 h2 h3 h4
    obtain ⟨k, rfl⟩ : ∃ m, k = m + 1 := ⟨k - 1, by omega⟩
    have := of_decide_eq_true h4
    simp only [hornbeamlaw18_NodeOne.l0]
    have hlen : (Pure.ofS m t.length).length = t.length := by simp [Pure.ofS]
    rw [if_neg (by omega), hlen]
    exact Pure.one_l1 t.length m (by omega) hl t.length k 0 (by omega) (by omega)
  | succ d ih =>
    intro k i m h1 h2 h3 h4
    obtain ⟨k, rfl⟩ : ∃ m, k = m + 1 := ⟨k - 1, by omega⟩
    have hf := lefts_facts t (d + 1) m i (by omega) (by omega) h4
    simp only [leftsS] at h4
    simp only [hornbeamlaw18_NodeOne.l0]
    have hlen : (Pure.ofS m t.length).length = t.length := by simp [Pure.ofS]
    rw [if_pos (by omega), if_pos (by omega), if_pos (by omega), wrap_in (i := (i : Int) + 1) (by omega) (by omega), show ((i : Int) + 1) = ((i + 1 : Nat) : Int) by omega]
    rcases hp i (by omega) (by omega) with h5 | h5
    · have h5 : (rd_T75 t i).f0 = -1 := h5
      rw [if_pos (by omega)]
      rw [if_neg (by omega)] at h4
      exact ih k (i + 1) m (by omega) (by omega) h3 (by simpa using h4)
    · have h5 : 0 ≤ (rd_T75 t i).f0 := h5
      rw [if_neg (by omega)]
      rw [if_pos (by omega)] at h4
      by_cases h6 : (rd_T75 t i).f2 = m ∧ ¬ (m : Int) ≤ i
      · rw [if_pos h6] at h4
        have hle := (hf.2.1 i (by omega) (by omega) h5).2.2
        rw [h6.1] at hle ⊢
        rw [if_neg (by omega), wrap_in (i := (m : Int) + 1) (by omega) (by omega), if_neg (by omega), if_pos (by omega), if_pos (by omega), Option.bind_some, if_pos (by omega), if_pos (by omega),
          Pure.ofS_rd m _ m (by omega), if_neg (by omega), Pure.wrap01, show ((m : Int) + 1).toNat = m + 1 by omega, Int.toNat_natCast]
        have hr : rd ((Pure.ofS m t.length).set m 1) ((m : Int) + 1) = 0 := by
          have := Pure.ofS_rd m t.length (m + 1) (by omega)
          rw [if_neg (by omega)] at this
          rw [← this]
          simp [rd, show ((m : Int) + 1).toNat = m + 1 by omega]
        rw [hr, Pure.wrap01, Pure.ofS_set m _ (by omega) h3]
        refine ih k (i + 1) (m + 2) (by omega) (by omega) (by omega) ?_
        rw [show ((m + 2 : Nat) : Int) = (m : Int) + 2 by omega, show ((i + 1 : Nat) : Int) = (i : Int) + 1 by omega]; exact h4
      · rw [if_neg h6] at h4; cases h4
theorem Pure.wf_all {t : List Nd} (h : ∀ x ∈ t, (((Lit.int .i64 x.f0).wf = true) ∧ (((Lit.int .i64 x.f1).wf = true) ∧ (((Lit.int .i64 x.f2).wf = true) ∧ (((Lit.int .i64 x.f3).wf = true) ∧ (((Lit.int .i64 x.f4).wf = true) ∧ ((Lit.int .i64 x.f5).wf = true))))))) : ∀ x ∈ t, Wf x := fun x hx => wf_i64 (h x hx).2.2.2.2.1
theorem Pure.plain_right {t : List Nd} {c b kd cl : Int} (h : rightT t c b kd cl = true) : Plain t := by
  unfold rightT at h
  simp only [Bool.and_eq_true] at h
  exact plain_of_all h.2.2.1
theorem Pure.NodeOne : hornbeamlaw18_NodeOne.Pure := by
  intro t c b kd cl ht _
  refine ⟨1000, ?_⟩
  unfold hornbeamlaw18_NodeOne.f
  have hj : hornbeamlaw18_NodeOne.j0 1000 t true = some true := by
    have : ∀ k, 30 ≤ k → hornbeamlaw18_NodeOne.j0 (k + 1) t true = some true := fun k hk => by
      simp only [hornbeamlaw18_NodeOne.j0, if_true]
      rw [Pure.fixed18 k hk]; rfl
    exact this 999 (by omega)
  by_cases h : (t.length : Int) > 150
  · rw [if_pos h, hj]
  rw [if_neg h, right_f t (by omega) (Pure.wf_all ht.2.2) c b kd cl 1000 (by omega), Option.bind_some]
  cases hr : rightT t c b kd cl with
  | false => exact hj
  | true =>
    have hq : ∀ k, hornbeamlaw18_NodeOne.j0 (k + 1) t false = hornbeamlaw18_NodeOne.l0 k t (List.replicate ((t.length : Int) : Int).toNat 0) t t.length 0 := fun k => by
      simp only [hornbeamlaw18_NodeOne.j0, Bool.false_eq_true, if_false]
      rw [if_pos (by omega), if_pos (by omega)]
    refine (hq 999).trans ?_
    have := Pure.one_l0 t (by omega) (Pure.plain_right hr) t.length 999 0 1 (by omega) (by omega) (by omega) (right_lefts hr)
    have he : Pure.ofS 1 t.length = List.replicate ((t.length : Int) : Int).toNat 0 := by
      apply List.ext_getElem
      · simp [Pure.ofS]
      · intro j h2 h3
        simp only [Pure.ofS, List.getElem_map, List.getElem_range, List.getElem_replicate]
        rw [if_neg (by omega)]
    rw [he] at this
    exact this
end Go.Proofs.Ytebbnjgaikppgaa
