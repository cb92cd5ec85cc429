import Derived.Test.YtlmmlhljflladaaPureRow
import Derived.Test.YtlmmlhljflladaaPureRight
import Derived.Test.YtlmmlhljflladaaPurePlace
import Derived.Test.YtlmmlhljflladaaPAx13
namespace Go.Proofs.Ytlmmlhljflladaa
open Go.RowKit Go.Proofs.YtlmmlhljflladaaW.PrintWords Go.Proofs.YtlmmlhljflladaaW.PrintLast Go.Proofs.YtlmmlhljflladaaW.PrintMore Go.Proofs.Ytlmmlhljflladaa.Pure Go.Proofs.Ytlmmlhljflladaa.PureFlt Go.Proofs.Ytlmmlhljflladaa.PureRank Go.Proofs.Ytlmmlhljflladaa.PureBin Go.Proofs.Ytlmmlhljflladaa.PureRow Go.Proofs.Ytlmmlhljflladaa.PureRight Go.Proofs.Ytlmmlhljflladaa.PA
set_option linter.unusedVariables false
set_option linter.unusedSimpArgs false
/-- The walk down a tree of one fork. -/
theorem fork_place (b x : Int) : walk_Place.f [(⟨0, b, 1, 0, 0, 0⟩ : S59), (⟨(-1), 0, 0, 0, 0, 0⟩ : S59), (⟨(-1), 0, 0, 0, 0, 0⟩ : S59)] [x] = some (if x ≤ b then 1 else 2) := by
  rw [place_eq]
  congr 1
  have r0 : rd [x] 0 = x := rfl
  have n0 : rd_T59 [(⟨0, b, 1, 0, 0, 0⟩ : S59), (⟨(-1), 0, 0, 0, 0, 0⟩ : S59), (⟨(-1), 0, 0, 0, 0, 0⟩ : S59)] 0 = ⟨0, b, 1, 0, 0, 0⟩ := rfl
  have n1 : rd_T59 [(⟨0, b, 1, 0, 0, 0⟩ : S59), (⟨(-1), 0, 0, 0, 0, 0⟩ : S59), (⟨(-1), 0, 0, 0, 0, 0⟩ : S59)] 1 = ⟨(-1), 0, 0, 0, 0, 0⟩ := rfl
  have n2 : rd_T59 [(⟨0, b, 1, 0, 0, 0⟩ : S59), (⟨(-1), 0, 0, 0, 0, 0⟩ : S59), (⟨(-1), 0, 0, 0, 0, 0⟩ : S59)] 2 = ⟨(-1), 0, 0, 0, 0, 0⟩ := rfl
  have w2 : wrap64 (1 + 1) = 2 := wrap_in (by decide) (by decide)
  generalize hL : [(⟨0, b, 1, 0, 0, 0⟩ : S59), (⟨(-1), 0, 0, 0, 0, 0⟩ : S59), (⟨(-1), 0, 0, 0, 0, 0⟩ : S59)] = L at *
  have hl : L.length = 3 := by rw [← hL]; rfl
  rw [hl]
  simp only [walkR, n0, n1, n2, r0, hl, w2]
  by_cases h : x ≤ b
  · simp [h]
  · simp [h]
theorem Pure.WalkValues : hornbeamlaw20_WalkValues.Pure := by
  intro l a b hl ha hb
  have wb := wf_u8 hb
  obtain ⟨_, _, wf⟩ := wf64 ha
  have we := of_w64 hl.2.2
  refine ⟨l.length + 1000, ?_⟩
  unfold hornbeamlaw20_WalkValues.f
  rw [of_f l (by omega) _ (by omega), Option.bind_some]
  generalize hE : l.map Flt.fbits = e at we ⊢
  have hlen : e.length = l.length := by rw [← hE]; simp
  generalize Flt.fbits a = f at wf ⊢
  rw [show wrap64 b = b from wrap_in (by omega) (by omega), show wrap64 (b - 1) = b - 1 from wrap_in (by omega) (by omega), fixed_true]
  simp only [Option.bind_some, if_true]
  by_cases h300 : (l.length : Int) > 300
  · rw [if_pos h300]
  rw [if_neg h300]
  by_cases hb1 : b < 1
  · rw [if_pos hb1]
  rw [if_neg hb1, ref_right_f e we _ (by omega), Option.bind_some]
  by_cases hr : (decide (e.length ≤ 255) && rightT e e.length 0) = true
  case neg => rw [if_neg hr]
  rw [if_pos hr]
  have hs := right_sorted (Bool.and_eq_true _ _ ▸ hr).2
  have hE1 : Es 300 [e] := by intro x hx; rw [List.mem_singleton] at hx; subst hx; exact ⟨we, by omega⟩
  have hf1 : W64 [f] := by intro x hx; rw [List.mem_singleton] at hx; subst hx; exact wf
  rw [row_f 300 (by decide) [e] [f] hE1 hf1 (by simp) _ (by simp), if_pos (by rfl)]
  simp only [Option.bind_some, rowT, List.zipWith_cons_cons, List.zipWith_nil_left, List.length_singleton]
  rw [if_pos (by trivial), if_pos (by trivial), ref_missing]
  simp only [Option.bind_some, fork_place]
  have hcl := cnt_len f e
  unfold binT
  by_cases hn : nan f
  · rw [decide_eq_true hn, if_pos rfl, if_pos hn, if_pos (show (0 : Int) ≤ b by omega)]; rfl
  · rw [decide_eq_false hn, if_neg (by decide), if_neg hn]
    by_cases hbl : b > (e.length : Int)
    · rw [if_pos hbl, if_pos (show 1 + (cnt f e : Int) ≤ b by omega)]; rfl
    · rw [if_neg hbl, if_pos (by omega), if_pos (by omega)]
      obtain ⟨j, hj⟩ : ∃ j : Nat, b - 1 = (j : Int) := ⟨(b - 1).toNat, by omega⟩
      have hje : j < e.length := by omega
      rw [hj, rdf e j hje, ref_cmp' wf (we _ (List.getElem_mem hje)) (by omega)]
      simp only [Option.bind_some]
      have hc := cnt_le (f := f) hs j hje
      by_cases hk : key f < key e[j]
      · rw [decide_eq_true (cmp_neg.mpr hk), if_pos (show 1 + (cnt f e : Int) ≤ b by have := hc.mpr hk; omega)]; rfl
      · rw [decide_eq_false (fun x => hk (cmp_neg.mp x)), if_neg (show ¬ 1 + (cnt f e : Int) ≤ b by have := fun x => hk (hc.mp x); omega)]; rfl
end Go.Proofs.Ytlmmlhljflladaa
