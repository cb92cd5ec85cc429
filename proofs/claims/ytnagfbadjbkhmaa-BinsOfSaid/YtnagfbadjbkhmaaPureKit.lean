/- Plain facts on whole numbers and lists, for the plain laws. -/
import Derived.Test.YtnagfbadjbkhmaaWMore
namespace Go.Proofs.Ytnagfbadjbkhmaa.Pure
open Go.RowKit Go.Proofs.YtnagfbadjbkhmaaW.PrintWords Go.Proofs.YtnagfbadjbkhmaaW.PrintLast Go.Proofs.YtnagfbadjbkhmaaW.PrintMore

theorem wrap_in {i : Int} (h0 : -9223372036854775808 ≤ i) (h1 : i ≤ 9223372036854775807) : wrap64 i = i := by
  unfold wrap64
  omega
theorem wf_i64 {x : Int} (h : (Lit.int .i64 x).wf = true) : -9223372036854775808 ≤ x ∧ x ≤ 9223372036854775807 := by
  simp [Lit.wf, IntKind.min, IntKind.max, IntKind.signed, IntKind.bits] at h; omega
theorem wf_u16 {x : Int} (h : (Lit.int .u16 x).wf = true) : 0 ≤ x ∧ x ≤ 65535 := by
  simp [Lit.wf, IntKind.min, IntKind.max, IntKind.signed, IntKind.bits] at h; omega
theorem wf_u8 {x : Int} (h : (Lit.int .u8 x).wf = true) : 0 ≤ x ∧ x ≤ 255 := by
  simp [Lit.wf, IntKind.min, IntKind.max, IntKind.signed, IntKind.bits] at h; omega
theorem wf_u64 {x : Int} (h : (Lit.int .u64 x).wf = true) : 0 ≤ x ∧ x ≤ 18446744073709551615 := by
  simp [Lit.wf, IntKind.min, IntKind.max, IntKind.signed, IntKind.bits] at h; omega
theorem rd_nat (l : List Int) (i : Nat) (h : i < l.length) : rd l (i : Int) = l[i] := by simp [rd, h]
theorem rd_mem {l : List Int} {i : Int} (h0 : 0 ≤ i) (h1 : i < l.length) : rd l i ∈ l := by
  have : i.toNat < l.length := by omega
  simp [rd, List.getD_eq_getElem?_getD, this]
theorem rd_u16 {l : List Int} (h : ∀ x ∈ l, (Lit.int .u16 x).wf = true) (i : Int) : 0 ≤ rd l i ∧ rd l i ≤ 65535 := by
  by_cases hi : i.toNat < l.length
  · have : rd l i ∈ l := by simp [rd, List.getD_eq_getElem?_getD, hi]
    exact wf_u16 (h _ this)
  · have : rd l i = 0 := by simp [rd, List.getD_eq_getElem?_getD, List.getElem?_eq_none (show l.length ≤ i.toNat by omega)]
    omega
theorem drop_rd (l : List Int) (i : Nat) (h : i < l.length) : l.drop i = rd l (i : Int) :: l.drop (i + 1) := by
  rw [rd_nat l i h]; exact List.drop_eq_getElem_cons h
theorem take_rd (l : List Int) (i : Nat) (h : i < l.length) : l.take (i + 1) = l.take i ++ [rd l (i : Int)] := by
  rw [rd_nat l i h]; exact List.take_succ_eq_append_getElem h
end Go.Proofs.Ytnagfbadjbkhmaa.Pure
