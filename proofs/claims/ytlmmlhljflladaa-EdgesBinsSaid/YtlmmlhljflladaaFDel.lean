/- slices.DeleteFunc at a row of float64 of the call's own: the contract. -/
import Derived.Shelf.Abstract
import Derived.Shelf.SlicesE.DeleteFunc
import Derived.Ground.SlgfProg
import Derived.Test.YtlmmlhljflladaaFSort
import Derived.Test.YtlmmlhljflladaaFlt
namespace Go.Proofs.Ytlmmlhljflladaa.FDel
open Go.RowKit Go.Shelf Go.Lib Go.Sort Go.Proofs.YtlmmlhljflladaaW.PrintWords Go.Proofs.YtlmmlhljflladaaW.PrintLast Go.Proofs.YtlmmlhljflladaaW.PrintMore
set_option linter.unusedVariables false
set_option linter.unusedSimpArgs false
def Try.delF_ren : Go.Shelf.Ren := ⟨fun | 10 => 50 | 6 => 57 | n => n, fun | 22 => 36 | 23 => 23 | 25 => 30 | 3 => 3 | 4 => 4 | 0 => 0 | n => n, fun | n => n⟩
theorem Try.delF : Go.Proofs.SlLaysH.n10 Try.prog Try.delF_ren := {
  mixed := by kernel_rfl
  f6 := ⟨Try.f57.name, by decide, Try.func57.trans (congrArg some (by kernel_rfl))⟩
  f10 := ⟨Try.f50.name, by decide, Try.func50.trans (congrArg some (by kernel_rfl))⟩
  t0 := Try.underlying0
  a0 := Try.isAgg0
  z0 := Try.sizeOf0
  v0 := Try.zeroValue0
  t3 := Try.underlying3
  a3 := Try.isAgg3
  z3 := Try.sizeOf3
  v3 := Try.zeroValue3
  t4 := Try.underlying4
  a4 := Try.isAgg4
  z4 := Try.sizeOf4
  v4 := Try.zeroValue4
  t22 := Try.underlying36
  a22 := Try.isAgg36
  z22 := Try.sizeOf36
  v22 := Try.zeroValue36
  a23 := Try.isAgg23
  z23 := Try.sizeOf23
  t25 := Try.underlying30
  a25 := Try.isAgg30
  z25 := Try.sizeOf30
  v25 := Try.zeroValue30 }
def Try.idxF_ren : Go.Shelf.Ren := ⟨fun | 6 => 57 | n => n, fun | 22 => 36 | 23 => 23 | 25 => 30 | 3 => 3 | 0 => 0 | 4 => 4 | n => n, fun | n => n⟩
theorem Try.idxF : Go.Proofs.SlLaysH.n6 Try.prog Try.idxF_ren := {
  mixed := by kernel_rfl
  f6 := ⟨Try.f57.name, by decide, Try.func57.trans (congrArg some (by kernel_rfl))⟩
  t0 := Try.underlying0
  a0 := Try.isAgg0
  z0 := Try.sizeOf0
  v0 := Try.zeroValue0
  t3 := Try.underlying3
  a3 := Try.isAgg3
  z3 := Try.sizeOf3
  v3 := Try.zeroValue3
  t4 := Try.underlying4
  a4 := Try.isAgg4
  z4 := Try.sizeOf4
  v4 := Try.zeroValue4
  t22 := Try.underlying36
  a22 := Try.isAgg36
  z22 := Try.sizeOf36
  v22 := Try.zeroValue36
  a23 := Try.isAgg23
  z23 := Try.sizeOf23
  t25 := Try.underlying30
  a25 := Try.isAgg30
  z25 := Try.sizeOf30
  v25 := Try.zeroValue30 }

abbrev enc : Nat → Value := Value.float .f64
/-- The elements that are kept. -/
def kept (pf : Nat → Bool) (l : List Nat) : List Nat := l.filter fun x => !pf x
/-- The world behind a row that has been written anew. -/
theorem put_world {w : World} {base e g cap : Nat} {ok : Nat → Prop} {l : List Nat} (h : Kd.R Flt.kf e w base ok (.slice (some ⟨g, 0, none⟩) l.length cap) l) (hne : l ≠ []) (r : List Nat) (d' : Array Nat) (hd : d'.size = l.length) (hr : r <+: d'.toList) (q : Nat) :
    Kd.C Flt.kf (putRow enc (Sort.ahead w q) g 0 d') (some ⟨g, 0, none⟩) r.length r ∧ Below base w (putRow enc (Sort.ahead w q) g 0 d') := by
  obtain ⟨h1, h2⟩ := FSort.sorted_world h hne d' hd q #[]
  have e1 : sortWorld enc w g 0 q d' #[] = putRow enc (Sort.ahead w q) g 0 d' := by unfold sortWorld; rw [grow_empty]
  rw [show FSort.enc = enc from rfl, e1] at h1 h2
  refine ⟨?_, h2⟩
  obtain ⟨A', c', he, hl, hC⟩ := Kd.R_reads h1
  injection he with e1 e2 e3
  subst e1
  have hds : d'.toList.length = l.length := by simpa using hd
  obtain ⟨t, ht⟩ := hr
  have hle : r.length ≤ d'.toList.length := by rw [← ht]; simp
  have hC2 := Kd.reads_of_C (enc := Value.float .f64) (d := (0 : Nat)) (h1 := fun _ => rfl) hC
  have h3 := hC2.take_ r.length hle
  rw [show d'.toList.take r.length = r by rw [← ht]; simp] at h3
  exact Kd.C_of_reads (h1 := fun _ => rfl) h3
theorem del_calls (pf : Nat → Bool) (g : Nat) (eg : ∀ args w, (callFunc g args).run Try.prog w = .ok (.enter g args) w)
    (hpf : ∀ (x : Nat) (W : World), Calls Try.prog g #[.float .f64 x] W fun e w' => e = .returned (.bool (pf x)) ∧ ∃ q, w' = W.drewN q)
    {w : World} {base : Nat} {ok : Nat → Prop} {A : Option Addr} {cap : Nat} {l : List Nat} (h : Kd.R Flt.kf 23 w base ok (.slice A l.length cap) l) :
    Calls Try.prog 50 #[.slice A l.length cap, .func (.func g) #[] #[]] w fun e w' =>
      ∃ A' c', e = .returned (.slice A' (kept pf l).length c') ∧ (kept pf l).length ≤ c' ∧ Kd.C Flt.kf w' A' (kept pf l).length (kept pf l) ∧ Below base w w' := by
  by_cases hne : l = []
  · subst hne
    obtain ⟨A', c', he, hlen, hC⟩ := Kd.R_reads h
    cases he
    have hcon := AnyE.slices_IndexFunc_empty (P := Try.prog) (ρ := _) Try.idxF A cap (.func (.func g) #[] #[]) 
    change ∀ w, Calls Try.prog 57 #[.slice A 0 cap, .func (.func g) #[] #[]] w _ at hcon
    have HC := Aside0.mk hC
    clear h hC hlen
    go_enter Try.func50, Try.ntmps50
    go_wp2_with (go_at_call 57; refine (hcon _).mono ?_; rintro e w' ⟨rfl, rfl⟩)
    go_ret
    exact ⟨A, cap, rfl, Nat.zero_le _, HC.out, Below.refl _ _⟩
  · obtain ⟨A', c', he, hlen, hC⟩ := Kd.R_reads h
    cases he
    have h' := h
    obtain ⟨h0, inner, ⟨hl0, ho⟩, hr⟩ := h'
    rcases ho with ⟨hv, h2⟩ | ⟨g', cap', cur, hv, hg, hh, hn, hc, hs, ht⟩
    · exact absurd (List.eq_nil_of_length_eq_zero h2) hne
    cases hv
    have hH := FSort.holds_of (cap := cap) hC ⟨cur, _, hh⟩
    have hp : PredAt Try.prog g #[] enc pf w := fun W x _ => hpf x W
    have hpo : PredOver Try.prog g #[] enc pf g' 0 l.toArray.size w := fun n os dk x _ => hpf x _
    have hsz : l.toArray.size ≤ 9223372036854775807 := by have := hC.2.1; simpa using this
    have hcon := AnyE.slices_DeleteFunc (P := Try.prog) Try.delF enc (fun _ => rfl) pf g #[] eg 0 Try.zeroValue23 g' 0 cap l.toArray w hp hpo hH hsz (by simpa using hlen)
    change Calls Try.prog 50 _ _ _ at hcon
    rw [show l.toArray.size = l.length by simp, show l.toArray.toList = l by simp] at hcon
    refine hcon.mono ?_
    rintro e w' ⟨rfl, q, rfl⟩
    have hkl : (l.filter fun x => !pf x).length ≤ l.length := List.length_filter_le _ _
    have := put_world h hne (l.filter fun x => !pf x) ((l.filter fun x => !pf x) ++ List.replicate (l.length - (l.filter fun x => !pf x).length) 0).toArray (by simp; omega) (by simp) q
    exact ⟨_, _, rfl, Nat.le_trans hkl hlen, this⟩

end Go.Proofs.Ytlmmlhljflladaa.FDel
