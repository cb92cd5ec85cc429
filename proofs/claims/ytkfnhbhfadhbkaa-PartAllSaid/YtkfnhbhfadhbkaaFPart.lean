/- The contract of part.apart by a walk: of a list and a predicate that reads memory alone, those for which it holds and the others, each in their order, in rows of the call's own. -/
import Derived.Test.YtkfnhbhfadhbkaaProg
import Derived.Test.YtkfnhbhfadhbkaaWMore
import Derived.Lib.Hide
import Derived.Outline
namespace Go.Proofs.Ytkfnhbhfadhbkaa.FPart
open Go.RowKit Go.Proofs.YtkfnhbhfadhbkaaW.PrintWords Go.Proofs.YtkfnhbhfadhbkaaW.PrintLast Go.Proofs.YtkfnhbhfadhbkaaW.PrintMore
set_option linter.unusedVariables false
set_option linter.unusedSimpArgs false
theorem info_int : (Try.prog.info? 3).map (fun i => (i.zero, i.size, i.bytes)) = some (some (.int .i64 0), 1, 8) := by kernel_rfl
theorem info_u16 : (Try.prog.info? 56).map (fun i => (i.zero, i.size, i.bytes)) = some (some (.int .u16 0), 1, 2) := by kernel_rfl

theorem take_filter (p : Int → Bool) (l : List Int) (k : Nat) (h : k < l.length) : (l.take (k + 1)).filter p = (l.take k).filter p ++ (if p l[k] = true then [l[k]] else []) := by
  rw [List.take_succ_eq_append_getElem h, List.filter_append]
  congr 1
  by_cases hp : p l[k] = true <;> simp [hp]

def Parted (w : World) (r1 r2 : List Int) (e : Ending) (w' : World) : Prop :=
  ∃ v0 v1 : Value, e = .returned (.tuple #[v0, v1]) ∧ Kd.R (Kd.int .i64) 3 w' w.heap.size (fun k_ => some k_ ≠ (v1 : Value).ownBlock) v0 r1 ∧ Kd.R (Kd.int .i64) 3 w' w.heap.size (fun k_ => some k_ ≠ (v0 : Value).ownBlock) v1 r2 ∧ Below w.heap.size w w'

set_option maxHeartbeats 4000000 in
set_option maxRecDepth 100000 in
theorem apart_any (cf : Nat) (caps : Array Value) (pf : Int → Bool) (A : Option Addr) (c : Nat) (l : List Int) (w : World) (hr : Kd.C (Kd.int .i64) w A l.length l) (hl : l.length < 17592186044416)
    (he : ∀ args W, (callFunc cf args).run Try.prog W = .ok (.enter cf args) W)
    (hC : ∀ x ∈ l, ∀ W, Below w.heap.size w W → Calls Try.prog cf (#[.int .i64 x] ++ caps) W fun e W' => e = .returned (.bool (pf x)) ∧ Drawn0 W W') :
    Calls Try.prog 29 #[.slice A l.length c, .func (.func cf) #[] caps] w (Parted w (l.filter pf) (l.filter (fun x => !pf x))) := by
  have HR := Aside0.mk hr
  have HC := Aside0.mk hC
  clear hr hC
  go_enter Try.func29, Try.ntmps29
  go_wp2
  go_loopw [6, 7, 12] (fun u6 u7 v12 w' => ∃ k : Nat, k ≤ l.length ∧ v12 = .int .i64 k ∧ Aside0 (Kd.R (Kd.int .i64) 3 w' w.heap.size (fun k_ => some k_ ≠ (u7 : Value).ownBlock) u6 ((l.take k).filter pf)) ∧ Aside0 (Kd.R (Kd.int .i64) 3 w' w.heap.size (fun k_ => some k_ ≠ (u6 : Value).ownBlock) u7 ((l.take k).filter (fun x => !pf x))) ∧ Aside0 (Below w.heap.size w w'))
    (fun _ _ v _ => l.length - (intOf v).toNat)
  case atStart => exact ⟨0, Nat.zero_le _, rfl, ⟨by simpa using Kd.R_nil _ _ _ _ _⟩, ⟨by simpa using Kd.R_nil _ _ _ _ _⟩, ⟨Below.refl _ _⟩⟩
  case round =>
    obtain ⟨k, hk, rfl, HO6, HO7, HB⟩ := hrel
    by_cases hlt : k < l.length
    · obtain ⟨ad, e0, hx⟩ := Kd.at_int HR.out k (by omega) (by omega)
      cases e0
      replace hx := (HB.out.cell (World.block_lt_of_cell? w _ hx)).trans hx
      simp only [Int.toNat_natCast] at hx
      have hxe : rd l k = l[k] := by simp [rd, hlt]
      have h1 := take_filter pf l k hlt
      have h2 := take_filter (fun x => !pf x) l k hlt
      have hcall := HC.out l[k] (List.getElem_mem hlt) wr HB.out
      rw [hxe] at hx
      generalize l[k] = x at hx h1 h2 hcall
      cases hb : pf x with
      | true =>
        rw [hb, if_pos rfl] at h1
        rw [hb] at h2 hcall
        simp only [Bool.not_true, Bool.false_eq_true, if_false, List.append_nil] at h2
        have H1 := Aside0.mk h1
        have H2 := Aside0.mk h2
        have HCALL := Aside0.mk hcall
        clear h1 h2 hcall hb
        go_wp2_with (fail)
        refine HCALL.out.mono ?_
        rintro e w1 ⟨rfl, ⟨m, rfl⟩⟩
        clear HCALL
        go_wp2_with (first | ((with_reducible refine gate_builtin (b := .append) (xs := #[.tmp 19, .tmp 21]) rfl ?_); at_builtin; refine Kd.R_append (Kd.int .i64) (w0 := w) w.heap.size rfl (.tmp 19) (.tmp 21) 23 3 (.int .i64 0) 8 rfl Try.underlying23 info_int rfl (by decide) (by omega) u6 ((l.take k).filter pf) x [.int .i64 x] (fun k_ => some k_ ≠ (u7 : Value).ownBlock) (fun _ => False) rfl rfl ?aP (fun _ hk => hk.elim) ?aF ?aO ?aB ?aS ?aL ?_; (case aP => exact rfl); (case aB => exact pw_below_drewN HB.out m); (case aF => exact (fun k_ hk => Kd.fresh' (Kd.R_lt (Kd.R_drewN HO7.out m)) k_ hk)); (case aO => exact Kd.R_drewN HO6.out m); (case aS => exact below_size (pw_below_drewN HB.out m)); (case aL => have := List.length_filter_le pf (l.take k); have := List.length_take_le k l; omega); intro v1 w2 ho hb hg hat; have n0_ := Aside0.mk (Kd.R_after (ok := (fun _ => True)) (Kd.R_mono (Kd.R_drewN HO7.out m) (fun _ hk => ⟨trivial, hk⟩)) hg hat); have n1_ := Aside0.mk hb; have n2_ := Aside0.mk ho; clear HO6 HO7 HB; clear hb hg hat ho; have HO7 := n0_; have HB := n1_; have HO6 := n2_; clear n0_ n1_ n2_))
        go_roundw
        case rel => exact ⟨k + 1, by omega, by go_num, ⟨by rw [H1.out]; exact HO6.out⟩, ⟨by rw [H2.out]; exact Kd.R_mono HO7.out (fun _ hk => hk.2)⟩, HB⟩
        case measure => simp [intOf]; omega
      | false =>
        rw [hb] at h1 h2 hcall
        simp only [Bool.false_eq_true, if_false, List.append_nil] at h1
        simp only [Bool.not_false, if_true] at h2
        have H1 := Aside0.mk h1
        have H2 := Aside0.mk h2
        have HCALL := Aside0.mk hcall
        clear h1 h2 hcall hb
        go_wp2_with (fail)
        refine HCALL.out.mono ?_
        rintro e w1 ⟨rfl, ⟨m, rfl⟩⟩
        clear HCALL
        go_wp2_with (first | ((with_reducible refine gate_builtin (b := .append) (xs := #[.tmp 23, .tmp 25]) rfl ?_); at_builtin; refine Kd.R_append (Kd.int .i64) (w0 := w) w.heap.size rfl (.tmp 23) (.tmp 25) 23 3 (.int .i64 0) 8 rfl Try.underlying23 info_int rfl (by decide) (by omega) u7 ((l.take k).filter (fun x => !pf x)) x [.int .i64 x] (fun k_ => some k_ ≠ (u6 : Value).ownBlock) (fun _ => False) rfl rfl ?aP (fun _ hk => hk.elim) ?aF ?aO ?aB ?aS ?aL ?_; (case aP => exact rfl); (case aB => exact pw_below_drewN HB.out m); (case aF => exact (fun k_ hk => Kd.fresh' (Kd.R_lt (Kd.R_drewN HO6.out m)) k_ hk)); (case aO => exact Kd.R_drewN HO7.out m); (case aS => exact below_size (pw_below_drewN HB.out m)); (case aL => have := List.length_filter_le (fun x => !pf x) (l.take k); have := List.length_take_le k l; omega); intro v1 w2 ho hb hg hat; have n0_ := Aside0.mk (Kd.R_after (ok := (fun _ => True)) (Kd.R_mono (Kd.R_drewN HO6.out m) (fun _ hk => ⟨trivial, hk⟩)) hg hat); have n1_ := Aside0.mk hb; have n2_ := Aside0.mk ho; clear HO6 HO7 HB; clear hb hg hat ho; have HO6 := n0_; have HB := n1_; have HO7 := n2_; clear n0_ n1_ n2_))
        go_roundw
        case rel => exact ⟨k + 1, by omega, by go_num, ⟨by rw [H1.out]; exact Kd.R_mono HO6.out (fun _ hk => hk.2)⟩, ⟨by rw [H2.out]; exact HO7.out⟩, HB⟩
        case measure => simp [intOf]; omega
    · obtain rfl : k = l.length := by omega
      have HO6' := Aside0.mk (show Kd.R (Kd.int .i64) 3 wr w.heap.size (fun k_ => some k_ ≠ (u7 : Value).ownBlock) u6 (l.filter pf) by have := HO6.out; rwa [List.take_length] at this)
      have HO7' := Aside0.mk (show Kd.R (Kd.int .i64) 3 wr w.heap.size (fun k_ => some k_ ≠ (u6 : Value).ownBlock) u7 (l.filter (fun x => !pf x)) by have := HO7.out; rwa [List.take_length] at this)
      clear HO6 HO7
      go_wp2
      go_ret2
      exact ⟨_, _, rfl, HO6'.out, HO7'.out, HB.out⟩
end Go.Proofs.Ytkfnhbhfadhbkaa.FPart
