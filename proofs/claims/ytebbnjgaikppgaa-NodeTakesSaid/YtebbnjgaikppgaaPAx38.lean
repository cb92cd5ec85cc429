-- Written by a program of this session (wip/hp) out of the translation of seat Ytebbnjgaikppgaa.
import Derived.Test.YtebbnjgaikppgaaPAx0
import Derived.Test.YtebbnjgaikppgaaPAx32
import Derived.Test.YtebbnjgaikppgaaPAx33
import Derived.Test.YtebbnjgaikppgaaPAx34
import Derived.Test.YtebbnjgaikppgaaPAx35
import Derived.Test.YtebbnjgaikppgaaPAx37
namespace Go.Proofs.Ytebbnjgaikppgaa.PA
open Go.RowKit Go.Proofs.YtebbnjgaikppgaaW.PrintWords Go.Proofs.YtebbnjgaikppgaaW.PrintLast Go.Proofs.YtebbnjgaikppgaaW.PrintMore
attribute [local go_sem] max2_int min2_int max_two min_two max_three min_three max_four min_four   -- for this text's walks alone
attribute [local go_sem high] Flt.fold_eq Flt.fold_ne Flt.fold_lt Flt.fold_gt Flt.fold_le Flt.fold_ge Flt.run_bits Flt.run_frombits
set_option linter.unusedVariables false
set_option linter.unusedSimpArgs false

/-! ### node_Right: function 41, by hand -/
def node_Right.one (s0 s1 s2 s3 : Int) (x : S75) : Bool := (node_Shape_right.f 3 s0 s1 s2 s3 x.f0 x.f1 x.f2 x.f3 x.f4 x.f5).getD false
theorem node_Right.one_some (s0 s1 s2 s3 : Int) (x : S75) : node_Shape_right.f 3 s0 s1 s2 s3 x.f0 x.f1 x.f2 x.f3 x.f4 x.f5 = some (node_Right.one s0 s1 s2 s3 x) := by
  have h : ∃ r, node_Shape_right.f 3 s0 s1 s2 s3 x.f0 x.f1 x.f2 x.f3 x.f4 x.f5 = some r := by
    unfold node_Shape_right.f node_leaf.f
    simp only [Option.bind_some, node_Shape_right.j0, node_leaf.f]
    repeat (first | exact ⟨_, rfl⟩ | split)
  obtain ⟨r, h⟩ := h
  unfold node_Right.one; rw [h]; rfl
def node_Right.g (k : Nat) (l0 : List (S75)) (s0 s1 s2 s3 : Int) (d : List Int) : Option Bool :=
  (node_Shape_may.f s0 s1 s2 s3).bind fun m => if m = true then (if d.length = 0 then some false else (slices_Max_int_int.f k d).bind fun y => if y > 32 then some false else some (l0.all (node_Right.one s0 s1 s2 s3))) else some false
def node_Right.f (k : Nat) (l0 : List (S75)) (a1_0 a1_1 a1_2 a1_3 : Int) : Option (Bool) := (node_depths.f k l0).bind fun d => node_Right.g k l0 a1_0 a1_1 a1_2 a1_3 d
theorem node_Right.mono : ∀ a0 a1 a2 a3 a4 k, LeO (node_Right.f k a0 a1 a2 a3 a4) (node_Right.f (k + 1) a0 a1 a2 a3 a4) := by
  intro a0 a1 a2 a3 a4 k
  refine LeO.bind (node_depths.mono _ _) (fun d => ?_)
  unfold node_Right.g
  refine LeO.bind (LeO.refl _) (fun m => ?_)
  refine LeO.ite (LeO.ite (LeO.refl _) (LeO.bind (slices_Max_int_int.mono _ _) (fun _ => LeO.refl _))) (LeO.refl _)
theorem node_Right.any_not {α : Type} (l : List α) (p : α → Bool) : l.any (fun x => !p x) = !l.all p := by
  induction l with
  | nil => rfl
  | cons x l ih => rw [List.any_cons, List.all_cons, ih, Bool.not_and]
theorem node_Right.closure (s0 s1 s2 s3 : Int) (x : S75) (B : Nat) (W : World) (hb : W.heap[B]? = some (.cells #[.int .i64 s0, .int .i64 s1, .int .i64 s2, .int .i64 s3] 72 (0, 0))) :
    Calls Try.prog 66 #[.agg #[.int .i64 x.f0, .int .i64 x.f1, .int .i64 x.f2, .int .i64 x.f3, .int .i64 x.f4, .int .i64 x.f5], .pointer (some ⟨B, 0, none⟩)] W fun e W' => e = .returned (.bool (!node_Right.one s0 s1 s2 s3 x)) ∧ Below W.heap.size W W' := by
  have hu1 := Try.underlying75
  have hu2 := Try.underlying72
  have hb1 := fun o => blk_alloc hb o
  have hcz0 : ∀ o, (W.alloc o).cell? ⟨B, 0, none⟩ = some (.int .i64 s0) := fun o => (blk_cell (hb1 o) 0).trans rfl
  have hcz1 : ∀ o, (W.alloc o).cell? ⟨B, 1, none⟩ = some (.int .i64 s1) := fun o => (blk_cell (hb1 o) 1).trans rfl
  have hcz2 : ∀ o, (W.alloc o).cell? ⟨B, 2, none⟩ = some (.int .i64 s2) := fun o => (blk_cell (hb1 o) 2).trans rfl
  have hcz3 : ∀ o, (W.alloc o).cell? ⟨B, 3, none⟩ = some (.int .i64 s3) := fun o => (blk_cell (hb1 o) 3).trans rfl
  clear hb hb1
  have HC := Aside0.mk (fun W1 => node_Shape_right.calls 3 s0 s1 s2 s3 x.f0 x.f1 x.f2 x.f3 x.f4 x.f5 _ W1 (node_Right.one_some s0 s1 s2 s3 x))
  generalize node_Right.one s0 s1 s2 s3 x = r at HC ⊢
  go_enter Try.func66, Try.ntmps66
  go_wp2_with (fail)
  refine (HC.out _).mono ?_
  rintro e W1 ⟨rfl, hb⟩
  have HB := Aside0.mk (below_step (below_alloc (Below.refl _ W) _) hb)
  clear hb
  go_wp2
  go_ret
  exact ⟨rfl, HB.out⟩
set_option maxHeartbeats 4000000 in
set_option maxRecDepth 100000 in
theorem node_Right.index (cf : Nat) (caps : Array Value) (pf : S75 → Bool) (A : Option Addr) (c : Nat) (l : List (S75)) (w : World) (hr : Kd.C k75 w A l.length l)
    (he : ∀ args W, (callFunc cf args).run Try.prog W = .ok (.enter cf args) W)
    (hC : ∀ x ∈ l, ∀ W, Below w.heap.size w W → Calls Try.prog cf (#[.agg #[.int .i64 x.f0, .int .i64 x.f1, .int .i64 x.f2, .int .i64 x.f3, .int .i64 x.f4, .int .i64 x.f5]] ++ caps) W fun e W' => e = .returned (.bool (pf x)) ∧ Below W.heap.size W W') :
    Calls Try.prog 73 #[.slice A l.length c, .func (.func cf) #[] caps] w fun e w' => ∃ r : Int, e = .returned (.int .i64 r) ∧ (0 ≤ r ↔ l.any pf = true) ∧ Below w.heap.size w w' := by
  have hu1 := Try.underlying75
  have HR := Aside0.mk hr
  have HC := Aside0.mk hC
  have hlen := hr.2.1
  clear hr hC
  go_enter Try.func73, Try.ntmps73
  go_wp2
  go_loopw [8] (fun v8 w' => ∃ k : Nat, k ≤ l.length ∧ v8 = .int .i64 k ∧ Aside0 (∀ x ∈ l.take k, pf x = false) ∧ Aside0 (Below w.heap.size w w'))
    (fun v _ => l.length - (intOf v).toNat)
  case atStart => exact ⟨0, Nat.zero_le _, rfl, ⟨by simp⟩, ⟨Below.refl _ _⟩⟩
  case round =>
    obtain ⟨k, hk, rfl, HN, HB⟩ := hrel
    by_cases hlt : k < l.length
    · obtain ⟨ad, e0, h0, h1, h2, h3, h4, h5⟩ := at_T75 HR.out k (by omega) (by omega)
      cases e0
      simp only [Int.toNat_natCast] at h0 h1 h2 h3 h4 h5
      have hxe : rd_T75 l k = l[k] := by simp [rd_T75, hlt]
      rw [hxe] at h0 h1 h2 h3 h4 h5
      replace h0 := pw_cell_below HB.out h0
      replace h1 := pw_cell_below HB.out h1
      replace h2 := pw_cell_below HB.out h2
      replace h3 := pw_cell_below HB.out h3
      replace h4 := pw_cell_below HB.out h4
      replace h5 := pw_cell_below HB.out h5
      have hmem : l[k] ∈ l := List.getElem_mem hlt
      have htk : l.take (k + 1) = l.take k ++ [l[k]] := by rw [List.take_add_one, List.getElem?_eq_getElem hlt]; rfl
      have hcall := HC.out l[k] hmem wr HB.out
      generalize l[k] = x at h0 h1 h2 h3 h4 h5 hcall htk hmem
      have HT := Aside0.mk htk
      have HM := Aside0.mk hmem
      have HCALL := Aside0.mk hcall
      clear htk hcall hmem hxe
      cases hp : pf x with
      | true =>
        rw [hp] at HCALL
        have HP := Aside0.mk hp
        clear hp
        go_wp2_with (fail)
        refine HCALL.out.mono ?_
        rintro e w1 ⟨rfl, hb⟩
        have HB1 := Aside0.mk (below_step HB.out hb)
        clear hb
        go_wp2
        go_ret
        exact ⟨k, rfl, ⟨fun _ => List.any_eq_true.2 ⟨x, HM.out, HP.out⟩, fun _ => by omega⟩, HB1.out⟩
      | false =>
        rw [hp] at HCALL
        have HP := Aside0.mk hp
        clear hp
        go_wp2_with (fail)
        refine HCALL.out.mono ?_
        rintro e w1 ⟨rfl, hb⟩
        have HB1 := Aside0.mk (below_step HB.out hb)
        clear hb
        go_wp2
        refine ⟨⟨k + 1, by omega, by go_num, ⟨fun y hy => ?_⟩, HB1⟩, by simp [intOf]; omega⟩
        rw [HT.out, List.mem_append] at hy
        rcases hy with hy | hy
        · exact HN.out y hy
        · rw [List.mem_singleton] at hy; subst hy; exact HP.out
    · obtain rfl : k = l.length := by omega
      go_wp2
      go_ret
      refine ⟨-1, rfl, ⟨fun h => absurd h (by omega), fun h => ?_⟩, HB.out⟩
      obtain ⟨x, hx, hp⟩ := List.any_eq_true.1 h
      have := HN.out x (by rw [List.take_length]; exact hx)
      rw [hp] at this; cases this
theorem node_Right.contains (cf : Nat) (caps : Array Value) (pf : S75 → Bool) (A : Option Addr) (c : Nat) (l : List (S75)) (w : World) (hr : Kd.C k75 w A l.length l)
    (he : ∀ args W, (callFunc cf args).run Try.prog W = .ok (.enter cf args) W)
    (hC : ∀ x ∈ l, ∀ W, Below w.heap.size w W → Calls Try.prog cf (#[.agg #[.int .i64 x.f0, .int .i64 x.f1, .int .i64 x.f2, .int .i64 x.f3, .int .i64 x.f4, .int .i64 x.f5]] ++ caps) W fun e W' => e = .returned (.bool (pf x)) ∧ Below W.heap.size W W') :
    Calls Try.prog 65 #[.slice A l.length c, .func (.func cf) #[] caps] w fun e w' => e = .returned (.bool (l.any pf)) ∧ Below w.heap.size w w' := by
  have HI := Aside0.mk (node_Right.index cf caps pf A c l w hr he hC)
  clear hr hC
  generalize l.any pf = b at HI ⊢
  go_enter Try.func65, Try.ntmps65
  go_wp2_with (fail)
  refine HI.out.mono ?_
  rintro e w1 ⟨r, rfl, hiff, hb⟩
  have HF := Aside0.mk hiff
  clear hiff
  go_wp2
  go_ret
  refine ⟨?_, hb⟩
  show Ending.returned (.bool (decide (0 ≤ r))) = _
  cases b with
  | true => rw [decide_eq_true (HF.out.2 rfl)]
  | false => rw [decide_eq_false (fun h => by have := HF.out.1 h; cases this)]
set_option maxHeartbeats 4000000 in
set_option maxRecDepth 100000 in
theorem node_Right.calls (k : Nat) (A0 : Option Addr) (c0 : Nat) (l0 : List (S75)) (a1_0 : Int) (a1_1 : Int) (a1_2 : Int) (a1_3 : Int) (r : Bool) (w : World) (hr0 : Kd.C k75 w A0 l0.length l0) (hc0 : l0.length ≤ c0) (h : node_Right.f k l0 a1_0 a1_1 a1_2 a1_3 = some r) :
    Calls Try.prog 41 #[.slice A0 l0.length c0, .agg #[.int .i64 a1_0, .int .i64 a1_1, .int .i64 a1_2, .int .i64 a1_3]] w fun e w' => e = .returned (.bool r) ∧ Below w.heap.size w w' := by
  obtain ⟨d, hd, h⟩ := Option.bind_eq_some_iff.1 h
  unfold node_Right.g at h
  obtain ⟨m, hm, h⟩ := Option.bind_eq_some_iff.1 h
  have hu1 := Try.underlying75
  have hu2 := Try.underlying72
  have HR := Aside0.mk hr0
  have HC := Aside0.mk hc0
  have HD := Aside0.mk hd
  have HM := Aside0.mk hm
  have HB0 := Aside0.mk (below_alloc (Below.refl w.heap.size w) (.cells #[.int .i64 a1_0, .int .i64 a1_1, .int .i64 a1_2, .int .i64 a1_3] 72))
  have BK0 := Aside0.mk (blk_new w (.cells #[.int .i64 a1_0, .int .i64 a1_1, .int .i64 a1_2, .int .i64 a1_3] 72))
  have H := Aside0.mk h
  clear hr0 hc0 hd hm h
  have hmf : ∀ (fn : Fn) (first cap : Array Value) (W : World), (Instr.makeFunc fn first cap).run Try.prog W = .ok (.func fn first cap) W := fun _ _ _ _ => rfl
  go_enter Try.func41, Try.ntmps41
  go_wp2_with (fail)
  refine (node_depths.calls k A0 c0 l0 d _ (Kd.C_below HR.out HB0.out) HC.out HD.out).mono ?_
  rintro e w1 ⟨v, rfl, ho, hb⟩
  obtain ⟨A1, c1, rfl, hl1, hC1⟩ := Kd.R_reads ho
  have HB1 := Aside0.mk (below_step HB0.out hb)
  have BK1 := Aside0.mk (blk_below BK0.out hb)
  have HC1 := Aside0.mk hC1
  have HL1 := Aside0.mk hl1
  have hcz0 : w1.cell? ⟨w.heap.size, 0, none⟩ = some (.int .i64 a1_0) := (blk_cell BK1.out 0).trans rfl
  have hcz1 : w1.cell? ⟨w.heap.size, 1, none⟩ = some (.int .i64 a1_1) := (blk_cell BK1.out 1).trans rfl
  have hcz2 : w1.cell? ⟨w.heap.size, 2, none⟩ = some (.int .i64 a1_2) := (blk_cell BK1.out 2).trans rfl
  have hcz3 : w1.cell? ⟨w.heap.size, 3, none⟩ = some (.int .i64 a1_3) := (blk_cell BK1.out 3).trans rfl
  clear ho hb hl1 hC1 HB0 BK0
  go_wp2_with (fail)
  refine (node_Shape_may.calls a1_0 a1_1 a1_2 a1_3 m _ HM.out).mono ?_
  rintro e w2 ⟨rfl, hb⟩
  have HB2 := Aside0.mk (below_step HB1.out hb)
  have BK2 := Aside0.mk (blk_below BK1.out hb)
  have HC2 := Aside0.mk (Kd.C_below HC1.out hb)
  clear hb hcz0 hcz1 hcz2 hcz3 HB1 BK1 HC1
  cases m with
  | false =>
    have hrr : r = false := by have h := H.out; simpa using h.symm
    subst hrr
    go_wp2
    go_ret
    exact ⟨rfl, HB2.out⟩
  | true =>
    have h := H.out
    rw [if_pos rfl] at h
    by_cases hd0 : d.length = 0
    · rw [if_pos hd0] at h
      obtain rfl := Option.some.inj h
      have d0 : ((d.length : Int) == 0) = true := beq_iff_eq.2 (by omega)
      clear h H
      go_wp2
      go_ret
      exact ⟨rfl, HB2.out⟩
    · rw [if_neg hd0] at h
      have d0 : ((d.length : Int) == 0) = false := beq_eq_false_iff_ne.2 (by omega)
      obtain ⟨y, hy, h⟩ := Option.bind_eq_some_iff.1 h
      have HY := Aside0.mk hy
      have H2 := Aside0.mk h
      clear hy h H hd0
      go_wp2_with (fail)
      refine (slices_Max_int_int.calls k A1 c1 d y _ HC2.out HL1.out HY.out).mono ?_
      rintro e w3 ⟨rfl, hb⟩
      have HB3 := Aside0.mk (below_step HB2.out hb)
      have BK3 := Aside0.mk (blk_below BK2.out hb)
      clear hb HB2 BK2 HC2
      have h := H2.out
      clear H2
      by_cases hy : y > 32
      · rw [if_pos hy] at h
        obtain rfl := Option.some.inj h
        have d1 : decide (y > 32) = true := decide_eq_true hy
        clear h
        go_wp2
        go_ret
        exact ⟨rfl, HB3.out⟩
      · rw [if_neg hy] at h
        obtain rfl := Option.some.inj h
        have d1 : decide (y > 32) = false := decide_eq_false hy
        clear h
        have hall : l0.any (fun x => !node_Right.one a1_0 a1_1 a1_2 a1_3 x) = !l0.all (node_Right.one a1_0 a1_1 a1_2 a1_3) := node_Right.any_not l0 _
        have HALL := Aside0.mk hall
        clear hall
        generalize hq : l0.all (node_Right.one a1_0 a1_1 a1_2 a1_3) = q at HALL ⊢
        have HQ := Aside0.mk hq
        clear hq
        go_wp2_with (fail)
        refine (node_Right.contains 66 #[.pointer (some ⟨w.heap.size, 0, none⟩)] (fun x => !node_Right.one a1_0 a1_1 a1_2 a1_3 x) A0 c0 l0 _ (Kd.C_below HR.out HB3.out) (enters_of Try.func66 (by kernel_rfl) rfl) (fun x _ W hW => node_Right.closure a1_0 a1_1 a1_2 a1_3 x w.heap.size W (blk_below BK3.out hW))).mono ?_
        rintro e w4 ⟨rfl, hb⟩
        have HB4 := Aside0.mk (below_step HB3.out hb)
        clear hb
        rw [HALL.out]
        go_wp2
        go_ret
        exact ⟨by rw [HQ.out]; rfl, HB4.out⟩


end Go.Proofs.Ytebbnjgaikppgaa.PA
