-- Written by a program of this session (wip/hp) out of the translation of seat Ytkfnhbhfadhbkaa.
import Derived.Test.YtkfnhbhfadhbkaaPAx0
namespace Go.Proofs.Ytkfnhbhfadhbkaa.PA
open Go.RowKit Go.Proofs.YtkfnhbhfadhbkaaW.PrintWords Go.Proofs.YtkfnhbhfadhbkaaW.PrintLast Go.Proofs.YtkfnhbhfadhbkaaW.PrintMore
attribute [local go_sem] max2_int min2_int max_two min_two max_three min_three max_four min_four   -- for this text's walks alone
set_option linter.unusedVariables false
set_option linter.unusedSimpArgs false

/-! ### hornbeamref17_Drawn: function 19 -/
def hornbeamref17_Drawn.l0 : Nat → List Int → List Int → List Int → Int → Option (List Int × List Int)
  | 0, _, _, _, _ => none
  | k + 1, x0, x4, x5, x6 => if x6 < (x0.length : Int) then (if 0 ≤ x6 then (if (rd x0 x6) > 0 then (if x4.length < 17592186044416 then (hornbeamref17_Drawn.l0 k x0 (x4 ++ [x6]) x5 (wrap64 (x6 + 1))) else (none)) else (if x5.length < 17592186044416 then (hornbeamref17_Drawn.l0 k x0 x4 (x5 ++ [x6]) (wrap64 (x6 + 1))) else (none))) else (none)) else (some (x4, x5))
def hornbeamref17_Drawn.f (k : Nat) (l0 : List Int) : Option (List Int × List Int) := hornbeamref17_Drawn.l0 k l0 (([] : List Int)) (([] : List Int)) 0
theorem hornbeamref17_Drawn.mono_l : ∀ k, (∀ y0 y1 y2 y3, LeO (hornbeamref17_Drawn.l0 k y0 y1 y2 y3) (hornbeamref17_Drawn.l0 (k + 1) y0 y1 y2 y3))
  | 0 => fun _ _ _ _ r h => by simp [hornbeamref17_Drawn.l0] at h
  | k + 1 => by
    have ih0 := hornbeamref17_Drawn.mono_l k
    · intro y0 y1 y2 y3
      unfold hornbeamref17_Drawn.l0
      repeat' first
      | (with_reducible exact ih0 _ _ _ _)
      | (with_reducible exact LeO.refl _)
      | (with_reducible exact LeO.none _)
      | (with_reducible refine LeO.ite ?_ ?_)
      | (with_reducible refine LeO.bind ?_ (fun _ => ?_))
      | exact ih0 _ _ _ _
      | exact LeO.none _
      | refine LeO.ite ?_ ?_
      | refine LeO.bind ?_ (fun _ => ?_)
theorem hornbeamref17_Drawn.mono : ∀ a0 k, LeO (hornbeamref17_Drawn.f k a0) (hornbeamref17_Drawn.f (k + 1) a0) := by
  intro a0 k
  have ih0 := hornbeamref17_Drawn.mono_l k
  unfold hornbeamref17_Drawn.f
  repeat' first
      | (with_reducible exact ih0 _ _ _ _)
      | (with_reducible exact LeO.refl _)
      | (with_reducible exact LeO.none _)
      | (with_reducible refine LeO.ite ?_ ?_)
      | (with_reducible refine LeO.bind ?_ (fun _ => ?_))
      | exact ih0 _ _ _ _
      | exact LeO.none _
      | refine LeO.ite ?_ ?_
      | refine LeO.bind ?_ (fun _ => ?_)
set_option maxHeartbeats 8000000 in
set_option maxRecDepth 100000 in
theorem hornbeamref17_Drawn.calls (k : Nat) (A0 : Option Addr) (c0 : Nat) (l0 : List Int) (r1 : List Int) (r2 : List Int) (w : World) (hr0 : Kd.C (Kd.int .i64) w A0 l0.length l0) (hc0 : l0.length ≤ c0) (h : hornbeamref17_Drawn.f k l0 = some (r1, r2)) :
    Calls Try.prog 19 #[.slice A0 l0.length c0] w fun e w' => ∃ v0_ v1_ : Value, e = .returned (.tuple #[v0_, v1_]) ∧ Kd.R (Kd.int .i64) 3 w' w.heap.size (fun k_ => some k_ ≠ (v1_ : Value).ownBlock) v0_ r1 ∧ Kd.R (Kd.int .i64) 3 w' w.heap.size (fun k_ => some k_ ≠ (v0_ : Value).ownBlock) v1_ r2 ∧ Below w.heap.size w w' := by
  have HR0 := Aside0.mk hr0
  have HC0 := Aside0.mk hc0
  clear hr0 hc0
  have HB := Aside0.mk (Below.refl w.heap.size w)
  have H : (hornbeamref17_Drawn.l0 k l0 (([] : List Int)) (([] : List Int)) 0) = some (r1, r2) := h
  clear h
  obtain ⟨y327, hy327⟩ : ∃ y_ : List Int, y_ = (([] : List Int)) := ⟨_, rfl⟩
  replace H : (hornbeamref17_Drawn.l0 k l0 y327 (([] : List Int)) 0) = some (r1, r2) := by first | (rw [hy327]; with_reducible exact H) | (have H2_ := (Option.bind_some _ _).symm.trans H; rw [hy327]; with_reducible exact H2_) | (have H2_ := (Option.bind_some _ _).symm.trans H; with_reducible exact H2_) | with_reducible exact H | (rw [hy327]; exact H) | exact H
  have Ny327 := Aside0.mk hy327
  clear hy327
  obtain ⟨y330, hy330⟩ : ∃ y_ : List Int, y_ = (([] : List Int)) := ⟨_, rfl⟩
  replace H : (hornbeamref17_Drawn.l0 k l0 y327 y330 0) = some (r1, r2) := by first | (rw [hy330]; with_reducible exact H) | (have H2_ := (Option.bind_some _ _).symm.trans H; rw [hy330]; with_reducible exact H2_) | (have H2_ := (Option.bind_some _ _).symm.trans H; with_reducible exact H2_) | with_reducible exact H | (rw [hy330]; exact H) | exact H
  have Ny330 := Aside0.mk hy330
  clear hy330
  have H' := Aside0.mk H
  clear H
  go_enter Try.func19, Try.ntmps19
  go_wp2_with (first | ((with_reducible refine gate_dst (N := 7) rfl ?_); refine Kd.R_lit (Kd.int .i64) _ 3 ?hg (N := 7) ?hd (xs := ([] : List Int)) (inner := []) (ok := fun _ => True) (okp := fun _ => True) ?hr ?hp (fun _ hk => hk) trivial (Below.refl _ _) (Nat.le_refl _) (by simp) ?_; (case hd => rfl); (case hg => rfl); (case hr => first | (go_simp; done) | (go_simp; rfl)); (case hp => exact (Reps.none _ _)); intro v328 w2 ho3 hb hg_ hnew_; clear hg_ hnew_; (first | rw [← Ny327.out] at ho3 | (simp only [Int.reduceToNat] at ho3; rw [← Ny327.out] at ho3)); have n0_ := Aside0.mk (Kd.R_lower ho3 (below_size (by repeat (first | (with_reducible first | exact HB.out | apply below_alloc | apply pw_below_drewN | apply below_drew1) | exact HB.out)))); have n1_ := Aside0.mk (below_step (by repeat (first | (with_reducible first | exact HB.out | apply below_alloc | apply pw_below_drewN | apply below_drew1) | exact HB.out)) hb); clear HB; have HO329 := n0_; have HB := n1_; clear n0_ n1_; clear hb ho3) | ((with_reducible refine gate_dst (N := 8) rfl ?_); refine Kd.R_lit (Kd.int .i64) _ 3 ?hg (N := 8) ?hd (xs := ([] : List Int)) (inner := []) (ok := fun _ => True) (okp := fun _ => True) ?hr ?hp (fun _ hk => hk) trivial (Below.refl _ _) (Nat.le_refl _) (by simp) ?_; (case hd => rfl); (case hg => rfl); (case hr => first | (go_simp; done) | (go_simp; rfl)); (case hp => exact (Reps.none _ _)); intro v331 w4 ho5 hb hg_ hnew_; clear hg_ hnew_; (first | rw [← Ny330.out] at ho5 | (simp only [Int.reduceToNat] at ho5; rw [← Ny330.out] at ho5)); have n0_ := Aside0.mk (Kd.R_elder' (by (with_reducible repeat (first | apply Kd.R_alloc | apply Kd.R_drewN | apply Kd.R_drew)); exact HO329.out) (Kd.R_base ho5) hb); have n1_ := Aside0.mk (Kd.R_lower (Kd.R_new' ho5 (Kd.R_lt (by (with_reducible repeat (first | apply Kd.R_alloc | apply Kd.R_drewN | apply Kd.R_drew)); exact HO329.out))) (below_size (by repeat (first | (with_reducible first | exact HB.out | apply below_alloc | apply pw_below_drewN | apply below_drew1) | exact HB.out)))); have n2_ := Aside0.mk (below_step (by repeat (first | (with_reducible first | exact HB.out | apply below_alloc | apply pw_below_drewN | apply below_drew1) | exact HB.out)) hb); clear HO329; clear HB; have HO329 := n0_; have HO332 := n1_; have HB := n2_; clear n0_ n1_ n2_; clear hb ho5))
  go_loopg [4, 5, 6] k (fun kq v4 v5 v6 w' => ∃ (x4_1 : List Int) (x5_1 : List Int) (x6_1 : Int), v6 = .int .i64 x6_1 ∧ Aside0 (hornbeamref17_Drawn.l0 kq l0 x4_1 x5_1 x6_1 = some (r1, r2)) ∧ Aside0 (kq ≤ k) ∧ Aside0 (Kd.R (Kd.int .i64) 3 w' w.heap.size (fun k_ => some k_ ≠ (v5 : Value).ownBlock) v4 x4_1) ∧ Aside0 (Kd.R (Kd.int .i64) 3 w' w.heap.size (fun k_ => some k_ ≠ (v4 : Value).ownBlock) v5 x5_1) ∧ Aside0 (Below w.heap.size w w'))
  case atStart => exact ⟨(y327), (y330), (0), (by first | rfl | (simp; done) | (simp [*]; done)), H', ⟨Nat.le_refl _⟩, ⟨by (with_reducible repeat (first | apply Kd.R_alloc | apply Kd.R_drewN | apply Kd.R_drew)); exact Kd.R_mono HO329.out (fun _ hk => hk.2)⟩, ⟨by (with_reducible repeat (first | apply Kd.R_alloc | apply Kd.R_drewN | apply Kd.R_drew)); exact Kd.R_mono HO332.out (fun _ hk => hk.2)⟩, ⟨by repeat (first | (with_reducible first | exact HB.out | apply below_alloc | apply pw_below_drewN | apply below_drew1) | exact HB.out)⟩⟩
  case round =>
    clear H'
    try clear c1
    try clear p2
    obtain ⟨x4_1, x5_1, x6_1, rfl, HA, HK1, HO_4, HO_5, HB⟩ := hrel
    cases gk with
    | zero => exact absurd HA.out (by simp [hornbeamref17_Drawn.l0])
    | succ k1 =>
      have H := HA.out
      clear HA
      simp only [hornbeamref17_Drawn.l0] at H
      by_cases c6 : x6_1 < (l0.length : Int)
      · rw [if_pos c6] at H
        have c6b0 : decide (x6_1 < (l0.length : Int)) = true := decide_eq_true c6
        clear c6
        by_cases c7 : 0 ≤ x6_1
        · rw [if_pos c7] at H
          have c7b0 : decide (0 ≤ x6_1) = true := decide_eq_true c7
          clear c7
          by_cases c8 : (rd l0 x6_1) > 0
          · rw [if_pos c8] at H
            have c8b0 : decide (0 < (rd l0 x6_1)) = true := decide_eq_true c8
            clear c8
            by_cases c9 : x4_1.length < 17592186044416
            · rw [if_pos c9] at H
              have LMc9 := Aside0.mk c9
              clear c9
              obtain ⟨y334, hy334⟩ : ∃ y_ : List Int, y_ = (x4_1 ++ [x6_1]) := ⟨_, rfl⟩
              replace H : (hornbeamref17_Drawn.l0 k1 l0 y334 x5_1 (wrap64 (x6_1 + 1))) = some (r1, r2) := by first | (rw [hy334]; with_reducible exact H) | (have H2_ := (Option.bind_some _ _).symm.trans H; rw [hy334]; with_reducible exact H2_) | (have H2_ := (Option.bind_some _ _).symm.trans H; with_reducible exact H2_) | with_reducible exact H | (rw [hy334]; exact H) | exact H
              have Ny334 := Aside0.mk hy334
              clear hy334
              have H' := Aside0.mk H
              clear H
              have p333 : 0 ≤ (x6_1 : Int) := of_decide_eq_true (by first | (with_reducible assumption) | assumption)
              have q333 : x6_1 < (l0.length : Int) := of_decide_eq_true (by first | (with_reducible assumption) | assumption)
              obtain ⟨ad333, e333, hx333_0⟩ := Kd.at_int HR0.out x6_1 p333 q333
              cases e333
              replace hx333_0 := (HB.out.cell (World.block_lt_of_cell? w _ hx333_0)).trans hx333_0
              replace p333 := eq_true p333
              replace q333 := eq_true q333
              go_wp2_with (first | ((with_reducible refine gate_builtin (b := .append) (xs := #[.tmp 20, .tmp 22]) rfl ?_); at_builtin; refine Kd.R_append (Kd.int .i64) (w0 := w) w.heap.size rfl (.tmp 20) (.tmp 22) 23 3 (.int .i64 0) 8 rfl Try.underlying23 info3 rfl (by decide) (by omega) u4 x4_1 x6_1 [.int .i64 x6_1] (fun k_ => some k_ ≠ (u5 : Value).ownBlock) (fun _ => False) rfl rfl ?aP (fun _ hk => hk.elim) ?aF ?aO ?aB ?aS ?aL ?_; (case aP => exact rfl); (case aB => exact (by repeat (first | (with_reducible first | exact HB.out | apply below_alloc | apply pw_below_drewN | apply below_drew1) | exact HB.out))); (case aF => exact (fun k_ hk => Kd.fresh' (Kd.R_lt (by (with_reducible repeat (first | apply Kd.R_alloc | apply Kd.R_drewN | apply Kd.R_drew)); exact HO_5.out)) k_ hk)); (case aO => exact (by (with_reducible repeat (first | apply Kd.R_alloc | apply Kd.R_drewN | apply Kd.R_drew)); exact HO_4.out)); (case aS => exact (below_size (by repeat (first | (with_reducible first | exact HB.out | apply below_alloc | apply pw_below_drewN | apply below_drew1) | exact HB.out)))); (case aL => have := LMc9.out; omega); intro v335 w10 ho hb hg hat; rw [← Ny334.out] at ho; have n0_ := Aside0.mk (Kd.R_after (ok := (fun _ => True)) (by (with_reducible repeat (first | apply Kd.R_alloc | apply Kd.R_drewN | apply Kd.R_drew)); exact Kd.R_mono HO_5.out (fun _ hk => ⟨trivial, hk⟩)) hg hat); have n1_ := Aside0.mk (hb); have n2_ := Aside0.mk (ho); clear HO_5; clear HB; clear HO_4; have HO_5 := n0_; have HB := n1_; have HO336 := n2_; clear n0_ n1_ n2_; clear ho hb hg hat))
              go_roundg k1
              case measure => have := HK1.out; omega
              case rel => exact ⟨(y334), (x5_1), (wrap64 (x6_1 + 1)), (by first | rfl | (simp; done) | (simp [*]; done)), H', ⟨by have := HK1.out; omega⟩, ⟨by (with_reducible repeat (first | apply Kd.R_alloc | apply Kd.R_drewN | apply Kd.R_drew)); exact HO336.out⟩, ⟨by (with_reducible repeat (first | apply Kd.R_alloc | apply Kd.R_drewN | apply Kd.R_drew)); exact Kd.R_mono HO_5.out (fun _ hk => hk.2)⟩, ⟨by repeat (first | (with_reducible first | exact HB.out | apply below_alloc | apply pw_below_drewN | apply below_drew1) | exact HB.out)⟩⟩
            · rw [if_neg c9] at H
              exact absurd H (by simp)
          · rw [if_neg c8] at H
            have c8b0 : decide (0 < (rd l0 x6_1)) = false := decide_eq_false c8
            clear c8
            by_cases c11 : x5_1.length < 17592186044416
            · rw [if_pos c11] at H
              have LMc11 := Aside0.mk c11
              clear c11
              obtain ⟨y337, hy337⟩ : ∃ y_ : List Int, y_ = (x5_1 ++ [x6_1]) := ⟨_, rfl⟩
              replace H : (hornbeamref17_Drawn.l0 k1 l0 x4_1 y337 (wrap64 (x6_1 + 1))) = some (r1, r2) := by first | (rw [hy337]; with_reducible exact H) | (have H2_ := (Option.bind_some _ _).symm.trans H; rw [hy337]; with_reducible exact H2_) | (have H2_ := (Option.bind_some _ _).symm.trans H; with_reducible exact H2_) | with_reducible exact H | (rw [hy337]; exact H) | exact H
              have Ny337 := Aside0.mk hy337
              clear hy337
              have H' := Aside0.mk H
              clear H
              have p333 : 0 ≤ (x6_1 : Int) := of_decide_eq_true (by first | (with_reducible assumption) | assumption)
              have q333 : x6_1 < (l0.length : Int) := of_decide_eq_true (by first | (with_reducible assumption) | assumption)
              obtain ⟨ad333, e333, hx333_0⟩ := Kd.at_int HR0.out x6_1 p333 q333
              cases e333
              replace hx333_0 := (HB.out.cell (World.block_lt_of_cell? w _ hx333_0)).trans hx333_0
              replace p333 := eq_true p333
              replace q333 := eq_true q333
              go_wp2_with (first | ((with_reducible refine gate_builtin (b := .append) (xs := #[.tmp 24, .tmp 26]) rfl ?_); at_builtin; refine Kd.R_append (Kd.int .i64) (w0 := w) w.heap.size rfl (.tmp 24) (.tmp 26) 23 3 (.int .i64 0) 8 rfl Try.underlying23 info3 rfl (by decide) (by omega) u5 x5_1 x6_1 [.int .i64 x6_1] (fun k_ => some k_ ≠ (u4 : Value).ownBlock) (fun _ => False) rfl rfl ?aP (fun _ hk => hk.elim) ?aF ?aO ?aB ?aS ?aL ?_; (case aP => exact rfl); (case aB => exact (by repeat (first | (with_reducible first | exact HB.out | apply below_alloc | apply pw_below_drewN | apply below_drew1) | exact HB.out))); (case aF => exact (fun k_ hk => Kd.fresh' (Kd.R_lt (by (with_reducible repeat (first | apply Kd.R_alloc | apply Kd.R_drewN | apply Kd.R_drew)); exact HO_4.out)) k_ hk)); (case aO => exact (by (with_reducible repeat (first | apply Kd.R_alloc | apply Kd.R_drewN | apply Kd.R_drew)); exact HO_5.out)); (case aS => exact (below_size (by repeat (first | (with_reducible first | exact HB.out | apply below_alloc | apply pw_below_drewN | apply below_drew1) | exact HB.out)))); (case aL => have := LMc11.out; omega); intro v338 w12 ho hb hg hat; rw [← Ny337.out] at ho; have n0_ := Aside0.mk (Kd.R_after (ok := (fun _ => True)) (by (with_reducible repeat (first | apply Kd.R_alloc | apply Kd.R_drewN | apply Kd.R_drew)); exact Kd.R_mono HO_4.out (fun _ hk => ⟨trivial, hk⟩)) hg hat); have n1_ := Aside0.mk (hb); have n2_ := Aside0.mk (ho); clear HO_4; clear HB; clear HO_5; have HO_4 := n0_; have HB := n1_; have HO339 := n2_; clear n0_ n1_ n2_; clear ho hb hg hat))
              go_roundg k1
              case measure => have := HK1.out; omega
              case rel => exact ⟨(x4_1), (y337), (wrap64 (x6_1 + 1)), (by first | rfl | (simp; done) | (simp [*]; done)), H', ⟨by have := HK1.out; omega⟩, ⟨by (with_reducible repeat (first | apply Kd.R_alloc | apply Kd.R_drewN | apply Kd.R_drew)); exact Kd.R_mono HO_4.out (fun _ hk => hk.2)⟩, ⟨by (with_reducible repeat (first | apply Kd.R_alloc | apply Kd.R_drewN | apply Kd.R_drew)); exact HO339.out⟩, ⟨by repeat (first | (with_reducible first | exact HB.out | apply below_alloc | apply pw_below_drewN | apply below_drew1) | exact HB.out)⟩⟩
            · rw [if_neg c11] at H
              exact absurd H (by simp)
        · rw [if_neg c7] at H
          exact absurd H (by simp)
      · rw [if_neg c6] at H
        have c6b0 : decide (x6_1 < (l0.length : Int)) = false := decide_eq_false c6
        clear c6
        simp only [Option.some.injEq, Prod.mk.injEq] at H
        obtain ⟨rfl, rfl⟩ := H
        go_wp2
        go_ret2
        exact ⟨_, _, by first | rfl | (simp [errW_none, errW_some] <;> rfl) | (simp [*, errW_none, errW_some] <;> rfl), by (with_reducible repeat (first | apply Kd.R_alloc | apply Kd.R_drewN | apply Kd.R_drew)); exact HO_4.out, by (with_reducible repeat (first | apply Kd.R_alloc | apply Kd.R_drewN | apply Kd.R_drew)); exact HO_5.out, by repeat (first | (with_reducible first | exact HB.out | apply below_alloc | apply pw_below_drewN | apply below_drew1) | exact HB.out)⟩

/-! ### part_numbers: function 32 -/
def part_numbers.l0 : Nat → List Int → Int → Int → Option (List Int)
  | 0, _, _, _ => none
  | k + 1, x3, x9, x10 => if x10 < x9 then (if 0 ≤ x10 then (if x10 < (x3.length : Int) then (part_numbers.l0 k (x3.set (x10 : Int).toNat x10) x9 (wrap64 (x10 + 1))) else (none)) else (none)) else (some x3)
def part_numbers.f (k : Nat) (l0 : List Int) : Option (List Int) := if 0 ≤ (l0.length : Int) then (if ((l0.length : Int) : Int).toNat ≤ 35184372088832 then ((some (List.replicate ((l0.length : Int) : Int).toNat 0 : List Int)).bind fun y340 => (part_numbers.l0 k y340 (y340.length : Int) 0)) else (none)) else (none)
theorem part_numbers.mono_l : ∀ k, (∀ y0 y1 y2, LeO (part_numbers.l0 k y0 y1 y2) (part_numbers.l0 (k + 1) y0 y1 y2))
  | 0 => fun _ _ _ r h => by simp [part_numbers.l0] at h
  | k + 1 => by
    have ih0 := part_numbers.mono_l k
    · intro y0 y1 y2
      unfold part_numbers.l0
      repeat' first
      | (with_reducible exact ih0 _ _ _)
      | (with_reducible exact LeO.refl _)
      | (with_reducible exact LeO.none _)
      | (with_reducible refine LeO.ite ?_ ?_)
      | (with_reducible refine LeO.bind ?_ (fun _ => ?_))
      | exact ih0 _ _ _
      | exact LeO.none _
      | refine LeO.ite ?_ ?_
      | refine LeO.bind ?_ (fun _ => ?_)
theorem part_numbers.mono : ∀ a0 k, LeO (part_numbers.f k a0) (part_numbers.f (k + 1) a0) := by
  intro a0 k
  have ih0 := part_numbers.mono_l k
  unfold part_numbers.f
  repeat' first
      | (with_reducible exact ih0 _ _ _)
      | (with_reducible exact LeO.refl _)
      | (with_reducible exact LeO.none _)
      | (with_reducible refine LeO.ite ?_ ?_)
      | (with_reducible refine LeO.bind ?_ (fun _ => ?_))
      | exact ih0 _ _ _
      | exact LeO.none _
      | refine LeO.ite ?_ ?_
      | refine LeO.bind ?_ (fun _ => ?_)
set_option maxHeartbeats 8000000 in
set_option maxRecDepth 100000 in
theorem part_numbers.calls (k : Nat) (A0 : Option Addr) (c0 : Nat) (l0 : List Int) (r : List Int) (w : World) (hr0 : Kd.C (Kd.int .i64) w A0 l0.length l0) (hc0 : l0.length ≤ c0) (h : part_numbers.f k l0 = some r) :
    Calls Try.prog 32 #[.slice A0 l0.length c0] w fun e w' => ∃ v0_ : Value, e = .returned (v0_) ∧ Kd.R (Kd.int .i64) 3 w' w.heap.size (fun _ => True) v0_ r ∧ Below w.heap.size w w' := by
  have HR0 := Aside0.mk hr0
  have HC0 := Aside0.mk hc0
  clear hr0 hc0
  have HB := Aside0.mk (Below.refl w.heap.size w)
  have H : (if 0 ≤ (l0.length : Int) then (if ((l0.length : Int) : Int).toNat ≤ 35184372088832 then ((some (List.replicate ((l0.length : Int) : Int).toNat 0 : List Int)).bind fun y340 => (part_numbers.l0 k y340 (y340.length : Int) 0)) else (none)) else (none)) = some r := h
  clear h
  by_cases c2 : 0 ≤ (l0.length : Int)
  · rw [if_pos c2] at H
    have c2b0 := eq_true c2
    have c2b1 : decide (0 ≤ (l0.length : Int)) = true := decide_eq_true c2
    clear c2
    by_cases c3 : ((l0.length : Int) : Int).toNat ≤ 35184372088832
    · rw [if_pos c3] at H
      have c3b0 := eq_true c3
      have c3b1 : decide (((l0.length : Int) : Int).toNat ≤ 35184372088832) = true := decide_eq_true c3
      clear c3
      obtain ⟨y340, hy340⟩ : ∃ y_ : List Int, y_ = (List.replicate ((l0.length : Int) : Int).toNat 0) := ⟨_, rfl⟩
      replace H : (part_numbers.l0 k y340 (y340.length : Int) 0) = some r := by first | (rw [hy340]; with_reducible exact H) | (have H2_ := (Option.bind_some _ _).symm.trans H; rw [hy340]; with_reducible exact H2_) | (have H2_ := (Option.bind_some _ _).symm.trans H; with_reducible exact H2_) | with_reducible exact H | (rw [hy340]; exact H) | exact H
      have Ny340 := Aside0.mk hy340
      clear hy340
      have H' := Aside0.mk H
      clear H
      go_enter Try.func32, Try.ntmps32
      go_wp2_with (first | ((with_reducible refine gate_dst (N := 7) rfl ?_); refine Kd.R_make (Kd.int .i64) _ 3 rfl (N := 7) rfl 23 _ _ rfl (l0.length : Int) rfl rfl Try.underlying23 (.int .i64 0) 8 info3 rfl (by decide) (by omega) 0 (ok := fun _ => True) (okp := fun _ => True) rfl (fun _ hk => hk) trivial (of_decide_eq_true (by first | (with_reducible assumption) | assumption)) (Nat.le_trans (Nat.mul_le_mul_right _ (of_decide_eq_true (by first | (with_reducible assumption) | assumption) : (l0.length : Int).toNat ≤ 35184372088832)) (by omega)) (Below.refl _ _) (Nat.le_refl _) ?_; intro v341 w4 ho5 hb hg_ hnew_; clear hg_ hnew_; (first | rw [← Ny340.out] at ho5 | (simp only [Int.reduceToNat] at ho5; rw [← Ny340.out] at ho5)); have n0_ := Aside0.mk (Kd.R_lower ho5 (below_size (by repeat (first | (with_reducible first | exact HB.out | apply below_alloc | apply pw_below_drewN | apply below_drew1) | exact HB.out)))); have n1_ := Aside0.mk (below_step (by repeat (first | (with_reducible first | exact HB.out | apply below_alloc | apply pw_below_drewN | apply below_drew1) | exact HB.out)) hb); clear HB; have HO342 := n0_; have HB := n1_; clear n0_ n1_; clear hb ho5; obtain ⟨Ao6, co6, eo6⟩ := Kd.R_slice HO342.out; subst eo6))
      go_loopg [10] k (fun kq v10 w' => ∃ (x3_1 : List Int) (x10_1 : Int), v10 = .int .i64 x10_1 ∧ Aside0 (part_numbers.l0 kq x3_1 (y340.length : Int) x10_1 = some r) ∧ Aside0 (kq ≤ k) ∧ Aside0 (Kd.R (Kd.int .i64) 3 w' w.heap.size (fun _ => True) (.slice Ao6 y340.length co6) x3_1) ∧ Aside0 (Below w.heap.size w w'))
      case atStart => exact ⟨(y340), (0), (by first | rfl | (simp; done) | (simp [*]; done)), H', ⟨Nat.le_refl _⟩, ⟨by (with_reducible repeat (first | apply Kd.R_alloc | apply Kd.R_drewN | apply Kd.R_drew)); exact HO342.out⟩, ⟨by repeat (first | (with_reducible first | exact HB.out | apply below_alloc | apply pw_below_drewN | apply below_drew1) | exact HB.out)⟩⟩
      case round =>
        clear H'
        try clear c2
        try clear c2b0
        try clear c2b1
        try clear p2
        try clear c3
        try clear c3b0
        try clear c3b1
        obtain ⟨x3_1, x10_1, rfl, HA, HK1, HO_3, HB⟩ := hrel
        have hl3_1 := (Kd.R_reads' HO_3.out).1
        rw [hl3_1] at HO_3
        (try simp only [hl3_1])
        cases gk with
        | zero => exact absurd HA.out (by simp [part_numbers.l0])
        | succ k1 =>
          have H := HA.out
          clear HA
          simp only [part_numbers.l0] at H
          by_cases c7 : x10_1 < (y340.length : Int)
          · rw [if_pos c7] at H
            have c7b0 : decide (x10_1 < (y340.length : Int)) = true := decide_eq_true c7
            (try (have c7b0l := c7b0; simp only [hl3_1] at c7b0l))
            clear c7
            by_cases c8 : 0 ≤ x10_1
            · rw [if_pos c8] at H
              have c8b0 : decide (0 ≤ x10_1) = true := decide_eq_true c8
              (try (have c8b0l := c8b0; simp only [hl3_1] at c8b0l))
              clear c8
              by_cases c9 : x10_1 < (x3_1.length : Int)
              · rw [if_pos c9] at H
                have c9b0 : decide (x10_1 < (x3_1.length : Int)) = true := decide_eq_true c9
                (try (have c9b0l := c9b0; simp only [hl3_1] at c9b0l))
                clear c9
                obtain ⟨y343, hy343⟩ : ∃ y_ : List Int, y_ = (x3_1.set (x10_1 : Int).toNat x10_1) := ⟨_, rfl⟩
                replace H : (part_numbers.l0 k1 y343 (y340.length : Int) (wrap64 (x10_1 + 1))) = some r := by first | (rw [hy343]; with_reducible exact H) | (have H2_ := (Option.bind_some _ _).symm.trans H; rw [hy343]; with_reducible exact H2_) | (have H2_ := (Option.bind_some _ _).symm.trans H; with_reducible exact H2_) | with_reducible exact H | (rw [hy343]; exact H) | exact H
                have Ny343 := Aside0.mk hy343
                clear hy343
                have H' := Aside0.mk H
                clear H
                have p10 : 0 ≤ (x10_1 : Int) := of_decide_eq_true (by first | (with_reducible assumption) | assumption)
                have q10 : (x10_1 : Int) < ((x3_1.length : Int) : Int) := of_decide_eq_true (by first | (with_reducible assumption) | assumption)
                obtain ⟨go10, co10, eo10, gb10, gl10, cl10, HG10⟩ := Kd.R_form HO_3.out (by omega)
                (first | cases eo10 | (injection eo10 with ea_ en_ ec_; (first | subst ea_ | (injection ea_ with ea_; subst ea_)); subst ec_; clear en_))
                have GB10 := Aside0.mk gb10
                have GG10 := Aside0.mk HG10
                clear gb10 gl10 HG10
                obtain ⟨hx10_0, hf10_0⟩ := Kd.R_celln 0 HO_3.out (x10_1 : Int) p10 q10
                replace p10 := eq_true p10
                replace q10 := eq_true q10
                have HP11 := Kd.R_putg HO_3.out (x10_1 : Int) x10_1
                go_wp2_with (first | ((with_reducible refine gate_store (t := 3) (p := 16) rfl ?_); refine store_event (t := 3) (p := 16) (v := ?vo_w12) (w1 := (wr.setCell ⟨go10, (x10_1 : Int).toNat, none⟩ (.int .i64 x10_1))) ?hg ?ho ?hn ?hr ?_; (case ho => rfl); (case hg => rfl); (case hn => rfl); (case hr => first | (go_simp; done) | (go_simp; rfl)); intro w12 hw; have hg : wr.grownBy w12 (some go10) := (by rw [hw]; exact HP11.2); have hp_ : Kd.R (Kd.int .i64) 3 w12 w.heap.size (fun _ => True) (.slice (some ⟨go10, 0, none⟩) x3_1.length co6) y343 := (by rw [hw, Ny343.out]; exact HP11.1); clear HP11; have n0_ := Aside0.mk (hp_); have n1_ := Aside0.mk ((by rw [hw]; exact below_set (HB.out) GB10.out : Below w.heap.size w w12)); clear HO_3; clear HB; have HO_3 := n0_; have HB := n1_; clear n0_ n1_; clear hg hw hp_))
                (try simp only [← hl3_1])
                go_roundg k1
                case measure => have := HK1.out; omega
                case rel => exact ⟨(y343), (wrap64 (x10_1 + 1)), (by first | rfl | (simp; done) | (simp [*]; done)), H', ⟨by have := HK1.out; omega⟩, ⟨by (try simp only [hl3_1]); (with_reducible repeat (first | apply Kd.R_alloc | apply Kd.R_drewN | apply Kd.R_drew)); exact HO_3.out⟩, ⟨by repeat (first | (with_reducible first | exact HB.out | apply below_alloc | apply pw_below_drewN | apply below_drew1) | exact HB.out)⟩⟩
              · rw [if_neg c9] at H
                exact absurd H (by simp)
            · rw [if_neg c8] at H
              exact absurd H (by simp)
          · rw [if_neg c7] at H
            have c7b0 : decide (x10_1 < (y340.length : Int)) = false := decide_eq_false c7
            (try (have c7b0l := c7b0; simp only [hl3_1] at c7b0l))
            clear c7
            obtain rfl := Option.some.inj H
            go_wp2
            go_ret
            exact ⟨_, by first | rfl | (simp [errW_none, errW_some] <;> rfl) | (simp [*, errW_none, errW_some] <;> rfl), by (with_reducible repeat (first | apply Kd.R_alloc | apply Kd.R_drewN | apply Kd.R_drew)); exact HO_3.out, by repeat (first | (with_reducible first | exact HB.out | apply below_alloc | apply pw_below_drewN | apply below_drew1) | exact HB.out)⟩
    · rw [if_neg c3] at H
      exact absurd H (by simp)
  · rw [if_neg c2] at H
    exact absurd H (by simp)

/-! ### part_Drawn: function 20, by hand -/
def part_Drawn.g (l0 l : List Int) : Option (List Int) := if l.length < 17592186044416 ∧ (∀ i ∈ l, 0 ≤ i ∧ i < (l0.length : Int)) then some (l.filter (fun i => decide (rd l0 i > 0))) else none
def part_Drawn.f (k : Nat) (l0 : List Int) : Option (List Int) := (part_numbers.f k l0).bind fun l => part_Drawn.g l0 l
theorem part_Drawn.mono : ∀ a0 k, LeO (part_Drawn.f k a0) (part_Drawn.f (k + 1) a0) := by
  intro a0 k
  exact LeO.bind (part_numbers.mono _ _) (fun _ => LeO.refl _)
theorem part_Drawn.closure (A0 : Option Addr) (c0 : Nat) (l0 : List Int) (B : Nat) (w1 : World) (hb : w1.cell? ⟨B, 0, none⟩ = some (.slice A0 l0.length c0)) (hr : Kd.C (Kd.int .i64) w1 A0 l0.length l0) (x : Int) (h0 : 0 ≤ x) (h1 : x < (l0.length : Int)) (W : World) (hB : Below w1.heap.size w1 W) :
    Calls Try.prog 33 #[.int .i64 x, .pointer (some ⟨B, 0, none⟩)] W fun e W' => e = .returned (.bool (decide (rd l0 x > 0))) ∧ Drawn0 W W' := by
  have hb' := pw_cell_below hB hb
  obtain ⟨ad, e0, hx⟩ := Kd.at_int hr x h0 h1
  cases e0
  have hx' := pw_cell_below hB hx
  clear hb hx hr hB
  by_cases hp : rd l0 x > 0
  · have hd : decide (0 < rd l0 x) = true := decide_eq_true hp
    go_enter Try.func33, Try.ntmps33
    go_wp2
    go_ret
    exact ⟨by simp [hp], Drawn0.refl _⟩
  · have hd : decide (0 < rd l0 x) = false := decide_eq_false hp
    go_enter Try.func33, Try.ntmps33
    go_wp2
    go_ret
    exact ⟨by simp [hp], Drawn0.refl _⟩
set_option maxHeartbeats 4000000 in
set_option maxRecDepth 100000 in
theorem part_Drawn.calls (k : Nat) (A0 : Option Addr) (c0 : Nat) (l0 : List Int) (r : List Int) (w : World) (hr0 : Kd.C (Kd.int .i64) w A0 l0.length l0) (hc0 : l0.length ≤ c0) (h : part_Drawn.f k l0 = some r) :
    Calls Try.prog 20 #[.slice A0 l0.length c0] w fun e w' => ∃ v0_ : Value, e = .returned (v0_) ∧ Kd.R (Kd.int .i64) 3 w' w.heap.size (fun _ => True) v0_ r ∧ Below w.heap.size w w' := by
  obtain ⟨l, h1, h2⟩ := Option.bind_eq_some_iff.1 h
  unfold part_Drawn.g at h2
  split at h2
  case isFalse => exact absurd h2 (by simp)
  rename_i hg
  obtain rfl := Option.some.inj h2
  have HR := Aside0.mk hr0
  have HC := Aside0.mk hc0
  have H1 := Aside0.mk h1
  have HG := Aside0.mk hg
  have HB0 := Aside0.mk (below_alloc (Below.refl w.heap.size w) (.cells #[.slice A0 l0.length c0] 23))
  have HX := Aside0.mk (Boxed.new w 23 (.slice A0 l0.length c0))
  clear hr0 hc0 h h1 h2 hg
  have hmf : ∀ (fn : Fn) (first cap : Array Value) (W : World), (Instr.makeFunc fn first cap).run Try.prog W = .ok (.func fn first cap) W := fun _ _ _ _ => rfl
  go_enter Try.func20, Try.ntmps20
  go_wp2_with (fail)
  refine (part_numbers.calls k A0 c0 l0 l _ (Kd.C_below HR.out HB0.out) HC.out H1.out).mono ?_
  rintro e w1 ⟨v, rfl, ho, hb⟩
  obtain ⟨A1, c1, rfl, hl1, hC1⟩ := Kd.R_reads ho
  have HC1 := Aside0.mk hC1
  have HBW := Aside0.mk hb
  have HBX := Aside0.mk (below_step HB0.out hb)
  have hcell := pw_cell_below hb HX.out.cell
  have HCELL := Aside0.mk hcell
  clear ho hl1 hC1 hb hcell
  go_wp2_with (fail)
  refine (FPart.apart_any 33 #[.pointer (some ⟨w.heap.size, 0, none⟩)] (fun i => decide (rd l0 i > 0)) A1 c1 l w1 HC1.out HG.out.1 (enters_of Try.func33 (by kernel_rfl) rfl) (fun x hx W hW => part_Drawn.closure A0 c0 l0 w.heap.size w1 HCELL.out (Kd.C_below (Kd.C_below HR.out HB0.out) HBW.out) x (HG.out.2 x hx).1 (HG.out.2 x hx).2 W hW)).mono ?_
  rintro e w2 ⟨v0, v1, rfl, hR0, hR1, hB2⟩
  have R0 := Aside0.mk hR0
  have B2 := Aside0.mk (below_step HBX.out hB2)
  have SZ := Aside0.mk HBX.out.size
  clear hR0 hR1 hB2
  go_wp2
  go_ret
  exact ⟨_, rfl, Kd.R_mono (Kd.R_lower R0.out SZ.out) (fun _ _ => trivial), B2.out⟩


end Go.Proofs.Ytkfnhbhfadhbkaa.PA
