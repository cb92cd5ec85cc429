-- Written by a program of this session (wip/hp) out of the translation of seat Ytlmmlhljflladaa.
import Derived.Test.YtlmmlhljflladaaPAx0
import Derived.Test.YtlmmlhljflladaaPAx2
import Derived.Test.YtlmmlhljflladaaPAx10
namespace Go.Proofs.Ytlmmlhljflladaa.PA
open Go.RowKit Go.Proofs.YtlmmlhljflladaaW.PrintWords Go.Proofs.YtlmmlhljflladaaW.PrintLast Go.Proofs.YtlmmlhljflladaaW.PrintMore
attribute [local go_sem] max2_int min2_int max_two min_two max_three min_three max_four min_four   -- for this text's walks alone
attribute [local go_sem high] Flt.fold_eq Flt.fold_ne Flt.fold_lt Flt.fold_gt Flt.fold_le Flt.fold_ge Flt.run_bits Flt.run_frombits
set_option linter.unusedVariables false
set_option linter.unusedSimpArgs false

/-! ### hornbeamref10_There: function 52 -/
def hornbeamref10_There.l0 : Nat → List Nat → List Nat → Int → Option (List Nat)
  | 0, _, _, _ => none
  | k + 1, x3, x4, x5 => if x5 < (x4.length : Int) then (if 0 ≤ x5 then ((hornbeamref06_Missing.f (rdOf (0 : Nat) x4 x5)).bind fun t326 => (if t326 = true then (hornbeamref10_There.l0 k x3 x4 (wrap64 (x5 + 1))) else (if x3.length < 17592186044416 then (hornbeamref10_There.l0 k (x3 ++ [rdOf (0 : Nat) x4 x5]) x4 (wrap64 (x5 + 1))) else (none)))) else (none)) else (some x3)
def hornbeamref10_There.f (k : Nat) (l0 : List Nat) : Option (List Nat) := (hornbeamref06_Sort.f k l0).bind fun t322 => (hornbeamref10_There.l0 k (([] : List Nat)) t322 0)
theorem hornbeamref10_There.mono_l : ∀ k, (∀ y0 y1 y2, LeO (hornbeamref10_There.l0 k y0 y1 y2) (hornbeamref10_There.l0 (k + 1) y0 y1 y2))
  | 0 => fun _ _ _ r h => by simp [hornbeamref10_There.l0] at h
  | k + 1 => by
    have ih0 := hornbeamref10_There.mono_l k
    · intro y0 y1 y2
      unfold hornbeamref10_There.l0
      repeat' first
      | (with_reducible exact ih0 _ _ _)
      | (with_reducible exact hornbeamref06_Sort.mono _ _)
      | (with_reducible exact LeO.refl _)
      | (with_reducible exact LeO.none _)
      | (with_reducible refine LeO.ite ?_ ?_)
      | (with_reducible refine LeO.bind ?_ (fun _ => ?_))
      | exact ih0 _ _ _
      | exact hornbeamref06_Sort.mono _ _
      | exact LeO.none _
      | refine LeO.ite ?_ ?_
      | refine LeO.bind ?_ (fun _ => ?_)
theorem hornbeamref10_There.mono : ∀ a0 k, LeO (hornbeamref10_There.f k a0) (hornbeamref10_There.f (k + 1) a0) := by
  intro a0 k
  have ih0 := hornbeamref10_There.mono_l k
  unfold hornbeamref10_There.f
  repeat' first
      | (with_reducible exact ih0 _ _ _)
      | (with_reducible exact hornbeamref06_Sort.mono _ _)
      | (with_reducible exact LeO.refl _)
      | (with_reducible exact LeO.none _)
      | (with_reducible refine LeO.ite ?_ ?_)
      | (with_reducible refine LeO.bind ?_ (fun _ => ?_))
      | exact ih0 _ _ _
      | exact hornbeamref06_Sort.mono _ _
      | exact LeO.none _
      | refine LeO.ite ?_ ?_
      | refine LeO.bind ?_ (fun _ => ?_)
set_option maxHeartbeats 8000000 in
set_option maxRecDepth 100000 in
theorem hornbeamref10_There.calls (k : Nat) (A0 : Option Addr) (c0 : Nat) (l0 : List Nat) (r : List Nat) (w : World) (hr0 : Kd.C Flt.kf w A0 l0.length l0) (hc0 : l0.length ≤ c0) (h : hornbeamref10_There.f k l0 = some r) :
    Calls Try.prog 52 #[.slice A0 l0.length c0] w fun e w' => ∃ v0_ : Value, e = .returned (v0_) ∧ Kd.R Flt.kf 23 w' w.heap.size (fun _ => True) v0_ r ∧ Below w.heap.size w w' := by
  have HR0 := Aside0.mk hr0
  have HC0 := Aside0.mk hc0
  clear hr0 hc0
  have HB := Aside0.mk (Below.refl w.heap.size w)
  have H : ((hornbeamref06_Sort.f k l0).bind fun t322 => (hornbeamref10_There.l0 k (([] : List Nat)) t322 0)) = some r := h
  clear h
  obtain ⟨y319, hy319⟩ : ∃ y_ : List Nat, y_ = (([] : List Nat)) := ⟨_, rfl⟩
  replace H : ((hornbeamref06_Sort.f k l0).bind fun t322 => (hornbeamref10_There.l0 k y319 t322 0)) = some r := by first | (rw [hy319]; with_reducible exact H) | (have H2_ := (Option.bind_some _ _).symm.trans H; rw [hy319]; with_reducible exact H2_) | (have H2_ := (Option.bind_some _ _).symm.trans H; with_reducible exact H2_) | with_reducible exact H | (rw [hy319]; exact H) | exact H
  have Ny319 := Aside0.mk hy319
  clear hy319
  replace H := Option.bind_eq_some_iff.mp H
  obtain ⟨t322, A20, H⟩ := H
  replace H : (hornbeamref10_There.l0 k y319 t322 0) = some r := H
  have A2 := Aside0.mk A20
  clear A20
  have H' := Aside0.mk H
  clear H
  go_enter Try.func52, Try.ntmps52
  go_wp2_with (first | ((with_reducible refine gate_dst (N := 6) rfl ?_); refine Kd.R_lit Flt.kf _ 23 ?hg (N := 6) ?hd (xs := ([] : List Nat)) (inner := []) (ok := fun _ => True) (okp := fun _ => True) ?hr ?hp (fun _ hk => hk) trivial (Below.refl _ _) (Nat.le_refl _) (by simp) ?_; (case hd => rfl); (case hg => rfl); (case hr => first | (go_simp; done) | (go_simp; rfl)); (case hp => exact (Reps.none _ _)); intro v320 w3 ho4 hb hg_ hnew_; clear hg_ hnew_; (first | rw [← Ny319.out] at ho4 | (simp only [Int.reduceToNat] at ho4; rw [← Ny319.out] at ho4)); have n0_ := Aside0.mk (Kd.R_lower ho4 (below_size (by repeat (first | (with_reducible first | exact HB.out | apply below_alloc | apply pw_below_drewN | apply below_drew1) | exact HB.out)))); have n1_ := Aside0.mk (below_step (by repeat (first | (with_reducible first | exact HB.out | apply below_alloc | apply pw_below_drewN | apply below_drew1) | exact HB.out)) hb); clear HB; have HO321 := n0_; have HB := n1_; clear n0_ n1_; clear hb ho4) | ((with_reducible refine gate_callee (f := 31) rfl ?_); refine goesL_ (some 8) rfl rfl Try.func31 (by kernel_rfl) rfl #[.slice A0 l0.length c0] rfl (by (try simp only [List.map_toArray, List.map_cons, List.map_nil]); first | done | rfl | (simp only [List.length_drop, List.length_take]; rfl)) ?_; (with_reducible refine (hornbeamref06_Sort.calls k _ _ l0 t322 _ ?side1 ?side2 A2.out).mono ?_); (case side1 => repeat (first | exact (Kd.C_below HR0.out HB.out) | (with_reducible refine Kd.C_alloc ?_ _) | (with_reducible refine Kd.C_drewN ?_ _) | (with_reducible refine Kd.C_drew ?_))); (case side2 => exact HC0.out); rintro e w5 ⟨v323, rfl, ho0, hb⟩; refine ⟨_, rfl, ?_⟩; have n0_ := Aside0.mk (Kd.R_elder' (by (with_reducible repeat (first | apply Kd.R_alloc | apply Kd.R_drewN | apply Kd.R_drew)); exact HO321.out) (Kd.R_base ho0) hb); have n1_ := Aside0.mk (Kd.R_lower (Kd.R_new' ho0 (Kd.R_lt (by (with_reducible repeat (first | apply Kd.R_alloc | apply Kd.R_drewN | apply Kd.R_drew)); exact HO321.out))) (below_size (by repeat (first | (with_reducible first | exact HB.out | apply below_alloc | apply pw_below_drewN | apply below_drew1) | exact HB.out)))); have n2_ := Aside0.mk (below_step (by repeat (first | (with_reducible first | exact HB.out | apply below_alloc | apply pw_below_drewN | apply below_drew1) | exact HB.out)) hb); clear HO321; clear HB; have HO321 := n0_; have HO324 := n1_; have HB := n2_; clear n0_ n1_ n2_; (try clear hb); (try clear hb2); (try clear hk); (try clear hi); (try clear ho0)))
  go_loopg [3, 5] k (fun kq v3 v5 w' => ∃ (x3_1 : List Nat) (x5_1 : Int), v5 = .int .i64 x5_1 ∧ Aside0 (hornbeamref10_There.l0 kq x3_1 t322 x5_1 = some r) ∧ Aside0 (kq ≤ k) ∧ Aside0 (Kd.R Flt.kf 23 w' w.heap.size (fun k_ => some k_ ≠ (v323 : Value).ownBlock) v3 x3_1) ∧ Aside0 (Kd.R Flt.kf 23 w' w.heap.size (fun k_ => some k_ ≠ (v3 : Value).ownBlock) v323 t322) ∧ Aside0 (Below w.heap.size w w'))
  case atStart => exact ⟨(y319), (0), (by first | rfl | (simp; done) | (simp [*]; done)), H', ⟨Nat.le_refl _⟩, ⟨by (with_reducible repeat (first | apply Kd.R_alloc | apply Kd.R_drewN | apply Kd.R_drew)); exact Kd.R_mono HO321.out (fun _ hk => hk.2)⟩, ⟨by (with_reducible repeat (first | apply Kd.R_alloc | apply Kd.R_drewN | apply Kd.R_drew)); exact Kd.R_mono HO324.out (fun _ hk => hk.2)⟩, ⟨by repeat (first | (with_reducible first | exact HB.out | apply below_alloc | apply pw_below_drewN | apply below_drew1) | exact HB.out)⟩⟩
  case round =>
    clear H'
    try clear p2
    try clear c3
    try clear c5
    obtain ⟨x3_1, x5_1, rfl, HA, HK1, HO_3, HO_4, HB⟩ := hrel
    cases gk with
    | zero => exact absurd HA.out (by simp [hornbeamref10_There.l0])
    | succ k1 =>
      have H := HA.out
      clear HA
      simp only [hornbeamref10_There.l0] at H
      by_cases c6 : x5_1 < (t322.length : Int)
      · rw [if_pos c6] at H
        have c6b0 : decide (x5_1 < (t322.length : Int)) = true := decide_eq_true c6
        clear c6
        by_cases c7 : 0 ≤ x5_1
        · rw [if_pos c7] at H
          have c7b0 : decide (0 ≤ x5_1) = true := decide_eq_true c7
          clear c7
          replace H := Option.bind_eq_some_iff.mp H
          obtain ⟨t326, A80, H⟩ := H
          replace H : (if t326 = true then (hornbeamref10_There.l0 k1 x3_1 t322 (wrap64 (x5_1 + 1))) else (if x3_1.length < 17592186044416 then (hornbeamref10_There.l0 k1 (x3_1 ++ [rdOf (0 : Nat) t322 x5_1]) t322 (wrap64 (x5_1 + 1))) else (none))) = some r := H
          have A8 := Aside0.mk A80
          clear A80
          by_cases c9 : t326 = true
          · subst c9
            have H1 : (hornbeamref10_There.l0 k1 x3_1 t322 (wrap64 (x5_1 + 1))) = some r := by rw [if_pos rfl] at H; exact H
            clear H
            have H := H1
            clear H1
            have H' := Aside0.mk H
            clear H
            obtain ⟨Ao10, co10, eo10⟩ := Kd.R_slice HO_4.out
            subst eo10
            have p325 : 0 ≤ (x5_1 : Int) := of_decide_eq_true (by first | (with_reducible assumption) | assumption)
            have q325 : x5_1 < (t322.length : Int) := of_decide_eq_true (by first | (with_reducible assumption) | assumption)
            obtain ⟨ad325, e325, hx325_0⟩ := Flt.at_kf (Kd.R_reads' HO_4.out).2.2 x5_1 p325 q325
            cases e325
            replace p325 := eq_true p325
            replace q325 := eq_true q325
            go_wp2_with (first | ((with_reducible refine gate_callee (f := 21) rfl ?_); refine goesL_ (some 19) rfl rfl Try.func21 (by kernel_rfl) rfl #[.float .f64 (rdOf (0 : Nat) t322 x5_1)] rfl (by (try simp only [List.map_toArray, List.map_cons, List.map_nil]); first | done | rfl | (simp only [List.length_drop, List.length_take]; rfl)) ?_; (with_reducible refine (hornbeamref06_Missing.calls (rdOf (0 : Nat) t322 x5_1) true _ A8.out).mono ?_); rintro e w' ⟨rfl, ⟨nd, rfl⟩⟩; refine ⟨_, rfl, ?_⟩))
            go_roundg k1
            case measure => have := HK1.out; omega
            case rel => exact ⟨(x3_1), (wrap64 (x5_1 + 1)), (by first | rfl | (simp; done) | (simp [*]; done)), H', ⟨by have := HK1.out; omega⟩, ⟨by (with_reducible repeat (first | apply Kd.R_alloc | apply Kd.R_drewN | apply Kd.R_drew)); exact HO_3.out⟩, ⟨by (with_reducible repeat (first | apply Kd.R_alloc | apply Kd.R_drewN | apply Kd.R_drew)); exact HO_4.out⟩, ⟨by repeat (first | (with_reducible first | exact HB.out | apply below_alloc | apply pw_below_drewN | apply below_drew1) | exact HB.out)⟩⟩
          · replace c9 := Bool.eq_false_iff.mpr c9
            subst c9
            have H1 : (if x3_1.length < 17592186044416 then (hornbeamref10_There.l0 k1 (x3_1 ++ [rdOf (0 : Nat) t322 x5_1]) t322 (wrap64 (x5_1 + 1))) else (none)) = some r := by rw [if_neg (show ¬ (false = true) by decide)] at H; exact H
            clear H
            have H := H1
            clear H1
            by_cases c11 : x3_1.length < 17592186044416
            · rw [if_pos c11] at H
              have LMc11 := Aside0.mk c11
              clear c11
              obtain ⟨y328, hy328⟩ : ∃ y_ : List Nat, y_ = (x3_1 ++ [rdOf (0 : Nat) t322 x5_1]) := ⟨_, rfl⟩
              replace H : (hornbeamref10_There.l0 k1 y328 t322 (wrap64 (x5_1 + 1))) = some r := by first | (rw [hy328]; with_reducible exact H) | (have H2_ := (Option.bind_some _ _).symm.trans H; rw [hy328]; with_reducible exact H2_) | (have H2_ := (Option.bind_some _ _).symm.trans H; with_reducible exact H2_) | with_reducible exact H | (rw [hy328]; exact H) | exact H
              have Ny328 := Aside0.mk hy328
              clear hy328
              have H' := Aside0.mk H
              clear H
              obtain ⟨Ao12, co12, eo12⟩ := Kd.R_slice HO_4.out
              subst eo12
              have p325 : 0 ≤ (x5_1 : Int) := of_decide_eq_true (by first | (with_reducible assumption) | assumption)
              have q325 : x5_1 < (t322.length : Int) := of_decide_eq_true (by first | (with_reducible assumption) | assumption)
              obtain ⟨ad325, e325, hx325_0⟩ := Flt.at_kf (Kd.R_reads' HO_4.out).2.2 x5_1 p325 q325
              cases e325
              replace p325 := eq_true p325
              replace q325 := eq_true q325
              go_wp2_with (first | ((with_reducible refine gate_callee (f := 21) rfl ?_); refine goesL_ (some 19) rfl rfl Try.func21 (by kernel_rfl) rfl #[.float .f64 (rdOf (0 : Nat) t322 x5_1)] rfl (by (try simp only [List.map_toArray, List.map_cons, List.map_nil]); first | done | rfl | (simp only [List.length_drop, List.length_take]; rfl)) ?_; (with_reducible refine (hornbeamref06_Missing.calls (rdOf (0 : Nat) t322 x5_1) false _ A8.out).mono ?_); rintro e w' ⟨rfl, ⟨nd, rfl⟩⟩; refine ⟨_, rfl, ?_⟩; have p327 : 0 ≤ (x5_1 : Int) := of_decide_eq_true (by first | (with_reducible assumption) | assumption); have q327 : x5_1 < (t322.length : Int) := of_decide_eq_true (by first | (with_reducible assumption) | assumption); obtain ⟨ad327, e327, hx327_0⟩ := Flt.at_kf (Kd.R_reads' HO_4.out).2.2 x5_1 p327 q327; obtain rfl : ad325 = ad327 := (by injection e327); replace p327 := eq_true p327; replace q327 := eq_true q327) | ((with_reducible refine gate_builtin (b := .append) (xs := #[.tmp 21, .tmp 26]) rfl ?_); at_builtin; refine Kd.R_append Flt.kf (w0 := w) w.heap.size rfl (.tmp 21) (.tmp 26) 36 23 (.float .f64 0) 8 rfl Try.underlying36 info23 rfl (by decide) (by omega) u3 x3_1 (rdOf (0 : Nat) t322 x5_1) [.float .f64 (rdOf (0 : Nat) t322 x5_1)] (fun k_ => some k_ ≠ (.slice (some ad325) t322.length co12 : Value).ownBlock) (fun _ => False) rfl rfl ?aP (fun _ hk => hk.elim) ?aF ?aO ?aB ?aS ?aL ?_; (case aP => exact rfl); (case aB => exact (by repeat (first | (with_reducible first | exact HB.out | apply below_alloc | apply pw_below_drewN | apply below_drew1) | exact HB.out))); (case aF => exact (fun k_ hk => Kd.fresh' (Kd.R_lt (by (with_reducible repeat (first | apply Kd.R_alloc | apply Kd.R_drewN | apply Kd.R_drew)); exact HO_4.out)) k_ hk)); (case aO => exact (by (with_reducible repeat (first | apply Kd.R_alloc | apply Kd.R_drewN | apply Kd.R_drew)); exact HO_3.out)); (case aS => exact (below_size (by repeat (first | (with_reducible first | exact HB.out | apply below_alloc | apply pw_below_drewN | apply below_drew1) | exact HB.out)))); (case aL => have := LMc11.out; omega); intro v329 w13 ho hb hg hat; rw [← Ny328.out] at ho; have n0_ := Aside0.mk (Kd.R_after (ok := (fun _ => True)) (by (with_reducible repeat (first | apply Kd.R_alloc | apply Kd.R_drewN | apply Kd.R_drew)); exact Kd.R_mono HO_4.out (fun _ hk => ⟨trivial, hk⟩)) hg hat); have n1_ := Aside0.mk (hb); have n2_ := Aside0.mk (ho); clear HO_4; clear HB; clear HO_3; have HO_4 := n0_; have HB := n1_; have HO330 := n2_; clear n0_ n1_ n2_; clear ho hb hg hat))
              go_roundg k1
              case measure => have := HK1.out; omega
              case rel => exact ⟨(y328), (wrap64 (x5_1 + 1)), (by first | rfl | (simp; done) | (simp [*]; done)), H', ⟨by have := HK1.out; omega⟩, ⟨by (with_reducible repeat (first | apply Kd.R_alloc | apply Kd.R_drewN | apply Kd.R_drew)); exact HO330.out⟩, ⟨by (with_reducible repeat (first | apply Kd.R_alloc | apply Kd.R_drewN | apply Kd.R_drew)); exact Kd.R_mono HO_4.out (fun _ hk => hk.2)⟩, ⟨by repeat (first | (with_reducible first | exact HB.out | apply below_alloc | apply pw_below_drewN | apply below_drew1) | exact HB.out)⟩⟩
            · rw [if_neg c11] at H
              exact absurd H (by simp)
        · rw [if_neg c7] at H
          exact absurd H (by simp)
      · rw [if_neg c6] at H
        have c6b0 : decide (x5_1 < (t322.length : Int)) = false := decide_eq_false c6
        clear c6
        obtain rfl := Option.some.inj H
        obtain ⟨Ao14, co14, eo14⟩ := Kd.R_slice HO_4.out
        subst eo14
        go_wp2
        go_ret
        exact ⟨_, by first | rfl | (simp [errW_none, errW_some] <;> rfl) | (simp [*, errW_none, errW_some] <;> rfl), by (with_reducible repeat (first | apply Kd.R_alloc | apply Kd.R_drewN | apply Kd.R_drew)); exact Kd.R_mono HO_3.out (fun _ hk => trivial), by repeat (first | (with_reducible first | exact HB.out | apply below_alloc | apply pw_below_drewN | apply below_drew1) | exact HB.out)⟩

end Go.Proofs.Ytlmmlhljflladaa.PA
