-- Written by a program of this session (wip/hp) out of the translation of seat Ytlmmlhljflladaa.
import Derived.Test.YtlmmlhljflladaaPAx0
import Derived.Test.YtlmmlhljflladaaPAx1
import Derived.Test.YtlmmlhljflladaaPAx3
namespace Go.Proofs.Ytlmmlhljflladaa.PA
open Go.RowKit Go.Proofs.YtlmmlhljflladaaW.PrintWords Go.Proofs.YtlmmlhljflladaaW.PrintLast Go.Proofs.YtlmmlhljflladaaW.PrintMore
attribute [local go_sem] max2_int min2_int max_two min_two max_three min_three max_four min_four   -- for this text's walks alone
attribute [local go_sem high] Flt.fold_eq Flt.fold_ne Flt.fold_lt Flt.fold_gt Flt.fold_le Flt.fold_ge Flt.run_bits Flt.run_frombits
set_option linter.unusedVariables false
set_option linter.unusedSimpArgs false

/-! rank.Cmp as a compare function -/
namespace SortF
def cf (x y : Nat) : Int := (rank_Cmp.f x y).getD 0
def ky (x : Nat) : Int := (rank_Key.f x).getD 0
theorem key_some (x : Nat) : rank_Key.f x = some (ky x) := by
  have h : ∃ r, rank_Key.f x = some r := by
    unfold rank_Key.f rank_Missing.f rank_Clean.f rank_Missing.f
    simp only [Option.bind_some]
    repeat (first | exact ⟨_, rfl⟩ | (simp only [Option.bind_some]; done) | split | simp only [Option.bind_some])
  obtain ⟨r, h⟩ := h
  unfold ky; rw [h]; rfl
theorem cmp_some (x y : Nat) : rank_Cmp.f x y = some (if ky x < ky y then -1 else if ky x > ky y then 1 else 0) := by
  unfold rank_Cmp.f
  rw [key_some, key_some]
  simp only [Option.bind_some]
  unfold cmp_Compare_uint64.f cmp_isNaN_uint64.f
  simp only [Option.bind_some, bne_self_eq_false, Bool.false_eq_true, if_false]
  repeat (first | rfl | split)
theorem cf_eq (x y : Nat) : cf x y = if ky x < ky y then -1 else if ky x > ky y then 1 else 0 := by unfold cf; rw [cmp_some]; rfl
theorem lt_eq (x y : Nat) : Go.Proofs.ltOf cf x y = decide (ky x < ky y) := by
  unfold Go.Proofs.ltOf; rw [cf_eq]
  by_cases h : ky x < ky y
  · simp [h]
  · by_cases h2 : ky x > ky y <;> simp [h, h2]
theorem swo : Go.Sort.SWO (Go.Proofs.ltOf cf) := {
  irrefl := fun x => by rw [lt_eq]; simp
  trans := fun x y z h1 h2 => by rw [lt_eq] at *; simp at *; omega
  ntrans := fun x y z h1 h2 => by rw [lt_eq] at *; simp at *; omega }
theorem enters : ∀ args w, (callFunc 26 args).run Try.prog w = .ok (.enter 26 args) w := enters_of Try.func26 (by kernel_rfl) rfl
theorem calls (x y : Nat) (W : World) : Calls Try.prog 26 #[.float .f64 x, .float .f64 y] W fun e w' => e = .returned (.int .i64 (cf x y)) ∧ ∃ q, w' = W.drewN q := by
  refine (rank_Cmp.calls x y (cf x y) W (by rw [cmp_some, cf_eq])).mono ?_
  rintro e w' ⟨rfl, ⟨nd, rfl⟩⟩
  exact ⟨rfl, nd, rfl⟩
end SortF
/-! ### rank_Sort: function 29 -/
def rank_Sort.l0 : Nat → List Nat → List Nat → Int → Int → Option (List Nat)
  | 0, _, _, _, _ => none
  | k + 1, x3, x6, x7, x8 => if x8 < x7 then (if 0 ≤ x8 then (if x8 < (x6.length : Int) then ((rank_Clean.f (rdOf (0 : Nat) x6 x8)).bind fun t289 => (if x3.length < 17592186044416 then (rank_Sort.l0 k (x3 ++ [t289]) x6 x7 (wrap64 (x8 + 1))) else (none))) else (none)) else (none)) else (if x3.length < 4611686018427387904 then some (FSort.sortT SortF.cf x3) else none)
def rank_Sort.f (k : Nat) (l0 : List Nat) : Option (List Nat) := rank_Sort.l0 k ([] : List Nat) l0 (l0.length : Int) 0
theorem rank_Sort.mono_l : ∀ k, (∀ y0 y1 y2 y3, LeO (rank_Sort.l0 k y0 y1 y2 y3) (rank_Sort.l0 (k + 1) y0 y1 y2 y3))
  | 0 => fun _ _ _ _ r h => by simp [rank_Sort.l0] at h
  | k + 1 => by
    have ih0 := rank_Sort.mono_l k
    · intro y0 y1 y2 y3
      unfold rank_Sort.l0
      repeat' first
      | (with_reducible exact ih0 _ _ _ _)
      | (with_reducible exact LeO.refl _)
      | (with_reducible exact LeO.none _)
      | (with_reducible refine LeO.ite ?_ ?_)
      | (with_reducible refine LeO.bind ?_ (fun _ => ?_))
      | exact ih0 _ _ _ _
      | exact LeO.none _
      | refine LeO.ite ?_ ?_
      | refine LeO.bind ?_ (fun _ => ?_)
theorem rank_Sort.mono : ∀ a0 k, LeO (rank_Sort.f k a0) (rank_Sort.f (k + 1) a0) := by
  intro a0 k
  have ih0 := rank_Sort.mono_l k
  unfold rank_Sort.f
  repeat' first
      | (with_reducible exact ih0 _ _ _ _)
      | (with_reducible exact LeO.refl _)
      | (with_reducible exact LeO.none _)
      | (with_reducible refine LeO.ite ?_ ?_)
      | (with_reducible refine LeO.bind ?_ (fun _ => ?_))
      | exact ih0 _ _ _ _
      | exact LeO.none _
      | refine LeO.ite ?_ ?_
      | refine LeO.bind ?_ (fun _ => ?_)
set_option maxHeartbeats 8000000 in
set_option maxRecDepth 100000 in
theorem rank_Sort.calls (k : Nat) (A0 : Option Addr) (c0 : Nat) (l0 : List Nat) (r : List Nat) (w : World) (hr0 : Kd.C Flt.kf w A0 l0.length l0) (hc0 : l0.length ≤ c0) (h : rank_Sort.f k l0 = some r) :
    Calls Try.prog 29 #[.slice A0 l0.length c0] w fun e w' => ∃ v0_ : Value, e = .returned (v0_) ∧ Kd.R Flt.kf 23 w' w.heap.size (fun _ => True) v0_ r ∧ Below w.heap.size w w' := by
  have HR0 := Aside0.mk hr0
  have HC0 := Aside0.mk hc0
  clear hr0 hc0
  have HB := Aside0.mk (Below.refl w.heap.size w)
  have H : (rank_Sort.l0 k ([] : List Nat) l0 (l0.length : Int) 0) = some r := h
  clear h
  have H' := Aside0.mk H
  clear H
  go_enter Try.func29, Try.ntmps29
  go_wp2
  go_loopg [3, 8] k (fun kq v3 v8 w' => ∃ (x3_1 : List Nat) (x8_1 : Int), v8 = .int .i64 x8_1 ∧ Aside0 (rank_Sort.l0 kq x3_1 l0 (l0.length : Int) x8_1 = some r) ∧ Aside0 (kq ≤ k) ∧ Aside0 (Kd.R Flt.kf 23 w' w.heap.size (fun _ => True) v3 x3_1) ∧ Aside0 (Below w.heap.size w w'))
  case atStart => exact ⟨(([] : List Nat)), (0), (by first | rfl | (simp; done) | (simp [*]; done)), H', ⟨Nat.le_refl _⟩, ⟨by first | exact Kd.R_nil _ _ _ _ _ | exact Kd.N_nil _ _ _ _ _ | exact Kd.V_nil _ _ _ _ _ | exact Kd.Q_nil _ _ _ _ _ | exact Kd.S_nil _ _ _ _ _⟩, ⟨by repeat (first | (with_reducible first | exact HB.out | apply below_alloc | apply pw_below_drewN | apply below_drew1) | exact HB.out)⟩⟩
  case round =>
    clear H'
    obtain ⟨x3_1, x8_1, rfl, HA, HK1, HO_3, HB⟩ := hrel
    cases gk with
    | zero => exact absurd HA.out (by simp [rank_Sort.l0])
    | succ k1 =>
      have H := HA.out
      clear HA
      simp only [rank_Sort.l0] at H
      by_cases c2 : x8_1 < (l0.length : Int)
      · rw [if_pos c2] at H
        have c2b0 : decide (x8_1 < (l0.length : Int)) = true := decide_eq_true c2
        clear c2
        by_cases c3 : 0 ≤ x8_1
        · rw [if_pos c3] at H
          have c3b0 : decide (0 ≤ x8_1) = true := decide_eq_true c3
          clear c3
          by_cases c4 : x8_1 < (l0.length : Int)
          · rw [if_pos c4] at H
            have c4b0 : decide (x8_1 < (l0.length : Int)) = true := decide_eq_true c4
            clear c4
            replace H := Option.bind_eq_some_iff.mp H
            obtain ⟨t289, A50, H⟩ := H
            replace H : (if x3_1.length < 17592186044416 then (rank_Sort.l0 k1 (x3_1 ++ [t289]) l0 (l0.length : Int) (wrap64 (x8_1 + 1))) else (none)) = some r := H
            have A5 := Aside0.mk A50
            clear A50
            by_cases c6 : x3_1.length < 17592186044416
            · rw [if_pos c6] at H
              have LMc6 := Aside0.mk c6
              clear c6
              obtain ⟨y290, hy290⟩ : ∃ y_ : List Nat, y_ = (x3_1 ++ [t289]) := ⟨_, rfl⟩
              replace H : (rank_Sort.l0 k1 y290 l0 (l0.length : Int) (wrap64 (x8_1 + 1))) = some r := by first | (rw [hy290]; with_reducible exact H) | (have H2_ := (Option.bind_some _ _).symm.trans H; rw [hy290]; with_reducible exact H2_) | (have H2_ := (Option.bind_some _ _).symm.trans H; with_reducible exact H2_) | with_reducible exact H | (rw [hy290]; exact H) | exact H
              have Ny290 := Aside0.mk hy290
              clear hy290
              have H' := Aside0.mk H
              clear H
              have p288 : 0 ≤ (x8_1 : Int) := of_decide_eq_true (by first | (with_reducible assumption) | assumption)
              have q288 : x8_1 < (l0.length : Int) := of_decide_eq_true (by first | (with_reducible assumption) | assumption)
              obtain ⟨ad288, e288, hx288_0⟩ := Flt.at_kf HR0.out x8_1 p288 q288
              cases e288
              replace hx288_0 := (HB.out.cell (World.block_lt_of_cell? w _ hx288_0)).trans hx288_0
              replace p288 := eq_true p288
              replace q288 := eq_true q288
              go_wp2_with (first | ((with_reducible refine gate_callee (f := 16) rfl ?_); refine goesL_ (some 14) rfl rfl Try.func16 (by kernel_rfl) rfl #[.float .f64 (rdOf (0 : Nat) l0 x8_1)] rfl (by (try simp only [List.map_toArray, List.map_cons, List.map_nil]); first | done | rfl | (simp only [List.length_drop, List.length_take]; rfl)) ?_; (with_reducible refine (rank_Clean.calls (rdOf (0 : Nat) l0 x8_1) t289 _ A5.out).mono ?_); rintro e w' ⟨rfl, ⟨nd, rfl⟩⟩; refine ⟨_, rfl, ?_⟩) | ((with_reducible refine gate_builtin (b := .append) (xs := #[.tmp 12, .tmp 15]) rfl ?_); at_builtin; refine Kd.R_append Flt.kf (w0 := w) w.heap.size rfl (.tmp 12) (.tmp 15) 36 23 (.float .f64 0) 8 rfl Try.underlying36 info23 rfl (by decide) (by omega) u3 x3_1 t289 [.float .f64 t289] (fun _ => True) (fun _ => False) rfl rfl ?aP (fun _ hk => hk.elim) ?aF ?aO ?aB ?aS ?aL ?_; (case aP => exact rfl); (case aB => exact (by repeat (first | (with_reducible first | exact HB.out | apply below_alloc | apply pw_below_drewN | apply below_drew1) | exact HB.out))); (case aF => exact (fun _ _ => trivial)); (case aO => exact (by (with_reducible repeat (first | apply Kd.R_alloc | apply Kd.R_drewN | apply Kd.R_drew)); exact HO_3.out)); (case aS => exact (below_size (by repeat (first | (with_reducible first | exact HB.out | apply below_alloc | apply pw_below_drewN | apply below_drew1) | exact HB.out)))); (case aL => have := LMc6.out; omega); intro v291 w7 ho hb hg hat; rw [← Ny290.out] at ho; have n0_ := Aside0.mk (hb); have n1_ := Aside0.mk (ho); clear HB; clear HO_3; have HB := n0_; have HO292 := n1_; clear n0_ n1_; clear ho hb hg hat))
              go_roundg k1
              case measure => have := HK1.out; omega
              case rel => exact ⟨(y290), (wrap64 (x8_1 + 1)), (by first | rfl | (simp; done) | (simp [*]; done)), H', ⟨by have := HK1.out; omega⟩, ⟨by (with_reducible repeat (first | apply Kd.R_alloc | apply Kd.R_drewN | apply Kd.R_drew)); exact HO292.out⟩, ⟨by repeat (first | (with_reducible first | exact HB.out | apply below_alloc | apply pw_below_drewN | apply below_drew1) | exact HB.out)⟩⟩
            · rw [if_neg c6] at H
              exact absurd H (by simp)
          · rw [if_neg c4] at H
            exact absurd H (by simp)
        · rw [if_neg c3] at H
          exact absurd H (by simp)
      · rw [if_neg c2] at H
        have c2b0 : decide (x8_1 < (l0.length : Int)) = false := decide_eq_false c2
        clear c2
        by_cases cl_ : x3_1.length < 4611686018427387904
        case neg => rw [if_neg cl_] at H; exact absurd H (by simp)
        rw [if_pos cl_] at H
        obtain rfl := Option.some.inj H
        obtain ⟨Ao_, co_, eo_⟩ := Kd.R_slice HO_3.out
        subst eo_
        have LN_ := Aside0.mk cl_
        clear cl_
        go_wp2_with (go_at_call 48; refine (FSort.sort_calls SortF.cf SortF.swo 26 SortF.enters SortF.calls (by (with_reducible repeat (first | apply Kd.R_alloc | apply Kd.R_drewN | apply Kd.R_drew)); exact HO_3.out) LN_.out).mono ?_; rintro e w9 ⟨rfl, hR_, hb_⟩; have n0_ := Aside0.mk hR_; have n1_ := Aside0.mk (Below.trans (show Below w.heap.size w _ by repeat (first | (with_reducible first | exact HB.out | apply below_alloc | apply pw_below_drewN | apply below_drew1) | exact HB.out)) hb_); clear hR_ hb_; clear HB; have HB := n1_; clear n1_)
        go_ret
        exact ⟨_, rfl, by (with_reducible repeat (first | apply Kd.R_alloc | apply Kd.R_drewN | apply Kd.R_drew)); exact n0_.out, by repeat (first | (with_reducible first | exact HB.out | apply below_alloc | apply pw_below_drewN | apply below_drew1) | exact HB.out)⟩

end Go.Proofs.Ytlmmlhljflladaa.PA
