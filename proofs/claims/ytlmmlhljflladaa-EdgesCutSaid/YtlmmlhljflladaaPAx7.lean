-- Written by a program of this session (wip/hp) out of the translation of seat Ytlmmlhljflladaa.
import Derived.Test.YtlmmlhljflladaaPAx0
import Derived.Test.YtlmmlhljflladaaPAx1
import Derived.Test.YtlmmlhljflladaaPAx4
namespace Go.Proofs.Ytlmmlhljflladaa.PA
open Go.RowKit Go.Proofs.YtlmmlhljflladaaW.PrintWords Go.Proofs.YtlmmlhljflladaaW.PrintLast Go.Proofs.YtlmmlhljflladaaW.PrintMore
attribute [local go_sem] max2_int min2_int max_two min_two max_three min_three max_four min_four   -- for this text's walks alone
attribute [local go_sem high] Flt.fold_eq Flt.fold_ne Flt.fold_lt Flt.fold_gt Flt.fold_le Flt.fold_ge Flt.run_bits Flt.run_frombits
set_option linter.unusedVariables false
set_option linter.unusedSimpArgs false

/-! ### hornbeamref06_Of: function 28 -/
def hornbeamref06_Of.l0 : Nat → List Int → List Nat → Int → Option (List Nat)
  | 0, _, _, _ => none
  | k + 1, x0, x3, x4 => if x4 < (x0.length : Int) then (if 0 ≤ x4 then (if x3.length < 17592186044416 then (hornbeamref06_Of.l0 k x0 (x3 ++ [Flt.fbits (rd x0 x4)]) (wrap64 (x4 + 1))) else (none)) else (none)) else (some x3)
def hornbeamref06_Of.f (k : Nat) (l0 : List Int) : Option (List Nat) := hornbeamref06_Of.l0 k l0 (([] : List Nat)) 0
theorem hornbeamref06_Of.mono_l : ∀ k, (∀ y0 y1 y2, LeO (hornbeamref06_Of.l0 k y0 y1 y2) (hornbeamref06_Of.l0 (k + 1) y0 y1 y2))
  | 0 => fun _ _ _ r h => by simp [hornbeamref06_Of.l0] at h
  | k + 1 => by
    have ih0 := hornbeamref06_Of.mono_l k
    · intro y0 y1 y2
      unfold hornbeamref06_Of.l0
      repeat' first
      | (with_reducible exact ih0 _ _ _)
      | (with_reducible exact LeO.refl _)
      | (with_reducible exact LeO.none _)
      | (with_reducible refine LeO.ite ?_ ?_)
      | (with_reducible refine LeO.bind ?_ (fun _ => ?_))
      | exact ih0 _ _ _
      | exact LeO.none _
      | refine LeO.ite ?_ ?_
      | refine LeO.bind ?_ (fun _ => ?_)
theorem hornbeamref06_Of.mono : ∀ a0 k, LeO (hornbeamref06_Of.f k a0) (hornbeamref06_Of.f (k + 1) a0) := by
  intro a0 k
  have ih0 := hornbeamref06_Of.mono_l k
  unfold hornbeamref06_Of.f
  repeat' first
      | (with_reducible exact ih0 _ _ _)
      | (with_reducible exact LeO.refl _)
      | (with_reducible exact LeO.none _)
      | (with_reducible refine LeO.ite ?_ ?_)
      | (with_reducible refine LeO.bind ?_ (fun _ => ?_))
      | exact ih0 _ _ _
      | exact LeO.none _
      | refine LeO.ite ?_ ?_
      | refine LeO.bind ?_ (fun _ => ?_)
set_option maxHeartbeats 8000000 in
set_option maxRecDepth 100000 in
theorem hornbeamref06_Of.calls (k : Nat) (A0 : Option Addr) (c0 : Nat) (l0 : List Int) (r : List Nat) (w : World) (hr0 : Kd.C (Kd.int .u64) w A0 l0.length l0) (hc0 : l0.length ≤ c0) (h : hornbeamref06_Of.f k l0 = some r) :
    Calls Try.prog 28 #[.slice A0 l0.length c0] w fun e w' => ∃ v0_ : Value, e = .returned (v0_) ∧ Kd.R Flt.kf 23 w' w.heap.size (fun _ => True) v0_ r ∧ Below w.heap.size w w' := by
  have HR0 := Aside0.mk hr0
  have HC0 := Aside0.mk hc0
  clear hr0 hc0
  have HB := Aside0.mk (Below.refl w.heap.size w)
  have H : (hornbeamref06_Of.l0 k l0 (([] : List Nat)) 0) = some r := h
  clear h
  obtain ⟨y172, hy172⟩ : ∃ y_ : List Nat, y_ = (([] : List Nat)) := ⟨_, rfl⟩
  replace H : (hornbeamref06_Of.l0 k l0 y172 0) = some r := by first | (rw [hy172]; with_reducible exact H) | (have H2_ := (Option.bind_some _ _).symm.trans H; rw [hy172]; with_reducible exact H2_) | (have H2_ := (Option.bind_some _ _).symm.trans H; with_reducible exact H2_) | with_reducible exact H | (rw [hy172]; exact H) | exact H
  have Ny172 := Aside0.mk hy172
  clear hy172
  have H' := Aside0.mk H
  clear H
  go_enter Try.func28, Try.ntmps28
  go_wp2_with (first | ((with_reducible refine gate_dst (N := 5) rfl ?_); refine Kd.R_lit Flt.kf _ 23 ?hg (N := 5) ?hd (xs := ([] : List Nat)) (inner := []) (ok := fun _ => True) (okp := fun _ => True) ?hr ?hp (fun _ hk => hk) trivial (Below.refl _ _) (Nat.le_refl _) (by simp) ?_; (case hd => rfl); (case hg => rfl); (case hr => first | (go_simp; done) | (go_simp; rfl)); (case hp => exact (Reps.none _ _)); intro v173 w2 ho3 hb hg_ hnew_; clear hg_ hnew_; (first | rw [← Ny172.out] at ho3 | (simp only [Int.reduceToNat] at ho3; rw [← Ny172.out] at ho3)); have n0_ := Aside0.mk (Kd.R_lower ho3 (below_size (by repeat (first | (with_reducible first | exact HB.out | apply below_alloc | apply pw_below_drewN | apply below_drew1) | exact HB.out)))); have n1_ := Aside0.mk (below_step (by repeat (first | (with_reducible first | exact HB.out | apply below_alloc | apply pw_below_drewN | apply below_drew1) | exact HB.out)) hb); clear HB; have HO174 := n0_; have HB := n1_; clear n0_ n1_; clear hb ho3))
  go_loopg [3, 4] k (fun kq v3 v4 w' => ∃ (x3_1 : List Nat) (x4_1 : Int), v4 = .int .i64 x4_1 ∧ Aside0 (hornbeamref06_Of.l0 kq l0 x3_1 x4_1 = some r) ∧ Aside0 (kq ≤ k) ∧ Aside0 (Kd.R Flt.kf 23 w' w.heap.size (fun _ => True) v3 x3_1) ∧ Aside0 (Below w.heap.size w w'))
  case atStart => exact ⟨(y172), (0), (by first | rfl | (simp; done) | (simp [*]; done)), H', ⟨Nat.le_refl _⟩, ⟨by (with_reducible repeat (first | apply Kd.R_alloc | apply Kd.R_drewN | apply Kd.R_drew)); exact HO174.out⟩, ⟨by repeat (first | (with_reducible first | exact HB.out | apply below_alloc | apply pw_below_drewN | apply below_drew1) | exact HB.out)⟩⟩
  case round =>
    clear H'
    try clear c2
    try clear p2
    obtain ⟨x3_1, x4_1, rfl, HA, HK1, HO_3, HB⟩ := hrel
    cases gk with
    | zero => exact absurd HA.out (by simp [hornbeamref06_Of.l0])
    | succ k1 =>
      have H := HA.out
      clear HA
      simp only [hornbeamref06_Of.l0] at H
      by_cases c4 : x4_1 < (l0.length : Int)
      · rw [if_pos c4] at H
        have c4b0 : decide (x4_1 < (l0.length : Int)) = true := decide_eq_true c4
        clear c4
        by_cases c5 : 0 ≤ x4_1
        · rw [if_pos c5] at H
          have c5b0 : decide (0 ≤ x4_1) = true := decide_eq_true c5
          clear c5
          by_cases c6 : x3_1.length < 17592186044416
          · rw [if_pos c6] at H
            have LMc6 := Aside0.mk c6
            clear c6
            obtain ⟨y176, hy176⟩ : ∃ y_ : List Nat, y_ = (x3_1 ++ [Flt.fbits (rd l0 x4_1)]) := ⟨_, rfl⟩
            replace H : (hornbeamref06_Of.l0 k1 l0 y176 (wrap64 (x4_1 + 1))) = some r := by first | (rw [hy176]; with_reducible exact H) | (have H2_ := (Option.bind_some _ _).symm.trans H; rw [hy176]; with_reducible exact H2_) | (have H2_ := (Option.bind_some _ _).symm.trans H; with_reducible exact H2_) | with_reducible exact H | (rw [hy176]; exact H) | exact H
            have Ny176 := Aside0.mk hy176
            clear hy176
            have H' := Aside0.mk H
            clear H
            have p175 : 0 ≤ (x4_1 : Int) := of_decide_eq_true (by first | (with_reducible assumption) | assumption)
            have q175 : x4_1 < (l0.length : Int) := of_decide_eq_true (by first | (with_reducible assumption) | assumption)
            obtain ⟨ad175, e175, hx175_0⟩ := Kd.at_int HR0.out x4_1 p175 q175
            cases e175
            replace hx175_0 := (HB.out.cell (World.block_lt_of_cell? w _ hx175_0)).trans hx175_0
            replace p175 := eq_true p175
            replace q175 := eq_true q175
            go_wp2_with (first | ((with_reducible refine gate_builtin (b := .append) (xs := #[.tmp 12, .tmp 18]) rfl ?_); at_builtin; refine Kd.R_append Flt.kf (w0 := w) w.heap.size rfl (.tmp 12) (.tmp 18) 36 23 (.float .f64 0) 8 rfl Try.underlying36 info23 rfl (by decide) (by omega) u3 x3_1 (Flt.fbits (rd l0 x4_1)) [.float .f64 (Flt.fbits (rd l0 x4_1))] (fun _ => True) (fun _ => False) rfl rfl ?aP (fun _ hk => hk.elim) ?aF ?aO ?aB ?aS ?aL ?_; (case aP => exact rfl); (case aB => exact (by repeat (first | (with_reducible first | exact HB.out | apply below_alloc | apply pw_below_drewN | apply below_drew1) | exact HB.out))); (case aF => exact (fun _ _ => trivial)); (case aO => exact (by (with_reducible repeat (first | apply Kd.R_alloc | apply Kd.R_drewN | apply Kd.R_drew)); exact HO_3.out)); (case aS => exact (below_size (by repeat (first | (with_reducible first | exact HB.out | apply below_alloc | apply pw_below_drewN | apply below_drew1) | exact HB.out)))); (case aL => have := LMc6.out; omega); intro v177 w7 ho hb hg hat; rw [← Ny176.out] at ho; have n0_ := Aside0.mk (hb); have n1_ := Aside0.mk (ho); clear HB; clear HO_3; have HB := n0_; have HO178 := n1_; clear n0_ n1_; clear ho hb hg hat))
            go_roundg k1
            case measure => have := HK1.out; omega
            case rel => exact ⟨(y176), (wrap64 (x4_1 + 1)), (by first | rfl | (simp; done) | (simp [*]; done)), H', ⟨by have := HK1.out; omega⟩, ⟨by (with_reducible repeat (first | apply Kd.R_alloc | apply Kd.R_drewN | apply Kd.R_drew)); exact HO178.out⟩, ⟨by repeat (first | (with_reducible first | exact HB.out | apply below_alloc | apply pw_below_drewN | apply below_drew1) | exact HB.out)⟩⟩
          · rw [if_neg c6] at H
            exact absurd H (by simp)
        · rw [if_neg c5] at H
          exact absurd H (by simp)
      · rw [if_neg c4] at H
        have c4b0 : decide (x4_1 < (l0.length : Int)) = false := decide_eq_false c4
        clear c4
        obtain rfl := Option.some.inj H
        go_wp2
        go_ret
        exact ⟨_, by first | rfl | (simp [errW_none, errW_some] <;> rfl) | (simp [*, errW_none, errW_some] <;> rfl), by (with_reducible repeat (first | apply Kd.R_alloc | apply Kd.R_drewN | apply Kd.R_drew)); exact HO_3.out, by repeat (first | (with_reducible first | exact HB.out | apply below_alloc | apply pw_below_drewN | apply below_drew1) | exact HB.out)⟩

-- NOT PRINTED: function 60 (slices_insertionSortCmpFunc_float64)

-- NOT PRINTED: function 70 (slices_siftDownCmpFunc_float64)

-- NOT PRINTED: function 61 (slices_heapSortCmpFunc_float64)

-- NOT PRINTED: function 68 (bits_Len32)

-- NOT PRINTED: function 69 (bits_Len64)

-- NOT PRINTED: function 56 (bits_Len)

-- NOT PRINTED: function 71 (slices_nextPowerOfTwo)

-- NOT PRINTED: function 72 (slices_xorshift_Next)

-- NOT PRINTED: function 62 (slices_breakPatternsCmpFunc_float64)

-- NOT PRINTED: function 75 (slices_order2CmpFunc_float64)

-- NOT PRINTED: function 74 (slices_medianCmpFunc_float64)

-- NOT PRINTED: function 73 (slices_medianAdjacentCmpFunc_float64)

-- NOT PRINTED: function 63 (slices_choosePivotCmpFunc_float64)

-- NOT PRINTED: function 64 (slices_reverseRangeCmpFunc_float64)

-- NOT PRINTED: function 65 (slices_partialInsertionSortCmpFunc_float64)

-- NOT PRINTED: function 66 (slices_partitionEqualCmpFunc_float64)

-- NOT PRINTED: function 67 (slices_partitionCmpFunc_float64)

-- NOT PRINTED: function 55 (slices_pdqsortCmpFunc_float64)

-- NOT PRINTED: function 48 (slices_SortFunc_float64_float64)

/-! rank.Cmp as a compare function -/
namespace SortF
def cf (x y : Nat) : Int := (rank_Cmp.f x y).getD 0
def ky (x : Nat) : Int := (rank_Key.f x).getD 0
theorem key_some (x : Nat) : rank_Key.f x = some (ky x) := by
  have h : ∃ r, rank_Key.f x = some r := by
    unfold rank_Key.f rank_Missing.f rank_Clean.f rank_Missing.f
    simp only [Option.bind_some]
    repeat (first | exact ⟨_, rfl⟩ | (simp only [Option.bind_some]; done) | split | simp only [Option.bind_some])
  obtain ⟨r, h⟩ := h
  unfold ky; rw [h]; rfl
theorem cmp_some (x y : Nat) : rank_Cmp.f x y = some (if ky x < ky y then -1 else if ky x > ky y then 1 else 0) := by
  unfold rank_Cmp.f
  rw [key_some, key_some]
  simp only [Option.bind_some]
  unfold cmp_Compare_uint64.f cmp_isNaN_uint64.f
  simp only [Option.bind_some, bne_self_eq_false, Bool.false_eq_true, if_false]
  repeat (first | rfl | split)
theorem cf_eq (x y : Nat) : cf x y = if ky x < ky y then -1 else if ky x > ky y then 1 else 0 := by unfold cf; rw [cmp_some]; rfl
theorem lt_eq (x y : Nat) : Go.Proofs.ltOf cf x y = decide (ky x < ky y) := by
  unfold Go.Proofs.ltOf; rw [cf_eq]
  by_cases h : ky x < ky y
  · simp [h]
  · by_cases h2 : ky x > ky y <;> simp [h, h2]
theorem swo : Go.Sort.SWO (Go.Proofs.ltOf cf) := {
  irrefl := fun x => by rw [lt_eq]; simp
  trans := fun x y z h1 h2 => by rw [lt_eq] at *; simp at *; omega
  ntrans := fun x y z h1 h2 => by rw [lt_eq] at *; simp at *; omega }
theorem enters : ∀ args w, (callFunc 26 args).run Try.prog w = .ok (.enter 26 args) w := enters_of Try.func26 (by kernel_rfl) rfl
theorem calls (x y : Nat) (W : World) : Calls Try.prog 26 #[.float .f64 x, .float .f64 y] W fun e w' => e = .returned (.int .i64 (cf x y)) ∧ ∃ q, w' = W.drewN q := by
  refine (rank_Cmp.calls x y (cf x y) W (by rw [cmp_some, cf_eq])).mono ?_
  rintro e w' ⟨rfl, ⟨nd, rfl⟩⟩
  exact ⟨rfl, nd, rfl⟩
end SortF
/-! ### rank_Sort: function 29 -/
def rank_Sort.l0 : Nat → List Nat → List Nat → Int → Int → Option (List Nat)
  | 0, _, _, _, _ => none
  | k + 1, x3, x6, x7, x8 => if x8 < x7 then (if 0 ≤ x8 then (if x8 < (x6.length : Int) then ((rank_Clean.f (rdOf (0 : Nat) x6 x8)).bind fun t180 => (if x3.length < 17592186044416 then (rank_Sort.l0 k (x3 ++ [t180]) x6 x7 (wrap64 (x8 + 1))) else (none))) else (none)) else (none)) else (if x3.length < 4611686018427387904 then some (FSort.sortT SortF.cf x3) else none)
def rank_Sort.f (k : Nat) (l0 : List Nat) : Option (List Nat) := rank_Sort.l0 k ([] : List Nat) l0 (l0.length : Int) 0
theorem rank_Sort.mono_l : ∀ k, (∀ y0 y1 y2 y3, LeO (rank_Sort.l0 k y0 y1 y2 y3) (rank_Sort.l0 (k + 1) y0 y1 y2 y3))
  | 0 => fun _ _ _ _ r h => by simp [rank_Sort.l0] at h
  | k + 1 => by
    have ih0 := rank_Sort.mono_l k
    · intro y0 y1 y2 y3
      unfold rank_Sort.l0
      repeat' first
      | (with_reducible exact ih0 _ _ _ _)
      | (with_reducible exact LeO.refl _)
      | (with_reducible exact LeO.none _)
      | (with_reducible refine LeO.ite ?_ ?_)
      | (with_reducible refine LeO.bind ?_ (fun _ => ?_))
      | exact ih0 _ _ _ _
      | exact LeO.none _
      | refine LeO.ite ?_ ?_
      | refine LeO.bind ?_ (fun _ => ?_)
theorem rank_Sort.mono : ∀ a0 k, LeO (rank_Sort.f k a0) (rank_Sort.f (k + 1) a0) := by
  intro a0 k
  have ih0 := rank_Sort.mono_l k
  unfold rank_Sort.f
  repeat' first
      | (with_reducible exact ih0 _ _ _ _)
      | (with_reducible exact LeO.refl _)
      | (with_reducible exact LeO.none _)
      | (with_reducible refine LeO.ite ?_ ?_)
      | (with_reducible refine LeO.bind ?_ (fun _ => ?_))
      | exact ih0 _ _ _ _
      | exact LeO.none _
      | refine LeO.ite ?_ ?_
      | refine LeO.bind ?_ (fun _ => ?_)
set_option maxHeartbeats 8000000 in
set_option maxRecDepth 100000 in
theorem rank_Sort.calls (k : Nat) (A0 : Option Addr) (c0 : Nat) (l0 : List Nat) (r : List Nat) (w : World) (hr0 : Kd.C Flt.kf w A0 l0.length l0) (hc0 : l0.length ≤ c0) (h : rank_Sort.f k l0 = some r) :
    Calls Try.prog 29 #[.slice A0 l0.length c0] w fun e w' => ∃ v0_ : Value, e = .returned (v0_) ∧ Kd.R Flt.kf 23 w' w.heap.size (fun _ => True) v0_ r ∧ Below w.heap.size w w' := by
  have HR0 := Aside0.mk hr0
  have HC0 := Aside0.mk hc0
  clear hr0 hc0
  have HB := Aside0.mk (Below.refl w.heap.size w)
  have H : (rank_Sort.l0 k ([] : List Nat) l0 (l0.length : Int) 0) = some r := h
  clear h
  have H' := Aside0.mk H
  clear H
  go_enter Try.func29, Try.ntmps29
  go_wp2
  go_loopg [3, 8] k (fun kq v3 v8 w' => ∃ (x3_1 : List Nat) (x8_1 : Int), v8 = .int .i64 x8_1 ∧ Aside0 (rank_Sort.l0 kq x3_1 l0 (l0.length : Int) x8_1 = some r) ∧ Aside0 (kq ≤ k) ∧ Aside0 (Kd.R Flt.kf 23 w' w.heap.size (fun _ => True) v3 x3_1) ∧ Aside0 (Below w.heap.size w w'))
  case atStart => exact ⟨(([] : List Nat)), (0), (by first | rfl | (simp; done) | (simp [*]; done)), H', ⟨Nat.le_refl _⟩, ⟨by first | exact Kd.R_nil _ _ _ _ _ | exact Kd.N_nil _ _ _ _ _ | exact Kd.V_nil _ _ _ _ _ | exact Kd.Q_nil _ _ _ _ _ | exact Kd.S_nil _ _ _ _ _⟩, ⟨by repeat (first | (with_reducible first | exact HB.out | apply below_alloc | apply pw_below_drewN | apply below_drew1) | exact HB.out)⟩⟩
  case round =>
    clear H'
    obtain ⟨x3_1, x8_1, rfl, HA, HK1, HO_3, HB⟩ := hrel
    cases gk with
    | zero => exact absurd HA.out (by simp [rank_Sort.l0])
    | succ k1 =>
      have H := HA.out
      clear HA
      simp only [rank_Sort.l0] at H
      by_cases c2 : x8_1 < (l0.length : Int)
      · rw [if_pos c2] at H
        have c2b0 : decide (x8_1 < (l0.length : Int)) = true := decide_eq_true c2
        clear c2
        by_cases c3 : 0 ≤ x8_1
        · rw [if_pos c3] at H
          have c3b0 : decide (0 ≤ x8_1) = true := decide_eq_true c3
          clear c3
          by_cases c4 : x8_1 < (l0.length : Int)
          · rw [if_pos c4] at H
            have c4b0 : decide (x8_1 < (l0.length : Int)) = true := decide_eq_true c4
            clear c4
            replace H := Option.bind_eq_some_iff.mp H
            obtain ⟨t180, A50, H⟩ := H
            replace H : (if x3_1.length < 17592186044416 then (rank_Sort.l0 k1 (x3_1 ++ [t180]) l0 (l0.length : Int) (wrap64 (x8_1 + 1))) else (none)) = some r := H
            have A5 := Aside0.mk A50
            clear A50
            by_cases c6 : x3_1.length < 17592186044416
            · rw [if_pos c6] at H
              have LMc6 := Aside0.mk c6
              clear c6
              obtain ⟨y181, hy181⟩ : ∃ y_ : List Nat, y_ = (x3_1 ++ [t180]) := ⟨_, rfl⟩
              replace H : (rank_Sort.l0 k1 y181 l0 (l0.length : Int) (wrap64 (x8_1 + 1))) = some r := by first | (rw [hy181]; with_reducible exact H) | (have H2_ := (Option.bind_some _ _).symm.trans H; rw [hy181]; with_reducible exact H2_) | (have H2_ := (Option.bind_some _ _).symm.trans H; with_reducible exact H2_) | with_reducible exact H | (rw [hy181]; exact H) | exact H
              have Ny181 := Aside0.mk hy181
              clear hy181
              have H' := Aside0.mk H
              clear H
              have p179 : 0 ≤ (x8_1 : Int) := of_decide_eq_true (by first | (with_reducible assumption) | assumption)
              have q179 : x8_1 < (l0.length : Int) := of_decide_eq_true (by first | (with_reducible assumption) | assumption)
              obtain ⟨ad179, e179, hx179_0⟩ := Flt.at_kf HR0.out x8_1 p179 q179
              cases e179
              replace hx179_0 := (HB.out.cell (World.block_lt_of_cell? w _ hx179_0)).trans hx179_0
              replace p179 := eq_true p179
              replace q179 := eq_true q179
              go_wp2_with (first | ((with_reducible refine gate_callee (f := 16) rfl ?_); refine goesL_ (some 14) rfl rfl Try.func16 (by kernel_rfl) rfl #[.float .f64 (rdOf (0 : Nat) l0 x8_1)] rfl (by (try simp only [List.map_toArray, List.map_cons, List.map_nil]); first | done | rfl | (simp only [List.length_drop, List.length_take]; rfl)) ?_; (with_reducible refine (rank_Clean.calls (rdOf (0 : Nat) l0 x8_1) t180 _ A5.out).mono ?_); rintro e w' ⟨rfl, ⟨nd, rfl⟩⟩; refine ⟨_, rfl, ?_⟩) | ((with_reducible refine gate_builtin (b := .append) (xs := #[.tmp 12, .tmp 15]) rfl ?_); at_builtin; refine Kd.R_append Flt.kf (w0 := w) w.heap.size rfl (.tmp 12) (.tmp 15) 36 23 (.float .f64 0) 8 rfl Try.underlying36 info23 rfl (by decide) (by omega) u3 x3_1 t180 [.float .f64 t180] (fun _ => True) (fun _ => False) rfl rfl ?aP (fun _ hk => hk.elim) ?aF ?aO ?aB ?aS ?aL ?_; (case aP => exact rfl); (case aB => exact (by repeat (first | (with_reducible first | exact HB.out | apply below_alloc | apply pw_below_drewN | apply below_drew1) | exact HB.out))); (case aF => exact (fun _ _ => trivial)); (case aO => exact (by (with_reducible repeat (first | apply Kd.R_alloc | apply Kd.R_drewN | apply Kd.R_drew)); exact HO_3.out)); (case aS => exact (below_size (by repeat (first | (with_reducible first | exact HB.out | apply below_alloc | apply pw_below_drewN | apply below_drew1) | exact HB.out)))); (case aL => have := LMc6.out; omega); intro v182 w7 ho hb hg hat; rw [← Ny181.out] at ho; have n0_ := Aside0.mk (hb); have n1_ := Aside0.mk (ho); clear HB; clear HO_3; have HB := n0_; have HO183 := n1_; clear n0_ n1_; clear ho hb hg hat))
              go_roundg k1
              case measure => have := HK1.out; omega
              case rel => exact ⟨(y181), (wrap64 (x8_1 + 1)), (by first | rfl | (simp; done) | (simp [*]; done)), H', ⟨by have := HK1.out; omega⟩, ⟨by (with_reducible repeat (first | apply Kd.R_alloc | apply Kd.R_drewN | apply Kd.R_drew)); exact HO183.out⟩, ⟨by repeat (first | (with_reducible first | exact HB.out | apply below_alloc | apply pw_below_drewN | apply below_drew1) | exact HB.out)⟩⟩
            · rw [if_neg c6] at H
              exact absurd H (by simp)
          · rw [if_neg c4] at H
            exact absurd H (by simp)
        · rw [if_neg c3] at H
          exact absurd H (by simp)
      · rw [if_neg c2] at H
        have c2b0 : decide (x8_1 < (l0.length : Int)) = false := decide_eq_false c2
        clear c2
        by_cases cl_ : x3_1.length < 4611686018427387904
        case neg => rw [if_neg cl_] at H; exact absurd H (by simp)
        rw [if_pos cl_] at H
        obtain rfl := Option.some.inj H
        obtain ⟨Ao_, co_, eo_⟩ := Kd.R_slice HO_3.out
        subst eo_
        have LN_ := Aside0.mk cl_
        clear cl_
        go_wp2_with (go_at_call 48; refine (FSort.sort_calls SortF.cf SortF.swo 26 SortF.enters SortF.calls (by (with_reducible repeat (first | apply Kd.R_alloc | apply Kd.R_drewN | apply Kd.R_drew)); exact HO_3.out) LN_.out).mono ?_; rintro e w9 ⟨rfl, hR_, hb_⟩; have n0_ := Aside0.mk hR_; have n1_ := Aside0.mk (Below.trans (show Below w.heap.size w _ by repeat (first | (with_reducible first | exact HB.out | apply below_alloc | apply pw_below_drewN | apply below_drew1) | exact HB.out)) hb_); clear hR_ hb_; clear HB; have HB := n1_; clear n1_)
        go_ret
        exact ⟨_, rfl, by (with_reducible repeat (first | apply Kd.R_alloc | apply Kd.R_drewN | apply Kd.R_drew)); exact n0_.out, by repeat (first | (with_reducible first | exact HB.out | apply below_alloc | apply pw_below_drewN | apply below_drew1) | exact HB.out)⟩

end Go.Proofs.Ytlmmlhljflladaa.PA
