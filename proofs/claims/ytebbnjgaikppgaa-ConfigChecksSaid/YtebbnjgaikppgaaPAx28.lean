-- Written by a program of this session (wip/hp) out of the translation of seat Ytebbnjgaikppgaa.
import Derived.Test.YtebbnjgaikppgaaPAx0
import Derived.Test.YtebbnjgaikppgaaPAx27
namespace Go.Proofs.Ytebbnjgaikppgaa.PA
open Go.RowKit Go.Proofs.YtebbnjgaikppgaaW.PrintWords Go.Proofs.YtebbnjgaikppgaaW.PrintLast Go.Proofs.YtebbnjgaikppgaaW.PrintMore
attribute [local go_sem] max2_int min2_int max_two min_two max_three min_three max_four min_four   -- for this text's walks alone
attribute [local go_sem high] Flt.fold_eq Flt.fold_ne Flt.fold_lt Flt.fold_gt Flt.fold_le Flt.fold_ge Flt.run_bits Flt.run_frombits
set_option linter.unusedVariables false
set_option linter.unusedSimpArgs false

/-! ### hornbeamlaw08_taken: function 39, by hand -/
/-- The config that some bytes begin with, and the error, if nothing is left. -/
def hornbeamlaw08_taken.g (l : List Int) : List Int × Int := match config_Get.get l with
  | .error c => ([], c)
  | .ok (xs, l1) => if l1.length > 0 then ([], 3) else (xs, 0)
def hornbeamlaw08_taken.f (l0 : List Int) : Option (Int × Int × Int × Int × Int × Int × Int × Int) :=
  if ∀ x ∈ l0, 0 ≤ x ∧ x < 256 then some (config_Get.fld (hornbeamlaw08_taken.g l0).1 0, config_Get.fld (hornbeamlaw08_taken.g l0).1 1, config_Get.fld (hornbeamlaw08_taken.g l0).1 2, config_Get.fld (hornbeamlaw08_taken.g l0).1 3, config_Get.fld (hornbeamlaw08_taken.g l0).1 4, config_Get.fld (hornbeamlaw08_taken.g l0).1 5, config_Get.fld (hornbeamlaw08_taken.g l0).1 6, (hornbeamlaw08_taken.g l0).2) else none
set_option maxHeartbeats 4000000 in
set_option maxRecDepth 100000 in
theorem hornbeamlaw08_taken.closure (ok : Nat → Prop) (B C : Nat) (l : List Int) (w : World) (h : FTake.Rdr ok w B l) (hn : ∀ k, ok k → k ≠ B) (hC : ∀ k, ok k → k ≠ C) (hok : ∀ k, ok k → k < w.heap.size) (hCB : C ≠ B) (hz : config_Get.Holds w C []) :
    Calls Try.prog 60 #[.pointer (some ⟨B, 0, none⟩), .pointer (some ⟨C, 0, none⟩)] w fun e W =>
      FTake.Offs (fun k => k = B ∨ k = C) w W ∧ ((∃ xs l1, config_Get.get l = .ok (xs, l1) ∧ e = .returned (.tuple #[]) ∧ FTake.Rdr ok W B l1 ∧ config_Get.Holds W C xs) ∨ (∃ c, config_Get.get l = .error c ∧ e = .panicked (FTake.fault c))) := by
  have hu := Try.underlying55
  have G := config_Get.gives ok B l w h hn hok
  have HZ := Aside0.mk hz
  have HC := Aside0.mk hC
  clear h hz hn hC
  cases hg : config_Get.get l with
  | error c =>
    rw [hg] at G
    have HG := Aside0.mk G
    clear G hg
    go_enter Try.func60, Try.ntmps60
    go_wp2_with (fail)
    refine HG.out.mono ?_
    rintro e w1 ⟨ho, rfl⟩
    exact ⟨rfl, FTake.Offs.of_off ho (Or.inl rfl), .inr ⟨c, rfl, rfl⟩⟩
  | ok q =>
    obtain ⟨xs, l1⟩ := q
    rw [hg] at G
    have HG := Aside0.mk G
    clear G hg
    go_enter Try.func60, Try.ntmps60
    go_wp2_with (fail)
    refine HG.out.mono ?_
    rintro e w1 ⟨ho, hr, v, rfl, rfl⟩
    have z0 : config_Get.Holds w1 C [] := (ho.block C (blk_lt HZ.out) hCB).trans HZ.out
    have HO := Aside0.mk ho
    have HR := Aside0.mk hr
    have Z0 := Aside0.mk z0
    clear ho hr HG z0
    go_wp2_with ((with_reducible refine gate_store (t := 55) (p := 1) rfl ?_); refine FStore.store_all C 55 55 1 _ (config_Get.cells []) (config_Get.cells xs) rfl rfl rfl rfl rfl Z0.out (by kernel_rfl) rfl (by simp [config_Get.cells, Value.oneCell']) ?_; intro w9 hb9 hB9 hk9)
    go_end0
    have hs := config_Get.off_store hB9 hk9
    refine ⟨(FTake.Offs.of_off HO.out (Or.inl rfl)).trans (FTake.Offs.of_off hs (Or.inr rfl)), .inl ⟨xs, l1, rfl, rfl, HR.out.off hs (Ne.symm hCB) HC.out, hb9⟩⟩
set_option maxHeartbeats 4000000 in
set_option maxRecDepth 100000 in
theorem hornbeamlaw08_taken.calls (A0 : Option Addr) (c0 : Nat) (l0 : List Int) (r1 r2 r3 r4 r5 r6 r7 r8 : Int) (w : World) (hr0 : Kd.C (Kd.int .u8) w A0 l0.length l0) (hc0 : l0.length ≤ c0) (h : hornbeamlaw08_taken.f l0 = some (r1, r2, r3, r4, r5, r6, r7, r8)) :
    Calls Try.prog 39 #[.slice A0 l0.length c0] w fun e w' => e = .returned (.tuple #[.agg #[.int .i64 r1, .int .i64 r2, .int .i64 r3, .int .i64 r4, .int .i64 r5, .int .i64 r6, .int .i64 r7], .int .i64 r8]) ∧ Below w.heap.size w w' := by
  have hu := Try.underlying55
  unfold hornbeamlaw08_taken.f at h
  split at h
  case isFalse => exact absurd h (by simp)
  rename_i hx
  simp only [Option.some.injEq, Prod.mk.injEq] at h
  obtain ⟨rfl, rfl, rfl, rfl, rfl, rfl, rfl, rfl⟩ := h
  have hmf : ∀ (fn : Fn) (first cap : Array Value) (W : World), (Instr.makeFunc fn first cap).run Try.prog W = .ok (.func fn first cap) W := fun _ _ _ _ => rfl
  obtain ⟨W0, hW0⟩ : ∃ W0, (w.alloc (.cells (config_Get.cells []) 55)).alloc (.cells (config_Get.cells []) 55) = W0 := ⟨_, rfl⟩
  have z1 : config_Get.Holds W0 w.heap.size [] := by rw [← hW0]; exact blk_alloc (blk_new w _) _
  have z2 : config_Get.Holds W0 (w.heap.size + 1) [] := by rw [← hW0]; have := blk_new (w.alloc (.cells (config_Get.cells []) 55)) (.cells (config_Get.cells []) 55); rwa [World.size_alloc] at this
  have hb0 : Below w.heap.size w W0 := by rw [← hW0]; exact below_alloc (below_alloc (Below.refl _ w) _) _
  have hsz : W0.heap.size = w.heap.size + 2 := by rw [← hW0]; simp
  have hF : Kd.F (Kd.int .u8) W0 (fun k => k < w.heap.size) A0 l0.length l0 := Kd.F_below (Kd.C_F (Kd.heap_int .u8) hr0) hb0
  have HF := Aside0.mk hF
  have HX := Aside0.mk hx
  have HC0 := Aside0.mk hc0
  have Z1 := Aside0.mk z1
  have Z2 := Aside0.mk z2
  have HB0 := Aside0.mk hb0
  have T := FTake.try_calls 60 #[.pointer (some ⟨w.heap.size + 1, 0, none⟩)] (fun k => k < w.heap.size) A0 c0 l0 W0 (enters_of Try.func60 (by kernel_rfl) rfl)
    (fun l1 W => ∃ xs, config_Get.get l0 = .ok (xs, l1) ∧ config_Get.Holds W (w.heap.size + 1) xs ∧ config_Get.Holds W w.heap.size [] ∧ Below w.heap.size w W)
    (fun c W => config_Get.get l0 = .error c ∧ config_Get.Holds W w.heap.size [] ∧ Below w.heap.size w W) (by
      refine (hornbeamlaw08_taken.closure (fun k => k < w.heap.size) (W0.heap.size + 1) (w.heap.size + 1) l0 _ (FTake.start_rdr _ A0 c0 l0 W0 HF.out HC0.out HX.out) (fun k hk => by omega) (fun k hk => by omega) (fun k hk => by rw [FTake.start_size]; omega) (by omega) ((FTake.start_below A0 l0.length c0 W0).block _ (blk_lt Z2.out) |>.trans Z2.out)).mono ?_
      rintro e W ⟨ho, hh⟩
      have hbW : Below w.heap.size w W := (HB0.out.trans ((FTake.start_below A0 l0.length c0 W0).mono (by omega))).trans (ho.below (by rw [FTake.start_size]; omega) (by omega))
      have hzW : config_Get.Holds W w.heap.size [] := (ho.block _ (by rw [FTake.start_size]; omega) (by omega)).trans ((FTake.start_below A0 l0.length c0 W0).block _ (blk_lt Z1.out) |>.trans Z1.out)
      refine ⟨ho.boxed (FTake.start_err A0 l0.length c0 W0) (by omega), ?_⟩
      rcases hh with ⟨xs, l1, hg, rfl, hr, hc⟩ | ⟨c, hg, rfl⟩
      · exact .inl ⟨_, l1, rfl, hr, xs, hg, hc, hzW, hbW⟩
      · exact .inr ⟨c, rfl, hg, hzW, hbW⟩)
  have HT := Aside0.mk T
  clear T hr0 hc0 hx z1 z2 hb0 hF
  go_enter Try.func39, Try.ntmps39
  go_wp2_with (fail)
  change Calls _ _ _ ((w.alloc (.cells (config_Get.cells []) 55)).alloc (.cells (config_Get.cells []) 55)) _
  rw [hW0]
  clear hW0
  refine HT.out.mono ?_
  rintro e w2 ⟨c, W, rfl, ho, ⟨l1, ⟨xs, hg, hc, hz, hb⟩, rfl⟩ | ⟨hg, hz, hb⟩⟩
  · have hb2 := Aside0.mk (hb.trans (ho.below (by have := hb.size; omega) (by omega)))
    have hz2 := Aside0.mk (show config_Get.Holds w2 w.heap.size [] from (ho.block _ (blk_lt hz) (by omega)).trans hz)
    have hc2 := Aside0.mk (show config_Get.Holds w2 (w.heap.size + 1) xs from (ho.block _ (blk_lt hc) (by omega)).trans hc)
    by_cases hl : l1.length > 0
    · have hgl : hornbeamlaw08_taken.g l0 = ([], 3) := by unfold hornbeamlaw08_taken.g; rw [hg]; simp only; rw [if_pos hl]
      rw [if_pos hl]
      have HGL := Aside0.mk hgl
      clear hg hc hz hb ho hl hgl HT Z1 Z2 HB0
      go_wp2_with ((with_reducible refine gate_store (t := 55) (p := 2) rfl ?_); refine FStore.store_all w.heap.size 55 55 2 _ (config_Get.cells []) (config_Get.cells []) rfl rfl rfl rfl rfl hz2.out (by kernel_rfl) rfl (by simp [config_Get.cells, Value.oneCell']) ?_; intro w9 hb9 hB9 hk9)
      refine bodyPost_ret (results_ct rfl _ _ w.heap.size 55 (config_Get.cells []) (0, 0) _ rfl hb9 Try.underlying55 rfl (by kernel_rfl)) rfl ?_
      rw [HGL.out]
      exact ⟨rfl, hB9 _ _ (Nat.le_refl _) hb2.out⟩
    · have hgl : hornbeamlaw08_taken.g l0 = (xs, 0) := by unfold hornbeamlaw08_taken.g; rw [hg]; simp only; rw [if_neg hl]
      rw [if_neg hl]
      have HGL := Aside0.mk hgl
      have k0 : w2.cell? ⟨w.heap.size + 1, 0, none⟩ = some (.int .i64 (config_Get.fld xs 0)) := (blk_cell hc2.out 0).trans rfl
      have k1 : w2.cell? ⟨w.heap.size + 1, 1, none⟩ = some (.int .i64 (config_Get.fld xs 1)) := (blk_cell hc2.out 1).trans rfl
      have k2 : w2.cell? ⟨w.heap.size + 1, 2, none⟩ = some (.int .i64 (config_Get.fld xs 2)) := (blk_cell hc2.out 2).trans rfl
      have k3 : w2.cell? ⟨w.heap.size + 1, 3, none⟩ = some (.int .i64 (config_Get.fld xs 3)) := (blk_cell hc2.out 3).trans rfl
      have k4 : w2.cell? ⟨w.heap.size + 1, 4, none⟩ = some (.int .i64 (config_Get.fld xs 4)) := (blk_cell hc2.out 4).trans rfl
      have k5 : w2.cell? ⟨w.heap.size + 1, 5, none⟩ = some (.int .i64 (config_Get.fld xs 5)) := (blk_cell hc2.out 5).trans rfl
      have k6 : w2.cell? ⟨w.heap.size + 1, 6, none⟩ = some (.int .i64 (config_Get.fld xs 6)) := (blk_cell hc2.out 6).trans rfl
      clear hg hc hz hb ho hl hgl HT Z1 Z2 HB0
      go_wp2_with ((with_reducible refine gate_store (t := 55) (p := 2) rfl ?_); refine FStore.store_all w.heap.size 55 55 2 _ (config_Get.cells []) (config_Get.cells xs) rfl rfl rfl rfl rfl hz2.out (by kernel_rfl) rfl (by simp [config_Get.cells, Value.oneCell']) ?_; intro w9 hb9 hB9 hk9)
      refine bodyPost_ret (results_ct rfl _ _ w.heap.size 55 (config_Get.cells xs) (0, 0) _ rfl hb9 Try.underlying55 rfl (by kernel_rfl)) rfl ?_
      rw [HGL.out]
      exact ⟨rfl, hB9 _ _ (Nat.le_refl _) hb2.out⟩
  · have hb2 := Aside0.mk (hb.trans (ho.below (by have := hb.size; omega) (by omega)))
    have hz2 := Aside0.mk (show config_Get.Holds w2 w.heap.size [] from (ho.block _ (blk_lt hz) (by omega)).trans hz)
    have hgl : hornbeamlaw08_taken.g l0 = ([], c) := by unfold hornbeamlaw08_taken.g; rw [hg]
    have d1 : (c != 0) = true := bne_iff_ne.mpr (config_Get.get_ne hg)
    have HGL := Aside0.mk hgl
    clear hg hz hb ho hgl HT Z1 Z2 HB0
    go_wp2_with ((with_reducible refine gate_store (t := 55) (p := 2) rfl ?_); refine FStore.store_all w.heap.size 55 55 2 _ (config_Get.cells []) (config_Get.cells []) rfl rfl rfl rfl rfl hz2.out (by kernel_rfl) rfl (by simp [config_Get.cells, Value.oneCell']) ?_; intro w9 hb9 hB9 hk9)
    refine bodyPost_ret (results_ct rfl _ _ w.heap.size 55 (config_Get.cells []) (0, 0) _ rfl hb9 Try.underlying55 rfl (by kernel_rfl)) rfl ?_
    rw [HGL.out]
    exact ⟨rfl, hB9 _ _ (Nat.le_refl _) hb2.out⟩


end Go.Proofs.Ytebbnjgaikppgaa.PA
