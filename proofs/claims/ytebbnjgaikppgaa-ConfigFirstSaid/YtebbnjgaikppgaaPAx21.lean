-- Written by a program of this session (wip/hp) out of the translation of seat Ytebbnjgaikppgaa.
import Derived.Test.YtebbnjgaikppgaaPAx0
import Derived.Test.YtebbnjgaikppgaaPAx19
import Derived.Test.YtebbnjgaikppgaaPAx20
namespace Go.Proofs.Ytebbnjgaikppgaa.PA
open Go.RowKit Go.Proofs.YtebbnjgaikppgaaW.PrintWords Go.Proofs.YtebbnjgaikppgaaW.PrintLast Go.Proofs.YtebbnjgaikppgaaW.PrintMore
attribute [local go_sem] max2_int min2_int max_two min_two max_three min_three max_four min_four   -- for this text's walks alone
attribute [local go_sem high] Flt.fold_eq Flt.fold_ne Flt.fold_lt Flt.fold_gt Flt.fold_le Flt.fold_ge Flt.run_bits Flt.run_frombits
set_option linter.unusedVariables false
set_option linter.unusedSimpArgs false

/-! ### hornbeamlaw08_fixed: function 35, by hand -/
def hornbeamlaw08_fixed.f : Option Bool := some true
theorem hornbeamlaw08_fixed.c0 : config_Check.f 20 0 2 2 1 0 1 1 = some 0 := by decide +kernel
theorem hornbeamlaw08_fixed.c1 : config_Check.f 20 0 1 2 1 0 1 1 = some 3 := by decide +kernel
theorem hornbeamlaw08_fixed.c2 : config_Check.f 20 0 257 2 1 0 1 1 = some 4 := by decide +kernel
theorem hornbeamlaw08_fixed.p0 : config_Put.f 40 [] 0 2 2 1 0 1 1 = some [0, 0, 2, 0, 2, 0, 1, 0, 0, 0, 0, 1, 0, 1] := by decide +kernel
abbrev hornbeamlaw08_fixed.B (W : World) (g : Nat) (x : Int) : Prop := FStep.Blk7 W g 55 0 x 2 1 0 1 1
def hornbeamlaw08_fixed.zero (W : World) (g : Nat) : Prop := FStep.Blk7 W g 55 0 0 0 0 0 0 0
set_option maxHeartbeats 4000000 in
set_option maxRecDepth 100000 in
theorem hornbeamlaw08_fixed.calls (r : Bool) (w : World) (h : hornbeamlaw08_fixed.f = some r) : Calls Try.prog 35 #[] w fun e w' => e = .returned (.bool r) ∧ Below w.heap.size w w' := by
  obtain rfl := Option.some.inj h
  have hu := Try.underlying55
  clear h
  have G1 := Aside0.mk (show hornbeamlaw08_fixed.B (w.alloc (.cells #[.int .i64 0, .int .i64 2, .int .i64 2, .int .i64 1, .int .i64 0, .int .i64 1, .int .i64 1] 55)) w.heap.size 2 from blk_new w _)
  have HB0 := Aside0.mk (below_alloc (Below.refl w.heap.size w) (.cells #[.int .i64 0, .int .i64 2, .int .i64 2, .int .i64 1, .int .i64 0, .int .i64 1, .int .i64 1] 55))
  go_enter Try.func35, Try.ntmps35
  go_wp2
  obtain ⟨W1, hW1⟩ : ∃ W1, w.alloc (.cells #[.int .i64 0, .int .i64 2, .int .i64 2, .int .i64 1, .int .i64 0, .int .i64 1, .int .i64 1] 55) = W1 := ⟨_, rfl⟩
  rw [hW1]
  rw [hW1] at G1 HB0
  clear hW1
  have G := Aside0.mk (show hornbeamlaw08_fixed.B W1.drew w.heap.size 2 from G1.out)
  have HB := Aside0.mk (below_drew1 HB0.out)
  refine start_ (n := 6) (S := fun w' => hornbeamlaw08_fixed.B w' w.heap.size 2) (ds := []) #[false, false, false, false, false, false] (by kernel_rfl) rfl rfl G.out (fun hHeld => ?_)
  generalize W1.drew = W2 at G HB hHeld ⊢
  refine take_ (i := 0) (N := some 5) (v := ?_) (a' := ?_) #[true, false, false, false, false, false] rfl rfl (by kernel_rfl) (fun _ _ _ h => h) (Or.inl ⟨by rfl, ?_⟩) hHeld ?_ ?_
  rotate_left
  · intro w' s
    have s0 := s.c0
    have s1 := s.c1
    have s2 := s.c2
    have s3 := s.c3
    have s4 := s.c4
    have s5 := s.c5
    have s6 := s.c6
    clear s
    go_simp
    with_reducible rfl
  rotate_left
  · simp only [Act.put, List.setIfInBounds_toArray, List.set_cons_zero, List.set_cons_succ, i64_w, i32_w]
    rfl
  refine take_ (i := 1) (N := some 6) (v := ?_) (a' := ?_) #[true, true, false, false, false, false] rfl rfl (by kernel_rfl) (fun _ _ _ h => h) (Or.inl ⟨by rfl, ?_⟩) hHeld ?_ ?_
  rotate_left
  · intro w' s
    have s0 := s.c0
    have s1 := s.c1
    have s2 := s.c2
    have s3 := s.c3
    have s4 := s.c4
    have s5 := s.c5
    have s6 := s.c6
    clear s
    go_simp
    with_reducible rfl
  rotate_left
  · simp only [Act.put, List.setIfInBounds_toArray, List.set_cons_zero, List.set_cons_succ, i64_w, i32_w]
    rfl
  refine join_ (σ := Nat × Nat) 2 #[true, true, true, true, false, false] (fun s_ => [(2, .pointer (some ⟨s_.1, 0, none⟩)), (3, .pointer (some ⟨s_.2, 0, none⟩))])
    (fun s_ w' => hornbeamlaw08_fixed.B w' w.heap.size 2 ∧ hornbeamlaw08_fixed.zero w' s_.1 ∧ hornbeamlaw08_fixed.zero w' s_.2 ∧ w.heap.size < s_.1 ∧ w.heap.size < s_.2 ∧ s_.1 ≠ s_.2 ∧ Below w.heap.size w w') ?_ ?_
  rotate_left
  · intro hCont
    refine two_ (i := 2) (j := 3) (Ni := some 2) (Nj := some 3) #[true, true, true, false, false, false] #[true, true, false, true, false, false] rfl rfl rfl rfl (by kernel_rfl) (by decide) (by decide) (fun K hK => ?_) (fun K hK => ?_)
    · refine box_step ?hg (N := 2) ?hd (cs := #[.int .i64 0, .int .i64 0, .int .i64 0, .int .i64 0, .int .i64 0, .int .i64 0, .int .i64 0]) (t := 55) ?hr ?_; (case hd => rfl); (case hg => rfl); (case hr => first | (go_simp; done) | (go_simp; rfl))
      intro g2 hg w3 hbox hb
      have G3 := Aside0.mk (FStep.Blk7.below G.out hb)
      have HB3 := Aside0.mk (below_step HB.out hb)
      have Z2 := Aside0.mk (show hornbeamlaw08_fixed.zero w3 g2 from hbox)
      have N2 := Aside0.mk (show w.heap.size < g2 by rw [hg]; exact FStep.Blk7.lt G.out)
      clear hb hbox hg G HB hHeld G1 HB0
      refine hK.out _ _ G3.out (fun hHeld => ?_)
      clear hK K
      refine norm_ (a' := ?_) ?_ ?_
      rotate_left
      · show Act.put _ (some 2) _ = _
        simp only [Act.put, List.setIfInBounds_toArray, List.set_cons_zero, List.set_cons_succ, i64_w, i32_w]
        rfl
      refine one_ (i := 3) (N := some 3) #[true, true, true, true, false, false] rfl rfl (by kernel_rfl) (by decide) (fun K hK => ?_)
      refine box_step ?hg (N := 3) ?hd (cs := #[.int .i64 0, .int .i64 0, .int .i64 0, .int .i64 0, .int .i64 0, .int .i64 0, .int .i64 0]) (t := 55) ?hr ?_; (case hd => rfl); (case hg => rfl); (case hr => first | (go_simp; done) | (go_simp; rfl))
      intro g3 hg w4 hbox hb
      have G4 := Aside0.mk (FStep.Blk7.below G3.out hb)
      have HB4 := Aside0.mk (below_step HB3.out hb)
      have Z2' := Aside0.mk (show hornbeamlaw08_fixed.zero w4 g2 from FStep.Blk7.below Z2.out hb)
      have Z3 := Aside0.mk (show hornbeamlaw08_fixed.zero w4 g3 from hbox)
      have N3 := Aside0.mk (show w.heap.size < g3 by rw [hg]; exact FStep.Blk7.lt G3.out)
      have N23 := Aside0.mk (show g2 ≠ g3 by rw [hg]; exact Nat.ne_of_lt (FStep.Blk7.lt Z2.out))
      clear hb hbox hg
      refine hK.out _ _ G4.out (fun hHeld => ?_)
      clear hK K
      refine norm_ (a' := ?_) ?_ ?_
      rotate_left
      · show Act.put _ (some 3) _ = _
        simp only [Act.put, List.setIfInBounds_toArray, List.set_cons_zero, List.set_cons_succ, i64_w, i32_w]
        rfl
      exact norm_ (by simp only [putAll, Act.put, List.setIfInBounds_toArray, List.set_cons_zero, List.set_cons_succ]) (hCont (g2, g3) _ ⟨hHeld, Z2'.out, Z3.out, N2.out, N3.out, N23.out, HB4.out⟩)
    · refine box_step ?hg (N := 3) ?hd (cs := #[.int .i64 0, .int .i64 0, .int .i64 0, .int .i64 0, .int .i64 0, .int .i64 0, .int .i64 0]) (t := 55) ?hr ?_; (case hd => rfl); (case hg => rfl); (case hr => first | (go_simp; done) | (go_simp; rfl))
      intro g3 hg w3 hbox hb
      have G3 := Aside0.mk (FStep.Blk7.below G.out hb)
      have HB3 := Aside0.mk (below_step HB.out hb)
      have Z3 := Aside0.mk (show hornbeamlaw08_fixed.zero w3 g3 from hbox)
      have N3 := Aside0.mk (show w.heap.size < g3 by rw [hg]; exact FStep.Blk7.lt G.out)
      clear hb hbox hg G HB hHeld G1 HB0
      refine hK.out _ _ G3.out (fun hHeld => ?_)
      clear hK K
      refine norm_ (a' := ?_) ?_ ?_
      rotate_left
      · show Act.put _ (some 3) _ = _
        simp only [Act.put, List.setIfInBounds_toArray, List.set_cons_zero, List.set_cons_succ, i64_w, i32_w]
        rfl
      refine one_ (i := 2) (N := some 2) #[true, true, true, true, false, false] rfl rfl (by kernel_rfl) (by decide) (fun K hK => ?_)
      refine box_step ?hg (N := 2) ?hd (cs := #[.int .i64 0, .int .i64 0, .int .i64 0, .int .i64 0, .int .i64 0, .int .i64 0, .int .i64 0]) (t := 55) ?hr ?_; (case hd => rfl); (case hg => rfl); (case hr => first | (go_simp; done) | (go_simp; rfl))
      intro g2 hg w4 hbox hb
      have G4 := Aside0.mk (FStep.Blk7.below G3.out hb)
      have HB4 := Aside0.mk (below_step HB3.out hb)
      have Z3' := Aside0.mk (show hornbeamlaw08_fixed.zero w4 g3 from FStep.Blk7.below Z3.out hb)
      have Z2 := Aside0.mk (show hornbeamlaw08_fixed.zero w4 g2 from hbox)
      have N2 := Aside0.mk (show w.heap.size < g2 by rw [hg]; exact FStep.Blk7.lt G3.out)
      have N23 := Aside0.mk (show g2 ≠ g3 by rw [hg]; exact Nat.ne_of_gt (FStep.Blk7.lt Z3.out))
      clear hb hbox hg
      refine hK.out _ _ G4.out (fun hHeld => ?_)
      clear hK K
      refine norm_ (a' := ?_) ?_ ?_
      rotate_left
      · show Act.put _ (some 2) _ = _
        simp only [Act.put, List.setIfInBounds_toArray, List.set_cons_zero, List.set_cons_succ, i64_w, i32_w]
        rfl
      exact norm_ (by simp only [putAll, Act.put, List.setIfInBounds_toArray, List.set_cons_zero, List.set_cons_succ]) (hCont (g2, g3) _ ⟨hHeld, Z2.out, Z3'.out, N2.out, N3.out, N23.out, HB4.out⟩)
  rintro ⟨g2, g3⟩ w5 ⟨hHeld, z2, z3, n2, n3, n23, hb⟩
  clear G HB G1 HB0
  have G := Aside0.mk hHeld
  have Z2 := Aside0.mk z2
  have Z3 := Aside0.mk z3
  have N2 := Aside0.mk n2
  have N3 := Aside0.mk n3
  have N23 := Aside0.mk n23
  have HB := Aside0.mk hb
  clear z2 z3 n2 n3 n23 hb
  refine norm_ (a' := ?_) ?_ ?_
  rotate_left
  · simp only [putAll, Act.put, List.setIfInBounds_toArray, List.set_cons_zero, List.set_cons_succ]
    rfl
  refine one_ (i := 4) (N := none) #[true, true, true, true, true, false] rfl rfl (by kernel_rfl) (by decide) (fun K hK => ?_)
  refine FStep.store_step (by rfl) rfl 55 _ _ rfl g2 #[.int .i64 0, .int .i64 2, .int .i64 2, .int .i64 1, .int .i64 0, .int .i64 1, .int .i64 1] rfl rfl _ _ Z2.out (by kernel_rfl) rfl (by simp [Value.oneCell']) ?_
  intro w6 hbox hsame hbl
  have G6 := Aside0.mk (FStep.Blk7.eq G.out (hsame _ (Nat.ne_of_lt N2.out)))
  have Z36 := Aside0.mk (show hornbeamlaw08_fixed.zero w6 g3 from FStep.Blk7.eq Z3.out (hsame _ (Ne.symm N23.out)))
  have B2 := Aside0.mk (show hornbeamlaw08_fixed.B w6 g2 2 from hbox)
  have HB6 := Aside0.mk (hbl _ _ (Nat.le_of_lt N2.out) HB.out)
  clear hbox hsame hbl
  refine hK.out _ _ G6.out (fun hHeld => ?_)
  clear hK K
  refine one_ (i := 5) (N := none) #[true, true, true, true, true, true] rfl rfl (by kernel_rfl) (by decide) (fun K hK => ?_)
  refine FStep.store_step (by rfl) rfl 55 _ _ rfl g3 #[.int .i64 0, .int .i64 2, .int .i64 2, .int .i64 1, .int .i64 0, .int .i64 1, .int .i64 1] rfl rfl _ _ Z36.out (by kernel_rfl) rfl (by simp [Value.oneCell']) ?_
  intro w7 hbox hsame hbl
  have G7 := Aside0.mk (FStep.Blk7.eq G6.out (hsame _ (Nat.ne_of_lt N3.out)))
  have B27 := Aside0.mk (show hornbeamlaw08_fixed.B w7 g2 2 from FStep.Blk7.eq B2.out (hsame _ N23.out))
  have B3 := Aside0.mk (show hornbeamlaw08_fixed.B w7 g3 2 from hbox)
  have HB7 := Aside0.mk (hbl _ _ (Nat.le_of_lt N3.out) HB6.out)
  clear hbox hsame hbl
  refine hK.out _ _ G7.out (fun hHeld => ?_)
  clear hK K
  refine done_ (by kernel_rfl) ?_
  clear hHeld G G6 Z2 Z3 Z36 B2 HB HB6
  have hc1 := B27.out.c1
  have hf1 := B27.out.fr 1
  have hc2 := B3.out.c1
  have hf2 := B3.out.fr 1
  have hc2' := fun v => (World.cell?_of_block (w := w7) (w' := w7.setCell ⟨g2, 1, none⟩ v) (a := ⟨g3, 1, none⟩) (Below.heap_setCell _ _ _ _ (Ne.symm N23.out))).trans hc2
  have hf2' := fun v => (World.frozen?_of_block (w := w7) (w' := w7.setCell ⟨g2, 1, none⟩ v) (a := ⟨g3, 1, none⟩) (Below.heap_setCell _ _ _ _ (Ne.symm N23.out))).trans hf2
  obtain ⟨W8, hW8⟩ : ∃ W8, (w7.setCell ⟨g2, 1, none⟩ (.int .i64 1)).setCell ⟨g3, 1, none⟩ (.int .i64 257) = W8 := ⟨_, rfl⟩
  have G8 := Aside0.mk (show hornbeamlaw08_fixed.B W8 w.heap.size 2 by rw [← hW8]; exact blk_far (blk_far G7.out (Nat.ne_of_lt N2.out) _) (Nat.ne_of_lt N3.out) _)
  have H2 := Aside0.mk (show hornbeamlaw08_fixed.B W8 g2 1 by rw [← hW8]; exact blk_far (blk_put B27.out 1 _ rfl) N23.out _)
  have H3 := Aside0.mk (show hornbeamlaw08_fixed.B W8 g3 257 by rw [← hW8]; exact blk_put (blk_far B3.out (Ne.symm N23.out) _) 1 _ rfl)
  have HB8 := Aside0.mk (show Below w.heap.size w W8 by rw [← hW8]; exact below_set (below_set HB7.out (Nat.le_of_lt N2.out)) (Nat.le_of_lt N3.out))
  have HW8 := Aside0.mk hW8
  clear hW8 G7 B27 B3 HB7
  have k0 : ((w7.setCell ⟨g2, 1, none⟩ (.int .i64 1)).setCell ⟨g3, 1, none⟩ (.int .i64 257)).cell? ⟨w.heap.size, 0, none⟩ = some (.int .i64 0) := by rw [HW8.out]; exact G8.out.c0
  have k1 : ((w7.setCell ⟨g2, 1, none⟩ (.int .i64 1)).setCell ⟨g3, 1, none⟩ (.int .i64 257)).cell? ⟨w.heap.size, 1, none⟩ = some (.int .i64 2) := by rw [HW8.out]; exact G8.out.c1
  have k2 : ((w7.setCell ⟨g2, 1, none⟩ (.int .i64 1)).setCell ⟨g3, 1, none⟩ (.int .i64 257)).cell? ⟨w.heap.size, 2, none⟩ = some (.int .i64 2) := by rw [HW8.out]; exact G8.out.c2
  have k3 : ((w7.setCell ⟨g2, 1, none⟩ (.int .i64 1)).setCell ⟨g3, 1, none⟩ (.int .i64 257)).cell? ⟨w.heap.size, 3, none⟩ = some (.int .i64 1) := by rw [HW8.out]; exact G8.out.c3
  have k4 : ((w7.setCell ⟨g2, 1, none⟩ (.int .i64 1)).setCell ⟨g3, 1, none⟩ (.int .i64 257)).cell? ⟨w.heap.size, 4, none⟩ = some (.int .i64 0) := by rw [HW8.out]; exact G8.out.c4
  have k5 : ((w7.setCell ⟨g2, 1, none⟩ (.int .i64 1)).setCell ⟨g3, 1, none⟩ (.int .i64 257)).cell? ⟨w.heap.size, 5, none⟩ = some (.int .i64 1) := by rw [HW8.out]; exact G8.out.c5
  have k6 : ((w7.setCell ⟨g2, 1, none⟩ (.int .i64 1)).setCell ⟨g3, 1, none⟩ (.int .i64 257)).cell? ⟨w.heap.size, 6, none⟩ = some (.int .i64 1) := by rw [HW8.out]; exact G8.out.c6
  go_wp2_with (fail)
  rw [HW8.out]
  clear k0 k1 k2 k3 k4 k5 k6 hc1 hf1 hc2 hf2 hc2' hf2' HW8
  refine (config_Check.calls 20 0 2 2 1 0 1 1 0 _ hornbeamlaw08_fixed.c0).mono ?_
  rintro e w9 ⟨rfl, hb⟩
  have HB9 := Aside0.mk (below_step HB8.out hb)
  have G9 := Aside0.mk (FStep.Blk7.below G8.out hb)
  have H29 := Aside0.mk (FStep.Blk7.below H2.out hb)
  have H39 := Aside0.mk (FStep.Blk7.below H3.out hb)
  clear hb HB8 G8 H2 H3
  have k0 := H29.out.c0
  have k1 := H29.out.c1
  have k2 := H29.out.c2
  have k3 := H29.out.c3
  have k4 := H29.out.c4
  have k5 := H29.out.c5
  have k6 := H29.out.c6
  go_wp2_with (fail)
  clear k0 k1 k2 k3 k4 k5 k6
  refine (config_Check.calls 20 0 1 2 1 0 1 1 3 _ hornbeamlaw08_fixed.c1).mono ?_
  rintro e w10 ⟨rfl, hb⟩
  have HB10 := Aside0.mk (below_step HB9.out hb)
  have G10 := Aside0.mk (FStep.Blk7.below G9.out hb)
  have H310 := Aside0.mk (FStep.Blk7.below H39.out hb)
  clear hb HB9 G9 H29 H39
  have k0 := H310.out.c0
  have k1 := H310.out.c1
  have k2 := H310.out.c2
  have k3 := H310.out.c3
  have k4 := H310.out.c4
  have k5 := H310.out.c5
  have k6 := H310.out.c6
  go_wp2_with (fail)
  clear k0 k1 k2 k3 k4 k5 k6
  refine (config_Check.calls 20 0 257 2 1 0 1 1 4 _ hornbeamlaw08_fixed.c2).mono ?_
  rintro e w11 ⟨rfl, hb⟩
  have HB11 := Aside0.mk (below_step HB10.out hb)
  have G11 := Aside0.mk (FStep.Blk7.below G10.out hb)
  clear hb HB10 G10 H310
  have k0 := G11.out.c0
  have k1 := G11.out.c1
  have k2 := G11.out.c2
  have k3 := G11.out.c3
  have k4 := G11.out.c4
  have k5 := G11.out.c5
  have k6 := G11.out.c6
  go_wp2_with (fail)
  clear k0 k1 k2 k3 k4 k5 k6
  refine (config_Put.calls 40 none 0 [] 0 2 2 1 0 1 1 _ _ (Kd.C_nil _ _) (Nat.le_refl _) hornbeamlaw08_fixed.p0).mono ?_
  rintro e w12 ⟨v, rfl, ho, hb⟩
  obtain ⟨A1, c1, rfl, hl1, hC1⟩ := Kd.R_reads ho
  have HB12 := Aside0.mk (below_step HB11.out hb)
  clear hb ho hl1 hC1
  go_wp2
  go_ret
  exact ⟨rfl, HB12.out⟩


end Go.Proofs.Ytebbnjgaikppgaa.PA
