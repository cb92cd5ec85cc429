/- The functions of the laws on package take that hand functions to Try, by walks: the chapter's example. -/
import Derived.Test.YtebbnjgaikppgaaFTake
namespace Go.Proofs.Ytebbnjgaikppgaa.FTake07
open Go.RowKit Go.Shelf Go.Proofs.YtebbnjgaikppgaaW.PrintWords Go.Proofs.YtebbnjgaikppgaaW.PrintLast Go.Proofs.YtebbnjgaikppgaaW.PrintMore Go.Proofs.Ytebbnjgaikppgaa.FTake
attribute [local go_sem high] Flt.run_bits Flt.run_frombits
set_option linter.unusedVariables false
set_option linter.unusedSimpArgs false

theorem fixed1 (ok : Nat → Prop) (B X Y : Nat) (y : Int) (w : World) (h : Rdr ok w B [1, 2, 3]) (hok : ∀ k, ok k → k ≠ B) (hoX : ∀ k, ok k → k ≠ X) (hX : Boxed w X 31 (.int .u64 0)) (hBX : X ≠ B) :
    Calls Try.prog 53 #[.pointer (some ⟨B, 0, none⟩), .pointer (some ⟨X, 0, none⟩), .pointer (some ⟨Y, 0, none⟩)] w fun e w' =>
      e = .panicked (fault 2) ∧ Offs (fun k => k = B ∨ k = X) w w' ∧ Boxed w' X 31 (.int .u64 258) := by
  have N1 := number_calls ok B 2 _ w h hok
  rw [show number 2 [1, 2, 3] = .ok (258, [3]) from rfl] at N1
  have HX := Aside0.mk hX
  have H1 := Aside0.mk N1
  clear N1 hX h
  go_enter Try.func53, Try.ntmps53
  go_wp2_with (fail)
  refine H1.out.mono ?_
  rintro e w1 ⟨ho, hr, v, rfl, rfl⟩
  have bX := ho.boxed HX.out hBX
  have hcell := bX.cell
  have hfr := bX.frozen
  have HO := Aside0.mk ho
  have HR := Aside0.mk hr
  have BX := Aside0.mk bX
  clear ho hr bX
  go_wp2_with (fail)
  have N2 := number_calls ok B 2 _ _ (HR.out.off ((Off.refl X w1).setCell 0 (.int .u64 258)) (Ne.symm hBX) hoX) hok
  rw [show number 2 [3] = .error 2 from rfl] at N2
  refine N2.mono ?_
  rintro e w2 ⟨ho2, rfl⟩
  refine ⟨rfl, rfl, ((Offs.of_off HO.out (Or.inl rfl)).trans ((Offs.refl _ _).setCell (p := ⟨X, 0, none⟩) (.inl (Or.inr rfl)) _)).trans (Offs.of_off ho2 (Or.inl rfl)), ho2.boxed (BX.out.set _) hBX⟩

theorem fixed2 (ok : Nat → Prop) (B Y : Nat) (w : World) (h : Rdr ok w B [1, 2, 3]) (hok : ∀ k, ok k → k ≠ B) (hoY : ∀ k, ok k → k ≠ Y) (hY : Boxed w Y 31 (.int .u64 0)) (hBY : Y ≠ B) :
    Calls Try.prog 54 #[.pointer (some ⟨B, 0, none⟩), .pointer (some ⟨Y, 0, none⟩)] w fun e w' =>
      e = .returned (.tuple #[]) ∧ Offs (fun k => k = B ∨ k = Y) w w' ∧ Boxed w' Y 31 (.int .u64 3) ∧ Rdr ok w' B [] := by
  have N1 := number_calls ok B 2 _ w h hok
  rw [show number 2 [1, 2, 3] = .ok (258, [3]) from rfl] at N1
  have HY := Aside0.mk hY
  have H1 := Aside0.mk N1
  clear N1 hY h
  go_enter Try.func54, Try.ntmps54
  go_wp2_with (fail)
  refine H1.out.mono ?_
  rintro e w1 ⟨ho, hr, v, rfl, rfl⟩
  have HO := Aside0.mk ho
  have HR := Aside0.mk hr
  clear ho hr
  go_wp2_with (fail)
  have N2 := number_calls ok B 1 _ _ HR.out hok
  rw [show number 1 [3] = .ok (3, []) from rfl] at N2
  refine N2.mono ?_
  rintro e w2 ⟨ho2, hr2, v, rfl, rfl⟩
  have bY := ho2.boxed (HO.out.boxed HY.out hBY) hBY
  have hcell := bY.cell
  have hfr := bY.frozen
  have HO2 := Aside0.mk ho2
  have HR2 := Aside0.mk hr2
  have BY := Aside0.mk bY
  clear ho2 hr2 bY N2
  go_wp2
  go_end0
  exact ⟨rfl, ((Offs.of_off HO.out (Or.inl rfl)).trans (Offs.of_off HO2.out (Or.inl rfl))).trans ((Offs.refl _ _).setCell (p := ⟨Y, 0, none⟩) (.inl (Or.inr rfl)) _), BY.out.set _, HR2.out.off ((Off.refl Y w2).setCell 0 (.int .u64 3)) (Ne.symm hBY) hoY⟩

/-- A row that was just made. -/
theorem made3 (W : World) : Kd.F (Kd.int .u8) (W.alloc (.cells #[.int .u8 1, .int .u8 2, .int .u8 3] 5)) (fun k => k = W.heap.size) (some ⟨W.heap.size, 0, none⟩) 3 [1, 2, 3] := by
  intro W' hW
  have hb : W'.heap[W.heap.size]? = some (.cells #[.int .u8 1, .int .u8 2, .int .u8 3] 5 (0, 0)) := (hW _ rfl (by simp)).trans (World.alloc_heap_new W _)
  refine Kd.C_of_reads (enc := Value.int .u8) (d := 0) (h1 := fun _ => rfl) ⟨rfl, by omega, fun _ => ⟨_, rfl, fun j hj => ?_⟩⟩
  rw [add_plain, blk_cell hb j]
  have : j = 0 ∨ j = 1 ∨ j = 2 := by omega
  rcases this with rfl | rfl | rfl <;> rfl

theorem try1 (n X Y : Nat) (w : World) (hX : Boxed w X 31 (.int .u64 0)) (hY : Boxed w Y 31 (.int .u64 0)) (hXY : Y ≠ X) (hn : n ≤ X) :
    Calls Try.prog 16 #[.slice (some ⟨w.heap.size, 0, none⟩) 3 3, .func (.func 53) #[] #[.pointer (some ⟨X, 0, none⟩), .pointer (some ⟨Y, 0, none⟩)]] (w.alloc (.cells #[.int .u8 1, .int .u8 2, .int .u8 3] 5)) fun e w' =>
      e = .returned (.int .i64 2) ∧ Boxed w' X 31 (.int .u64 258) ∧ Boxed w' Y 31 (.int .u64 0) ∧ Below n w w' := by
  have hlX := hX.lt
  have hlY := hY.lt
  refine (try_calls 53 #[.pointer (some ⟨X, 0, none⟩), .pointer (some ⟨Y, 0, none⟩)] (fun k => k = w.heap.size) (some ⟨w.heap.size, 0, none⟩) 3 [1, 2, 3] _ (enters_of Try.func53 (by kernel_rfl) rfl) (fun _ _ => False)
    (fun c W => c = 2 ∧ Boxed W X 31 (.int .u64 258) ∧ Boxed W Y 31 (.int .u64 0) ∧ Below n w W) ?_).mono ?_
  · have hz : (w.alloc (.cells #[.int .u8 1, .int .u8 2, .int .u8 3] 5)).heap.size = w.heap.size + 1 := by simp
    refine (fixed1 (fun k => k = w.heap.size) _ X Y 0 _ (start_rdr _ (some ⟨w.heap.size, 0, none⟩) 3 [1, 2, 3] _ (made3 w) (by decide) (by decide)) ?_ ?_ ((hX.alloc _).alloc _ |>.alloc _) (by omega)).mono ?_
    · intro k hk; omega
    · intro k hk; omega
    · rintro e W ⟨rfl, ho, hb⟩
      refine ⟨ho.boxed (start_err _ _ _ _) (by omega), .inr ⟨2, rfl, rfl, hb, ho.boxed ((hY.alloc _).alloc _ |>.alloc _) (by omega), ?_⟩⟩
      exact ((((Below.refl n w).alloc (by omega) _).trans ((start_below _ _ _ _).mono (by omega)))).trans (ho.below (by rw [start_size]; omega) (by omega))
  · rintro e w' ⟨c, W, rfl, ho, ⟨_, h, _⟩ | ⟨rfl, h1, h2, h3⟩⟩
    · exact h.elim
    · have hz : (w.alloc (.cells #[.int .u8 1, .int .u8 2, .int .u8 3] 5)).heap.size = w.heap.size + 1 := by simp
      exact ⟨rfl, ho.boxed h1 (by omega), ho.boxed h2 (by omega), h3.trans (ho.below (by have := h1.lt; omega) (by omega))⟩

theorem try2 (n X Y : Nat) (w : World) (hX : Boxed w X 31 (.int .u64 258)) (hY : Boxed w Y 31 (.int .u64 0)) (hXY : Y ≠ X) (hn : n ≤ Y) :
    Calls Try.prog 16 #[.slice (some ⟨w.heap.size, 0, none⟩) 3 3, .func (.func 54) #[] #[.pointer (some ⟨Y, 0, none⟩)]] (w.alloc (.cells #[.int .u8 1, .int .u8 2, .int .u8 3] 5)) fun e w' =>
      e = .returned (.int .i64 0) ∧ Boxed w' X 31 (.int .u64 258) ∧ Boxed w' Y 31 (.int .u64 3) ∧ Below n w w' := by
  have hlX := hX.lt
  have hlY := hY.lt
  refine (try_calls 54 #[.pointer (some ⟨Y, 0, none⟩)] (fun k => k = w.heap.size) (some ⟨w.heap.size, 0, none⟩) 3 [1, 2, 3] _ (enters_of Try.func54 (by kernel_rfl) rfl)
    (fun l W => l = [] ∧ Boxed W X 31 (.int .u64 258) ∧ Boxed W Y 31 (.int .u64 3) ∧ Below n w W) (fun _ _ => False) ?_).mono ?_
  · have hz : (w.alloc (.cells #[.int .u8 1, .int .u8 2, .int .u8 3] 5)).heap.size = w.heap.size + 1 := by simp
    refine (fixed2 (fun k => k = w.heap.size) _ Y _ (start_rdr _ (some ⟨w.heap.size, 0, none⟩) 3 [1, 2, 3] _ (made3 w) (by decide) (by decide)) ?_ ?_ ((hY.alloc _).alloc _ |>.alloc _) (by omega)).mono ?_
    · intro k hk; omega
    · intro k hk; omega
    · rintro e W ⟨rfl, ho, hb, hr⟩
      refine ⟨ho.boxed (start_err _ _ _ _) (by omega), .inl ⟨_, [], rfl, hr, rfl, ho.boxed ((hX.alloc _).alloc _ |>.alloc _) (by omega), hb, ?_⟩⟩
      exact ((((Below.refl n w).alloc (by omega) _).trans ((start_below _ _ _ _).mono (by omega)))).trans (ho.below (by rw [start_size]; omega) (by omega))
  · rintro e w' ⟨c, W, rfl, ho, ⟨l, ⟨rfl, h1, h2, h3⟩, rfl⟩ | h⟩
    · have hz : (w.alloc (.cells #[.int .u8 1, .int .u8 2, .int .u8 3] 5)).heap.size = w.heap.size + 1 := by simp
      exact ⟨rfl, ho.boxed h1 (by omega), ho.boxed h2 (by omega), h3.trans (ho.below (by have := h2.lt; omega) (by omega))⟩
    · exact h.elim

set_option maxRecDepth 100000 in
theorem calls_fixed (w : World) : Calls Try.prog 15 #[] w fun e w' => e = .returned (.bool true) ∧ Below w.heap.size w w' := by
  have hmf : ∀ (fn : Fn) (first cap : Array Value) (W : World), (Instr.makeFunc fn first cap).run Try.prog W = .ok (.func fn first cap) W := fun _ _ _ _ => rfl
  have T1 : Boxed ((w.alloc (.cells #[.int .u64 0] 31)).alloc (.cells #[.int .u64 0] 31)) w.heap.size 31 (.int .u64 0) := (Boxed.new w _ _).alloc _
  have T2 := Boxed.new (w.alloc (.cells #[.int .u64 0] 31)) 31 (.int .u64 0)
  have HB := (((Below.refl _ w).alloc (Nat.le_refl _) (.cells #[.int .u64 0] 31)).alloc (by simp) (.cells #[.int .u64 0] 31))
  have HZ : ((w.alloc (.cells #[.int .u64 0] 31)).alloc (.cells #[.int .u64 0] 31)).heap.size = w.heap.size + 2 := by simp
  rw [World.size_alloc] at T2
  go_enter Try.func15, Try.ntmps15
  go_wp2_with (fail)
  generalize ((w.alloc (.cells #[.int .u64 0] 31)).alloc (.cells #[.int .u64 0] 31)) = W at *
  rw [← HZ]
  refine (try1 w.heap.size w.heap.size (w.heap.size + 1) W T1 T2 (by omega) (Nat.le_refl _)).mono ?_
  rintro e w1 ⟨rfl, b1, b2, hb⟩
  have HB1 := Aside0.mk (HB.trans hb)
  have B1 := Aside0.mk b1
  have B2 := Aside0.mk b2
  clear b1 b2 hb HB T1 T2 HZ
  go_wp2_with (fail)
  refine (try2 w.heap.size w.heap.size (w.heap.size + 1) w1 B1.out B2.out (by omega) (by omega)).mono ?_
  rintro e w2 ⟨rfl, b1, b2, hb⟩
  have HB2 := Aside0.mk (HB1.out.trans hb)
  have c1 := b1.cell
  have c2 := b2.cell
  clear b1 b2 hb B1 B2 HB1
  go_wp2
  go_ret
  exact ⟨rfl, HB2.out⟩
end Go.Proofs.Ytebbnjgaikppgaa.FTake07
