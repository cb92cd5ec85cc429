/- The law TakeFails by a walk: functions that are handed to Try, one within the other, and the law's own function. -/
import Derived.Test.YtebbnjgaikppgaaFTake07
namespace Go.Proofs.Ytebbnjgaikppgaa.FTakeFails
open Go.RowKit Go.Shelf Go.Proofs.YtebbnjgaikppgaaW.PrintWords Go.Proofs.YtebbnjgaikppgaaW.PrintLast Go.Proofs.YtebbnjgaikppgaaW.PrintMore Go.Proofs.Ytebbnjgaikppgaa.FTake
attribute [local go_sem high] Flt.run_bits Flt.run_frombits
set_option linter.unusedVariables false
set_option linter.unusedSimpArgs false

/-- How the inner one ends. -/
def mine (l : List Int) : Int := if l.length = 0 then 2 else 5
theorem inner_calls (ok : Nat → Prop) (B Z : Nat) (l : List Int) (w : World) (h : Rdr ok w B l) (hn : ∀ k, ok k → k ≠ B) :
    Calls Try.prog 22 #[.pointer (some ⟨B, 0, none⟩), .pointer (some ⟨Z, 0, none⟩)] w fun e w' => e = .panicked (fault (mine l)) ∧ Off B w w' := by
  have N1 := number_calls ok B 1 l w h hn
  cases l with
  | nil =>
    rw [show number 1 [] = .error 2 from rfl] at N1
    have H1 := Aside0.mk N1
    clear N1 h
    go_enter Try.func22, Try.ntmps22
    go_wp2_with (fail)
    refine H1.out.mono ?_
    rintro e w1 ⟨ho, rfl⟩
    exact ⟨rfl, rfl, ho⟩
  | cons x l =>
    rw [show number 1 (x :: l) = .ok (val ((x :: l).take 1), l) by unfold number; rw [if_pos (by show 1 ≤ (x :: l).length; simp)]; rfl] at N1
    have H1 := Aside0.mk N1
    clear N1 h
    go_enter Try.func22, Try.ntmps22
    go_wp2_with (fail)
    refine H1.out.mono ?_
    rintro e w1 ⟨ho, hr, v, rfl, rfl⟩
    have HO := Aside0.mk ho
    have HF := Aside0.mk (fail_calls (some ⟨B, 0, none⟩) 5 w1)
    clear ho hr H1
    go_wp2_with (fail)
    refine HF.out.mono ?_
    rintro e w2 ⟨rfl, rfl⟩
    exact ⟨rfl, rfl, HO.out⟩

set_option maxHeartbeats 4000000 in
set_option maxRecDepth 100000 in
theorem outer_calls (ok : Nat → Prop) (B I Z O D E : Nat) (l li : List Int) (A Ai : Option Addr) (c ci : Nat) (ee : Int) (w : World) (h : Rdr ok w B l) (hn : ∀ k, ok k → k ≠ B) (hok : ∀ k, ok k → k < w.heap.size ∧ k ≠ O)
    (hI : Boxed w I 22 (.slice Ai li.length ci)) (hF : Kd.F (Kd.int .u8) w ok Ai li.length li) (hli : li.length ≤ ci) (hxi : ∀ x ∈ li, 0 ≤ x ∧ x < 256)
    (hZ : Boxed w Z 3 (.int .i64 0)) (hO : Boxed w O 27 (.int .i64 0)) (hD : Boxed w D 22 (.slice A l.length c)) (hE : Boxed w E 38 (.int .i16 ee)) (hee : wrap64 ee = ee)
    (d1 : B ≠ O) (d2 : D ≠ O) (d3 : E ≠ O) :
    Calls Try.prog 21 #[.pointer (some ⟨B, 0, none⟩), .pointer (some ⟨I, 0, none⟩), .pointer (some ⟨Z, 0, none⟩), .pointer (some ⟨O, 0, none⟩), .pointer (some ⟨D, 0, none⟩), .pointer (some ⟨E, 0, none⟩)] w fun e w' =>
      e = .panicked (fault (if ee = 0 then 3 else ee)) ∧ Offs (fun k => k = O) w w' ∧ Boxed w' O 27 (.int .i64 (mine li)) := by
  have hmf : ∀ (fn : Fn) (first cap : Array Value) (W : World), (Instr.makeFunc fn first cap).run Try.prog W = .ok (.func fn first cap) W := fun _ _ _ _ => rfl
  have hci := hI.cell
  have T := try_calls 22 #[.pointer (some ⟨Z, 0, none⟩)] ok Ai ci li w (enters_of Try.func22 (by kernel_rfl) rfl) (fun _ _ => False)
    (fun c W => c = mine li ∧ Below w.heap.size w W) (by
      refine (inner_calls ok _ Z li _ (start_rdr ok Ai ci li w hF hli hxi) (fun k hk => by have := hok k hk; omega)).mono ?_
      rintro e W ⟨rfl, ho⟩
      exact ⟨ho.boxed (start_err Ai li.length ci w) (by omega), .inr ⟨_, rfl, rfl, (start_below Ai li.length ci w).trans (ho.below (by rw [start_size]; omega) (by omega))⟩⟩)
  have HT := Aside0.mk T
  have HO := Aside0.mk hO
  have HD := Aside0.mk hD
  have HE := Aside0.mk hE
  have H := Aside0.mk h
  have HOK := Aside0.mk hok
  have HN := Aside0.mk hn
  have HEE := Aside0.mk hee
  have hlt := hO.lt
  have hltB : B < w.heap.size := by obtain ⟨_, _, hb, _⟩ := h; exact hb.lt
  clear T hO hD hE h hI hF hZ hok hn hee
  go_enter Try.func21, Try.ntmps21
  go_wp2_with (fail)
  refine HT.out.mono ?_
  rintro e w1 ⟨c1, W, rfl, ho, ⟨_, hf, _⟩ | ⟨rfl, hb⟩⟩
  · exact hf.elim
  have HB := Aside0.mk (hb.trans (ho.below hb.size (by omega)))
  have bO := Aside0.mk (show Boxed w1 O 27 (.int .i64 0) from (HB.out.block O HO.out.lt).trans HO.out)
  have hfr := bO.out.frozen
  clear ho hb HT hci
  obtain ⟨w2, hw2⟩ : ∃ w2, w1.setCell ⟨O, 0, none⟩ (.int .i64 (mine li)) = w2 := ⟨_, rfl⟩
  have ho2 : Offs (fun k => k = O) w w2 := by rw [← hw2]; exact (Offs.of_below (S := fun k => k = O) HB.out).setCell (p := ⟨O, 0, none⟩) (.inl rfl) _
  have HO2 := Aside0.mk ho2
  have bO2 := Aside0.mk (show Boxed w2 O 27 (.int .i64 (mine li)) by rw [← hw2]; exact bO.out.set _)
  have hcD := (ho2.boxed HD.out d2).cell
  have hcE := (ho2.boxed HE.out d3).cell
  have hr2 : Rdr ok w2 B l := by rw [← hw2]; exact (H.out.below HB.out).off ((Off.refl O w1).setCell 0 _) d1 (fun k hk => (HOK.out k hk).2)
  have hcO := bO.out.cell
  have HL := Aside0.mk (fun k => left_calls ok B l (w2.drewN k) hr2)
  have HW2 := Aside0.mk hw2
  clear ho2 hr2 hw2 bO
  go_wp2_with (fail)
  rw [HW2.out]
  clear hcO hfr HW2
  have d0 : ((l.length : Int) != (l.length : Int)) = false := by simp
  go_quiet (first | (go_at_call 19; exact Calls.quiet_of_same (HL.out _)))
  go_wp2_with (fail)
  rw [HEE.out]
  refine (fail_calls _ _ _).mono ?_
  rintro e w3 ⟨rfl, rfl⟩
  exact ⟨rfl, rfl, HO2.out.drewN _, (show Boxed (w2.drewN nq) O _ _ from bO2.out)⟩

set_option maxHeartbeats 4000000 in
set_option maxRecDepth 100000 in
theorem law_calls (A Ai : Option Addr) (c ci : Nat) (l li : List Int) (ee : Int) (w : World) (hr : Kd.C (Kd.int .u8) w A l.length l) (hc : l.length ≤ c) (hri : Kd.C (Kd.int .u8) w Ai li.length li) (hci : li.length ≤ ci)
    (hx : ∀ x ∈ l, 0 ≤ x ∧ x < 256) (hxi : ∀ x ∈ li, 0 ≤ x ∧ x < 256) (hee : wrap64 ee = ee) :
    Calls Try.prog 4 #[.slice A l.length c, .int .i16 ee, .slice Ai li.length ci] w fun e w' => e = .returned (.bool true) ∧ Below w.heap.size w w' := by
  have hmf : ∀ (fn : Fn) (first cap : Array Value) (W : World), (Instr.makeFunc fn first cap).run Try.prog W = .ok (.func fn first cap) W := fun _ _ _ _ => rfl
  obtain ⟨W0, hW0⟩ : ∃ W0, ((w.alloc (.cells #[.slice A l.length c] 22)).alloc (.cells #[.int .i16 ee] 38)).alloc (.cells #[.slice Ai li.length ci] 22) = W0 := ⟨_, rfl⟩
  have hz0 : W0.heap.size = w.heap.size + 3 := by rw [← hW0]; simp
  have hb0 : Below w.heap.size w W0 := by rw [← hW0]; exact below_alloc (below_alloc (below_alloc (Below.refl _ w) _) _) _
  have b0 : Boxed W0 w.heap.size 22 (.slice A l.length c) := by rw [← hW0]; exact ((Boxed.new w _ _).alloc _).alloc _
  have b1 : Boxed W0 (w.heap.size + 1) 38 (.int .i16 ee) := by
    rw [← hW0]
    have := Boxed.new (w.alloc (.cells #[.slice A l.length c] 22)) 38 (.int .i16 ee)
    rw [World.size_alloc] at this
    exact this.alloc _
  have b2 : Boxed W0 (w.heap.size + 2) 22 (.slice Ai li.length ci) := by
    rw [← hW0]
    have := Boxed.new ((w.alloc (.cells #[.slice A l.length c] 22)).alloc (.cells #[.int .i16 ee] 38)) 22 (.slice Ai li.length ci)
    rw [World.size_alloc, World.size_alloc] at this
    exact this
  have HB0 := Aside0.mk hb0
  have B0 := Aside0.mk b0
  have B1 := Aside0.mk b1
  have B2 := Aside0.mk b2
  have HZ0 := Aside0.mk hz0
  have k0 := b0.cell
  have k2 := b2.cell
  have HX := Aside0.mk hx
  have HXI := Aside0.mk hxi
  have HEE := Aside0.mk hee
  have HF := Aside0.mk (Kd.F_below (Kd.C_F (Kd.heap_int .u8) hr) hb0)
  have HFI := Aside0.mk (Kd.F_below (Kd.C_F (Kd.heap_int .u8) hri) hb0)
  have HW0 := Aside0.mk hW0
  clear hr hri hx hxi hee hb0 b0 b1 b2 hW0
  by_cases h1 : l.length > 100
  · have d1 : decide ((l.length : Int) > 100) = true := decide_eq_true (by omega)
    go_enter Try.func4, Try.ntmps4
    go_wp2_with (fail)
    rw [HW0.out]
    refine (FTake07.calls_fixed _).mono ?_
    rintro e w1 ⟨rfl, hb⟩
    have HB1 := Aside0.mk (HB0.out.trans (hb.mono HB0.out.size))
    clear hb
    go_wp2
    go_ret
    exact ⟨rfl, HB1.out⟩
  have d1 : decide ((l.length : Int) > 100) = false := decide_eq_false (by omega)
  by_cases h2 : li.length > 100
  · have d2 : decide ((li.length : Int) > 100) = true := decide_eq_true (by omega)
    go_enter Try.func4, Try.ntmps4
    go_wp2_with (fail)
    rw [HW0.out]
    refine (FTake07.calls_fixed _).mono ?_
    rintro e w1 ⟨rfl, hb⟩
    have HB1 := Aside0.mk (HB0.out.trans (hb.mono HB0.out.size))
    clear hb
    go_wp2
    go_ret
    exact ⟨rfl, HB1.out⟩
  have d2 : decide ((li.length : Int) > 100) = false := decide_eq_false (by omega)
  clear h1 h2
  obtain ⟨W1, hW1⟩ : ∃ W1, (W0.alloc (.cells #[.int .i64 0] 3)).alloc (.cells #[.int .i64 0] 27) = W1 := ⟨_, rfl⟩
  have hb1 : Below W0.heap.size W0 W1 := by rw [← hW1]; exact below_alloc (below_alloc (Below.refl _ W0) _) _
  have hz1 : W1.heap.size = w.heap.size + 5 := by rw [← hW1]; simp [HZ0.out]
  have bZ : Boxed W1 (w.heap.size + 3) 3 (.int .i64 0) := by rw [← hW1, ← HZ0.out]; exact (Boxed.new W0 _ _).alloc _
  have bO : Boxed W1 (w.heap.size + 4) 27 (.int .i64 0) := by
    rw [← hW1]
    have := Boxed.new (W0.alloc (.cells #[.int .i64 0] 3)) 27 (.int .i64 0)
    rwa [World.size_alloc, HZ0.out] at this
  have hstay : ∀ {k t v}, Boxed W0 k t v → Boxed W1 k t v := fun {k t v} hk => (hb1.block k hk.lt).trans hk
  have e0 : Boxed W1 w.heap.size 22 (.slice A l.length c) := hstay B0.out
  have e1 : Boxed W1 (w.heap.size + 1) 38 (.int .i16 ee) := hstay B1.out
  have e2 : Boxed W1 (w.heap.size + 2) 22 (.slice Ai li.length ci) := hstay B2.out
  have sb := start_below A l.length c W1
  have hst : ∀ {k t v}, Boxed W1 k t v → Boxed (FTake.begun W1 A l.length c) k t v := fun {k t v} hk => (sb.block k hk.lt).trans hk
  have T := try_calls 21 #[.pointer (some ⟨w.heap.size + 2, 0, none⟩), .pointer (some ⟨w.heap.size + 3, 0, none⟩), .pointer (some ⟨w.heap.size + 4, 0, none⟩), .pointer (some ⟨w.heap.size, 0, none⟩), .pointer (some ⟨w.heap.size + 1, 0, none⟩)]
    (fun k => k < w.heap.size) A c l W1 (enters_of Try.func21 (by kernel_rfl) rfl) (fun _ _ => False)
    (fun c' W => c' = (if ee = 0 then 3 else ee) ∧ Below w.heap.size w W ∧ Boxed W (w.heap.size + 3) 3 (.int .i64 0) ∧ Boxed W (w.heap.size + 4) 27 (.int .i64 (mine li)) ∧ Boxed W (w.heap.size + 1) 38 (.int .i16 ee) ∧ Boxed W (w.heap.size + 2) 22 (.slice Ai li.length ci)) (by
      refine (outer_calls (fun k => k < w.heap.size) (W1.heap.size + 1) (w.heap.size + 2) (w.heap.size + 3) (w.heap.size + 4) w.heap.size (w.heap.size + 1) l li A Ai c ci ee _ (start_rdr _ A c l W1 (Kd.F_below HF.out hb1) hc HX.out) (fun k hk => by omega) (fun k hk => ⟨by rw [start_size]; omega, by omega⟩)
        (hst e2) (Kd.F_below (Kd.F_below HFI.out hb1) sb) hci HXI.out (hst bZ) (hst bO) (hst e0) (hst e1) HEE.out (by omega) (by omega) (by omega)).mono ?_
      rintro e W ⟨rfl, ho, hO⟩
      refine ⟨ho.boxed (start_err A l.length c W1) (by omega), .inr ⟨_, rfl, rfl, ?_, ho.boxed (hst bZ) (by omega), hO, ho.boxed (hst e1) (by omega), ho.boxed (hst e2) (by omega)⟩⟩
      exact ((HB0.out.trans (hb1.mono (by omega))).trans (sb.mono (by omega))).trans (ho.below (by rw [start_size]; omega) (by omega)))
  have HT := Aside0.mk T
  have HB1 := Aside0.mk hb1
  have HW1 := Aside0.mk hW1
  have HZ1 := Aside0.mk hz1
  clear T hb1 hz1 bZ bO hstay e0 e1 e2 sb hst hW1
  go_enter Try.func4, Try.ntmps4
  go_wp2_with (fail)
  rw [HW0.out, HW1.out]
  refine HT.out.mono ?_
  rintro e w2 ⟨c2, W, rfl, ho, ⟨_, hf, _⟩ | ⟨rfl, hbel, qZ, qO, qE, qI⟩⟩
  · exact hf.elim
  clear HT k0 k2 HW0 HW1
  have hz1 := HZ1.out
  have bZ2 := Aside0.mk (ho.boxed qZ (by omega))
  have bO2 := Aside0.mk (ho.boxed qO (by omega))
  have kE := (ho.boxed qE (by omega)).cell
  have kI := (ho.boxed qI (by omega)).cell
  have HB2 := Aside0.mk (hbel.trans (ho.below (by have := hbel.size; omega) (by omega)))
  clear ho hbel qZ qO qE qI hz1
  by_cases he : ee = 0
  · subst he
    rw [if_pos rfl]
    by_cases hl : li.length = 0
    · have dl : ((li.length : Int) == 0) = true := beq_iff_eq.2 (by omega)
      rw [show mine li = 2 from if_pos hl] at bO2
      go_wp2_with (fail)
      refine (FTake07.calls_fixed _).mono ?_
      rintro e w3 ⟨rfl, hb⟩
      have HB3 := Aside0.mk (HB2.out.trans (hb.mono HB2.out.size))
      have cZ := ((show Boxed w3 _ _ _ from (hb.block _ bZ2.out.lt).trans bZ2.out)).cell
      have cO := ((show Boxed w3 _ _ _ from (hb.block _ bO2.out.lt).trans bO2.out)).cell
      clear hb
      go_wp2
      go_ret
      exact ⟨rfl, HB3.out⟩
    · have dl : ((li.length : Int) == 0) = false := beq_eq_false_iff_ne.2 (by omega)
      rw [show mine li = 5 from if_neg hl] at bO2
      go_wp2_with (fail)
      refine (FTake07.calls_fixed _).mono ?_
      rintro e w3 ⟨rfl, hb⟩
      have HB3 := Aside0.mk (HB2.out.trans (hb.mono HB2.out.size))
      have cZ := ((show Boxed w3 _ _ _ from (hb.block _ bZ2.out.lt).trans bZ2.out)).cell
      have cO := ((show Boxed w3 _ _ _ from (hb.block _ bO2.out.lt).trans bO2.out)).cell
      clear hb
      go_wp2
      go_ret
      exact ⟨rfl, HB3.out⟩
  · have de : (ee == 0) = false := beq_eq_false_iff_ne.2 he
    rw [if_neg he]
    by_cases hl : li.length = 0
    · have dl : ((li.length : Int) == 0) = true := beq_iff_eq.2 (by omega)
      rw [show mine li = 2 from if_pos hl] at bO2
      go_wp2_with (fail)
      rw [HEE.out]
      refine (FTake07.calls_fixed _).mono ?_
      rintro e w3 ⟨rfl, hb⟩
      have HB3 := Aside0.mk (HB2.out.trans (hb.mono HB2.out.size))
      have cZ := ((show Boxed w3 _ _ _ from (hb.block _ bZ2.out.lt).trans bZ2.out)).cell
      have cO := ((show Boxed w3 _ _ _ from (hb.block _ bO2.out.lt).trans bO2.out)).cell
      clear hb
      go_wp2
      go_ret
      exact ⟨rfl, HB3.out⟩
    · have dl : ((li.length : Int) == 0) = false := beq_eq_false_iff_ne.2 (by omega)
      rw [show mine li = 5 from if_neg hl] at bO2
      go_wp2_with (fail)
      rw [HEE.out]
      refine (FTake07.calls_fixed _).mono ?_
      rintro e w3 ⟨rfl, hb⟩
      have HB3 := Aside0.mk (HB2.out.trans (hb.mono HB2.out.size))
      have cZ := ((show Boxed w3 _ _ _ from (hb.block _ bZ2.out.lt).trans bZ2.out)).cell
      have cO := ((show Boxed w3 _ _ _ from (hb.block _ bO2.out.lt).trans bO2.out)).cell
      clear hb
      go_wp2
      go_ret
      exact ⟨rfl, HB3.out⟩
theorem wf_u8 {x : Int} (h : (Lit.int .u8 x).wf = true) : 0 ≤ x ∧ x < 256 := by
  simp [Lit.wf, IntKind.min, IntKind.max, IntKind.signed, IntKind.bits] at h; omega
theorem wf_i16 {x : Int} (h : (Lit.int .i16 x).wf = true) : wrap64 x = x := by
  simp [Lit.wf, IntKind.min, IntKind.max, IntKind.signed, IntKind.bits] at h; unfold wrap64; omega
end Go.Proofs.Ytebbnjgaikppgaa.FTakeFails
