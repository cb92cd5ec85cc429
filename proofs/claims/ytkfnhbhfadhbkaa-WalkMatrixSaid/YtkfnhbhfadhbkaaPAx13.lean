-- Written by a program of this session (wip/hp) out of the translation of seat Ytkfnhbhfadhbkaa.
import Derived.Test.YtkfnhbhfadhbkaaPAx0
import Derived.Test.YtkfnhbhfadhbkaaPAx9
namespace Go.Proofs.Ytkfnhbhfadhbkaa.PA
open Go.RowKit Go.Proofs.YtkfnhbhfadhbkaaW.PrintWords Go.Proofs.YtkfnhbhfadhbkaaW.PrintLast Go.Proofs.YtkfnhbhfadhbkaaW.PrintMore
attribute [local go_sem] max2_int min2_int max_two min_two max_three min_three max_four min_four   -- for this text's walks alone
set_option linter.unusedVariables false
set_option linter.unusedSimpArgs false

-- NOT PRINTED: function 29 (part_apart_int)

/-! ### part_Part: function 15, by hand -/
def part_Part.g (a0_0 : Int) (l0_2 : List Int) (a1 a2 : Int) (l3 : List Int) : Option (List Int × List Int × Int) :=
  if 0 ≤ a0_0 ∧ 0 ≤ a1 * a0_0 ∧ a1 * a0_0 ≤ (a1 + 1) * a0_0 ∧ (a1 + 1) * a0_0 ≤ l0_2.length ∧ (a1 + 1) * a0_0 - a1 * a0_0 = a0_0 ∧ a1 < 9223372036854775807 then
    if l3.any (fun i => decide (i < 0 ∨ i ≥ a0_0)) = true then some ([], [], 5)
    else if l3.length < 17592186044416 then some (l3.filter (fun i => decide (wrap64 (rd l0_2 (a1 * a0_0 + i)) ≤ a2)), l3.filter (fun i => !decide (wrap64 (rd l0_2 (a1 * a0_0 + i)) ≤ a2)), 0) else none
  else none
def part_Part.f (a0_0 a0_1 : Int) (l0_2 : List Int) (a1 a2 : Int) (l3 : List Int) : Option (List Int × List Int × Int) :=
  (bins_Right.f a0_0 a0_1 l0_2).bind fun t => if t = true ∧ ¬ a1 < 0 ∧ ¬ a1 ≥ a0_1 then part_Part.g a0_0 l0_2 a1 a2 l3 else some ([], [], 8)
theorem part_Part.closure (A9 : Option Addr) (c9 : Nat) (cs : List Int) (a2 : Int) (B1 B2 : Nat) (w1 : World) (hb : w1.cell? ⟨B1, 0, none⟩ = some (.slice A9 cs.length c9)) (hb2 : w1.cell? ⟨B2, 0, none⟩ = some (.int .i64 a2)) (hr : Kd.C (Kd.int .u16) w1 A9 cs.length cs) (x : Int) (h0 : 0 ≤ x) (h1 : x < (cs.length : Int)) (W : World) (hB : Below w1.heap.size w1 W) :
    Calls Try.prog 30 #[.int .i64 x, .pointer (some ⟨B1, 0, none⟩), .pointer (some ⟨B2, 0, none⟩)] W fun e W' => e = .returned (.bool (decide (wrap64 (rd cs x) ≤ a2))) ∧ Drawn0 W W' := by
  have hb' := pw_cell_below hB hb
  have hb2' := pw_cell_below hB hb2
  obtain ⟨ad, e0, hx⟩ := Kd.at_int hr x h0 h1
  cases e0
  have hx' := pw_cell_below hB hx
  clear hb hb2 hx hr hB
  by_cases hp : wrap64 (rd cs x) ≤ a2
  · have hd : decide (wrap64 (rd cs x) ≤ a2) = true := decide_eq_true hp
    clear hp
    go_enter Try.func30, Try.ntmps30
    go_wp2
    repeat (go_quiet (fail); try go_wp2)
    go_ret
    exact ⟨by simp [hd], by repeat (first | exact Drawn0.refl _ | apply Drawn0.step)⟩
  · have hd : decide (wrap64 (rd cs x) ≤ a2) = false := decide_eq_false hp
    clear hp
    go_enter Try.func30, Try.ntmps30
    go_wp2
    repeat (go_quiet (fail); try go_wp2)
    go_ret
    exact ⟨by simp [hd], by repeat (first | exact Drawn0.refl _ | apply Drawn0.step)⟩
def part_Part.Post (w : World) (r1 r2 : List Int) (r3 : Int) (e : Ending) (w' : World) : Prop := ∃ v0_ v1_ : Value, e = .returned (.tuple #[v0_, v1_, .int .i64 r3]) ∧ Kd.R (Kd.int .i64) 3 w' w.heap.size (fun k_ => some k_ ≠ (v1_ : Value).ownBlock) v0_ r1 ∧ Kd.R (Kd.int .i64) 3 w' w.heap.size (fun k_ => some k_ ≠ (v0_ : Value).ownBlock) v1_ r2 ∧ Below w.heap.size w w'
set_option maxHeartbeats 4000000 in
set_option maxRecDepth 100000 in
theorem part_Part.walk (a0_0 : Int) (a0_1 : Int) (A0_2 : Option Addr) (c0_2 : Nat) (l0_2 : List Int) (a1 : Int) (a2 : Int) (A3 : Option Addr) (c3 : Nat) (l3 : List Int) (r1 : List Int) (r2 : List Int) (r3 : Int) (w : World) (hr0_2 : Kd.C (Kd.int .u16) w A0_2 l0_2.length l0_2) (hc0_2 : l0_2.length ≤ c0_2) (hr3 : Kd.C (Kd.int .i64) w A3 l3.length l3) (hc3 : l3.length ≤ c3) (h : part_Part.f a0_0 a0_1 l0_2 a1 a2 l3 = some (r1, r2, r3)) :
    Calls Try.prog 15 #[.agg #[.int .i64 a0_0, .int .i64 a0_1, .slice A0_2 l0_2.length c0_2], .int .i64 a1, .int .i64 a2, .slice A3 l3.length c3] w (part_Part.Post w r1 r2 r3) := by
  obtain ⟨t, h1, h2⟩ := Option.bind_eq_some_iff.1 h
  have HR2 := Aside0.mk hr0_2
  have HC2 := Aside0.mk hc0_2
  have HR3 := Aside0.mk hr3
  have HC3 := Aside0.mk hc3
  have H1 := Aside0.mk h1
  have hu := Try.underlying33
  have HB0 := Aside0.mk (below_alloc (below_alloc (Below.refl w.heap.size w) (.cells #[.int .i64 a0_0, .int .i64 a0_1, .slice A0_2 l0_2.length c0_2] 33)) (.cells #[.int .i64 a2] 3))
  have BK0 := Aside0.mk (show ((w.alloc (.cells #[.int .i64 a0_0, .int .i64 a0_1, .slice A0_2 l0_2.length c0_2] 33)).alloc (.cells #[.int .i64 a2] 3)).heap[w.heap.size]? = some (.cells #[.int .i64 a0_0, .int .i64 a0_1, .slice A0_2 l0_2.length c0_2] 33 (0, 0)) from (Below.heap_alloc _ _ _ (by simp)).trans (World.alloc_heap_new w _))
  have BK1 := Aside0.mk (show ((w.alloc (.cells #[.int .i64 a0_0, .int .i64 a0_1, .slice A0_2 l0_2.length c0_2] 33)).alloc (.cells #[.int .i64 a2] 3)).heap[w.heap.size + 1]? = some (.cells #[.int .i64 a2] 3 (0, 0)) from by have := World.alloc_heap_new (w.alloc (.cells #[.int .i64 a0_0, .int .i64 a0_1, .slice A0_2 l0_2.length c0_2] 33)) (.cells #[.int .i64 a2] 3); rwa [World.size_alloc] at this)
  clear hr0_2 hc0_2 hr3 hc3 h h1
  by_cases hg : t = true ∧ ¬ a1 < 0 ∧ ¬ a1 ≥ a0_1
  · rw [if_pos hg] at h2
    obtain ⟨rfl, c1, c2⟩ := hg
    unfold part_Part.g at h2
    split at h2
    case isFalse => exact absurd h2 (by simp)
    rename_i hq
    obtain ⟨q1, q2, q3, q4, q5, q6⟩ := hq
    have d1 : decide (a1 < 0) = false := decide_eq_false c1
    have d2 : decide (a0_1 ≤ a1) = false := decide_eq_false c2
    have H2 := Aside0.mk h2
    have Q5 := Aside0.mk q5
    have hlen : l0_2.length ≤ 9223372036854775807 := HR2.out.2.1
    have hlen3 : l3.length ≤ 9223372036854775807 := HR3.out.2.1
    have hcap := HC2.out
    clear h2 q5
    go_enter Try.func15, Try.ntmps15
    go_wp2_with (fail)
    refine (bins_Right.calls a0_0 a0_1 A0_2 c0_2 l0_2 true _ (Kd.C_below HR2.out HB0.out) HC2.out H1.out).mono ?_
    rintro e w1 ⟨rfl, hb⟩
    have HB1 := Aside0.mk (below_step HB0.out hb)
    have k0 := (hb.block w.heap.size (by simp; omega)).trans BK0.out
    have k1 := (hb.block (w.heap.size + 1) (by simp)).trans BK1.out
    have hz0 : w1.cell? ⟨w.heap.size, 0, none⟩ = some (.int .i64 a0_0) := (blk_cell k0 0).trans rfl
    have hz1 : w1.cell? ⟨w.heap.size, 1, none⟩ = some (.int .i64 a0_1) := (blk_cell k0 1).trans rfl
    have hz2 : w1.cell? ⟨w.heap.size, 2, none⟩ = some (.slice A0_2 l0_2.length c0_2) := (blk_cell k0 2).trans rfl
    have K1 := Aside0.mk k1
    clear hb k0 k1
    obtain ⟨i0, hi0, _, hsz, _⟩ := info_parts FPart.info_u16
    obtain ⟨A9, hcut, hA9, hC9⟩ := print_mid_of (P := Try.prog) (Value.int .u16) 0 31 56 .i64 .i64 Try.underlying31 hi0 hsz A0_2 c0_2 l0_2 (a1 * a0_0) ((a1 + 1) * a0_0) q2 q3 q4 HC2.out
    have hrd : ∀ i : Int, 0 ≤ i → i < a0_0 → rd ((l0_2.take ((a1 + 1) * a0_0).toNat).drop (a1 * a0_0).toNat) i = rd l0_2 (a1 * a0_0 + i) := by
      intro i h0 h1
      have q5 := Q5.out
      simp only [rd, List.getD_eq_getElem?_getD, List.getElem?_drop, List.getElem?_take]
      rw [if_pos (by omega)]
      congr 2
      omega
    have hl9 : ((l0_2.take ((a1 + 1) * a0_0).toNat).drop (a1 * a0_0).toNat).length = a0_0.toNat := by
      have q5 := Q5.out
      rw [List.length_drop, List.length_take]; omega
    generalize (l0_2.take ((a1 + 1) * a0_0).toNat).drop (a1 * a0_0).toNat = cs at hcut hA9 hC9 hrd hl9
    generalize c0_2 - (a1 * a0_0).toNat = c9 at hcut hC9
    have HA9 := Aside0.mk hA9
    have HC9 := Aside0.mk hC9
    have HRD := Aside0.mk hrd
    have HL9 := Aside0.mk hl9
    clear hA9 hC9 hrd hl9 hi0 hsz
    go_wp2
    obtain ⟨W2, hW2⟩ : ∃ W2, w1.alloc (.cells #[.slice A9 cs.length c9] 31) = W2 := ⟨_, rfl⟩
    rw [hW2]
    have HB2 := Aside0.mk (show Below w.heap.size w W2 by rw [← hW2]; exact below_alloc HB1.out _)
    have bx := Boxed.new w1 31 (.slice A9 cs.length c9)
    rw [hW2] at bx
    have hz4 := bx.cell
    have HBX := Aside0.mk bx
    have k2 : W2.heap[w.heap.size + 1]? = some (.cells #[.int .i64 a2] 3 (0, 0)) := by rw [← hW2]; exact (Below.heap_alloc _ _ _ (by have := (Array.getElem?_eq_some_iff.1 K1.out).1; exact this)).trans K1.out
    have K2 := Aside0.mk k2
    have SZ := Aside0.mk HB2.out.size
    have fin : ∀ W : World, Below w.heap.size w W → l3.any (fun i => decide (i < 0 ∨ i ≥ a0_0)) = true → part_Part.Post w r1 r2 r3 (.returned (.tuple #[.slice none 0 0, .slice none 0 0, .int .i64 5])) W := fun W hb hany => by
      have h2 := H2.out
      rw [if_pos hany] at h2
      simp only [Option.some.injEq, Prod.mk.injEq] at h2
      obtain ⟨rfl, rfl, rfl⟩ := h2
      exact ⟨_, _, rfl, Kd.R_nil _ _ _ _ _, Kd.R_nil _ _ _ _ _, hb⟩
    have FIN := Aside0.mk fin
    clear k2 fin bx hW2 hz0 hz1 hz2 hcut
    go_loop [43] (fun v => ∃ k : Nat, k ≤ l3.length ∧ v = .int .i64 k ∧ Aside0 (∀ j, j < k → 0 ≤ rd l3 (j : Nat) ∧ rd l3 (j : Nat) < a0_0)) (fun v => l3.length - (intOf v).toNat)
    case atStart => exact ⟨0, Nat.zero_le _, rfl, ⟨fun j hj => absurd hj (by omega)⟩⟩
    case round =>
      obtain ⟨k, hk, rfl, HK⟩ := hrel
      by_cases hlt : k < l3.length
      · obtain ⟨ad, e0, hx⟩ := Kd.at_int HR3.out k (by omega) (by omega)
        cases e0
        replace hx := pw_cell_below HB2.out hx
        simp only [Int.toNat_natCast] at hx
        have hmem : rd l3 (k : Nat) ∈ l3 := by simp [rd, hlt]
        have HM := Aside0.mk hmem
        clear hmem
        by_cases e1 : rd l3 (k : Nat) < 0
        · have f1 : decide (rd l3 (k : Nat) < 0) = true := decide_eq_true e1
          have HANY := Aside0.mk (show l3.any (fun i => decide (i < 0 ∨ i ≥ a0_0)) = true from List.any_eq_true.2 ⟨_, HM.out, decide_eq_true (.inl e1)⟩)
          clear e1
          go_wp2
          go_ret3
          exact FIN.out _ HB2.out HANY.out
        · have f1 : decide (rd l3 (k : Nat) < 0) = false := decide_eq_false e1
          have hcl : (cs.length : Int) = a0_0 := by rw [HL9.out]; omega
          by_cases e2 : rd l3 (k : Nat) ≥ a0_0
          · have f2 : decide (rd l3 (k : Nat) ≥ (cs.length : Int)) = true := decide_eq_true (by omega)
            have HANY := Aside0.mk (show l3.any (fun i => decide (i < 0 ∨ i ≥ a0_0)) = true from List.any_eq_true.2 ⟨_, HM.out, decide_eq_true (.inr e2)⟩)
            clear e1 e2 hcl
            go_wp2
            go_ret3
            exact FIN.out _ HB2.out HANY.out
          · have f2 : decide (rd l3 (k : Nat) ≥ (cs.length : Int)) = false := decide_eq_false (by omega)
            have HK2 := Aside0.mk (show ∀ j, j < k + 1 → 0 ≤ rd l3 (j : Nat) ∧ rd l3 (j : Nat) < a0_0 from fun j hj => by
              rcases Nat.lt_succ_iff_lt_or_eq.1 hj with hj | rfl
              · exact HK.out j hj
              · exact ⟨by omega, by omega⟩)
            clear hcl
            go_wp2
            go_round
            case rel => exact ⟨k + 1, by omega, by go_num, HK2⟩
            case measure => simp [intOf]; omega
      · obtain rfl : k = l3.length := by omega
        have hall : ∀ x ∈ l3, 0 ≤ x ∧ x < a0_0 := fun x hx => by
          obtain ⟨j, hj, rfl⟩ := List.getElem_of_mem hx
          have := HK.out j hj
          simpa [rd, hj] using this
        have hany : ¬ l3.any (fun i => decide (i < 0 ∨ i ≥ a0_0)) = true := by
          rw [List.any_eq_true]
          rintro ⟨x, hx, hd⟩
          have := hall x hx
          have := of_decide_eq_true hd
          omega
        have h2 := H2.out
        rw [if_neg hany] at h2
        split at h2
        case isFalse => exact absurd h2 (by simp)
        rename_i hl
        simp only [Option.some.injEq, Prod.mk.injEq] at h2
        obtain ⟨rfl, rfl, rfl⟩ := h2
        have HALL := Aside0.mk hall
        have HL := Aside0.mk hl
        have hmf : ∀ (fn : Fn) (first cap : Array Value) (W : World), (Instr.makeFunc fn first cap).run Try.prog W = .ok (.func fn first cap) W := fun _ _ _ _ => rfl
        clear hall hany hl H2 FIN HK
        go_wp2_with (fail)
        refine (FPart.apart_any 30 #[.pointer (some ⟨w1.heap.size, 0, none⟩), .pointer (some ⟨w.heap.size + 1, 0, none⟩)] (fun i => decide (wrap64 (rd l0_2 (a1 * a0_0 + i)) ≤ a2)) A3 c3 l3 W2 (Kd.C_below HR3.out HB2.out) HL.out (enters_of Try.func30 (by kernel_rfl) rfl) (fun x hx W hW => ?_)).mono ?_
        · rw [← HRD.out x (HALL.out x hx).1 (HALL.out x hx).2]
          exact part_Part.closure A9 c9 cs a2 w1.heap.size (w.heap.size + 1) W2 HBX.out.cell ((blk_cell K2.out 0).trans rfl) (Kd.C_of_reads (h1 := fun _ => rfl) (HA9.out W2 (Kd.reads_of_C (Kd.C_below HR2.out HB2.out)))) x (HALL.out x hx).1 (by rw [HL9.out]; have := (HALL.out x hx).2; omega) W hW
        · rintro e w2 ⟨v0, v1, rfl, hR0, hR1, hB2⟩
          have R0 := Aside0.mk hR0
          have R1 := Aside0.mk hR1
          have B3 := Aside0.mk (below_step HB2.out hB2)
          clear hR0 hR1 hB2
          go_wp2
          go_ret3
          exact ⟨_, _, rfl, Kd.R_lower R0.out SZ.out, Kd.R_lower R1.out SZ.out, B3.out⟩
  · rw [if_neg hg] at h2
    simp only [Option.some.injEq, Prod.mk.injEq] at h2
    obtain ⟨rfl, rfl, rfl⟩ := h2
    have fin : ∀ W : World, Below w.heap.size w W → part_Part.Post w [] [] 8 (.returned (.tuple #[.slice none 0 0, .slice none 0 0, .int .i64 8])) W := fun W hb => ⟨_, _, rfl, Kd.R_nil _ _ _ _ _, Kd.R_nil _ _ _ _ _, hb⟩
    have FIN := Aside0.mk fin
    clear fin
    cases t with
    | false =>
      clear hg
      go_enter Try.func15, Try.ntmps15
      go_wp2_with (fail)
      refine (bins_Right.calls a0_0 a0_1 A0_2 c0_2 l0_2 false _ (Kd.C_below HR2.out HB0.out) HC2.out H1.out).mono ?_
      rintro e w1 ⟨rfl, hb⟩
      have HB1 := Aside0.mk (below_step HB0.out hb)
      clear hb
      go_wp2
      go_ret3
      exact FIN.out _ HB1.out
    | true =>
      by_cases c1 : a1 < 0
      · have d1 : decide (a1 < 0) = true := decide_eq_true c1
        clear hg c1
        go_enter Try.func15, Try.ntmps15
        go_wp2_with (fail)
        refine (bins_Right.calls a0_0 a0_1 A0_2 c0_2 l0_2 true _ (Kd.C_below HR2.out HB0.out) HC2.out H1.out).mono ?_
        rintro e w1 ⟨rfl, hb⟩
        have HB1 := Aside0.mk (below_step HB0.out hb)
        clear hb
        go_wp2
        go_ret3
        exact FIN.out _ HB1.out
      · have c2 : a1 ≥ a0_1 := by
          refine Classical.byContradiction fun hn => hg ⟨rfl, c1, hn⟩
        have d1 : decide (a1 < 0) = false := decide_eq_false c1
        have d2 : decide (a0_1 ≤ a1) = true := decide_eq_true c2
        clear hg c1 c2
        go_enter Try.func15, Try.ntmps15
        go_wp2_with (fail)
        refine (bins_Right.calls a0_0 a0_1 A0_2 c0_2 l0_2 true _ (Kd.C_below HR2.out HB0.out) HC2.out H1.out).mono ?_
        rintro e w1 ⟨rfl, hb⟩
        have HB1 := Aside0.mk (below_step HB0.out hb)
        have k0 := (hb.block w.heap.size (by simp; omega)).trans BK0.out
        have hz1 : w1.cell? ⟨w.heap.size, 1, none⟩ = some (.int .i64 a0_1) := (blk_cell k0 1).trans rfl
        clear hb k0
        go_wp2
        go_ret3
        exact FIN.out _ HB1.out
theorem part_Part.calls (a0_0 : Int) (a0_1 : Int) (A0_2 : Option Addr) (c0_2 : Nat) (l0_2 : List Int) (a1 : Int) (a2 : Int) (A3 : Option Addr) (c3 : Nat) (l3 : List Int) (r1 : List Int) (r2 : List Int) (r3 : Int) (w : World) (hr0_2 : Kd.C (Kd.int .u16) w A0_2 l0_2.length l0_2) (hc0_2 : l0_2.length ≤ c0_2) (hr3 : Kd.C (Kd.int .i64) w A3 l3.length l3) (hc3 : l3.length ≤ c3) (h : part_Part.f a0_0 a0_1 l0_2 a1 a2 l3 = some (r1, r2, r3)) :
    Calls Try.prog 15 #[.agg #[.int .i64 a0_0, .int .i64 a0_1, .slice A0_2 l0_2.length c0_2], .int .i64 a1, .int .i64 a2, .slice A3 l3.length c3] w fun e w' => ∃ v0_ v1_ : Value, e = .returned (.tuple #[v0_, v1_, .int .i64 r3]) ∧ Kd.R (Kd.int .i64) 3 w' w.heap.size (fun k_ => some k_ ≠ (v1_ : Value).ownBlock) v0_ r1 ∧ Kd.R (Kd.int .i64) 3 w' w.heap.size (fun k_ => some k_ ≠ (v0_ : Value).ownBlock) v1_ r2 ∧ Below w.heap.size w w' :=
  part_Part.walk a0_0 a0_1 A0_2 c0_2 l0_2 a1 a2 A3 c3 l3 r1 r2 r3 w hr0_2 hc0_2 hr3 hc3 h


/-! ### hornbeamlaw17_fixed: function 14 -/
def hornbeamlaw17_fixed.f (k : Nat)  : Option (Bool) := (part_Part.f 4 1 (([2, 1, 3, 1] : List Int)) 0 1 (([0, 1, 2, 3] : List Int))).bind fun bt214 => (if bt214.2.2 = 0 then ((hornbeamref03_Same.f k bt214.1 (([1, 3] : List Int))).bind fun t224 => (if t224 = true then ((hornbeamref03_Same.f k bt214.2.1 (([0, 2] : List Int))).bind fun t228 => (some t228)) else (some false))) else (some false))
theorem hornbeamlaw17_fixed.mono : ∀ k, LeO (hornbeamlaw17_fixed.f k ) (hornbeamlaw17_fixed.f (k + 1) ) := by
  intro  k
  unfold hornbeamlaw17_fixed.f
  repeat' first
      | (with_reducible exact hornbeamref03_Same.mono _ _ _)
      | (with_reducible exact LeO.refl _)
      | (with_reducible exact LeO.none _)
      | (with_reducible refine LeO.ite ?_ ?_)
      | (with_reducible refine LeO.bind ?_ (fun _ => ?_))
      | exact hornbeamref03_Same.mono _ _ _
      | exact LeO.none _
      | refine LeO.ite ?_ ?_
      | refine LeO.bind ?_ (fun _ => ?_)
set_option maxHeartbeats 8000000 in
set_option maxRecDepth 100000 in
theorem hornbeamlaw17_fixed.calls (k : Nat)  (r : Bool) (w : World) (h : hornbeamlaw17_fixed.f k  = some r) :
    Calls Try.prog 14 #[] w fun e w' => e = .returned (.bool r) ∧ Below w.heap.size w w' := by
  have hu33 := Try.underlying33
  have HB := Aside0.mk (Below.refl w.heap.size w)
  have H : ((part_Part.f 4 1 (([2, 1, 3, 1] : List Int)) 0 1 (([0, 1, 2, 3] : List Int))).bind fun bt214 => (if bt214.2.2 = 0 then ((hornbeamref03_Same.f k bt214.1 (([1, 3] : List Int))).bind fun t224 => (if t224 = true then ((hornbeamref03_Same.f k bt214.2.1 (([0, 2] : List Int))).bind fun t228 => (some t228)) else (some false))) else (some false))) = some r := h
  clear h
  obtain ⟨y208, hy208⟩ : ∃ y_ : List Int, y_ = (([2, 1, 3, 1] : List Int)) := ⟨_, rfl⟩
  replace H : ((part_Part.f 4 1 y208 0 1 (([0, 1, 2, 3] : List Int))).bind fun bt214 => (if bt214.2.2 = 0 then ((hornbeamref03_Same.f k bt214.1 (([1, 3] : List Int))).bind fun t224 => (if t224 = true then ((hornbeamref03_Same.f k bt214.2.1 (([0, 2] : List Int))).bind fun t228 => (some t228)) else (some false))) else (some false))) = some r := by first | (rw [hy208]; with_reducible exact H) | (have H2_ := (Option.bind_some _ _).symm.trans H; rw [hy208]; with_reducible exact H2_) | (have H2_ := (Option.bind_some _ _).symm.trans H; with_reducible exact H2_) | with_reducible exact H | (rw [hy208]; exact H) | exact H
  have Ny208 := Aside0.mk hy208
  clear hy208
  obtain ⟨y211, hy211⟩ : ∃ y_ : List Int, y_ = (([0, 1, 2, 3] : List Int)) := ⟨_, rfl⟩
  replace H : ((part_Part.f 4 1 y208 0 1 y211).bind fun bt214 => (if bt214.2.2 = 0 then ((hornbeamref03_Same.f k bt214.1 (([1, 3] : List Int))).bind fun t224 => (if t224 = true then ((hornbeamref03_Same.f k bt214.2.1 (([0, 2] : List Int))).bind fun t228 => (some t228)) else (some false))) else (some false))) = some r := by first | (rw [hy211]; with_reducible exact H) | (have H2_ := (Option.bind_some _ _).symm.trans H; rw [hy211]; with_reducible exact H2_) | (have H2_ := (Option.bind_some _ _).symm.trans H; with_reducible exact H2_) | with_reducible exact H | (rw [hy211]; exact H) | exact H
  have Ny211 := Aside0.mk hy211
  clear hy211
  replace H := Option.bind_eq_some_iff.mp H
  obtain ⟨⟨t214, t217, t220⟩, A10, H⟩ := H
  replace H : (if t220 = 0 then ((hornbeamref03_Same.f k t214 (([1, 3] : List Int))).bind fun t224 => (if t224 = true then ((hornbeamref03_Same.f k t217 (([0, 2] : List Int))).bind fun t228 => (some t228)) else (some false))) else (some false)) = some r := H
  have A1 := Aside0.mk A10
  clear A10
  by_cases c2 : t220 = 0
  · rw [if_pos c2] at H
    have c2b0 : (t220 == 0) = true := beq_iff_eq.mpr c2
    have c2b1 : (t220 != 0) = false := bne_eq_false_iff_eq.mpr c2
    clear c2
    obtain ⟨y221, hy221⟩ : ∃ y_ : List Int, y_ = (([1, 3] : List Int)) := ⟨_, rfl⟩
    replace H : ((hornbeamref03_Same.f k t214 y221).bind fun t224 => (if t224 = true then ((hornbeamref03_Same.f k t217 (([0, 2] : List Int))).bind fun t228 => (some t228)) else (some false))) = some r := by first | (rw [hy221]; with_reducible exact H) | (have H2_ := (Option.bind_some _ _).symm.trans H; rw [hy221]; with_reducible exact H2_) | (have H2_ := (Option.bind_some _ _).symm.trans H; with_reducible exact H2_) | with_reducible exact H | (rw [hy221]; exact H) | exact H
    have Ny221 := Aside0.mk hy221
    clear hy221
    replace H := Option.bind_eq_some_iff.mp H
    obtain ⟨t224, A30, H⟩ := H
    replace H : (if t224 = true then ((hornbeamref03_Same.f k t217 (([0, 2] : List Int))).bind fun t228 => (some t228)) else (some false)) = some r := H
    have A3 := Aside0.mk A30
    clear A30
    by_cases c4 : t224 = true
    · subst c4
      have H1 : ((hornbeamref03_Same.f k t217 (([0, 2] : List Int))).bind fun t228 => (some t228)) = some r := by rw [if_pos rfl] at H; exact H
      clear H
      have H := H1
      clear H1
      obtain ⟨y225, hy225⟩ : ∃ y_ : List Int, y_ = (([0, 2] : List Int)) := ⟨_, rfl⟩
      replace H : ((hornbeamref03_Same.f k t217 y225).bind fun t228 => (some t228)) = some r := by first | (rw [hy225]; with_reducible exact H) | (have H2_ := (Option.bind_some _ _).symm.trans H; rw [hy225]; with_reducible exact H2_) | (have H2_ := (Option.bind_some _ _).symm.trans H; with_reducible exact H2_) | with_reducible exact H | (rw [hy225]; exact H) | exact H
      have Ny225 := Aside0.mk hy225
      clear hy225
      replace H := Option.bind_eq_some_iff.mp H
      obtain ⟨t228, A50, H⟩ := H
      replace H : (some t228) = some r := H
      have A5 := Aside0.mk A50
      clear A50
      obtain rfl := Option.some.inj H
      go_enter Try.func14, Try.ntmps14
      go_wp2_with (first | ((with_reducible refine gate_dst (N := 5) rfl ?_); (try (refine gate_guard (by rfl) ?_; dsimp only)); refine Kd.R_lit (Kd.int .u16) _ 56 ?hg (N := 5) ?hd (xs := ([2, 1, 3, 1] : List Int)) (inner := [.int .u16 2, .int .u16 1, .int .u16 3, .int .u16 1]) (ok := fun _ => True) (okp := fun _ => True) ?hr ?hp (fun _ hk => hk) trivial (Below.refl _ _) (Nat.le_refl _) (by simp) ?_; (case hd => rfl); (case hg => rfl); (case hr => first | (go_simp; done) | (go_simp; rfl)); (case hp => exact (Reps.one (show Kd.M (Kd.int .u16) _ _ _ 2 [.int .u16 2] from rfl) (Reps.one (show Kd.M (Kd.int .u16) _ _ _ 1 [.int .u16 1] from rfl) (Reps.one (show Kd.M (Kd.int .u16) _ _ _ 3 [.int .u16 3] from rfl) (Reps.one (show Kd.M (Kd.int .u16) _ _ _ 1 [.int .u16 1] from rfl) (Reps.none _ _)))))); intro v209 w6 ho7 hb hg_ hnew_; clear hg_ hnew_; (first | rw [← Ny208.out] at ho7 | (simp only [Int.reduceToNat] at ho7; rw [← Ny208.out] at ho7)); have n0_ := Aside0.mk (Kd.R_lower ho7 (below_size (by repeat (first | (with_reducible first | exact HB.out | apply below_alloc | apply pw_below_drewN | apply below_drew1) | exact HB.out)))); have n1_ := Aside0.mk (below_step (by repeat (first | (with_reducible first | exact HB.out | apply below_alloc | apply pw_below_drewN | apply below_drew1) | exact HB.out)) hb); clear HB; have HO210 := n0_; have HB := n1_; clear n0_ n1_; clear hb ho7; obtain ⟨Ao8, co8, eo8⟩ := Kd.R_slice HO210.out; subst eo8) | ((with_reducible refine gate_dst (N := 7) rfl ?_); (try (refine gate_guard (by rfl) ?_; dsimp only)); refine Kd.R_lit (Kd.int .i64) _ 3 ?hg (N := 7) ?hd (xs := ([0, 1, 2, 3] : List Int)) (inner := [.int .i64 0, .int .i64 1, .int .i64 2, .int .i64 3]) (ok := fun _ => True) (okp := fun _ => True) ?hr ?hp (fun _ hk => hk) trivial (Below.refl _ _) (Nat.le_refl _) (by simp) ?_; (case hd => rfl); (case hg => rfl); (case hr => first | (go_simp; done) | (go_simp; rfl)); (case hp => exact (Reps.one (show Kd.M (Kd.int .i64) _ _ _ 0 [.int .i64 0] from rfl) (Reps.one (show Kd.M (Kd.int .i64) _ _ _ 1 [.int .i64 1] from rfl) (Reps.one (show Kd.M (Kd.int .i64) _ _ _ 2 [.int .i64 2] from rfl) (Reps.one (show Kd.M (Kd.int .i64) _ _ _ 3 [.int .i64 3] from rfl) (Reps.none _ _)))))); intro v212 w9 ho10 hb hg_ hnew_; clear hg_ hnew_; (first | rw [← Ny211.out] at ho10 | (simp only [Int.reduceToNat] at ho10; rw [← Ny211.out] at ho10)); have n0_ := Aside0.mk (Kd.R_below (by (with_reducible repeat (first | apply Kd.R_alloc | apply Kd.R_drewN | apply Kd.R_drew)); exact HO210.out) hb); have n1_ := Aside0.mk (Kd.R_lower ho10 (below_size (by repeat (first | (with_reducible first | exact HB.out | apply below_alloc | apply pw_below_drewN | apply below_drew1) | exact HB.out)))); have n2_ := Aside0.mk (below_step (by repeat (first | (with_reducible first | exact HB.out | apply below_alloc | apply pw_below_drewN | apply below_drew1) | exact HB.out)) hb); clear HO210; clear HB; have HO210 := n0_; have HO213 := n1_; have HB := n2_; clear n0_ n1_ n2_; clear hb ho10; obtain ⟨Ao11, co11, eo11⟩ := Kd.R_slice HO213.out; subst eo11) | ((with_reducible refine gate_callee (f := 15) rfl ?_); refine goesL_ (some 8) rfl rfl Try.func15 (by kernel_rfl) rfl #[.agg #[.int .i64 4, .int .i64 1, .slice Ao8 y208.length co8], .int .i64 0, .int .i64 1, .slice Ao11 y211.length co11] rfl (by (try simp only [List.map_toArray, List.map_cons, List.map_nil]); first | done | rfl | (simp only [List.length_drop, List.length_take]; rfl)) ?_; (with_reducible refine (part_Part.calls 4 1 _ _ y208 0 1 _ _ y211 t214 t217 t220 _ ?side1 ?side2 ?side3 ?side4 A1.out).mono ?_); (case side1 => repeat (first | exact (Kd.R_reads' HO210.out).2.2 | (with_reducible refine Kd.C_alloc ?_ _) | (with_reducible refine Kd.C_drewN ?_ _) | (with_reducible refine Kd.C_drew ?_))); (case side2 => exact (Kd.R_reads' HO210.out).2.1); (case side3 => repeat (first | exact (Kd.R_reads' HO213.out).2.2 | (with_reducible refine Kd.C_alloc ?_ _) | (with_reducible refine Kd.C_drewN ?_ _) | (with_reducible refine Kd.C_drew ?_))); (case side4 => exact (Kd.R_reads' HO213.out).2.1); rintro e w12 ⟨v215, v218, rfl, ho0, ho1, hb⟩; refine ⟨_, rfl, ?_⟩; have n0_ := Aside0.mk (Kd.R_below (by (with_reducible repeat (first | apply Kd.R_alloc | apply Kd.R_drewN | apply Kd.R_drew)); exact HO210.out) hb); have n1_ := Aside0.mk (Kd.R_mono (Kd.R_told (Kd.R_told (Kd.R_old (by (with_reducible repeat (first | apply Kd.R_alloc | apply Kd.R_drewN | apply Kd.R_drew)); exact HO213.out) hb) (Kd.R_base ho0)) (Kd.R_base ho1)) (fun _ h_ => h_.1)); have n2_ := Aside0.mk (Kd.R_lower (Kd.R_new' ho0 (Kd.R_lt (by (with_reducible repeat (first | apply Kd.R_alloc | apply Kd.R_drewN | apply Kd.R_drew)); exact HO213.out))) (below_size (by repeat (first | (with_reducible first | exact HB.out | apply below_alloc | apply pw_below_drewN | apply below_drew1) | exact HB.out)))); have n3_ := Aside0.mk (Kd.R_lower (Kd.R_new' ho1 (Kd.R_lt (by (with_reducible repeat (first | apply Kd.R_alloc | apply Kd.R_drewN | apply Kd.R_drew)); exact HO213.out))) (below_size (by repeat (first | (with_reducible first | exact HB.out | apply below_alloc | apply pw_below_drewN | apply below_drew1) | exact HB.out)))); have n4_ := Aside0.mk (below_step (by repeat (first | (with_reducible first | exact HB.out | apply below_alloc | apply pw_below_drewN | apply below_drew1) | exact HB.out)) hb); clear HO210; clear HO213; clear HB; have HO210 := n0_; have HO213 := n1_; have HO216 := n2_; have HO219 := n3_; have HB := n4_; clear n0_ n1_ n2_ n3_ n4_; (try clear hb); (try clear hb2); (try clear hk); (try clear hi); (try clear ho0); (try clear ho1)) | ((with_reducible refine gate_dst (N := 16) rfl ?_); (try (refine gate_guard (by rfl) ?_; dsimp only)); refine Kd.R_lit (Kd.int .i64) _ 3 ?hg (N := 16) ?hd (xs := ([1, 3] : List Int)) (inner := [.int .i64 1, .int .i64 3]) (ok := fun _ => True) (okp := fun _ => True) ?hr ?hp (fun _ hk => hk) trivial (Below.refl _ _) (Nat.le_refl _) (by simp) ?_; (case hd => rfl); (case hg => rfl); (case hr => first | (go_simp; done) | (go_simp; rfl)); (case hp => exact (Reps.one (show Kd.M (Kd.int .i64) _ _ _ 1 [.int .i64 1] from rfl) (Reps.one (show Kd.M (Kd.int .i64) _ _ _ 3 [.int .i64 3] from rfl) (Reps.none _ _)))); intro v222 w13 ho14 hb hg_ hnew_; clear hg_ hnew_; (first | rw [← Ny221.out] at ho14 | (simp only [Int.reduceToNat] at ho14; rw [← Ny221.out] at ho14)); have n0_ := Aside0.mk (Kd.R_below (by (with_reducible repeat (first | apply Kd.R_alloc | apply Kd.R_drewN | apply Kd.R_drew)); exact HO210.out) hb); have n1_ := Aside0.mk (Kd.R_elder' (by (with_reducible repeat (first | apply Kd.R_alloc | apply Kd.R_drewN | apply Kd.R_drew)); exact HO213.out) (Kd.R_base ho14) hb); have n2_ := Aside0.mk (Kd.R_elder' (by (with_reducible repeat (first | apply Kd.R_alloc | apply Kd.R_drewN | apply Kd.R_drew)); exact HO216.out) (Kd.R_base ho14) hb); have n3_ := Aside0.mk (Kd.R_elder' (by (with_reducible repeat (first | apply Kd.R_alloc | apply Kd.R_drewN | apply Kd.R_drew)); exact HO219.out) (Kd.R_base ho14) hb); have n4_ := Aside0.mk (Kd.R_lower (Kd.R_new' (Kd.R_new' (Kd.R_new' ho14 (Kd.R_lt (by (with_reducible repeat (first | apply Kd.R_alloc | apply Kd.R_drewN | apply Kd.R_drew)); exact HO213.out))) (Kd.R_lt (by (with_reducible repeat (first | apply Kd.R_alloc | apply Kd.R_drewN | apply Kd.R_drew)); exact HO216.out))) (Kd.R_lt (by (with_reducible repeat (first | apply Kd.R_alloc | apply Kd.R_drewN | apply Kd.R_drew)); exact HO219.out))) (below_size (by repeat (first | (with_reducible first | exact HB.out | apply below_alloc | apply pw_below_drewN | apply below_drew1) | exact HB.out)))); have n5_ := Aside0.mk (below_step (by repeat (first | (with_reducible first | exact HB.out | apply below_alloc | apply pw_below_drewN | apply below_drew1) | exact HB.out)) hb); clear HO210; clear HO213; clear HO216; clear HO219; clear HB; have HO210 := n0_; have HO213 := n1_; have HO216 := n2_; have HO219 := n3_; have HO223 := n4_; have HB := n5_; clear n0_ n1_ n2_ n3_ n4_ n5_; clear hb ho14; obtain ⟨Ao15, co15, eo15⟩ := Kd.R_slice HO216.out; subst eo15; obtain ⟨Ao16, co16, eo16⟩ := Kd.R_slice HO223.out; subst eo16) | (go_at_call 17; (with_reducible refine (hornbeamref03_Same.calls k _ _ t214 _ _ y221 true _ ?side1 ?side2 ?side3 ?side4 A3.out).mono ?_); (case side1 => repeat (first | exact (Kd.R_reads' HO216.out).2.2 | (with_reducible refine Kd.C_alloc ?_ _) | (with_reducible refine Kd.C_drewN ?_ _) | (with_reducible refine Kd.C_drew ?_))); (case side2 => exact (Kd.R_reads' HO216.out).2.1); (case side3 => repeat (first | exact (Kd.R_reads' HO223.out).2.2 | (with_reducible refine Kd.C_alloc ?_ _) | (with_reducible refine Kd.C_drewN ?_ _) | (with_reducible refine Kd.C_drew ?_))); (case side4 => exact (Kd.R_reads' HO223.out).2.1); rintro e w' ⟨rfl, ⟨nd, rfl⟩⟩) | ((with_reducible refine gate_dst (N := 21) rfl ?_); (try (refine gate_guard (by rfl) ?_; dsimp only)); refine Kd.R_lit (Kd.int .i64) _ 3 ?hg (N := 21) ?hd (xs := ([0, 2] : List Int)) (inner := [.int .i64 0, .int .i64 2]) (ok := fun _ => True) (okp := fun _ => True) ?hr ?hp (fun _ hk => hk) trivial (Below.refl _ _) (Nat.le_refl _) (by simp) ?_; (case hd => rfl); (case hg => rfl); (case hr => first | (go_simp; done) | (go_simp; rfl)); (case hp => exact (Reps.one (show Kd.M (Kd.int .i64) _ _ _ 0 [.int .i64 0] from rfl) (Reps.one (show Kd.M (Kd.int .i64) _ _ _ 2 [.int .i64 2] from rfl) (Reps.none _ _)))); intro v226 w17 ho18 hb hg_ hnew_; clear hg_ hnew_; (first | rw [← Ny225.out] at ho18 | (simp only [Int.reduceToNat] at ho18; rw [← Ny225.out] at ho18)); have n0_ := Aside0.mk (Kd.R_below (by (with_reducible repeat (first | apply Kd.R_alloc | apply Kd.R_drewN | apply Kd.R_drew)); exact HO210.out) hb); have n1_ := Aside0.mk (Kd.R_elder' (by (with_reducible repeat (first | apply Kd.R_alloc | apply Kd.R_drewN | apply Kd.R_drew)); exact HO213.out) (Kd.R_base ho18) hb); have n2_ := Aside0.mk (Kd.R_elder' (by (with_reducible repeat (first | apply Kd.R_alloc | apply Kd.R_drewN | apply Kd.R_drew)); exact HO216.out) (Kd.R_base ho18) hb); have n3_ := Aside0.mk (Kd.R_elder' (by (with_reducible repeat (first | apply Kd.R_alloc | apply Kd.R_drewN | apply Kd.R_drew)); exact HO219.out) (Kd.R_base ho18) hb); have n4_ := Aside0.mk (Kd.R_elder' (by (with_reducible repeat (first | apply Kd.R_alloc | apply Kd.R_drewN | apply Kd.R_drew)); exact HO223.out) (Kd.R_base ho18) hb); have n5_ := Aside0.mk (Kd.R_lower (Kd.R_new' (Kd.R_new' (Kd.R_new' (Kd.R_new' ho18 (Kd.R_lt (by (with_reducible repeat (first | apply Kd.R_alloc | apply Kd.R_drewN | apply Kd.R_drew)); exact HO213.out))) (Kd.R_lt (by (with_reducible repeat (first | apply Kd.R_alloc | apply Kd.R_drewN | apply Kd.R_drew)); exact HO216.out))) (Kd.R_lt (by (with_reducible repeat (first | apply Kd.R_alloc | apply Kd.R_drewN | apply Kd.R_drew)); exact HO219.out))) (Kd.R_lt (by (with_reducible repeat (first | apply Kd.R_alloc | apply Kd.R_drewN | apply Kd.R_drew)); exact HO223.out))) (below_size (by repeat (first | (with_reducible first | exact HB.out | apply below_alloc | apply pw_below_drewN | apply below_drew1) | exact HB.out)))); have n6_ := Aside0.mk (below_step (by repeat (first | (with_reducible first | exact HB.out | apply below_alloc | apply pw_below_drewN | apply below_drew1) | exact HB.out)) hb); clear HO210; clear HO213; clear HO216; clear HO219; clear HO223; clear HB; have HO210 := n0_; have HO213 := n1_; have HO216 := n2_; have HO219 := n3_; have HO223 := n4_; have HO227 := n5_; have HB := n6_; clear n0_ n1_ n2_ n3_ n4_ n5_ n6_; clear hb ho18; obtain ⟨Ao19, co19, eo19⟩ := Kd.R_slice HO219.out; subst eo19; obtain ⟨Ao20, co20, eo20⟩ := Kd.R_slice HO227.out; subst eo20) | (go_at_call 17; (with_reducible refine (hornbeamref03_Same.calls k _ _ t217 _ _ y225 t228 _ ?side1 ?side2 ?side3 ?side4 A5.out).mono ?_); (case side1 => repeat (first | exact (Kd.R_reads' HO219.out).2.2 | (with_reducible refine Kd.C_alloc ?_ _) | (with_reducible refine Kd.C_drewN ?_ _) | (with_reducible refine Kd.C_drew ?_))); (case side2 => exact (Kd.R_reads' HO219.out).2.1); (case side3 => repeat (first | exact (Kd.R_reads' HO227.out).2.2 | (with_reducible refine Kd.C_alloc ?_ _) | (with_reducible refine Kd.C_drewN ?_ _) | (with_reducible refine Kd.C_drew ?_))); (case side4 => exact (Kd.R_reads' HO227.out).2.1); rintro e w' ⟨rfl, ⟨nd, rfl⟩⟩))
      go_ret
      exact ⟨by first | rfl | (simp [errW_none, errW_some] <;> rfl) | (simp [*, errW_none, errW_some] <;> rfl), by repeat (first | (with_reducible first | exact HB.out | apply below_alloc | apply pw_below_drewN | apply below_drew1) | exact HB.out)⟩
    · replace c4 := Bool.eq_false_iff.mpr c4
      subst c4
      have H1 : (some false) = some r := by rw [if_neg (show ¬ (false = true) by decide)] at H; exact H
      clear H
      have H := H1
      clear H1
      obtain rfl := Option.some.inj H
      go_enter Try.func14, Try.ntmps14
      go_wp2_with (first | ((with_reducible refine gate_dst (N := 5) rfl ?_); (try (refine gate_guard (by rfl) ?_; dsimp only)); refine Kd.R_lit (Kd.int .u16) _ 56 ?hg (N := 5) ?hd (xs := ([2, 1, 3, 1] : List Int)) (inner := [.int .u16 2, .int .u16 1, .int .u16 3, .int .u16 1]) (ok := fun _ => True) (okp := fun _ => True) ?hr ?hp (fun _ hk => hk) trivial (Below.refl _ _) (Nat.le_refl _) (by simp) ?_; (case hd => rfl); (case hg => rfl); (case hr => first | (go_simp; done) | (go_simp; rfl)); (case hp => exact (Reps.one (show Kd.M (Kd.int .u16) _ _ _ 2 [.int .u16 2] from rfl) (Reps.one (show Kd.M (Kd.int .u16) _ _ _ 1 [.int .u16 1] from rfl) (Reps.one (show Kd.M (Kd.int .u16) _ _ _ 3 [.int .u16 3] from rfl) (Reps.one (show Kd.M (Kd.int .u16) _ _ _ 1 [.int .u16 1] from rfl) (Reps.none _ _)))))); intro v209 w21 ho22 hb hg_ hnew_; clear hg_ hnew_; (first | rw [← Ny208.out] at ho22 | (simp only [Int.reduceToNat] at ho22; rw [← Ny208.out] at ho22)); have n0_ := Aside0.mk (Kd.R_lower ho22 (below_size (by repeat (first | (with_reducible first | exact HB.out | apply below_alloc | apply pw_below_drewN | apply below_drew1) | exact HB.out)))); have n1_ := Aside0.mk (below_step (by repeat (first | (with_reducible first | exact HB.out | apply below_alloc | apply pw_below_drewN | apply below_drew1) | exact HB.out)) hb); clear HB; have HO210 := n0_; have HB := n1_; clear n0_ n1_; clear hb ho22; obtain ⟨Ao23, co23, eo23⟩ := Kd.R_slice HO210.out; subst eo23) | ((with_reducible refine gate_dst (N := 7) rfl ?_); (try (refine gate_guard (by rfl) ?_; dsimp only)); refine Kd.R_lit (Kd.int .i64) _ 3 ?hg (N := 7) ?hd (xs := ([0, 1, 2, 3] : List Int)) (inner := [.int .i64 0, .int .i64 1, .int .i64 2, .int .i64 3]) (ok := fun _ => True) (okp := fun _ => True) ?hr ?hp (fun _ hk => hk) trivial (Below.refl _ _) (Nat.le_refl _) (by simp) ?_; (case hd => rfl); (case hg => rfl); (case hr => first | (go_simp; done) | (go_simp; rfl)); (case hp => exact (Reps.one (show Kd.M (Kd.int .i64) _ _ _ 0 [.int .i64 0] from rfl) (Reps.one (show Kd.M (Kd.int .i64) _ _ _ 1 [.int .i64 1] from rfl) (Reps.one (show Kd.M (Kd.int .i64) _ _ _ 2 [.int .i64 2] from rfl) (Reps.one (show Kd.M (Kd.int .i64) _ _ _ 3 [.int .i64 3] from rfl) (Reps.none _ _)))))); intro v212 w24 ho25 hb hg_ hnew_; clear hg_ hnew_; (first | rw [← Ny211.out] at ho25 | (simp only [Int.reduceToNat] at ho25; rw [← Ny211.out] at ho25)); have n0_ := Aside0.mk (Kd.R_below (by (with_reducible repeat (first | apply Kd.R_alloc | apply Kd.R_drewN | apply Kd.R_drew)); exact HO210.out) hb); have n1_ := Aside0.mk (Kd.R_lower ho25 (below_size (by repeat (first | (with_reducible first | exact HB.out | apply below_alloc | apply pw_below_drewN | apply below_drew1) | exact HB.out)))); have n2_ := Aside0.mk (below_step (by repeat (first | (with_reducible first | exact HB.out | apply below_alloc | apply pw_below_drewN | apply below_drew1) | exact HB.out)) hb); clear HO210; clear HB; have HO210 := n0_; have HO213 := n1_; have HB := n2_; clear n0_ n1_ n2_; clear hb ho25; obtain ⟨Ao26, co26, eo26⟩ := Kd.R_slice HO213.out; subst eo26) | ((with_reducible refine gate_callee (f := 15) rfl ?_); refine goesL_ (some 8) rfl rfl Try.func15 (by kernel_rfl) rfl #[.agg #[.int .i64 4, .int .i64 1, .slice Ao23 y208.length co23], .int .i64 0, .int .i64 1, .slice Ao26 y211.length co26] rfl (by (try simp only [List.map_toArray, List.map_cons, List.map_nil]); first | done | rfl | (simp only [List.length_drop, List.length_take]; rfl)) ?_; (with_reducible refine (part_Part.calls 4 1 _ _ y208 0 1 _ _ y211 t214 t217 t220 _ ?side1 ?side2 ?side3 ?side4 A1.out).mono ?_); (case side1 => repeat (first | exact (Kd.R_reads' HO210.out).2.2 | (with_reducible refine Kd.C_alloc ?_ _) | (with_reducible refine Kd.C_drewN ?_ _) | (with_reducible refine Kd.C_drew ?_))); (case side2 => exact (Kd.R_reads' HO210.out).2.1); (case side3 => repeat (first | exact (Kd.R_reads' HO213.out).2.2 | (with_reducible refine Kd.C_alloc ?_ _) | (with_reducible refine Kd.C_drewN ?_ _) | (with_reducible refine Kd.C_drew ?_))); (case side4 => exact (Kd.R_reads' HO213.out).2.1); rintro e w27 ⟨v215, v218, rfl, ho0, ho1, hb⟩; refine ⟨_, rfl, ?_⟩; have n0_ := Aside0.mk (Kd.R_below (by (with_reducible repeat (first | apply Kd.R_alloc | apply Kd.R_drewN | apply Kd.R_drew)); exact HO210.out) hb); have n1_ := Aside0.mk (Kd.R_mono (Kd.R_told (Kd.R_told (Kd.R_old (by (with_reducible repeat (first | apply Kd.R_alloc | apply Kd.R_drewN | apply Kd.R_drew)); exact HO213.out) hb) (Kd.R_base ho0)) (Kd.R_base ho1)) (fun _ h_ => h_.1)); have n2_ := Aside0.mk (Kd.R_lower (Kd.R_new' ho0 (Kd.R_lt (by (with_reducible repeat (first | apply Kd.R_alloc | apply Kd.R_drewN | apply Kd.R_drew)); exact HO213.out))) (below_size (by repeat (first | (with_reducible first | exact HB.out | apply below_alloc | apply pw_below_drewN | apply below_drew1) | exact HB.out)))); have n3_ := Aside0.mk (Kd.R_lower (Kd.R_new' ho1 (Kd.R_lt (by (with_reducible repeat (first | apply Kd.R_alloc | apply Kd.R_drewN | apply Kd.R_drew)); exact HO213.out))) (below_size (by repeat (first | (with_reducible first | exact HB.out | apply below_alloc | apply pw_below_drewN | apply below_drew1) | exact HB.out)))); have n4_ := Aside0.mk (below_step (by repeat (first | (with_reducible first | exact HB.out | apply below_alloc | apply pw_below_drewN | apply below_drew1) | exact HB.out)) hb); clear HO210; clear HO213; clear HB; have HO210 := n0_; have HO213 := n1_; have HO216 := n2_; have HO219 := n3_; have HB := n4_; clear n0_ n1_ n2_ n3_ n4_; (try clear hb); (try clear hb2); (try clear hk); (try clear hi); (try clear ho0); (try clear ho1)) | ((with_reducible refine gate_dst (N := 16) rfl ?_); (try (refine gate_guard (by rfl) ?_; dsimp only)); refine Kd.R_lit (Kd.int .i64) _ 3 ?hg (N := 16) ?hd (xs := ([1, 3] : List Int)) (inner := [.int .i64 1, .int .i64 3]) (ok := fun _ => True) (okp := fun _ => True) ?hr ?hp (fun _ hk => hk) trivial (Below.refl _ _) (Nat.le_refl _) (by simp) ?_; (case hd => rfl); (case hg => rfl); (case hr => first | (go_simp; done) | (go_simp; rfl)); (case hp => exact (Reps.one (show Kd.M (Kd.int .i64) _ _ _ 1 [.int .i64 1] from rfl) (Reps.one (show Kd.M (Kd.int .i64) _ _ _ 3 [.int .i64 3] from rfl) (Reps.none _ _)))); intro v222 w28 ho29 hb hg_ hnew_; clear hg_ hnew_; (first | rw [← Ny221.out] at ho29 | (simp only [Int.reduceToNat] at ho29; rw [← Ny221.out] at ho29)); have n0_ := Aside0.mk (Kd.R_below (by (with_reducible repeat (first | apply Kd.R_alloc | apply Kd.R_drewN | apply Kd.R_drew)); exact HO210.out) hb); have n1_ := Aside0.mk (Kd.R_elder' (by (with_reducible repeat (first | apply Kd.R_alloc | apply Kd.R_drewN | apply Kd.R_drew)); exact HO213.out) (Kd.R_base ho29) hb); have n2_ := Aside0.mk (Kd.R_elder' (by (with_reducible repeat (first | apply Kd.R_alloc | apply Kd.R_drewN | apply Kd.R_drew)); exact HO216.out) (Kd.R_base ho29) hb); have n3_ := Aside0.mk (Kd.R_elder' (by (with_reducible repeat (first | apply Kd.R_alloc | apply Kd.R_drewN | apply Kd.R_drew)); exact HO219.out) (Kd.R_base ho29) hb); have n4_ := Aside0.mk (Kd.R_lower (Kd.R_new' (Kd.R_new' (Kd.R_new' ho29 (Kd.R_lt (by (with_reducible repeat (first | apply Kd.R_alloc | apply Kd.R_drewN | apply Kd.R_drew)); exact HO213.out))) (Kd.R_lt (by (with_reducible repeat (first | apply Kd.R_alloc | apply Kd.R_drewN | apply Kd.R_drew)); exact HO216.out))) (Kd.R_lt (by (with_reducible repeat (first | apply Kd.R_alloc | apply Kd.R_drewN | apply Kd.R_drew)); exact HO219.out))) (below_size (by repeat (first | (with_reducible first | exact HB.out | apply below_alloc | apply pw_below_drewN | apply below_drew1) | exact HB.out)))); have n5_ := Aside0.mk (below_step (by repeat (first | (with_reducible first | exact HB.out | apply below_alloc | apply pw_below_drewN | apply below_drew1) | exact HB.out)) hb); clear HO210; clear HO213; clear HO216; clear HO219; clear HB; have HO210 := n0_; have HO213 := n1_; have HO216 := n2_; have HO219 := n3_; have HO223 := n4_; have HB := n5_; clear n0_ n1_ n2_ n3_ n4_ n5_; clear hb ho29; obtain ⟨Ao30, co30, eo30⟩ := Kd.R_slice HO216.out; subst eo30; obtain ⟨Ao31, co31, eo31⟩ := Kd.R_slice HO223.out; subst eo31) | (go_at_call 17; (with_reducible refine (hornbeamref03_Same.calls k _ _ t214 _ _ y221 false _ ?side1 ?side2 ?side3 ?side4 A3.out).mono ?_); (case side1 => repeat (first | exact (Kd.R_reads' HO216.out).2.2 | (with_reducible refine Kd.C_alloc ?_ _) | (with_reducible refine Kd.C_drewN ?_ _) | (with_reducible refine Kd.C_drew ?_))); (case side2 => exact (Kd.R_reads' HO216.out).2.1); (case side3 => repeat (first | exact (Kd.R_reads' HO223.out).2.2 | (with_reducible refine Kd.C_alloc ?_ _) | (with_reducible refine Kd.C_drewN ?_ _) | (with_reducible refine Kd.C_drew ?_))); (case side4 => exact (Kd.R_reads' HO223.out).2.1); rintro e w' ⟨rfl, ⟨nd, rfl⟩⟩))
      go_ret
      exact ⟨by first | rfl | (simp [errW_none, errW_some] <;> rfl) | (simp [*, errW_none, errW_some] <;> rfl), by repeat (first | (with_reducible first | exact HB.out | apply below_alloc | apply pw_below_drewN | apply below_drew1) | exact HB.out)⟩
  · rw [if_neg c2] at H
    have c2b0 : (t220 == 0) = false := beq_eq_false_iff_ne.mpr c2
    have c2b1 : (t220 != 0) = true := bne_iff_ne.mpr c2
    obtain rfl := Option.some.inj H
    go_enter Try.func14, Try.ntmps14
    go_wp2_with (first | ((with_reducible refine gate_dst (N := 5) rfl ?_); (try (refine gate_guard (by rfl) ?_; dsimp only)); refine Kd.R_lit (Kd.int .u16) _ 56 ?hg (N := 5) ?hd (xs := ([2, 1, 3, 1] : List Int)) (inner := [.int .u16 2, .int .u16 1, .int .u16 3, .int .u16 1]) (ok := fun _ => True) (okp := fun _ => True) ?hr ?hp (fun _ hk => hk) trivial (Below.refl _ _) (Nat.le_refl _) (by simp) ?_; (case hd => rfl); (case hg => rfl); (case hr => first | (go_simp; done) | (go_simp; rfl)); (case hp => exact (Reps.one (show Kd.M (Kd.int .u16) _ _ _ 2 [.int .u16 2] from rfl) (Reps.one (show Kd.M (Kd.int .u16) _ _ _ 1 [.int .u16 1] from rfl) (Reps.one (show Kd.M (Kd.int .u16) _ _ _ 3 [.int .u16 3] from rfl) (Reps.one (show Kd.M (Kd.int .u16) _ _ _ 1 [.int .u16 1] from rfl) (Reps.none _ _)))))); intro v209 w32 ho33 hb hg_ hnew_; clear hg_ hnew_; (first | rw [← Ny208.out] at ho33 | (simp only [Int.reduceToNat] at ho33; rw [← Ny208.out] at ho33)); have n0_ := Aside0.mk (Kd.R_lower ho33 (below_size (by repeat (first | (with_reducible first | exact HB.out | apply below_alloc | apply pw_below_drewN | apply below_drew1) | exact HB.out)))); have n1_ := Aside0.mk (below_step (by repeat (first | (with_reducible first | exact HB.out | apply below_alloc | apply pw_below_drewN | apply below_drew1) | exact HB.out)) hb); clear HB; have HO210 := n0_; have HB := n1_; clear n0_ n1_; clear hb ho33; obtain ⟨Ao34, co34, eo34⟩ := Kd.R_slice HO210.out; subst eo34) | ((with_reducible refine gate_dst (N := 7) rfl ?_); (try (refine gate_guard (by rfl) ?_; dsimp only)); refine Kd.R_lit (Kd.int .i64) _ 3 ?hg (N := 7) ?hd (xs := ([0, 1, 2, 3] : List Int)) (inner := [.int .i64 0, .int .i64 1, .int .i64 2, .int .i64 3]) (ok := fun _ => True) (okp := fun _ => True) ?hr ?hp (fun _ hk => hk) trivial (Below.refl _ _) (Nat.le_refl _) (by simp) ?_; (case hd => rfl); (case hg => rfl); (case hr => first | (go_simp; done) | (go_simp; rfl)); (case hp => exact (Reps.one (show Kd.M (Kd.int .i64) _ _ _ 0 [.int .i64 0] from rfl) (Reps.one (show Kd.M (Kd.int .i64) _ _ _ 1 [.int .i64 1] from rfl) (Reps.one (show Kd.M (Kd.int .i64) _ _ _ 2 [.int .i64 2] from rfl) (Reps.one (show Kd.M (Kd.int .i64) _ _ _ 3 [.int .i64 3] from rfl) (Reps.none _ _)))))); intro v212 w35 ho36 hb hg_ hnew_; clear hg_ hnew_; (first | rw [← Ny211.out] at ho36 | (simp only [Int.reduceToNat] at ho36; rw [← Ny211.out] at ho36)); have n0_ := Aside0.mk (Kd.R_below (by (with_reducible repeat (first | apply Kd.R_alloc | apply Kd.R_drewN | apply Kd.R_drew)); exact HO210.out) hb); have n1_ := Aside0.mk (Kd.R_lower ho36 (below_size (by repeat (first | (with_reducible first | exact HB.out | apply below_alloc | apply pw_below_drewN | apply below_drew1) | exact HB.out)))); have n2_ := Aside0.mk (below_step (by repeat (first | (with_reducible first | exact HB.out | apply below_alloc | apply pw_below_drewN | apply below_drew1) | exact HB.out)) hb); clear HO210; clear HB; have HO210 := n0_; have HO213 := n1_; have HB := n2_; clear n0_ n1_ n2_; clear hb ho36; obtain ⟨Ao37, co37, eo37⟩ := Kd.R_slice HO213.out; subst eo37) | ((with_reducible refine gate_callee (f := 15) rfl ?_); refine goesL_ (some 8) rfl rfl Try.func15 (by kernel_rfl) rfl #[.agg #[.int .i64 4, .int .i64 1, .slice Ao34 y208.length co34], .int .i64 0, .int .i64 1, .slice Ao37 y211.length co37] rfl (by (try simp only [List.map_toArray, List.map_cons, List.map_nil]); first | done | rfl | (simp only [List.length_drop, List.length_take]; rfl)) ?_; (with_reducible refine (part_Part.calls 4 1 _ _ y208 0 1 _ _ y211 t214 t217 t220 _ ?side1 ?side2 ?side3 ?side4 A1.out).mono ?_); (case side1 => repeat (first | exact (Kd.R_reads' HO210.out).2.2 | (with_reducible refine Kd.C_alloc ?_ _) | (with_reducible refine Kd.C_drewN ?_ _) | (with_reducible refine Kd.C_drew ?_))); (case side2 => exact (Kd.R_reads' HO210.out).2.1); (case side3 => repeat (first | exact (Kd.R_reads' HO213.out).2.2 | (with_reducible refine Kd.C_alloc ?_ _) | (with_reducible refine Kd.C_drewN ?_ _) | (with_reducible refine Kd.C_drew ?_))); (case side4 => exact (Kd.R_reads' HO213.out).2.1); rintro e w38 ⟨v215, v218, rfl, ho0, ho1, hb⟩; refine ⟨_, rfl, ?_⟩; have n0_ := Aside0.mk (Kd.R_below (by (with_reducible repeat (first | apply Kd.R_alloc | apply Kd.R_drewN | apply Kd.R_drew)); exact HO210.out) hb); have n1_ := Aside0.mk (Kd.R_mono (Kd.R_told (Kd.R_told (Kd.R_old (by (with_reducible repeat (first | apply Kd.R_alloc | apply Kd.R_drewN | apply Kd.R_drew)); exact HO213.out) hb) (Kd.R_base ho0)) (Kd.R_base ho1)) (fun _ h_ => h_.1)); have n2_ := Aside0.mk (Kd.R_lower (Kd.R_new' ho0 (Kd.R_lt (by (with_reducible repeat (first | apply Kd.R_alloc | apply Kd.R_drewN | apply Kd.R_drew)); exact HO213.out))) (below_size (by repeat (first | (with_reducible first | exact HB.out | apply below_alloc | apply pw_below_drewN | apply below_drew1) | exact HB.out)))); have n3_ := Aside0.mk (Kd.R_lower (Kd.R_new' ho1 (Kd.R_lt (by (with_reducible repeat (first | apply Kd.R_alloc | apply Kd.R_drewN | apply Kd.R_drew)); exact HO213.out))) (below_size (by repeat (first | (with_reducible first | exact HB.out | apply below_alloc | apply pw_below_drewN | apply below_drew1) | exact HB.out)))); have n4_ := Aside0.mk (below_step (by repeat (first | (with_reducible first | exact HB.out | apply below_alloc | apply pw_below_drewN | apply below_drew1) | exact HB.out)) hb); clear HO210; clear HO213; clear HB; have HO210 := n0_; have HO213 := n1_; have HO216 := n2_; have HO219 := n3_; have HB := n4_; clear n0_ n1_ n2_ n3_ n4_; (try clear hb); (try clear hb2); (try clear hk); (try clear hi); (try clear ho0); (try clear ho1)))
    go_ret
    exact ⟨by first | rfl | (simp [errW_none, errW_some] <;> rfl) | (simp [*, errW_none, errW_some] <;> rfl), by repeat (first | (with_reducible first | exact HB.out | apply below_alloc | apply pw_below_drewN | apply below_drew1) | exact HB.out)⟩

end Go.Proofs.Ytkfnhbhfadhbkaa.PA
