/- The law ConfigChecks by a walk: a region whose calls come up in any order. -/
import Derived.Test.YtebbnjgaikppgaaPureConfPut
import Derived.Test.YtebbnjgaikppgaaPureVal
import Derived.Test.YtebbnjgaikppgaaFStep
import Derived.Test.YtebbnjgaikppgaaPAx28
import Derived.Test.YtebbnjgaikppgaaPAx21
import Derived.Test.YtebbnjgaikppgaaPAx1
namespace Go.Proofs.Ytebbnjgaikppgaa.FConfigChecks
open Go.RowKit Go.Proofs.YtebbnjgaikppgaaW.PrintWords Go.Proofs.YtebbnjgaikppgaaW.PrintLast Go.Proofs.YtebbnjgaikppgaaW.PrintMore Go.Proofs.Ytebbnjgaikppgaa.PA Go.Proofs.Ytebbnjgaikppgaa.PureTake Go.Proofs.Ytebbnjgaikppgaa.PureConf Go.Proofs.Ytebbnjgaikppgaa.PureVal
attribute [local go_sem high] eqA55
set_option linter.unusedVariables false
set_option linter.unusedSimpArgs false
theorem get_back (g : Nat → Int) (h : chk g = 0) : config_Get.get (bytesC g) = .ok ([g 0, g 1, g 2, g 3, g 4, g 5, g 6], []) := by
  obtain ⟨h0, h1, h2, h3, h4, h5, h6, _⟩ := chk_zero h
  have hn : config_Get.nums config_Get.szs (bytesC g) = .ok ([g 0, g 1, g 2, g 3, g 4, g 5, g 6], []) := by
    unfold bytesC
    simp only [config_Get.nums, config_Get.szs, List.append_assoc]
    rw [num_be 1 (g 0) (by omega) 1 rfl (by omega)]
    simp only
    rw [num_be 2 (g 1) (by omega) 2 rfl (by omega)]
    simp only
    rw [num_be 2 (g 2) (by omega) 2 rfl (by omega)]
    simp only
    rw [num_be 2 (g 3) (by omega) 2 rfl (by omega)]
    simp only
    rw [num_be 1 (g 4) (by omega) 1 rfl (by omega)]
    simp only
    rw [num_be 4 (g 5) (by omega) 4 rfl (by omega)]
    simp only
    have := num_be 2 (g 6) (by omega) 2 rfl (by omega) []
    rw [List.append_nil] at this
    rw [this]
    simp only
    have m1 : (256 : Int) ^ 1 = 256 := rfl
    have m2 : (256 : Int) ^ 2 = 65536 := rfl
    have m4 : (256 : Int) ^ 4 = 4294967296 := rfl
    rw [m1, m2, m4, Int.emod_eq_of_lt (by omega) (by omega), Int.emod_eq_of_lt (by omega) (by omega), Int.emod_eq_of_lt (by omega) (by omega), Int.emod_eq_of_lt (by omega) (by omega), Int.emod_eq_of_lt (by omega) (by omega), Int.emod_eq_of_lt (by omega) (by omega), Int.emod_eq_of_lt (by omega) (by omega),
      Pure.wrap_in (by omega) (by omega), Pure.wrap_in (by omega) (by omega), Pure.wrap_in (by omega) (by omega), Pure.wrap_in (by omega) (by omega), Pure.wrap_in (by omega) (by omega), Pure.wrap_in (by omega) (by omega), Pure.wrap_in (by omega) (by omega)]
  have hc : config_Get.chk (config_Get.fld [g 0, g 1, g 2, g 3, g 4, g 5, g 6]) = chk g := by
    unfold chk config_Get.chk; rfl
  unfold config_Get.get
  rw [hn]
  simp only
  rw [hc, if_pos h]
theorem bytesC_byte (g : Nat → Int) : ∀ x ∈ bytesC g, 0 ≤ x ∧ x < 256 := by
  intro x hx
  unfold bytesC at hx
  simp only [List.mem_append] at hx
  rcases hx with (((((h | h) | h) | h) | h) | h) | h <;> exact be_byte _ _ x h
theorem taken_back (g : Nat → Int) (h : chk g = 0) : hornbeamlaw08_taken.f (bytesC g) = some (g 0, g 1, g 2, g 3, g 4, g 5, g 6, 0) := by
  have e : hornbeamlaw08_taken.g (bytesC g) = ([g 0, g 1, g 2, g 3, g 4, g 5, g 6], 0) := by
    unfold hornbeamlaw08_taken.g
    rw [get_back g h]
    simp
  unfold hornbeamlaw08_taken.f
  rw [if_pos (bytesC_byte g), e]
  rfl
/-- The config lies in its box, and nothing that was there has changed. -/
def St (w : World) (g : Nat → Int) (W : World) : Prop := FStep.Blk7 W w.heap.size 55 (g 0) (g 1) (g 2) (g 3) (g 4) (g 5) (g 6) ∧ Below w.heap.size w W
theorem St.step {w W W1 : World} {g : Nat → Int} (h : St w g W) (hb : Below W.heap.size W W1) : St w g W1 := ⟨h.1.below hb, below_step h.2 hb⟩
set_option maxHeartbeats 8000000 in
set_option maxRecDepth 100000 in
theorem law_calls (A : Option Addr) (c : Nat) (l : List Int) (g : Nat → Int) (w : World) (hrl : Kd.C (Kd.int .u8) w A l.length l) (hcl : l.length ≤ c) :
    Calls Try.prog 9 #[.agg #[.int .i64 (g 0), .int .i64 (g 1), .int .i64 (g 2), .int .i64 (g 3), .int .i64 (g 4), .int .i64 (g 5), .int .i64 (g 6)], .slice A l.length c] w fun e w' => e = .returned (.bool true) ∧ Below w.heap.size w w' := by
  have hu := Try.underlying55
  have HRL := Aside0.mk hrl
  have HCL := Aside0.mk hcl
  clear hrl hcl
  have S0 := Aside0.mk (show St w g (w.alloc (.cells #[.int .i64 (g 0), .int .i64 (g 1), .int .i64 (g 2), .int .i64 (g 3), .int .i64 (g 4), .int .i64 (g 5), .int .i64 (g 6)] 55)) from ⟨blk_new w _, below_alloc (Below.refl _ w) _⟩)
  have HCK := Aside0.mk (check_f g 20 (by omega))
  have HRC := Aside0.mk (ref_check_f g 3 (by omega))
  have HRP := Aside0.mk (ref_put_c g 30 (by omega))
  by_cases h1 : l.length > 100
  · have d1 : decide ((l.length : Int) > 100) = true := decide_eq_true (by omega)
    go_enter Try.func9, Try.ntmps9
    go_wp2_with (fail)
    refine (hornbeamlaw08_fixed.calls true _ rfl).mono ?_
    rintro e w1 ⟨rfl, hb⟩
    have HB1 := Aside0.mk (S0.out.step hb).2
    clear hb
    go_wp2
    go_ret
    exact ⟨rfl, HB1.out⟩
  have d1 : decide ((l.length : Int) > 100) = false := decide_eq_false (by omega)
  have HPC := Aside0.mk (put_c g l (by omega) 30 (by omega))
  have hstr : ∃ s : ByteArray, strOfNums (if chk g = 0 then l ++ bytesC g else l) = s ∧ strOfNums l ++ (if chk g = 0 then strOfNums (bytesC g) else (⟨#[]⟩ : ByteArray)) = s := by
    refine ⟨_, rfl, ?_⟩
    split
    · rw [strOf_append]
    · apply ByteArray.ext; simp [strOfNums]
  have hsz : (strOfNums l).size + (if chk g = 0 then strOfNums (bytesC g) else (⟨#[]⟩ : ByteArray)).size ≤ 9223372036854775807 := by
    rw [strOf_size]
    split
    · rw [strOf_size, bytesC_len]; omega
    · show l.length + 0 ≤ _; omega
  obtain ⟨sA, hsA, hsB⟩ := hstr
  obtain ⟨rp, hrp⟩ : ∃ rp, (if chk g = 0 then strOfNums (bytesC g) else (⟨#[]⟩ : ByteArray)) = rp := ⟨_, rfl⟩
  obtain ⟨pb, hpb⟩ : ∃ pb, (if chk g = 0 then l ++ bytesC g else l) = pb := ⟨_, rfl⟩
  rw [hrp] at hsz hsB HRP
  rw [hpb] at hsA HPC
  have c8b1 : decide ((strOfNums l).size + rp.size ≤ 9223372036854775807) = true := decide_eq_true hsz
  have c8b2 : (9223372036854775807 < (strOfNums l).size + rp.size) = False := eq_false (Nat.not_lt.2 hsz)
  have HSB := Aside0.mk hsB
  have HSA := Aside0.mk hsA
  clear hsB hsA hrp hpb
  go_enter Try.func9, Try.ntmps9
  go_wp2_with (fail)
  generalize w.alloc (.cells #[.int .i64 (g 0), .int .i64 (g 1), .int .i64 (g 2), .int .i64 (g 3), .int .i64 (g 4), .int .i64 (g 5), .int .i64 (g 6)] 55) = W0 at S0 ⊢
  have S1 := Aside0.mk (show St w g W0.drew from ⟨S0.out.1, below_drew1 S0.out.2⟩)
  refine start_ (n := 17) (S := fun w' => St w g w') (ds := []) #[false, false, false, false, false, false, false, false, false, false, false, false, false, false, false, false, false] (by kernel_rfl) rfl rfl S1.out (fun hHeld => ?_)
  generalize W0.drew = W1 at S1 hHeld ⊢
  refine take_ (i := 0) (N := some 11) (v := ?_) (a' := ?_) #[true, false, false, false, false, false, false, false, false, false, false, false, false, false, false, false, false] rfl rfl (by kernel_rfl) (fun _ _ _ h => h) (Or.inl ⟨by rfl, ?_⟩) hHeld ?_ ?_
  rotate_left
  · intro w' s
    have s0 := s.1.c0; have s1 := s.1.c1; have s2 := s.1.c2; have s3 := s.1.c3; have s4 := s.1.c4; have s5 := s.1.c5; have s6 := s.1.c6
    clear s
    go_simp
    with_reducible rfl
  rotate_left
  · simp only [Act.put, List.setIfInBounds_toArray, List.set_cons_zero, List.set_cons_succ, i64_w, i32_w]
    rfl
  refine take_ (i := 2) (N := some 13) (v := ?_) (a' := ?_) #[true, false, true, false, false, false, false, false, false, false, false, false, false, false, false, false, false] rfl rfl (by kernel_rfl) (fun _ _ _ h => h) (Or.inl ⟨by rfl, ?_⟩) hHeld ?_ ?_
  rotate_left
  · intro w' s
    have s0 := s.1.c0; have s1 := s.1.c1; have s2 := s.1.c2; have s3 := s.1.c3; have s4 := s.1.c4; have s5 := s.1.c5; have s6 := s.1.c6
    clear s
    go_simp
    with_reducible rfl
  rotate_left
  · simp only [Act.put, List.setIfInBounds_toArray, List.set_cons_zero, List.set_cons_succ, i64_w, i32_w]
    rfl
  refine one_ (i := 1) (N := some 12) #[true, true, true, false, false, false, false, false, false, false, false, false, false, false, false, false, false] rfl rfl (by kernel_rfl) (by decide) (fun K hK => ?_)
  refine goes_ Try.func34 (by kernel_rfl) rfl #[.agg #[.int .i64 (g 0), .int .i64 (g 1), .int .i64 (g 2), .int .i64 (g 3), .int .i64 (g 4), .int .i64 (g 5), .int .i64 (g 6)]] (by rfl) rfl rfl (by (try simp only [List.map_toArray, List.map_cons, List.map_nil]); first | done | rfl) ?_
  refine (config_Check.calls 20 (g 0) (g 1) (g 2) (g 3) (g 4) (g 5) (g 6) _ _ HCK.out).mono ?_
  rintro e w2 ⟨rfl, hb⟩
  refine ⟨_, rfl, ?_⟩
  have S2 := Aside0.mk (hHeld.step hb)
  clear hb hHeld
  refine hK.out _ _ S2.out (fun hHeld => ?_)
  clear hK K
  refine norm_ (a' := ?_) ?_ ?_
  rotate_left
  · show Act.put _ (some 12) _ = _
    simp only [Act.put, List.setIfInBounds_toArray, List.set_cons_zero, List.set_cons_succ, i64_w, i32_w]
    rfl
  refine one_ (i := 3) (N := some 14) #[true, true, true, true, false, false, false, false, false, false, false, false, false, false, false, false, false] rfl rfl (by kernel_rfl) (by decide) (fun K hK => ?_)
  refine goes_ Try.func36 (by kernel_rfl) rfl #[.agg #[.int .i64 (g 0), .int .i64 (g 1), .int .i64 (g 2), .int .i64 (g 3), .int .i64 (g 4), .int .i64 (g 5), .int .i64 (g 6)]] (by rfl) rfl rfl (by (try simp only [List.map_toArray, List.map_cons, List.map_nil]); first | done | rfl) ?_
  refine (hornbeamref08_Check.calls 3 (g 0) (g 1) (g 2) (g 3) (g 4) (g 5) (g 6) _ _ HRC.out).mono ?_
  rintro e w3 ⟨rfl, hb⟩
  refine ⟨_, rfl, ?_⟩
  have S3 := Aside0.mk (hHeld.step hb)
  clear hb hHeld
  refine hK.out _ _ S3.out (fun hHeld => ?_)
  clear hK K
  refine norm_ (a' := ?_) ?_ ?_
  rotate_left
  · show Act.put _ (some 14) _ = _
    simp only [Act.put, List.setIfInBounds_toArray, List.set_cons_zero, List.set_cons_succ, i64_w, i32_w]
    rfl
  have dcc : (chk g != chk g) = false := by simp
  refine take_ (i := 4) (N := some 15) (v := ?_) (a' := ?_) #[true, true, true, true, true, false, false, false, false, false, false, false, false, false, false, false, false] rfl rfl (by kernel_rfl) (fun _ _ _ h => h) (Or.inl ⟨by rfl, ?_⟩) hHeld ?_ ?_
  rotate_left
  · intro w' s
    have s0 := s.1.c0
    clear s
    go_simp
    with_reducible rfl
  rotate_left
  · simp only [Act.put, List.setIfInBounds_toArray, List.set_cons_zero, List.set_cons_succ, i64_w, i32_w]
    rfl
  refine take_ (i := 5) (N := some 16) (v := ?_) (a' := ?_) #[true, true, true, true, true, true, false, false, false, false, false, false, false, false, false, false, false] rfl rfl (by kernel_rfl) (fun _ _ _ h => h) (Or.inl ⟨by rfl, ?_⟩) hHeld ?_ ?_
  rotate_left
  · intro w' s
    have s0 := s.1.c0
    clear s
    go_simp
    with_reducible rfl
  rotate_left
  · simp only [Act.put, List.setIfInBounds_toArray, List.set_cons_zero, List.set_cons_succ, i64_w, i32_w]
    rfl
  refine take_ (i := 6) (N := some 17) (v := ?_) (a' := ?_) #[true, true, true, true, true, true, true, false, false, false, false, false, false, false, false, false, false] rfl rfl (by kernel_rfl) (fun _ _ _ h => h) (Or.inl ⟨by rfl, ?_⟩) hHeld ?_ ?_
  rotate_left
  · intro w' s
    have s0 := s.1.c0
    clear s
    go_simp
    with_reducible rfl
  rotate_left
  · simp only [Act.put, List.setIfInBounds_toArray, List.set_cons_zero, List.set_cons_succ, i64_w, i32_w]
    rfl
  refine take_ (i := 7) (N := some 18) (v := ?_) (a' := ?_) #[true, true, true, true, true, true, true, true, false, false, false, false, false, false, false, false, false] rfl rfl (by kernel_rfl) (fun _ _ _ h => h) (Or.inl ⟨by rfl, ?_⟩) hHeld ?_ ?_
  rotate_left
  · intro w' s
    have s0 := s.1.c0; have s1 := s.1.c1; have s2 := s.1.c2; have s3 := s.1.c3; have s4 := s.1.c4; have s5 := s.1.c5; have s6 := s.1.c6
    clear s
    go_simp
    with_reducible rfl
  rotate_left
  · simp only [Act.put, List.setIfInBounds_toArray, List.set_cons_zero, List.set_cons_succ, i64_w, i32_w]
    rfl
  refine take_ (i := 10) (N := some 21) (v := ?_) (a' := ?_) #[true, true, true, true, true, true, true, true, false, false, true, false, false, false, false, false, false] rfl rfl (by kernel_rfl) (fun _ _ _ h => h) (Or.inl ⟨by rfl, ?_⟩) hHeld ?_ ?_
  rotate_left
  · intro w' s
    have s0 := s.1.c0
    clear s
    go_simp
    with_reducible rfl
  rotate_left
  · simp only [Act.put, List.setIfInBounds_toArray, List.set_cons_zero, List.set_cons_succ, i64_w, i32_w]
    rfl
  refine take_ (i := 11) (N := some 22) (v := ?_) (a' := ?_) #[true, true, true, true, true, true, true, true, false, false, true, true, false, false, false, false, false] rfl rfl (by kernel_rfl) (fun _ _ _ h => h) (Or.inl ⟨by rfl, ?_⟩) hHeld ?_ ?_
  rotate_left
  · intro w' s
    have s0 := Kd.C_string (P := Try.prog) (A := A) (c := c) Try.underlying22 Try.underlying5 Try.underlying9 (Kd.C_below HRL.out s.2)
    clear s
    go_simp
    with_reducible rfl
  rotate_left
  · simp only [Act.put, List.setIfInBounds_toArray, List.set_cons_zero, List.set_cons_succ, i64_w, i32_w]
    rfl
  refine take_ (i := 12) (N := some 23) (v := ?_) (a' := ?_) #[true, true, true, true, true, true, true, true, false, false, true, true, true, false, false, false, false] rfl rfl (by kernel_rfl) (fun _ _ _ h => h) (Or.inl ⟨by rfl, ?_⟩) hHeld ?_ ?_
  rotate_left
  · intro w' s
    have s0 := s.1.c0; have s1 := s.1.c1; have s2 := s.1.c2; have s3 := s.1.c3; have s4 := s.1.c4; have s5 := s.1.c5; have s6 := s.1.c6
    clear s
    go_simp
    with_reducible rfl
  rotate_left
  · simp only [Act.put, List.setIfInBounds_toArray, List.set_cons_zero, List.set_cons_succ, i64_w, i32_w]
    rfl
  refine one_ (i := 8) (N := some 19) #[true, true, true, true, true, true, true, true, true, false, true, true, true, false, false, false, false] rfl rfl (by kernel_rfl) (by decide) (fun K hK => ?_)
  refine goes_ Try.func37 (by kernel_rfl) rfl #[.slice A l.length c, .agg #[.int .i64 (g 0), .int .i64 (g 1), .int .i64 (g 2), .int .i64 (g 3), .int .i64 (g 4), .int .i64 (g 5), .int .i64 (g 6)]] (by rfl) rfl rfl (by (try simp only [List.map_toArray, List.map_cons, List.map_nil]); first | done | rfl) ?_
  refine (config_Put.calls 30 A c l (g 0) (g 1) (g 2) (g 3) (g 4) (g 5) (g 6) _ _ (Kd.C_below HRL.out hHeld.2) HCL.out HPC.out).mono ?_
  rintro e w4 ⟨v4, rfl, hR, hb⟩
  refine ⟨_, rfl, ?_⟩
  obtain ⟨A4, c4, rfl, hl4, hC4⟩ := Kd.R_reads hR
  have HC4 := Aside0.mk hC4
  have HL4 := Aside0.mk hl4
  clear hR hC4 hl4
  have S4 := Aside0.mk (hHeld.step hb)
  clear hb hHeld
  refine hK.out _ _ S4.out (fun hHeld => ?_)
  clear hK K
  refine norm_ (a' := ?_) ?_ ?_
  rotate_left
  · show Act.put _ (some 19) _ = _
    simp only [Act.put, List.setIfInBounds_toArray, List.set_cons_zero, List.set_cons_succ, i64_w, i32_w]
    rfl
  refine join_ (σ := Unit) 2 #[true, true, true, true, true, true, true, true, true, true, true, true, true, true, true, false, false] (fun _ => [(20, .string sA), (24, .string rp), (25, .string sA)]) (fun _ w' => St w g w' ∧ Kd.C (Kd.int .u8) w' A4 pb.length pb) ?_ ?_
  rotate_left
  · intro hCont
    refine two_ (i := 9) (j := 13) (Ni := some 20) (Nj := some 24) #[true, true, true, true, true, true, true, true, true, true, true, true, true, false, false, false, false] #[true, true, true, true, true, true, true, true, true, false, true, true, true, true, false, false, false] rfl rfl rfl rfl (by kernel_rfl) (by decide) (by decide) (fun K hK => ?_) (fun K hK => ?_)
    · refine value_ (w1 := w4) (v := .string (strOfNums pb)) (by rfl) rfl (by have hcv := Kd.C_string (P := Try.prog) (A := A4) (c := c4) Try.underlying22 Try.underlying5 Try.underlying9 HC4.out; go_simp) ?_
      rw [HSA.out]
      refine hK.out _ _ hHeld (fun _ => ?_)
      clear hK K
      refine norm_ (a' := ?_) ?_ ?_
      rotate_left
      · show Act.put _ (some 20) _ = _
        simp only [Act.put, List.setIfInBounds_toArray, List.set_cons_zero, List.set_cons_succ, i64_w, i32_w]
        rfl
      refine one_ (i := 13) (N := some 24) #[true, true, true, true, true, true, true, true, true, true, true, true, true, true, false, false, false] rfl rfl (by kernel_rfl) (by decide) (fun K hK => ?_)
      refine goes_ Try.func38 (by kernel_rfl) rfl #[.agg #[.int .i64 (g 0), .int .i64 (g 1), .int .i64 (g 2), .int .i64 (g 3), .int .i64 (g 4), .int .i64 (g 5), .int .i64 (g 6)]] (by rfl) rfl rfl (by (try simp only [List.map_toArray, List.map_cons, List.map_nil]); first | done | rfl) ?_
      refine (hornbeamref08_Put.calls 30 (g 0) (g 1) (g 2) (g 3) (g 4) (g 5) (g 6) _ _ HRP.out).mono ?_
      rintro e w5 ⟨rfl, hb⟩
      refine ⟨_, rfl, ?_⟩
      have HC5 := Aside0.mk (Kd.C_below HC4.out hb)
      have S5 := Aside0.mk (hHeld.step hb)
      clear hb hHeld
      refine hK.out _ _ S5.out (fun hHeld => ?_)
      clear hK K
      refine norm_ (a' := ?_) ?_ ?_
      rotate_left
      · show Act.put _ (some 24) _ = _
        simp only [Act.put, List.setIfInBounds_toArray, List.set_cons_zero, List.set_cons_succ, i64_w, i32_w]
        rfl
      refine take_ (i := 14) (N := some 25) (v := ?_) (a' := ?_) #[true, true, true, true, true, true, true, true, true, true, true, true, true, true, true, false, false] rfl rfl (by kernel_rfl) (fun _ _ _ h => h) (Or.inl ⟨by rfl, ?_⟩) hHeld ?_ ?_
      rotate_left
      · intro w' s
        have s0 := s.1.c0
        clear s
        go_simp
        with_reducible rfl
      rotate_left
      · simp only [Act.put, List.setIfInBounds_toArray, List.set_cons_zero, List.set_cons_succ, i64_w, i32_w]
        rfl
      rw [HSB.out]
      exact norm_ (by simp only [putAll, Act.put, List.setIfInBounds_toArray, List.set_cons_zero, List.set_cons_succ]) (hCont () _ ⟨S5.out, HC5.out⟩)
    · refine goes_ Try.func38 (by kernel_rfl) rfl #[.agg #[.int .i64 (g 0), .int .i64 (g 1), .int .i64 (g 2), .int .i64 (g 3), .int .i64 (g 4), .int .i64 (g 5), .int .i64 (g 6)]] (by rfl) rfl rfl (by (try simp only [List.map_toArray, List.map_cons, List.map_nil]); first | done | rfl) ?_
      refine (hornbeamref08_Put.calls 30 (g 0) (g 1) (g 2) (g 3) (g 4) (g 5) (g 6) _ _ HRP.out).mono ?_
      rintro e w5 ⟨rfl, hb⟩
      refine ⟨_, rfl, ?_⟩
      have HC5 := Aside0.mk (Kd.C_below HC4.out hb)
      have S5 := Aside0.mk (hHeld.step hb)
      clear hb hHeld
      refine hK.out _ _ S5.out (fun hHeld => ?_)
      clear hK K
      refine norm_ (a' := ?_) ?_ ?_
      rotate_left
      · show Act.put _ (some 24) _ = _
        simp only [Act.put, List.setIfInBounds_toArray, List.set_cons_zero, List.set_cons_succ, i64_w, i32_w]
        rfl
      refine take_ (i := 14) (N := some 25) (v := ?_) (a' := ?_) #[true, true, true, true, true, true, true, true, true, false, true, true, true, true, true, false, false] rfl rfl (by kernel_rfl) (fun _ _ _ h => h) (Or.inl ⟨by rfl, ?_⟩) hHeld ?_ ?_
      rotate_left
      · intro w' s
        have s0 := s.1.c0
        clear s
        go_simp
        with_reducible rfl
      rotate_left
      · simp only [Act.put, List.setIfInBounds_toArray, List.set_cons_zero, List.set_cons_succ, i64_w, i32_w]
        rfl
      refine one_ (i := 9) (N := some 20) #[true, true, true, true, true, true, true, true, true, true, true, true, true, true, true, false, false] rfl rfl (by kernel_rfl) (by decide) (fun K hK => ?_)
      refine value_ (w1 := w5) (v := .string (strOfNums pb)) (by rfl) rfl (by have hcv := Kd.C_string (P := Try.prog) (A := A4) (c := c4) Try.underlying22 Try.underlying5 Try.underlying9 HC5.out; go_simp) ?_
      rw [HSA.out]
      refine hK.out _ _ hHeld (fun _ => ?_)
      clear hK K
      refine norm_ (a' := ?_) ?_ ?_
      rotate_left
      · show Act.put _ (some 20) _ = _
        simp only [Act.put, List.setIfInBounds_toArray, List.set_cons_zero, List.set_cons_succ, i64_w, i32_w]
        rfl
      rw [HSB.out]
      exact norm_ (by simp only [putAll, Act.put, List.setIfInBounds_toArray, List.set_cons_zero, List.set_cons_succ]) (hCont () _ ⟨S5.out, HC5.out⟩)
  rintro _ w6 ⟨hHeld, hC6⟩
  have S6 := Aside0.mk hHeld
  clear S1 S0 S2 S3 S4 HC4 HRP HSA HSB hC6
  refine norm_ (a' := ?_) ?_ ?_
  rotate_left
  · simp only [putAll, Act.put, List.setIfInBounds_toArray, List.set_cons_zero, List.set_cons_succ]
    rfl
  refine take_ (i := 15) (N := some 26) (v := ?_) (a' := ?_) #[true, true, true, true, true, true, true, true, true, true, true, true, true, true, true, true, false] rfl rfl (by kernel_rfl) (fun _ _ _ h => h) (Or.inl ⟨by rfl, ?_⟩) hHeld ?_ ?_
  rotate_left
  · intro w' s
    have s0 := s.1.c0
    clear s
    go_simp
    with_reducible rfl
  rotate_left
  · simp only [Act.put, List.setIfInBounds_toArray, List.set_cons_zero, List.set_cons_succ, i64_w, i32_w]
    rfl
  refine take_ (i := 16) (N := some 27) (v := ?_) (a' := ?_) #[true, true, true, true, true, true, true, true, true, true, true, true, true, true, true, true, true] rfl rfl (by kernel_rfl) (fun _ _ _ h => h) (Or.inl ⟨by rfl, ?_⟩) hHeld ?_ ?_
  rotate_left
  · intro w' s
    have s0 := s.1.c0
    clear s
    go_simp
    with_reducible rfl
  rotate_left
  · simp only [Act.put, List.setIfInBounds_toArray, List.set_cons_zero, List.set_cons_succ, i64_w, i32_w]
    rfl
  refine done_ (by kernel_rfl) ?_
  have k0 := S6.out.1.c0
  have k1 := S6.out.1.c1
  have k2 := S6.out.1.c2
  have k3 := S6.out.1.c3
  have k4 := S6.out.1.c4
  have k5 := S6.out.1.c5
  have k6 := S6.out.1.c6
  go_wp2_with (fail)
  clear k0 k1 k2 k3 k4 k5 k6
  refine (config_Check.calls 20 (g 0) (g 1) (g 2) (g 3) (g 4) (g 5) (g 6) _ _ HCK.out).mono ?_
  rintro e w7 ⟨rfl, hb⟩
  have S7 := Aside0.mk (S6.out.step hb)
  clear hb hHeld S6
  by_cases hc0 : chk g = 0
  · have dc0 : (chk g != 0) = false := bne_eq_false_iff_eq.mpr hc0
    have HP0 := Aside0.mk (put_c g [] (by simp) 30 (by omega))
    rw [if_pos hc0, List.nil_append] at HP0
    have HTK := Aside0.mk (taken_back g hc0)
    have k0 := S7.out.1.c0
    have k1 := S7.out.1.c1
    have k2 := S7.out.1.c2
    have k3 := S7.out.1.c3
    have k4 := S7.out.1.c4
    have k5 := S7.out.1.c5
    have k6 := S7.out.1.c6
    clear hc0
    go_wp2_with (fail)
    clear k0 k1 k2 k3 k4 k5 k6
    refine (config_Put.calls 30 none 0 [] (g 0) (g 1) (g 2) (g 3) (g 4) (g 5) (g 6) _ _ (Kd.C_nil _ _) (Nat.le_refl _) HP0.out).mono ?_
    rintro e w8 ⟨v8, rfl, hR, hb⟩
    obtain ⟨A8, c8, rfl, hl8, hC8⟩ := Kd.R_reads hR
    have S8 := Aside0.mk (S7.out.step hb)
    have HC8 := Aside0.mk hC8
    have HL8 := Aside0.mk hl8
    clear hb hR hC8 hl8 S7
    go_wp2_with (fail)
    refine (hornbeamlaw08_taken.calls A8 c8 (bytesC g) (g 0) (g 1) (g 2) (g 3) (g 4) (g 5) (g 6) 0 _ HC8.out HL8.out HTK.out).mono ?_
    rintro e w9 ⟨rfl, hb⟩
    have S9 := Aside0.mk (S8.out.step hb)
    clear hb S8 HC8 HL8
    have z9 : (w9.alloc (.cells #[.int .i64 0, .int .i64 0, .int .i64 0, .int .i64 0, .int .i64 0, .int .i64 0, .int .i64 0] 55)).heap[w9.heap.size]? = some (.cells #[.int .i64 0, .int .i64 0, .int .i64 0, .int .i64 0, .int .i64 0, .int .i64 0, .int .i64 0] 55 (0, 0)) := blk_new w9 _
    have S10 := Aside0.mk (show St w g (w9.alloc (.cells #[.int .i64 0, .int .i64 0, .int .i64 0, .int .i64 0, .int .i64 0, .int .i64 0, .int .i64 0] 55)) from ⟨S9.out.1.below (below_alloc (Below.refl _ _) _), below_alloc S9.out.2 _⟩)
    have HLT := Aside0.mk (Nat.ne_of_lt S9.out.1.lt)
    go_wp2_with ((with_reducible refine gate_store (t := 55) (p := 5) rfl ?_); refine FStore.store_all w9.heap.size 55 55 5 _ #[.int .i64 0, .int .i64 0, .int .i64 0, .int .i64 0, .int .i64 0, .int .i64 0, .int .i64 0] #[.int .i64 (g 0), .int .i64 (g 1), .int .i64 (g 2), .int .i64 (g 3), .int .i64 (g 4), .int .i64 (g 5), .int .i64 (g 6)] rfl rfl rfl rfl rfl z9 (by kernel_rfl) rfl (by simp [Value.oneCell']) ?_; intro w10 hb10 hB10 hk10)
    have S11 := Aside0.mk (show St w g w10 from ⟨S10.out.1.eq (hk10 _ HLT.out), hB10 _ _ (Nat.le_of_lt (by have := S9.out.1.lt; exact this)) S10.out.2⟩)
    have N11 := Aside0.mk (show FStep.Blk7 w10 w9.heap.size 55 (g 0) (g 1) (g 2) (g 3) (g 4) (g 5) (g 6) from hb10)
    clear hb10 hB10 hk10 z9 S10 S9 HLT
    refine (hornbeamlaw08_fixed.calls true _ rfl).mono ?_
    rintro e w11 ⟨rfl, hb⟩
    have S12 := Aside0.mk (S11.out.step hb)
    have N12 := Aside0.mk (N11.out.below hb)
    clear hb S11 N11
    have k0 := S12.out.1.c0
    have k1 := S12.out.1.c1
    have k2 := S12.out.1.c2
    have k3 := S12.out.1.c3
    have k4 := S12.out.1.c4
    have k5 := S12.out.1.c5
    have k6 := S12.out.1.c6
    have q0 := N12.out.c0
    have q1 := N12.out.c1
    have q2 := N12.out.c2
    have q3 := N12.out.c3
    have q4 := N12.out.c4
    have q5 := N12.out.c5
    have q6 := N12.out.c6
    go_wp2_with (fail)
    go_ret
    exact ⟨by simp, S12.out.2⟩
  · have dc0 : (chk g != 0) = true := bne_iff_ne.mpr hc0
    clear hc0
    go_wp2_with (fail)
    refine (hornbeamlaw08_fixed.calls true _ rfl).mono ?_
    rintro e w8 ⟨rfl, hb⟩
    have S8 := Aside0.mk (S7.out.step hb)
    clear hb
    go_wp2
    go_ret
    exact ⟨rfl, S8.out.2⟩
end Go.Proofs.Ytebbnjgaikppgaa.FConfigChecks
