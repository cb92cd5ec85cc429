/- The law ConfigFirst by a walk: more and more fields of a config put in place of another's, through a row of pointers. -/
import Derived.Test.YtebbnjgaikppgaaFConfigEnds
namespace Go.Proofs.Ytebbnjgaikppgaa.FConfigFirst
open Go.RowKit Go.Proofs.YtebbnjgaikppgaaW.PrintWords Go.Proofs.YtebbnjgaikppgaaW.PrintLast Go.Proofs.YtebbnjgaikppgaaW.PrintMore Go.Proofs.Ytebbnjgaikppgaa.PA Go.Proofs.Ytebbnjgaikppgaa.PureConf Go.Proofs.Ytebbnjgaikppgaa.FConfigEnds
set_option linter.unusedVariables false
set_option linter.unusedSimpArgs false
/-- The first fields of one config, the others of another. -/
def mix (c g : Nat → Int) (i : Nat) : Nat → Int := fun m => if m ≤ i then c m else g m
theorem head_bad {a b r r' : Int} (ha : ¬ (0 ≤ a ∧ a ≤ 1)) : head a b r = head a b r' := by
  unfold head; rw [if_pos (by omega), if_pos (by omega)]
theorem head_ne {a b r : Int} (h : head a b 0 ≠ 0) : head a b r = head a b 0 := by
  unfold head at h ⊢
  by_cases h1 : a < 0 ∨ a > 1
  · rw [if_pos h1, if_pos h1]
  · rw [if_neg h1] at h ⊢
    rw [if_neg h1]
    by_cases h2 : b < (if a = 1 then 0 else 2) ∨ (a = 1 ∧ b ≠ 0)
    · rw [if_pos h2, if_pos h2]
    · rw [if_neg h2] at h ⊢
      rw [if_neg h2]
      by_cases h3 : b > 256
      · rw [if_pos h3, if_pos h3]
      · rw [if_neg h3] at h; exact absurd rfl h
theorem two_ne {lo hi x r : Int} (h : two lo hi x 0 ≠ 0) : two lo hi x r = two lo hi x 0 := by
  unfold two at h ⊢
  by_cases h1 : x < lo
  · rw [if_pos h1, if_pos h1]
  · rw [if_neg h1] at h ⊢
    rw [if_neg h1]
    by_cases h2 : x > hi
    · rw [if_pos h2, if_pos h2]
    · rw [if_neg h2] at h; exact absurd rfl h
theorem first_err (c g : Nat → Int) (hg : chk g = 0) (j : Nat) (hj : j < 7) (hp : 2 ≤ j → chk (mix c g (j - 1)) = 0) (hE : chk (mix c g j) ≠ 0) (h0 : j = 0 → ¬ (0 ≤ c 0 ∧ c 0 ≤ 1)) : chk c = chk (mix c g j) := by
  obtain ⟨g0, g1, g2, g3, g4, g5, g6, g7, g8⟩ := chk_zero hg
  have : j = 0 ∨ j = 1 ∨ j = 2 ∨ j = 3 ∨ j = 4 ∨ j = 5 ∨ j = 6 := by omega
  rcases this with rfl | rfl | rfl | rfl | rfl | rfl | rfl
  · rw [chk_eq, chk_eq]
    show head (c 0) (c 1) _ = head (c 0) (g 1) _
    unfold head
    rw [if_pos (by have := h0 rfl; omega), if_pos (by have := h0 rfl; omega)]
  · rw [chk_eq] at hE ⊢
    rw [chk_eq]
    have e : head (mix c g 1 0) (mix c g 1 1) (two 2 256 (mix c g 1 2) (two 1 4096 (mix c g 1 3) (two 0 32 (mix c g 1 4) (two 1 1048576 (mix c g 1 5) (two 1 1024 (mix c g 1 6) 0))))) = head (c 0) (c 1) 0 := by
      show head (c 0) (c 1) (two 2 256 (g 2) (two 1 4096 (g 3) (two 0 32 (g 4) (two 1 1048576 (g 5) (two 1 1024 (g 6) 0))))) = _
      rw [two_ok _ g2, two_ok _ g3, two_ok _ g4, two_ok _ g5, two_ok _ g6]
    rw [e] at hE ⊢
    exact head_ne hE
  · obtain ⟨c0, c1, c2, c3, c4, c5, c6, c7, c8⟩ := chk_zero (hp (by omega))
    rw [chk_eq] at hE ⊢
    rw [chk_eq]
    have e : head (mix c g 2 0) (mix c g 2 1) (two 2 256 (mix c g 2 2) (two 1 4096 (mix c g 2 3) (two 0 32 (mix c g 2 4) (two 1 1048576 (mix c g 2 5) (two 1 1024 (mix c g 2 6) 0))))) = two 2 256 (c 2) 0 := by
      show head (c 0) (c 1) (two 2 256 (c 2) (two 1 4096 (g 3) (two 0 32 (g 4) (two 1 1048576 (g 5) (two 1 1024 (g 6) 0))))) = _
      rw [head_ok (a := c 0) (b := c 1) _ c0 c1 c7 c8, two_ok _ g3, two_ok _ g4, two_ok _ g5, two_ok _ g6]
    rw [e] at hE ⊢
    rw [head_ok (a := c 0) (b := c 1) _ c0 c1 c7 c8]
    exact two_ne hE
  · obtain ⟨c0, c1, c2, c3, c4, c5, c6, c7, c8⟩ := chk_zero (hp (by omega))
    rw [chk_eq] at hE ⊢
    rw [chk_eq]
    have e : head (mix c g 3 0) (mix c g 3 1) (two 2 256 (mix c g 3 2) (two 1 4096 (mix c g 3 3) (two 0 32 (mix c g 3 4) (two 1 1048576 (mix c g 3 5) (two 1 1024 (mix c g 3 6) 0))))) = two 1 4096 (c 3) 0 := by
      show head (c 0) (c 1) (two 2 256 (c 2) (two 1 4096 (c 3) (two 0 32 (g 4) (two 1 1048576 (g 5) (two 1 1024 (g 6) 0))))) = _
      rw [head_ok (a := c 0) (b := c 1) _ c0 c1 c7 c8, two_ok (x := c 2) _ c2, two_ok _ g4, two_ok _ g5, two_ok _ g6]
    rw [e] at hE ⊢
    rw [head_ok (a := c 0) (b := c 1) _ c0 c1 c7 c8, two_ok (x := c 2) _ c2]
    exact two_ne hE
  · obtain ⟨c0, c1, c2, c3, c4, c5, c6, c7, c8⟩ := chk_zero (hp (by omega))
    rw [chk_eq] at hE ⊢
    rw [chk_eq]
    have e : head (mix c g 4 0) (mix c g 4 1) (two 2 256 (mix c g 4 2) (two 1 4096 (mix c g 4 3) (two 0 32 (mix c g 4 4) (two 1 1048576 (mix c g 4 5) (two 1 1024 (mix c g 4 6) 0))))) = two 0 32 (c 4) 0 := by
      show head (c 0) (c 1) (two 2 256 (c 2) (two 1 4096 (c 3) (two 0 32 (c 4) (two 1 1048576 (g 5) (two 1 1024 (g 6) 0))))) = _
      rw [head_ok (a := c 0) (b := c 1) _ c0 c1 c7 c8, two_ok (x := c 2) _ c2, two_ok (x := c 3) _ c3, two_ok _ g5, two_ok _ g6]
    rw [e] at hE ⊢
    rw [head_ok (a := c 0) (b := c 1) _ c0 c1 c7 c8, two_ok (x := c 2) _ c2, two_ok (x := c 3) _ c3]
    exact two_ne hE
  · obtain ⟨c0, c1, c2, c3, c4, c5, c6, c7, c8⟩ := chk_zero (hp (by omega))
    rw [chk_eq] at hE ⊢
    rw [chk_eq]
    have e : head (mix c g 5 0) (mix c g 5 1) (two 2 256 (mix c g 5 2) (two 1 4096 (mix c g 5 3) (two 0 32 (mix c g 5 4) (two 1 1048576 (mix c g 5 5) (two 1 1024 (mix c g 5 6) 0))))) = two 1 1048576 (c 5) 0 := by
      show head (c 0) (c 1) (two 2 256 (c 2) (two 1 4096 (c 3) (two 0 32 (c 4) (two 1 1048576 (c 5) (two 1 1024 (g 6) 0))))) = _
      rw [head_ok (a := c 0) (b := c 1) _ c0 c1 c7 c8, two_ok (x := c 2) _ c2, two_ok (x := c 3) _ c3, two_ok (x := c 4) _ c4, two_ok _ g6]
    rw [e] at hE ⊢
    rw [head_ok (a := c 0) (b := c 1) _ c0 c1 c7 c8, two_ok (x := c 2) _ c2, two_ok (x := c 3) _ c3, two_ok (x := c 4) _ c4]
    exact two_ne hE
  · rfl
theorem cells7_congr {h h' : Nat → Int} (e : ∀ m, m < 7 → h m = h' m) : cells7 h = cells7 h' := by
  unfold cells7; rw [e 0 (by omega), e 1 (by omega), e 2 (by omega), e 3 (by omega), e 4 (by omega), e 5 (by omega), e 6 (by omega)]
theorem Cfg.congr {W : World} {X : Nat} {h h' : Nat → Int} (H : Cfg W X h) (e : ∀ m, m < 7 → h m = h' m) : Cfg W X h' := by unfold Cfg at H ⊢; rw [← cells7_congr e]; exact H
def From (W : World) (L : Nat) (c : Nat → Int) : Prop := W.heap[L]? = some (.cells (cells7 c) 3 (0, 0))
theorem From.at_ {W : World} {X : Nat} {h : Nat → Int} (H : From W X h) (k : Nat) (hk : k < 7) : W.cell? ⟨X, k, none⟩ = some (.int .i64 (h k)) := by
  refine (blk_cell H k).trans ?_
  have : k = 0 ∨ k = 1 ∨ k = 2 ∨ k = 3 ∨ k = 4 ∨ k = 5 ∨ k = 6 := by omega
  rcases this with rfl | rfl | rfl | rfl | rfl | rfl | rfl <;> rfl
def ptrs7 (X : Nat) : Array Value := #[.pointer (some ⟨X, 0, none⟩), .pointer (some ⟨X, 1, none⟩), .pointer (some ⟨X, 2, none⟩), .pointer (some ⟨X, 3, none⟩), .pointer (some ⟨X, 4, none⟩), .pointer (some ⟨X, 5, none⟩), .pointer (some ⟨X, 6, none⟩)]
def Ptr (W : World) (L X : Nat) : Prop := W.heap[L]? = some (.cells (ptrs7 X) 57 (0, 0))
theorem Ptr.at_ {W : World} {L X : Nat} (H : Ptr W L X) (k : Nat) (hk : k < 7) : W.cell? ⟨L, k, none⟩ = some (.pointer (some ⟨X, k, none⟩)) := by
  refine (blk_cell H k).trans ?_
  have : k = 0 ∨ k = 1 ∨ k = 2 ∨ k = 3 ∨ k = 4 ∨ k = 5 ∨ k = 6 := by omega
  rcases this with rfl | rfl | rfl | rfl | rfl | rfl | rfl <;> rfl
/-- Both configs lie in their boxes, and nothing that was there has changed. -/
def S2 (w : World) (c g : Nat → Int) (W : World) : Prop := Cfg W w.heap.size c ∧ Cfg W (w.heap.size + 1) g ∧ Below w.heap.size w W
theorem S2.step {w W W1 : World} {c g : Nat → Int} (h : S2 w c g W) (hb : Below W.heap.size W W1) : S2 w c g W1 := ⟨h.1.below hb, h.2.1.below hb, below_step h.2.2 hb⟩
/-- In the inner loop. -/
structure In (w : World) (c g : Nat → Int) (X j k : Nat) (W : World) : Prop where
  s : S2 w c g W
  x : Cfg W X (fun m => if m < k ∧ m ≤ j then c m else g m)
  f : From W (X + 1) c
  p : Ptr W (X + 2) X
  gt : w.heap.size + 1 < X
theorem In.put {w W : World} {c g : Nat → Int} {X j k : Nat} (h : In w c g X j k W) (hk : k < 7) (hkj : k ≤ j) : In w c g X j (k + 1) (W.setCell ⟨X, k, none⟩ (.int .i64 (c k))) := by
  have hg := h.gt
  refine ⟨⟨blk_far h.s.1 (show w.heap.size ≠ X by omega) _, blk_far h.s.2.1 (show w.heap.size + 1 ≠ X by omega) _, below_set h.s.2.2 (show w.heap.size ≤ X by omega)⟩, Cfg.congr (h.x.put k (c k) hk) (fun m hm => ?_), blk_far h.f (show X + 1 ≠ X by omega) _, blk_far h.p (show X + 2 ≠ X by omega) _, hg⟩
  show (if m = k then c k else if m < k ∧ m ≤ j then c m else g m) = (if m < k + 1 ∧ m ≤ j then c m else g m)
  by_cases e : m = k
  · subst e; rw [if_pos rfl, if_pos ⟨by omega, hkj⟩]
  · rw [if_neg e]
    by_cases e2 : m < k ∧ m ≤ j
    · rw [if_pos e2, if_pos ⟨by omega, e2.2⟩]
    · rw [if_neg e2, if_neg (by omega)]
theorem In.skip {w W : World} {c g : Nat → Int} {X j k : Nat} (h : In w c g X j k W) (hkj : ¬ k ≤ j) : In w c g X j (k + 1) W := by
  refine ⟨h.s, Cfg.congr h.x (fun m hm => ?_), h.f, h.p, h.gt⟩
  show (if m < k ∧ m ≤ j then c m else g m) = (if m < k + 1 ∧ m ≤ j then c m else g m)
  by_cases e2 : m < k ∧ m ≤ j
  · rw [if_pos e2, if_pos ⟨by omega, e2.2⟩]
  · rw [if_neg e2, if_neg (by omega)]
set_option maxHeartbeats 8000000 in
set_option maxRecDepth 100000 in
theorem law_calls (c g : Nat → Int) (w : World) :
    Calls Try.prog 8 #[.agg (cells7 c), .agg (cells7 g)] w fun e w' => e = .returned (.bool true) ∧ Below w.heap.size w w' := by
  have hu := Try.underlying55
  have S0 := Aside0.mk (show S2 w c g ((w.alloc (.cells (cells7 c) 55)).alloc (.cells (cells7 g) 55)) from
    ⟨blk_alloc (blk_new w _) _, (by have := blk_new (w.alloc (.cells (cells7 c) 55)) (.cells (cells7 g) 55); rwa [World.size_alloc] at this), below_alloc (below_alloc (Below.refl _ w) _) _⟩)
  have HCG := Aside0.mk (check_f g 20 (by omega))
  have HCC := Aside0.mk (check_f c 20 (by omega))
  have HCM := Aside0.mk (fun j => check_f (mix c g j) 20 (by omega))
  unfold cells7
  go_enter Try.func8, Try.ntmps8
  go_wp2_with (fail)
  change Calls _ _ _ ((w.alloc (.cells (cells7 c) 55)).alloc (.cells (cells7 g) 55)) _
  generalize (w.alloc (.cells (cells7 c) 55)).alloc (.cells (cells7 g) 55) = W0 at S0 ⊢
  refine (config_Check.calls 20 _ _ _ _ _ _ _ _ _ HCG.out).mono ?_
  rintro e w1 ⟨rfl, hb⟩
  have S1 := Aside0.mk (S0.out.step hb)
  clear hb S0
  by_cases hc0 : chk g = 0
  · have dc0 : (chk g != 0) = false := bne_eq_false_iff_eq.mpr hc0
    have HC0 := Aside0.mk hc0
    have k0 := S1.out.1.at_ 0 (by omega)
    have k1 := S1.out.1.at_ 1 (by omega)
    have k2 := S1.out.1.at_ 2 (by omega)
    have k3 := S1.out.1.at_ 3 (by omega)
    have k4 := S1.out.1.at_ 4 (by omega)
    have k5 := S1.out.1.at_ 5 (by omega)
    have k6 := S1.out.1.at_ 6 (by omega)
    clear hc0
    go_wp2_with (fail)
    refine (config_Check.calls 20 _ _ _ _ _ _ _ _ _ HCC.out).mono ?_
    rintro e w2 ⟨rfl, hb⟩
    have S3 := Aside0.mk (S1.out.step hb)
    clear hb S1 k0 k1 k2 k3 k4 k5 k6
    go_wp2_with (fail)
    go_loopw [18] (fun v18 w' => ∃ j : Nat, j ≤ 7 ∧ v18 = .int .i64 j ∧ Aside0 (S2 w c g w') ∧ Aside0 ((1 ≤ j → 0 ≤ c 0 ∧ c 0 ≤ 1) ∧ (2 ≤ j → chk (mix c g (j - 1)) = 0))) (fun v _ => 7 - (intOf v).toNat)
    case atStart => exact ⟨0, by omega, rfl, S3, ⟨by omega, by omega⟩⟩
    case round =>
      obtain ⟨j, hj, rfl, SJ, HJ⟩ := hrel
      clear S3
      by_cases hlt : j < 7
      · have d0 : decide ((j : Int) < 7) = true := decide_eq_true (by omega)
        have k0 := SJ.out.2.1.at_ 0 (by omega)
        have k1 := SJ.out.2.1.at_ 1 (by omega)
        have k2 := SJ.out.2.1.at_ 2 (by omega)
        have k3 := SJ.out.2.1.at_ 3 (by omega)
        have k4 := SJ.out.2.1.at_ 4 (by omega)
        have k5 := SJ.out.2.1.at_ 5 (by omega)
        have k6 := SJ.out.2.1.at_ 6 (by omega)
        have QX := (show Cfg (wr.alloc (.cells #[.int .i64 (g 0), .int .i64 (g 1), .int .i64 (g 2), .int .i64 (g 3), .int .i64 (g 4), .int .i64 (g 5), .int .i64 (g 6)] 55)) w.heap.size c from SJ.out.1.below (below_alloc (Below.refl _ _) _))
        have q0 := QX.at_ 0 (by omega)
        have q1 := QX.at_ 1 (by omega)
        have q2 := QX.at_ 2 (by omega)
        have q3 := QX.at_ 3 (by omega)
        have q4 := QX.at_ 4 (by omega)
        have q5 := QX.at_ 5 (by omega)
        have q6 := QX.at_ 6 (by omega)
        clear QX
        go_wp2_with (fail)
        obtain ⟨W4, hW4⟩ : ∃ W4, ((wr.alloc (.cells #[.int .i64 (g 0), .int .i64 (g 1), .int .i64 (g 2), .int .i64 (g 3), .int .i64 (g 4), .int .i64 (g 5), .int .i64 (g 6)] 55)).alloc (.cells #[.int .i64 (c 0), .int .i64 (c 1), .int .i64 (c 2), .int .i64 (c 3), .int .i64 (c 4), .int .i64 (c 5), .int .i64 (c 6)] 3)).alloc (.cells #[.pointer (some ⟨wr.heap.size, 0, none⟩), .pointer (some ⟨wr.heap.size, 1, none⟩), .pointer (some ⟨wr.heap.size, 2, none⟩), .pointer (some ⟨wr.heap.size, 3, none⟩), .pointer (some ⟨wr.heap.size, 4, none⟩), .pointer (some ⟨wr.heap.size, 5, none⟩), .pointer (some ⟨wr.heap.size, 6, none⟩)] 57) = W4 := ⟨_, rfl⟩
        have hI : In w c g wr.heap.size j 0 W4 := by
          rw [← hW4]
          have hf := blk_new (wr.alloc (.cells (cells7 g) 55)) (.cells (cells7 c) 3)
          rw [World.size_alloc] at hf
          have hp := blk_new ((wr.alloc (.cells (cells7 g) 55)).alloc (.cells (cells7 c) 3)) (.cells (ptrs7 wr.heap.size) 57)
          rw [World.size_alloc, World.size_alloc] at hp
          exact ⟨SJ.out.step (below_alloc (below_alloc (below_alloc (Below.refl _ _) _) _) _), Cfg.congr (show Cfg _ wr.heap.size g from blk_alloc (blk_alloc (blk_new wr _) _) _) (fun m hm => by simp), blk_alloc hf _, hp, SJ.out.2.1.lt⟩
        have HI := Aside0.mk hI
        have HXL := Aside0.mk (show w.heap.size + 1 < wr.heap.size from SJ.out.2.1.lt)
        rw [hW4]
        clear hW4 hI SJ k0 q0 k1 q1 k2 q2 k3 q3 k4 q4 k5 q5 k6 q6
        generalize wr.heap.size = X at *
        go_loopw [46] (fun v46 w' => ∃ k : Nat, k ≤ 7 ∧ v46 = .int .i64 k ∧ Aside0 (In w c g X j k w')) (fun v _ => 7 - (intOf v).toNat)
        case atStart => exact ⟨0, by omega, rfl, HI⟩
        case round =>
          obtain ⟨k, hk, rfl, HK⟩ := hrel
          clear HI
          by_cases hkl : k < 7
          · have d1 : decide ((k : Int) < 7) = true := decide_eq_true (by omega)
            have cp := HK.out.p.at_ k hkl
            have cf := HK.out.f.at_ k hkl
            have cx := HK.out.x.at_ k hkl
            have fx := HK.out.x.fr k
            by_cases hkj : k ≤ j
            · have d2 : decide ((k : Int) ≤ (j : Int)) = true := decide_eq_true (by omega)
              have HK1 := Aside0.mk (HK.out.put hkl hkj)
              clear HK
              go_wp2
              exact ⟨⟨k + 1, by omega, by go_num, HK1⟩, by simp [intOf]; omega⟩
            · have d2 : decide ((k : Int) ≤ (j : Int)) = false := decide_eq_false (by omega)
              have HK1 := Aside0.mk (HK.out.skip hkj)
              clear HK
              go_wp2
              exact ⟨⟨k + 1, by omega, by go_num, HK1⟩, by simp [intOf]; omega⟩
          · obtain rfl : k = 7 := by omega
            have d1 : decide ((7 : Int) < 7) = false := by decide
            have XM := (show Cfg _ X (mix c g j) from Cfg.congr HK.out.x (fun m hm => by
              show (if m < 7 ∧ m ≤ j then c m else g m) = (if m ≤ j then c m else g m)
              by_cases e : m ≤ j
              · rw [if_pos ⟨hm, e⟩, if_pos e]
              · rw [if_neg (by omega), if_neg e]))
            have m0 := XM.at_ 0 (by omega)
            have m1 := XM.at_ 1 (by omega)
            have m2 := XM.at_ 2 (by omega)
            have m3 := XM.at_ 3 (by omega)
            have m4 := XM.at_ 4 (by omega)
            have m5 := XM.at_ 5 (by omega)
            have m6 := XM.at_ 6 (by omega)
            have S5 := Aside0.mk HK.out.s
            clear XM HK
            go_wp2_with (fail)
            refine (config_Check.calls 20 _ _ _ _ _ _ _ _ _ (HCM.out j)).mono ?_
            rintro e w6 ⟨rfl, hb⟩
            have S6 := Aside0.mk (S5.out.step hb)
            clear hb S5 m0 m1 m2 m3 m4 m5 m6
            have z0 := S6.out.1.at_ 0 (by omega)
            by_cases hE : chk (mix c g j) = 0
            · have dE : (chk (mix c g j) != 0) = false := bne_eq_false_iff_eq.mpr hE
              have HN := Aside0.mk (show (1 ≤ j + 1 → 0 ≤ c 0 ∧ c 0 ≤ 1) ∧ (2 ≤ j + 1 → chk (mix c g (j + 1 - 1)) = 0) from ⟨fun _ => by
                by_cases hj0 : j = 0
                · subst hj0; exact (chk_zero hE).1
                · exact HJ.out.1 (by omega), fun _ => hE⟩)
              clear hE HJ
              go_wp2
              exact ⟨⟨j + 1, by omega, by go_num, S6, HN⟩, by simp [intOf]; omega⟩
            · have dE : (chk (mix c g j) != 0) = true := bne_iff_ne.mpr hE
              by_cases hj0 : j = 0
              · subst hj0
                have dj : decide (((0 : Nat) : Int) > 0) = false := by decide
                by_cases e0 : c 0 = 0
                · have de0 : (c 0 != 0) = false := bne_eq_false_iff_eq.mpr e0
                  have HN := Aside0.mk (show (1 ≤ 0 + 1 → 0 ≤ c 0 ∧ c 0 ≤ 1) ∧ (2 ≤ 0 + 1 → chk (mix c g (0 + 1 - 1)) = 0) from ⟨fun _ => by omega, fun h => by omega⟩)
                  clear hE HJ e0
                  go_wp2
                  exact ⟨⟨0 + 1, by omega, by go_num, S6, HN⟩, by simp [intOf]⟩
                · have de0 : (c 0 != 0) = true := bne_iff_ne.mpr e0
                  by_cases e1 : c 0 = 1
                  · have de1 : (c 0 != 1) = false := bne_eq_false_iff_eq.mpr e1
                    have HN := Aside0.mk (show (1 ≤ 0 + 1 → 0 ≤ c 0 ∧ c 0 ≤ 1) ∧ (2 ≤ 0 + 1 → chk (mix c g (0 + 1 - 1)) = 0) from ⟨fun _ => by omega, fun h => by omega⟩)
                    clear hE HJ e0 e1
                    go_wp2
                    exact ⟨⟨0 + 1, by omega, by go_num, S6, HN⟩, by simp [intOf]⟩
                  · have de1 : (c 0 != 1) = true := bne_iff_ne.mpr e1
                    have HEQ := Aside0.mk (first_err c g HC0.out 0 (by omega) HJ.out.2 hE (fun _ => by omega))
                    clear hE HJ e0 e1
                    go_wp2_with (fail)
                    refine (hornbeamlaw08_fixed.calls true _ rfl).mono ?_
                    rintro e w8 ⟨rfl, hb⟩
                    have S8 := Aside0.mk (S6.out.step hb)
                    clear hb
                    go_wp2
                    go_ret
                    exact ⟨by simp [HEQ.out], S8.out.2.2⟩
              · have dj : decide ((j : Int) > 0) = true := decide_eq_true (by omega)
                have HEQ := Aside0.mk (first_err c g HC0.out j hlt HJ.out.2 hE (fun h => absurd h hj0))
                clear hE HJ
                go_wp2_with (fail)
                refine (hornbeamlaw08_fixed.calls true _ rfl).mono ?_
                rintro e w8 ⟨rfl, hb⟩
                have S8 := Aside0.mk (S6.out.step hb)
                clear hb
                go_wp2
                go_ret
                exact ⟨by simp [HEQ.out], S8.out.2.2⟩
      · obtain rfl : j = 7 := by omega
        have d0 : decide ((7 : Int) < 7) = false := by decide
        have HEQ := Aside0.mk (show chk c = 0 from (show chk (mix c g 6) = 0 from HJ.out.2 (by omega)))
        have dq : (chk c == 0) = true := beq_iff_eq.2 HEQ.out
        clear HJ
        go_wp2_with (fail)
        refine (hornbeamlaw08_fixed.calls true _ rfl).mono ?_
        rintro e w8 ⟨rfl, hb⟩
        have S8 := Aside0.mk (SJ.out.step hb)
        clear hb
        go_wp2
        go_ret
        exact ⟨by simp [HEQ.out], S8.out.2.2⟩
  · have dc0 : (chk g != 0) = true := bne_iff_ne.mpr hc0
    clear hc0
    go_wp2_with (fail)
    refine (hornbeamlaw08_fixed.calls true _ rfl).mono ?_
    rintro e w8 ⟨rfl, hb⟩
    have S8 := Aside0.mk (S1.out.step hb)
    clear hb
    go_wp2
    go_ret
    exact ⟨rfl, S8.out.2.2⟩
end Go.Proofs.Ytebbnjgaikppgaa.FConfigFirst
