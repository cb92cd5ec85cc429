/- The law ConfigEnds by a walk: a copy of the config, one of its fields stored through a pointer out of a row of pointers. -/
import Derived.Test.YtebbnjgaikppgaaPureConf
import Derived.Test.YtebbnjgaikppgaaFStore
import Derived.Test.YtebbnjgaikppgaaPAx21
namespace Go.Proofs.Ytebbnjgaikppgaa.FConfigEnds
open Go.RowKit Go.Proofs.YtebbnjgaikppgaaW.PrintWords Go.Proofs.YtebbnjgaikppgaaW.PrintLast Go.Proofs.YtebbnjgaikppgaaW.PrintMore Go.Proofs.Ytebbnjgaikppgaa.PA Go.Proofs.Ytebbnjgaikppgaa.PureConf
set_option linter.unusedVariables false
set_option linter.unusedSimpArgs false
/-- Seven fields. -/
def cells7 (h : Nat → Int) : Array Value := #[.int .i64 (h 0), .int .i64 (h 1), .int .i64 (h 2), .int .i64 (h 3), .int .i64 (h 4), .int .i64 (h 5), .int .i64 (h 6)]
/-- One of them set. -/
def upd (h : Nat → Int) (k : Nat) (v : Int) : Nat → Int := fun m => if m = k then v else h m
theorem cells7_put (h : Nat → Int) (k : Nat) (v : Int) (hk : k < 7) : (cells7 h).setIfInBounds k (.int .i64 v) = cells7 (upd h k v) := by
  have : k = 0 ∨ k = 1 ∨ k = 2 ∨ k = 3 ∨ k = 4 ∨ k = 5 ∨ k = 6 := by omega
  unfold cells7 upd
  rcases this with rfl | rfl | rfl | rfl | rfl | rfl | rfl <;> rfl
def Cfg (W : World) (X : Nat) (h : Nat → Int) : Prop := W.heap[X]? = some (.cells (cells7 h) 55 (0, 0))
namespace Cfg
variable {W : World} {X : Nat} {h : Nat → Int}
theorem at_ (H : Cfg W X h) (k : Nat) (hk : k < 7) : W.cell? ⟨X, k, none⟩ = some (.int .i64 (h k)) := by
  refine (blk_cell H k).trans ?_
  have : k = 0 ∨ k = 1 ∨ k = 2 ∨ k = 3 ∨ k = 4 ∨ k = 5 ∨ k = 6 := by omega
  rcases this with rfl | rfl | rfl | rfl | rfl | rfl | rfl <;> rfl
theorem fr (H : Cfg W X h) (k : Nat) : W.frozen? ⟨X, k, none⟩ = false := blk_frozen H k
theorem put (H : Cfg W X h) (k : Nat) (v : Int) (hk : k < 7) : Cfg (W.setCell ⟨X, k, none⟩ (.int .i64 v)) X (upd h k v) := blk_put H k _ (cells7_put h k v hk)
theorem below {W' : World} (H : Cfg W X h) (hb : Below W.heap.size W W') : Cfg W' X h := blk_below H hb
theorem lt (H : Cfg W X h) : X < W.heap.size := blk_lt H
theorem eq {W' : World} (H : Cfg W X h) (hb : W'.heap[X]? = W.heap[X]?) : Cfg W' X h := hb.trans H
end Cfg
/-- The config lies in its box, and nothing that was there has changed. -/
def St (w : World) (g : Nat → Int) (W : World) : Prop := Cfg W w.heap.size g ∧ Below w.heap.size w W
theorem St.step {w W W1 : World} {g : Nat → Int} (h : St w g W) (hb : Below W.heap.size W W1) : St w g W1 := ⟨h.1.below hb, below_step h.2 hb⟩
def low (j : Nat) : Int := [2, 1, 0, 1, 1].getD j 0
def high (j : Nat) : Int := [256, 4096, 32, 1048576, 1024].getD j 0
def Lo (W : World) (L : Nat) : Prop := W.heap[L]? = some (.cells #[.int .i64 2, .int .i64 1, .int .i64 0, .int .i64 1, .int .i64 1] 3 (0, 0))
def Hi (W : World) (L : Nat) : Prop := W.heap[L]? = some (.cells #[.int .i64 256, .int .i64 4096, .int .i64 32, .int .i64 1048576, .int .i64 1024] 3 (0, 0))
theorem Lo.at_ {W : World} {L : Nat} (H : Lo W L) (j : Nat) (h : j < 5) : W.cell? ⟨L, j, none⟩ = some (.int .i64 (low j)) := by
  refine (blk_cell H j).trans ?_
  have : j = 0 ∨ j = 1 ∨ j = 2 ∨ j = 3 ∨ j = 4 := by omega
  rcases this with rfl | rfl | rfl | rfl | rfl <;> rfl
theorem Hi.at_ {W : World} {L : Nat} (H : Hi W L) (j : Nat) (h : j < 5) : W.cell? ⟨L, j, none⟩ = some (.int .i64 (high j)) := by
  refine (blk_cell H j).trans ?_
  have : j = 0 ∨ j = 1 ∨ j = 2 ∨ j = 3 ∨ j = 4 := by omega
  rcases this with rfl | rfl | rfl | rfl | rfl <;> rfl
def ptrs5 (X : Nat) : Array Value := #[.pointer (some ⟨X, 2, none⟩), .pointer (some ⟨X, 3, none⟩), .pointer (some ⟨X, 4, none⟩), .pointer (some ⟨X, 5, none⟩), .pointer (some ⟨X, 6, none⟩)]
theorem ptr_at (W : World) (X : Nat) (j : Nat) (h : j < 5) : (W.alloc (.cells (ptrs5 X) 57)).cell? ⟨W.heap.size, j, none⟩ = some (.pointer (some ⟨X, j + 2, none⟩)) := by
  refine (blk_cell (blk_new W (.cells (ptrs5 X) 57)) j).trans ?_
  have : j = 0 ∨ j = 1 ∨ j = 2 ∨ j = 3 ∨ j = 4 := by omega
  rcases this with rfl | rfl | rfl | rfl | rfl <;> rfl
def two (lo hi x r : Int) : Int := if x < lo then 3 else if x > hi then 4 else r
theorem two_ok {lo hi x : Int} (r : Int) (h : lo ≤ x ∧ x ≤ hi) : two lo hi x r = r := by unfold two; rw [if_neg (by omega), if_neg (by omega)]
def head (a b r : Int) : Int := if a < 0 ∨ a > 1 then 3 else if b < (if a = 1 then 0 else 2) ∨ (a = 1 ∧ b ≠ 0) then 3 else if b > 256 then 4 else r
theorem chk_eq (h : Nat → Int) : chk h = head (h 0) (h 1) (two 2 256 (h 2) (two 1 4096 (h 3) (two 0 32 (h 4) (two 1 1048576 (h 5) (two 1 1024 (h 6) 0))))) := rfl
theorem head_ok {a b : Int} (r : Int) (ha : 0 ≤ a ∧ a ≤ 1) (hb : 0 ≤ b ∧ b ≤ 256) (h0 : a = 0 → 2 ≤ b) (h1 : a = 1 → b = 0) : head a b r = r := by
  unfold head
  rw [if_neg (by omega), if_neg, if_neg (by omega)]
  by_cases k : a = 1
  · rw [if_pos k]; omega
  · rw [if_neg k]; omega
/-- What one field that is set makes of a config that may be. -/
theorem chk_upd (g : Nat → Int) (h : chk g = 0) (j : Nat) (hj : j < 5) (n : Int) : chk (upd g (j + 2) n) = if n < low j then 3 else if n > high j then 4 else 0 := by
  obtain ⟨h0, h1, h2, h3, h4, h5, h6, h7, h8⟩ := chk_zero h
  have : j = 0 ∨ j = 1 ∨ j = 2 ∨ j = 3 ∨ j = 4 := by omega
  rw [chk_eq]
  rcases this with rfl | rfl | rfl | rfl | rfl
  · show head (g 0) (g 1) (two 2 256 n (two 1 4096 (g 3) (two 0 32 (g 4) (two 1 1048576 (g 5) (two 1 1024 (g 6) 0))))) = _
    rw [head_ok _ h0 h1 h7 h8, two_ok _ h3, two_ok _ h4, two_ok _ h5, two_ok _ h6]; rfl
  · show head (g 0) (g 1) (two 2 256 (g 2) (two 1 4096 n (two 0 32 (g 4) (two 1 1048576 (g 5) (two 1 1024 (g 6) 0))))) = _
    rw [head_ok _ h0 h1 h7 h8, two_ok _ h2, two_ok _ h4, two_ok _ h5, two_ok _ h6]; rfl
  · show head (g 0) (g 1) (two 2 256 (g 2) (two 1 4096 (g 3) (two 0 32 n (two 1 1048576 (g 5) (two 1 1024 (g 6) 0))))) = _
    rw [head_ok _ h0 h1 h7 h8, two_ok _ h2, two_ok _ h3, two_ok _ h5, two_ok _ h6]; rfl
  · show head (g 0) (g 1) (two 2 256 (g 2) (two 1 4096 (g 3) (two 0 32 (g 4) (two 1 1048576 n (two 1 1024 (g 6) 0))))) = _
    rw [head_ok _ h0 h1 h7 h8, two_ok _ h2, two_ok _ h3, two_ok _ h4, two_ok _ h6]; rfl
  · show head (g 0) (g 1) (two 2 256 (g 2) (two 1 4096 (g 3) (two 0 32 (g 4) (two 1 1048576 (g 5) (two 1 1024 n 0))))) = _
    rw [head_ok _ h0 h1 h7 h8, two_ok _ h2, two_ok _ h3, two_ok _ h4, two_ok _ h5]; rfl
set_option maxHeartbeats 8000000 in
set_option maxRecDepth 100000 in
theorem law_calls (g : Nat → Int) (n : Int) (w : World) :
    Calls Try.prog 7 #[.agg (cells7 g), .int .i64 n] w fun e w' => e = .returned (.bool true) ∧ Below w.heap.size w w' := by
  have hu := Try.underlying55
  have S0 := Aside0.mk (show St w g (w.alloc (.cells (cells7 g) 55)) from ⟨blk_new w _, below_alloc (Below.refl _ w) _⟩)
  have HCK := Aside0.mk (check_f g 20 (by omega))
  have HCU := Aside0.mk (fun k v => check_f (upd g k v) 20 (by omega))
  unfold cells7
  go_enter Try.func7, Try.ntmps7
  go_wp2_with (fail)
  change Calls _ _ _ (w.alloc (.cells (cells7 g) 55)) _
  generalize w.alloc (.cells (cells7 g) 55) = W0 at S0 ⊢
  refine (config_Check.calls 20 _ _ _ _ _ _ _ _ _ HCK.out).mono ?_
  rintro e w1 ⟨rfl, hb⟩
  have S1 := Aside0.mk (S0.out.step hb)
  clear hb S0
  by_cases hc0 : chk g = 0
  · have dc0 : (chk g != 0) = false := bne_eq_false_iff_eq.mpr hc0
    have HC0 := Aside0.mk hc0
    clear hc0
    go_wp2
    obtain ⟨W2, hW2⟩ : ∃ W2, (w1.alloc (.cells #[.int .i64 2, .int .i64 1, .int .i64 0, .int .i64 1, .int .i64 1] 3)).alloc (.cells #[.int .i64 256, .int .i64 4096, .int .i64 32, .int .i64 1048576, .int .i64 1024] 3) = W2 := ⟨_, rfl⟩
    have S2 := Aside0.mk (show St w g W2 by rw [← hW2]; exact S1.out.step (below_alloc (below_alloc (Below.refl _ _) _) _))
    have L2 := Aside0.mk (show Lo W2 w1.heap.size by rw [← hW2]; exact blk_alloc (blk_new w1 _) _)
    have H2 := Aside0.mk (show Hi W2 (w1.heap.size + 1) by rw [← hW2]; have := blk_new (w1.alloc (.cells #[.int .i64 2, .int .i64 1, .int .i64 0, .int .i64 1, .int .i64 1] 3)) (.cells #[.int .i64 256, .int .i64 4096, .int .i64 32, .int .i64 1048576, .int .i64 1024] 3); rwa [World.size_alloc] at this)
    rw [hW2]
    clear hW2 S1
    go_loopw [19] (fun v19 w' => ∃ j : Nat, j ≤ 5 ∧ v19 = .int .i64 j ∧ Aside0 (St w g w') ∧ Aside0 (Lo w' w1.heap.size) ∧ Aside0 (Hi w' (w1.heap.size + 1))) (fun v _ => 5 - (intOf v).toNat)
    case atStart => exact ⟨0, by omega, rfl, S2, L2, H2⟩
    case round =>
      obtain ⟨j, hj, rfl, SJ, LJ, HJ⟩ := hrel
      clear S2 L2 H2
      by_cases hlt : j < 5
      · have d0 : decide ((j : Int) < 5) = true := decide_eq_true (by omega)
        have k0 := SJ.out.1.at_ 0 (by omega)
        have k1 := SJ.out.1.at_ 1 (by omega)
        have k2 := SJ.out.1.at_ 2 (by omega)
        have k3 := SJ.out.1.at_ 3 (by omega)
        have k4 := SJ.out.1.at_ 4 (by omega)
        have k5 := SJ.out.1.at_ 5 (by omega)
        have k6 := SJ.out.1.at_ 6 (by omega)
        have hjj : j = 0 ∨ j = 1 ∨ j = 2 ∨ j = 3 ∨ j = 4 := by omega
        clear hlt hj
        rcases hjj with rfl | rfl | rfl | rfl | rfl
        · by_cases hlo : n < 2
          · have e1 : decide (n < 2) = true := decide_eq_true hlo
            have hf : config_Check.f 20 (g 0) (g 1) n (g 3) (g 4) (g 5) (g 6) = some 3 := by
              rw [show config_Check.f 20 (g 0) (g 1) n (g 3) (g 4) (g 5) (g 6) = some (chk (upd g (0 + 2) n)) from HCU.out (0 + 2) n, chk_upd g HC0.out 0 (by omega) n]
              rw [if_pos (show n < low 0 from hlo)]
            have l0 : ((wr.alloc (.cells #[.int .i64 (g 0), .int .i64 (g 1), .int .i64 n, .int .i64 (g 3), .int .i64 (g 4), .int .i64 (g 5), .int .i64 (g 6)] 55)).alloc (.cells #[.pointer (some ⟨wr.heap.size, 2, none⟩), .pointer (some ⟨wr.heap.size, 3, none⟩), .pointer (some ⟨wr.heap.size, 4, none⟩), .pointer (some ⟨wr.heap.size, 5, none⟩), .pointer (some ⟨wr.heap.size, 6, none⟩)] 57)).cell? ⟨w1.heap.size, 0, none⟩ = some (.int .i64 2) := (show Lo ((wr.alloc (.cells #[.int .i64 (g 0), .int .i64 (g 1), .int .i64 n, .int .i64 (g 3), .int .i64 (g 4), .int .i64 (g 5), .int .i64 (g 6)] 55)).alloc (.cells #[.pointer (some ⟨wr.heap.size, 2, none⟩), .pointer (some ⟨wr.heap.size, 3, none⟩), .pointer (some ⟨wr.heap.size, 4, none⟩), .pointer (some ⟨wr.heap.size, 5, none⟩), .pointer (some ⟨wr.heap.size, 6, none⟩)] 57)) w1.heap.size from blk_alloc (blk_alloc LJ.out _) _).at_ 0 (by omega)
            have l1 : ((wr.alloc (.cells #[.int .i64 (g 0), .int .i64 (g 1), .int .i64 n, .int .i64 (g 3), .int .i64 (g 4), .int .i64 (g 5), .int .i64 (g 6)] 55)).alloc (.cells #[.pointer (some ⟨wr.heap.size, 2, none⟩), .pointer (some ⟨wr.heap.size, 3, none⟩), .pointer (some ⟨wr.heap.size, 4, none⟩), .pointer (some ⟨wr.heap.size, 5, none⟩), .pointer (some ⟨wr.heap.size, 6, none⟩)] 57)).cell? ⟨w1.heap.size + 1, 0, none⟩ = some (.int .i64 256) := (show Hi ((wr.alloc (.cells #[.int .i64 (g 0), .int .i64 (g 1), .int .i64 n, .int .i64 (g 3), .int .i64 (g 4), .int .i64 (g 5), .int .i64 (g 6)] 55)).alloc (.cells #[.pointer (some ⟨wr.heap.size, 2, none⟩), .pointer (some ⟨wr.heap.size, 3, none⟩), .pointer (some ⟨wr.heap.size, 4, none⟩), .pointer (some ⟨wr.heap.size, 5, none⟩), .pointer (some ⟨wr.heap.size, 6, none⟩)] 57)) (w1.heap.size + 1) from blk_alloc (blk_alloc HJ.out _) _).at_ 0 (by omega)
            go_wp2_with (fail)
            refine (config_Check.calls 20 _ _ _ _ _ _ _ 3 _ hf).mono ?_
            rintro e w12 ⟨rfl, hb⟩
            have hbW : Below wr.heap.size wr w12 := (below_alloc (below_alloc (Below.refl _ wr) _) _).trans (hb.mono (by simp; omega))
            have S12 := Aside0.mk (SJ.out.step hbW)
            have L12 := Aside0.mk (show Lo w12 w1.heap.size from blk_below LJ.out hbW)
            have H12 := Aside0.mk (show Hi w12 (w1.heap.size + 1) from blk_below HJ.out hbW)
            clear hb hbW l0 l1 k0 k1 k2 k3 k4 k5 k6
            go_wp2
            exact ⟨⟨0 + 1, by omega, by go_num, S12, L12, H12⟩, by simp [intOf]⟩
          have e1 : decide (n < 2) = false := decide_eq_false hlo
          by_cases hhi : n > 256
          · have e2 : decide (n > 256) = true := decide_eq_true hhi
            have hf : config_Check.f 20 (g 0) (g 1) n (g 3) (g 4) (g 5) (g 6) = some 4 := by
              rw [show config_Check.f 20 (g 0) (g 1) n (g 3) (g 4) (g 5) (g 6) = some (chk (upd g (0 + 2) n)) from HCU.out (0 + 2) n, chk_upd g HC0.out 0 (by omega) n]
              rw [if_neg (show ¬ n < low 0 from hlo), if_pos (show n > high 0 from hhi)]
            have l0 : ((wr.alloc (.cells #[.int .i64 (g 0), .int .i64 (g 1), .int .i64 n, .int .i64 (g 3), .int .i64 (g 4), .int .i64 (g 5), .int .i64 (g 6)] 55)).alloc (.cells #[.pointer (some ⟨wr.heap.size, 2, none⟩), .pointer (some ⟨wr.heap.size, 3, none⟩), .pointer (some ⟨wr.heap.size, 4, none⟩), .pointer (some ⟨wr.heap.size, 5, none⟩), .pointer (some ⟨wr.heap.size, 6, none⟩)] 57)).cell? ⟨w1.heap.size, 0, none⟩ = some (.int .i64 2) := (show Lo ((wr.alloc (.cells #[.int .i64 (g 0), .int .i64 (g 1), .int .i64 n, .int .i64 (g 3), .int .i64 (g 4), .int .i64 (g 5), .int .i64 (g 6)] 55)).alloc (.cells #[.pointer (some ⟨wr.heap.size, 2, none⟩), .pointer (some ⟨wr.heap.size, 3, none⟩), .pointer (some ⟨wr.heap.size, 4, none⟩), .pointer (some ⟨wr.heap.size, 5, none⟩), .pointer (some ⟨wr.heap.size, 6, none⟩)] 57)) w1.heap.size from blk_alloc (blk_alloc LJ.out _) _).at_ 0 (by omega)
            have l1 : ((wr.alloc (.cells #[.int .i64 (g 0), .int .i64 (g 1), .int .i64 n, .int .i64 (g 3), .int .i64 (g 4), .int .i64 (g 5), .int .i64 (g 6)] 55)).alloc (.cells #[.pointer (some ⟨wr.heap.size, 2, none⟩), .pointer (some ⟨wr.heap.size, 3, none⟩), .pointer (some ⟨wr.heap.size, 4, none⟩), .pointer (some ⟨wr.heap.size, 5, none⟩), .pointer (some ⟨wr.heap.size, 6, none⟩)] 57)).cell? ⟨w1.heap.size + 1, 0, none⟩ = some (.int .i64 256) := (show Hi ((wr.alloc (.cells #[.int .i64 (g 0), .int .i64 (g 1), .int .i64 n, .int .i64 (g 3), .int .i64 (g 4), .int .i64 (g 5), .int .i64 (g 6)] 55)).alloc (.cells #[.pointer (some ⟨wr.heap.size, 2, none⟩), .pointer (some ⟨wr.heap.size, 3, none⟩), .pointer (some ⟨wr.heap.size, 4, none⟩), .pointer (some ⟨wr.heap.size, 5, none⟩), .pointer (some ⟨wr.heap.size, 6, none⟩)] 57)) (w1.heap.size + 1) from blk_alloc (blk_alloc HJ.out _) _).at_ 0 (by omega)
            go_wp2_with (fail)
            refine (config_Check.calls 20 _ _ _ _ _ _ _ 4 _ hf).mono ?_
            rintro e w12 ⟨rfl, hb⟩
            have hbW : Below wr.heap.size wr w12 := (below_alloc (below_alloc (Below.refl _ wr) _) _).trans (hb.mono (by simp; omega))
            have S12 := Aside0.mk (SJ.out.step hbW)
            have L12 := Aside0.mk (show Lo w12 w1.heap.size from blk_below LJ.out hbW)
            have H12 := Aside0.mk (show Hi w12 (w1.heap.size + 1) from blk_below HJ.out hbW)
            clear hb hbW l0 l1 k0 k1 k2 k3 k4 k5 k6
            go_wp2
            exact ⟨⟨0 + 1, by omega, by go_num, S12, L12, H12⟩, by simp [intOf]⟩
          · have e2 : decide (n > 256) = false := decide_eq_false hhi
            have hf : config_Check.f 20 (g 0) (g 1) n (g 3) (g 4) (g 5) (g 6) = some 0 := by
              rw [show config_Check.f 20 (g 0) (g 1) n (g 3) (g 4) (g 5) (g 6) = some (chk (upd g (0 + 2) n)) from HCU.out (0 + 2) n, chk_upd g HC0.out 0 (by omega) n]
              rw [if_neg (show ¬ n < low 0 from hlo), if_neg (show ¬ n > high 0 from hhi)]
            have l0 : ((wr.alloc (.cells #[.int .i64 (g 0), .int .i64 (g 1), .int .i64 n, .int .i64 (g 3), .int .i64 (g 4), .int .i64 (g 5), .int .i64 (g 6)] 55)).alloc (.cells #[.pointer (some ⟨wr.heap.size, 2, none⟩), .pointer (some ⟨wr.heap.size, 3, none⟩), .pointer (some ⟨wr.heap.size, 4, none⟩), .pointer (some ⟨wr.heap.size, 5, none⟩), .pointer (some ⟨wr.heap.size, 6, none⟩)] 57)).cell? ⟨w1.heap.size, 0, none⟩ = some (.int .i64 2) := (show Lo ((wr.alloc (.cells #[.int .i64 (g 0), .int .i64 (g 1), .int .i64 n, .int .i64 (g 3), .int .i64 (g 4), .int .i64 (g 5), .int .i64 (g 6)] 55)).alloc (.cells #[.pointer (some ⟨wr.heap.size, 2, none⟩), .pointer (some ⟨wr.heap.size, 3, none⟩), .pointer (some ⟨wr.heap.size, 4, none⟩), .pointer (some ⟨wr.heap.size, 5, none⟩), .pointer (some ⟨wr.heap.size, 6, none⟩)] 57)) w1.heap.size from blk_alloc (blk_alloc LJ.out _) _).at_ 0 (by omega)
            have l1 : ((wr.alloc (.cells #[.int .i64 (g 0), .int .i64 (g 1), .int .i64 n, .int .i64 (g 3), .int .i64 (g 4), .int .i64 (g 5), .int .i64 (g 6)] 55)).alloc (.cells #[.pointer (some ⟨wr.heap.size, 2, none⟩), .pointer (some ⟨wr.heap.size, 3, none⟩), .pointer (some ⟨wr.heap.size, 4, none⟩), .pointer (some ⟨wr.heap.size, 5, none⟩), .pointer (some ⟨wr.heap.size, 6, none⟩)] 57)).cell? ⟨w1.heap.size + 1, 0, none⟩ = some (.int .i64 256) := (show Hi ((wr.alloc (.cells #[.int .i64 (g 0), .int .i64 (g 1), .int .i64 n, .int .i64 (g 3), .int .i64 (g 4), .int .i64 (g 5), .int .i64 (g 6)] 55)).alloc (.cells #[.pointer (some ⟨wr.heap.size, 2, none⟩), .pointer (some ⟨wr.heap.size, 3, none⟩), .pointer (some ⟨wr.heap.size, 4, none⟩), .pointer (some ⟨wr.heap.size, 5, none⟩), .pointer (some ⟨wr.heap.size, 6, none⟩)] 57)) (w1.heap.size + 1) from blk_alloc (blk_alloc HJ.out _) _).at_ 0 (by omega)
            go_wp2_with (fail)
            refine (config_Check.calls 20 _ _ _ _ _ _ _ 0 _ hf).mono ?_
            rintro e w12 ⟨rfl, hb⟩
            have hbW : Below wr.heap.size wr w12 := (below_alloc (below_alloc (Below.refl _ wr) _) _).trans (hb.mono (by simp; omega))
            have S12 := Aside0.mk (SJ.out.step hbW)
            have L12 := Aside0.mk (show Lo w12 w1.heap.size from blk_below LJ.out hbW)
            have H12 := Aside0.mk (show Hi w12 (w1.heap.size + 1) from blk_below HJ.out hbW)
            clear hb hbW l0 l1 k0 k1 k2 k3 k4 k5 k6
            go_wp2
            exact ⟨⟨0 + 1, by omega, by go_num, S12, L12, H12⟩, by simp [intOf]⟩
        · by_cases hlo : n < 1
          · have e1 : decide (n < 1) = true := decide_eq_true hlo
            have hf : config_Check.f 20 (g 0) (g 1) (g 2) n (g 4) (g 5) (g 6) = some 3 := by
              rw [show config_Check.f 20 (g 0) (g 1) (g 2) n (g 4) (g 5) (g 6) = some (chk (upd g (1 + 2) n)) from HCU.out (1 + 2) n, chk_upd g HC0.out 1 (by omega) n]
              rw [if_pos (show n < low 1 from hlo)]
            have l0 : ((wr.alloc (.cells #[.int .i64 (g 0), .int .i64 (g 1), .int .i64 (g 2), .int .i64 n, .int .i64 (g 4), .int .i64 (g 5), .int .i64 (g 6)] 55)).alloc (.cells #[.pointer (some ⟨wr.heap.size, 2, none⟩), .pointer (some ⟨wr.heap.size, 3, none⟩), .pointer (some ⟨wr.heap.size, 4, none⟩), .pointer (some ⟨wr.heap.size, 5, none⟩), .pointer (some ⟨wr.heap.size, 6, none⟩)] 57)).cell? ⟨w1.heap.size, 1, none⟩ = some (.int .i64 1) := (show Lo ((wr.alloc (.cells #[.int .i64 (g 0), .int .i64 (g 1), .int .i64 (g 2), .int .i64 n, .int .i64 (g 4), .int .i64 (g 5), .int .i64 (g 6)] 55)).alloc (.cells #[.pointer (some ⟨wr.heap.size, 2, none⟩), .pointer (some ⟨wr.heap.size, 3, none⟩), .pointer (some ⟨wr.heap.size, 4, none⟩), .pointer (some ⟨wr.heap.size, 5, none⟩), .pointer (some ⟨wr.heap.size, 6, none⟩)] 57)) w1.heap.size from blk_alloc (blk_alloc LJ.out _) _).at_ 1 (by omega)
            have l1 : ((wr.alloc (.cells #[.int .i64 (g 0), .int .i64 (g 1), .int .i64 (g 2), .int .i64 n, .int .i64 (g 4), .int .i64 (g 5), .int .i64 (g 6)] 55)).alloc (.cells #[.pointer (some ⟨wr.heap.size, 2, none⟩), .pointer (some ⟨wr.heap.size, 3, none⟩), .pointer (some ⟨wr.heap.size, 4, none⟩), .pointer (some ⟨wr.heap.size, 5, none⟩), .pointer (some ⟨wr.heap.size, 6, none⟩)] 57)).cell? ⟨w1.heap.size + 1, 1, none⟩ = some (.int .i64 4096) := (show Hi ((wr.alloc (.cells #[.int .i64 (g 0), .int .i64 (g 1), .int .i64 (g 2), .int .i64 n, .int .i64 (g 4), .int .i64 (g 5), .int .i64 (g 6)] 55)).alloc (.cells #[.pointer (some ⟨wr.heap.size, 2, none⟩), .pointer (some ⟨wr.heap.size, 3, none⟩), .pointer (some ⟨wr.heap.size, 4, none⟩), .pointer (some ⟨wr.heap.size, 5, none⟩), .pointer (some ⟨wr.heap.size, 6, none⟩)] 57)) (w1.heap.size + 1) from blk_alloc (blk_alloc HJ.out _) _).at_ 1 (by omega)
            go_wp2_with (fail)
            refine (config_Check.calls 20 _ _ _ _ _ _ _ 3 _ hf).mono ?_
            rintro e w12 ⟨rfl, hb⟩
            have hbW : Below wr.heap.size wr w12 := (below_alloc (below_alloc (Below.refl _ wr) _) _).trans (hb.mono (by simp; omega))
            have S12 := Aside0.mk (SJ.out.step hbW)
            have L12 := Aside0.mk (show Lo w12 w1.heap.size from blk_below LJ.out hbW)
            have H12 := Aside0.mk (show Hi w12 (w1.heap.size + 1) from blk_below HJ.out hbW)
            clear hb hbW l0 l1 k0 k1 k2 k3 k4 k5 k6
            go_wp2
            exact ⟨⟨1 + 1, by omega, by go_num, S12, L12, H12⟩, by simp [intOf]⟩
          have e1 : decide (n < 1) = false := decide_eq_false hlo
          by_cases hhi : n > 4096
          · have e2 : decide (n > 4096) = true := decide_eq_true hhi
            have hf : config_Check.f 20 (g 0) (g 1) (g 2) n (g 4) (g 5) (g 6) = some 4 := by
              rw [show config_Check.f 20 (g 0) (g 1) (g 2) n (g 4) (g 5) (g 6) = some (chk (upd g (1 + 2) n)) from HCU.out (1 + 2) n, chk_upd g HC0.out 1 (by omega) n]
              rw [if_neg (show ¬ n < low 1 from hlo), if_pos (show n > high 1 from hhi)]
            have l0 : ((wr.alloc (.cells #[.int .i64 (g 0), .int .i64 (g 1), .int .i64 (g 2), .int .i64 n, .int .i64 (g 4), .int .i64 (g 5), .int .i64 (g 6)] 55)).alloc (.cells #[.pointer (some ⟨wr.heap.size, 2, none⟩), .pointer (some ⟨wr.heap.size, 3, none⟩), .pointer (some ⟨wr.heap.size, 4, none⟩), .pointer (some ⟨wr.heap.size, 5, none⟩), .pointer (some ⟨wr.heap.size, 6, none⟩)] 57)).cell? ⟨w1.heap.size, 1, none⟩ = some (.int .i64 1) := (show Lo ((wr.alloc (.cells #[.int .i64 (g 0), .int .i64 (g 1), .int .i64 (g 2), .int .i64 n, .int .i64 (g 4), .int .i64 (g 5), .int .i64 (g 6)] 55)).alloc (.cells #[.pointer (some ⟨wr.heap.size, 2, none⟩), .pointer (some ⟨wr.heap.size, 3, none⟩), .pointer (some ⟨wr.heap.size, 4, none⟩), .pointer (some ⟨wr.heap.size, 5, none⟩), .pointer (some ⟨wr.heap.size, 6, none⟩)] 57)) w1.heap.size from blk_alloc (blk_alloc LJ.out _) _).at_ 1 (by omega)
            have l1 : ((wr.alloc (.cells #[.int .i64 (g 0), .int .i64 (g 1), .int .i64 (g 2), .int .i64 n, .int .i64 (g 4), .int .i64 (g 5), .int .i64 (g 6)] 55)).alloc (.cells #[.pointer (some ⟨wr.heap.size, 2, none⟩), .pointer (some ⟨wr.heap.size, 3, none⟩), .pointer (some ⟨wr.heap.size, 4, none⟩), .pointer (some ⟨wr.heap.size, 5, none⟩), .pointer (some ⟨wr.heap.size, 6, none⟩)] 57)).cell? ⟨w1.heap.size + 1, 1, none⟩ = some (.int .i64 4096) := (show Hi ((wr.alloc (.cells #[.int .i64 (g 0), .int .i64 (g 1), .int .i64 (g 2), .int .i64 n, .int .i64 (g 4), .int .i64 (g 5), .int .i64 (g 6)] 55)).alloc (.cells #[.pointer (some ⟨wr.heap.size, 2, none⟩), .pointer (some ⟨wr.heap.size, 3, none⟩), .pointer (some ⟨wr.heap.size, 4, none⟩), .pointer (some ⟨wr.heap.size, 5, none⟩), .pointer (some ⟨wr.heap.size, 6, none⟩)] 57)) (w1.heap.size + 1) from blk_alloc (blk_alloc HJ.out _) _).at_ 1 (by omega)
            go_wp2_with (fail)
            refine (config_Check.calls 20 _ _ _ _ _ _ _ 4 _ hf).mono ?_
            rintro e w12 ⟨rfl, hb⟩
            have hbW : Below wr.heap.size wr w12 := (below_alloc (below_alloc (Below.refl _ wr) _) _).trans (hb.mono (by simp; omega))
            have S12 := Aside0.mk (SJ.out.step hbW)
            have L12 := Aside0.mk (show Lo w12 w1.heap.size from blk_below LJ.out hbW)
            have H12 := Aside0.mk (show Hi w12 (w1.heap.size + 1) from blk_below HJ.out hbW)
            clear hb hbW l0 l1 k0 k1 k2 k3 k4 k5 k6
            go_wp2
            exact ⟨⟨1 + 1, by omega, by go_num, S12, L12, H12⟩, by simp [intOf]⟩
          · have e2 : decide (n > 4096) = false := decide_eq_false hhi
            have hf : config_Check.f 20 (g 0) (g 1) (g 2) n (g 4) (g 5) (g 6) = some 0 := by
              rw [show config_Check.f 20 (g 0) (g 1) (g 2) n (g 4) (g 5) (g 6) = some (chk (upd g (1 + 2) n)) from HCU.out (1 + 2) n, chk_upd g HC0.out 1 (by omega) n]
              rw [if_neg (show ¬ n < low 1 from hlo), if_neg (show ¬ n > high 1 from hhi)]
            have l0 : ((wr.alloc (.cells #[.int .i64 (g 0), .int .i64 (g 1), .int .i64 (g 2), .int .i64 n, .int .i64 (g 4), .int .i64 (g 5), .int .i64 (g 6)] 55)).alloc (.cells #[.pointer (some ⟨wr.heap.size, 2, none⟩), .pointer (some ⟨wr.heap.size, 3, none⟩), .pointer (some ⟨wr.heap.size, 4, none⟩), .pointer (some ⟨wr.heap.size, 5, none⟩), .pointer (some ⟨wr.heap.size, 6, none⟩)] 57)).cell? ⟨w1.heap.size, 1, none⟩ = some (.int .i64 1) := (show Lo ((wr.alloc (.cells #[.int .i64 (g 0), .int .i64 (g 1), .int .i64 (g 2), .int .i64 n, .int .i64 (g 4), .int .i64 (g 5), .int .i64 (g 6)] 55)).alloc (.cells #[.pointer (some ⟨wr.heap.size, 2, none⟩), .pointer (some ⟨wr.heap.size, 3, none⟩), .pointer (some ⟨wr.heap.size, 4, none⟩), .pointer (some ⟨wr.heap.size, 5, none⟩), .pointer (some ⟨wr.heap.size, 6, none⟩)] 57)) w1.heap.size from blk_alloc (blk_alloc LJ.out _) _).at_ 1 (by omega)
            have l1 : ((wr.alloc (.cells #[.int .i64 (g 0), .int .i64 (g 1), .int .i64 (g 2), .int .i64 n, .int .i64 (g 4), .int .i64 (g 5), .int .i64 (g 6)] 55)).alloc (.cells #[.pointer (some ⟨wr.heap.size, 2, none⟩), .pointer (some ⟨wr.heap.size, 3, none⟩), .pointer (some ⟨wr.heap.size, 4, none⟩), .pointer (some ⟨wr.heap.size, 5, none⟩), .pointer (some ⟨wr.heap.size, 6, none⟩)] 57)).cell? ⟨w1.heap.size + 1, 1, none⟩ = some (.int .i64 4096) := (show Hi ((wr.alloc (.cells #[.int .i64 (g 0), .int .i64 (g 1), .int .i64 (g 2), .int .i64 n, .int .i64 (g 4), .int .i64 (g 5), .int .i64 (g 6)] 55)).alloc (.cells #[.pointer (some ⟨wr.heap.size, 2, none⟩), .pointer (some ⟨wr.heap.size, 3, none⟩), .pointer (some ⟨wr.heap.size, 4, none⟩), .pointer (some ⟨wr.heap.size, 5, none⟩), .pointer (some ⟨wr.heap.size, 6, none⟩)] 57)) (w1.heap.size + 1) from blk_alloc (blk_alloc HJ.out _) _).at_ 1 (by omega)
            go_wp2_with (fail)
            refine (config_Check.calls 20 _ _ _ _ _ _ _ 0 _ hf).mono ?_
            rintro e w12 ⟨rfl, hb⟩
            have hbW : Below wr.heap.size wr w12 := (below_alloc (below_alloc (Below.refl _ wr) _) _).trans (hb.mono (by simp; omega))
            have S12 := Aside0.mk (SJ.out.step hbW)
            have L12 := Aside0.mk (show Lo w12 w1.heap.size from blk_below LJ.out hbW)
            have H12 := Aside0.mk (show Hi w12 (w1.heap.size + 1) from blk_below HJ.out hbW)
            clear hb hbW l0 l1 k0 k1 k2 k3 k4 k5 k6
            go_wp2
            exact ⟨⟨1 + 1, by omega, by go_num, S12, L12, H12⟩, by simp [intOf]⟩
        · by_cases hlo : n < 0
          · have e1 : decide (n < 0) = true := decide_eq_true hlo
            have hf : config_Check.f 20 (g 0) (g 1) (g 2) (g 3) n (g 5) (g 6) = some 3 := by
              rw [show config_Check.f 20 (g 0) (g 1) (g 2) (g 3) n (g 5) (g 6) = some (chk (upd g (2 + 2) n)) from HCU.out (2 + 2) n, chk_upd g HC0.out 2 (by omega) n]
              rw [if_pos (show n < low 2 from hlo)]
            have l0 : ((wr.alloc (.cells #[.int .i64 (g 0), .int .i64 (g 1), .int .i64 (g 2), .int .i64 (g 3), .int .i64 n, .int .i64 (g 5), .int .i64 (g 6)] 55)).alloc (.cells #[.pointer (some ⟨wr.heap.size, 2, none⟩), .pointer (some ⟨wr.heap.size, 3, none⟩), .pointer (some ⟨wr.heap.size, 4, none⟩), .pointer (some ⟨wr.heap.size, 5, none⟩), .pointer (some ⟨wr.heap.size, 6, none⟩)] 57)).cell? ⟨w1.heap.size, 2, none⟩ = some (.int .i64 0) := (show Lo ((wr.alloc (.cells #[.int .i64 (g 0), .int .i64 (g 1), .int .i64 (g 2), .int .i64 (g 3), .int .i64 n, .int .i64 (g 5), .int .i64 (g 6)] 55)).alloc (.cells #[.pointer (some ⟨wr.heap.size, 2, none⟩), .pointer (some ⟨wr.heap.size, 3, none⟩), .pointer (some ⟨wr.heap.size, 4, none⟩), .pointer (some ⟨wr.heap.size, 5, none⟩), .pointer (some ⟨wr.heap.size, 6, none⟩)] 57)) w1.heap.size from blk_alloc (blk_alloc LJ.out _) _).at_ 2 (by omega)
            have l1 : ((wr.alloc (.cells #[.int .i64 (g 0), .int .i64 (g 1), .int .i64 (g 2), .int .i64 (g 3), .int .i64 n, .int .i64 (g 5), .int .i64 (g 6)] 55)).alloc (.cells #[.pointer (some ⟨wr.heap.size, 2, none⟩), .pointer (some ⟨wr.heap.size, 3, none⟩), .pointer (some ⟨wr.heap.size, 4, none⟩), .pointer (some ⟨wr.heap.size, 5, none⟩), .pointer (some ⟨wr.heap.size, 6, none⟩)] 57)).cell? ⟨w1.heap.size + 1, 2, none⟩ = some (.int .i64 32) := (show Hi ((wr.alloc (.cells #[.int .i64 (g 0), .int .i64 (g 1), .int .i64 (g 2), .int .i64 (g 3), .int .i64 n, .int .i64 (g 5), .int .i64 (g 6)] 55)).alloc (.cells #[.pointer (some ⟨wr.heap.size, 2, none⟩), .pointer (some ⟨wr.heap.size, 3, none⟩), .pointer (some ⟨wr.heap.size, 4, none⟩), .pointer (some ⟨wr.heap.size, 5, none⟩), .pointer (some ⟨wr.heap.size, 6, none⟩)] 57)) (w1.heap.size + 1) from blk_alloc (blk_alloc HJ.out _) _).at_ 2 (by omega)
            go_wp2_with (fail)
            refine (config_Check.calls 20 _ _ _ _ _ _ _ 3 _ hf).mono ?_
            rintro e w12 ⟨rfl, hb⟩
            have hbW : Below wr.heap.size wr w12 := (below_alloc (below_alloc (Below.refl _ wr) _) _).trans (hb.mono (by simp; omega))
            have S12 := Aside0.mk (SJ.out.step hbW)
            have L12 := Aside0.mk (show Lo w12 w1.heap.size from blk_below LJ.out hbW)
            have H12 := Aside0.mk (show Hi w12 (w1.heap.size + 1) from blk_below HJ.out hbW)
            clear hb hbW l0 l1 k0 k1 k2 k3 k4 k5 k6
            go_wp2
            exact ⟨⟨2 + 1, by omega, by go_num, S12, L12, H12⟩, by simp [intOf]⟩
          have e1 : decide (n < 0) = false := decide_eq_false hlo
          by_cases hhi : n > 32
          · have e2 : decide (n > 32) = true := decide_eq_true hhi
            have hf : config_Check.f 20 (g 0) (g 1) (g 2) (g 3) n (g 5) (g 6) = some 4 := by
              rw [show config_Check.f 20 (g 0) (g 1) (g 2) (g 3) n (g 5) (g 6) = some (chk (upd g (2 + 2) n)) from HCU.out (2 + 2) n, chk_upd g HC0.out 2 (by omega) n]
              rw [if_neg (show ¬ n < low 2 from hlo), if_pos (show n > high 2 from hhi)]
            have l0 : ((wr.alloc (.cells #[.int .i64 (g 0), .int .i64 (g 1), .int .i64 (g 2), .int .i64 (g 3), .int .i64 n, .int .i64 (g 5), .int .i64 (g 6)] 55)).alloc (.cells #[.pointer (some ⟨wr.heap.size, 2, none⟩), .pointer (some ⟨wr.heap.size, 3, none⟩), .pointer (some ⟨wr.heap.size, 4, none⟩), .pointer (some ⟨wr.heap.size, 5, none⟩), .pointer (some ⟨wr.heap.size, 6, none⟩)] 57)).cell? ⟨w1.heap.size, 2, none⟩ = some (.int .i64 0) := (show Lo ((wr.alloc (.cells #[.int .i64 (g 0), .int .i64 (g 1), .int .i64 (g 2), .int .i64 (g 3), .int .i64 n, .int .i64 (g 5), .int .i64 (g 6)] 55)).alloc (.cells #[.pointer (some ⟨wr.heap.size, 2, none⟩), .pointer (some ⟨wr.heap.size, 3, none⟩), .pointer (some ⟨wr.heap.size, 4, none⟩), .pointer (some ⟨wr.heap.size, 5, none⟩), .pointer (some ⟨wr.heap.size, 6, none⟩)] 57)) w1.heap.size from blk_alloc (blk_alloc LJ.out _) _).at_ 2 (by omega)
            have l1 : ((wr.alloc (.cells #[.int .i64 (g 0), .int .i64 (g 1), .int .i64 (g 2), .int .i64 (g 3), .int .i64 n, .int .i64 (g 5), .int .i64 (g 6)] 55)).alloc (.cells #[.pointer (some ⟨wr.heap.size, 2, none⟩), .pointer (some ⟨wr.heap.size, 3, none⟩), .pointer (some ⟨wr.heap.size, 4, none⟩), .pointer (some ⟨wr.heap.size, 5, none⟩), .pointer (some ⟨wr.heap.size, 6, none⟩)] 57)).cell? ⟨w1.heap.size + 1, 2, none⟩ = some (.int .i64 32) := (show Hi ((wr.alloc (.cells #[.int .i64 (g 0), .int .i64 (g 1), .int .i64 (g 2), .int .i64 (g 3), .int .i64 n, .int .i64 (g 5), .int .i64 (g 6)] 55)).alloc (.cells #[.pointer (some ⟨wr.heap.size, 2, none⟩), .pointer (some ⟨wr.heap.size, 3, none⟩), .pointer (some ⟨wr.heap.size, 4, none⟩), .pointer (some ⟨wr.heap.size, 5, none⟩), .pointer (some ⟨wr.heap.size, 6, none⟩)] 57)) (w1.heap.size + 1) from blk_alloc (blk_alloc HJ.out _) _).at_ 2 (by omega)
            go_wp2_with (fail)
            refine (config_Check.calls 20 _ _ _ _ _ _ _ 4 _ hf).mono ?_
            rintro e w12 ⟨rfl, hb⟩
            have hbW : Below wr.heap.size wr w12 := (below_alloc (below_alloc (Below.refl _ wr) _) _).trans (hb.mono (by simp; omega))
            have S12 := Aside0.mk (SJ.out.step hbW)
            have L12 := Aside0.mk (show Lo w12 w1.heap.size from blk_below LJ.out hbW)
            have H12 := Aside0.mk (show Hi w12 (w1.heap.size + 1) from blk_below HJ.out hbW)
            clear hb hbW l0 l1 k0 k1 k2 k3 k4 k5 k6
            go_wp2
            exact ⟨⟨2 + 1, by omega, by go_num, S12, L12, H12⟩, by simp [intOf]⟩
          · have e2 : decide (n > 32) = false := decide_eq_false hhi
            have hf : config_Check.f 20 (g 0) (g 1) (g 2) (g 3) n (g 5) (g 6) = some 0 := by
              rw [show config_Check.f 20 (g 0) (g 1) (g 2) (g 3) n (g 5) (g 6) = some (chk (upd g (2 + 2) n)) from HCU.out (2 + 2) n, chk_upd g HC0.out 2 (by omega) n]
              rw [if_neg (show ¬ n < low 2 from hlo), if_neg (show ¬ n > high 2 from hhi)]
            have l0 : ((wr.alloc (.cells #[.int .i64 (g 0), .int .i64 (g 1), .int .i64 (g 2), .int .i64 (g 3), .int .i64 n, .int .i64 (g 5), .int .i64 (g 6)] 55)).alloc (.cells #[.pointer (some ⟨wr.heap.size, 2, none⟩), .pointer (some ⟨wr.heap.size, 3, none⟩), .pointer (some ⟨wr.heap.size, 4, none⟩), .pointer (some ⟨wr.heap.size, 5, none⟩), .pointer (some ⟨wr.heap.size, 6, none⟩)] 57)).cell? ⟨w1.heap.size, 2, none⟩ = some (.int .i64 0) := (show Lo ((wr.alloc (.cells #[.int .i64 (g 0), .int .i64 (g 1), .int .i64 (g 2), .int .i64 (g 3), .int .i64 n, .int .i64 (g 5), .int .i64 (g 6)] 55)).alloc (.cells #[.pointer (some ⟨wr.heap.size, 2, none⟩), .pointer (some ⟨wr.heap.size, 3, none⟩), .pointer (some ⟨wr.heap.size, 4, none⟩), .pointer (some ⟨wr.heap.size, 5, none⟩), .pointer (some ⟨wr.heap.size, 6, none⟩)] 57)) w1.heap.size from blk_alloc (blk_alloc LJ.out _) _).at_ 2 (by omega)
            have l1 : ((wr.alloc (.cells #[.int .i64 (g 0), .int .i64 (g 1), .int .i64 (g 2), .int .i64 (g 3), .int .i64 n, .int .i64 (g 5), .int .i64 (g 6)] 55)).alloc (.cells #[.pointer (some ⟨wr.heap.size, 2, none⟩), .pointer (some ⟨wr.heap.size, 3, none⟩), .pointer (some ⟨wr.heap.size, 4, none⟩), .pointer (some ⟨wr.heap.size, 5, none⟩), .pointer (some ⟨wr.heap.size, 6, none⟩)] 57)).cell? ⟨w1.heap.size + 1, 2, none⟩ = some (.int .i64 32) := (show Hi ((wr.alloc (.cells #[.int .i64 (g 0), .int .i64 (g 1), .int .i64 (g 2), .int .i64 (g 3), .int .i64 n, .int .i64 (g 5), .int .i64 (g 6)] 55)).alloc (.cells #[.pointer (some ⟨wr.heap.size, 2, none⟩), .pointer (some ⟨wr.heap.size, 3, none⟩), .pointer (some ⟨wr.heap.size, 4, none⟩), .pointer (some ⟨wr.heap.size, 5, none⟩), .pointer (some ⟨wr.heap.size, 6, none⟩)] 57)) (w1.heap.size + 1) from blk_alloc (blk_alloc HJ.out _) _).at_ 2 (by omega)
            go_wp2_with (fail)
            refine (config_Check.calls 20 _ _ _ _ _ _ _ 0 _ hf).mono ?_
            rintro e w12 ⟨rfl, hb⟩
            have hbW : Below wr.heap.size wr w12 := (below_alloc (below_alloc (Below.refl _ wr) _) _).trans (hb.mono (by simp; omega))
            have S12 := Aside0.mk (SJ.out.step hbW)
            have L12 := Aside0.mk (show Lo w12 w1.heap.size from blk_below LJ.out hbW)
            have H12 := Aside0.mk (show Hi w12 (w1.heap.size + 1) from blk_below HJ.out hbW)
            clear hb hbW l0 l1 k0 k1 k2 k3 k4 k5 k6
            go_wp2
            exact ⟨⟨2 + 1, by omega, by go_num, S12, L12, H12⟩, by simp [intOf]⟩
        · by_cases hlo : n < 1
          · have e1 : decide (n < 1) = true := decide_eq_true hlo
            have hf : config_Check.f 20 (g 0) (g 1) (g 2) (g 3) (g 4) n (g 6) = some 3 := by
              rw [show config_Check.f 20 (g 0) (g 1) (g 2) (g 3) (g 4) n (g 6) = some (chk (upd g (3 + 2) n)) from HCU.out (3 + 2) n, chk_upd g HC0.out 3 (by omega) n]
              rw [if_pos (show n < low 3 from hlo)]
            have l0 : ((wr.alloc (.cells #[.int .i64 (g 0), .int .i64 (g 1), .int .i64 (g 2), .int .i64 (g 3), .int .i64 (g 4), .int .i64 n, .int .i64 (g 6)] 55)).alloc (.cells #[.pointer (some ⟨wr.heap.size, 2, none⟩), .pointer (some ⟨wr.heap.size, 3, none⟩), .pointer (some ⟨wr.heap.size, 4, none⟩), .pointer (some ⟨wr.heap.size, 5, none⟩), .pointer (some ⟨wr.heap.size, 6, none⟩)] 57)).cell? ⟨w1.heap.size, 3, none⟩ = some (.int .i64 1) := (show Lo ((wr.alloc (.cells #[.int .i64 (g 0), .int .i64 (g 1), .int .i64 (g 2), .int .i64 (g 3), .int .i64 (g 4), .int .i64 n, .int .i64 (g 6)] 55)).alloc (.cells #[.pointer (some ⟨wr.heap.size, 2, none⟩), .pointer (some ⟨wr.heap.size, 3, none⟩), .pointer (some ⟨wr.heap.size, 4, none⟩), .pointer (some ⟨wr.heap.size, 5, none⟩), .pointer (some ⟨wr.heap.size, 6, none⟩)] 57)) w1.heap.size from blk_alloc (blk_alloc LJ.out _) _).at_ 3 (by omega)
            have l1 : ((wr.alloc (.cells #[.int .i64 (g 0), .int .i64 (g 1), .int .i64 (g 2), .int .i64 (g 3), .int .i64 (g 4), .int .i64 n, .int .i64 (g 6)] 55)).alloc (.cells #[.pointer (some ⟨wr.heap.size, 2, none⟩), .pointer (some ⟨wr.heap.size, 3, none⟩), .pointer (some ⟨wr.heap.size, 4, none⟩), .pointer (some ⟨wr.heap.size, 5, none⟩), .pointer (some ⟨wr.heap.size, 6, none⟩)] 57)).cell? ⟨w1.heap.size + 1, 3, none⟩ = some (.int .i64 1048576) := (show Hi ((wr.alloc (.cells #[.int .i64 (g 0), .int .i64 (g 1), .int .i64 (g 2), .int .i64 (g 3), .int .i64 (g 4), .int .i64 n, .int .i64 (g 6)] 55)).alloc (.cells #[.pointer (some ⟨wr.heap.size, 2, none⟩), .pointer (some ⟨wr.heap.size, 3, none⟩), .pointer (some ⟨wr.heap.size, 4, none⟩), .pointer (some ⟨wr.heap.size, 5, none⟩), .pointer (some ⟨wr.heap.size, 6, none⟩)] 57)) (w1.heap.size + 1) from blk_alloc (blk_alloc HJ.out _) _).at_ 3 (by omega)
            go_wp2_with (fail)
            refine (config_Check.calls 20 _ _ _ _ _ _ _ 3 _ hf).mono ?_
            rintro e w12 ⟨rfl, hb⟩
            have hbW : Below wr.heap.size wr w12 := (below_alloc (below_alloc (Below.refl _ wr) _) _).trans (hb.mono (by simp; omega))
            have S12 := Aside0.mk (SJ.out.step hbW)
            have L12 := Aside0.mk (show Lo w12 w1.heap.size from blk_below LJ.out hbW)
            have H12 := Aside0.mk (show Hi w12 (w1.heap.size + 1) from blk_below HJ.out hbW)
            clear hb hbW l0 l1 k0 k1 k2 k3 k4 k5 k6
            go_wp2
            exact ⟨⟨3 + 1, by omega, by go_num, S12, L12, H12⟩, by simp [intOf]⟩
          have e1 : decide (n < 1) = false := decide_eq_false hlo
          by_cases hhi : n > 1048576
          · have e2 : decide (n > 1048576) = true := decide_eq_true hhi
            have hf : config_Check.f 20 (g 0) (g 1) (g 2) (g 3) (g 4) n (g 6) = some 4 := by
              rw [show config_Check.f 20 (g 0) (g 1) (g 2) (g 3) (g 4) n (g 6) = some (chk (upd g (3 + 2) n)) from HCU.out (3 + 2) n, chk_upd g HC0.out 3 (by omega) n]
              rw [if_neg (show ¬ n < low 3 from hlo), if_pos (show n > high 3 from hhi)]
            have l0 : ((wr.alloc (.cells #[.int .i64 (g 0), .int .i64 (g 1), .int .i64 (g 2), .int .i64 (g 3), .int .i64 (g 4), .int .i64 n, .int .i64 (g 6)] 55)).alloc (.cells #[.pointer (some ⟨wr.heap.size, 2, none⟩), .pointer (some ⟨wr.heap.size, 3, none⟩), .pointer (some ⟨wr.heap.size, 4, none⟩), .pointer (some ⟨wr.heap.size, 5, none⟩), .pointer (some ⟨wr.heap.size, 6, none⟩)] 57)).cell? ⟨w1.heap.size, 3, none⟩ = some (.int .i64 1) := (show Lo ((wr.alloc (.cells #[.int .i64 (g 0), .int .i64 (g 1), .int .i64 (g 2), .int .i64 (g 3), .int .i64 (g 4), .int .i64 n, .int .i64 (g 6)] 55)).alloc (.cells #[.pointer (some ⟨wr.heap.size, 2, none⟩), .pointer (some ⟨wr.heap.size, 3, none⟩), .pointer (some ⟨wr.heap.size, 4, none⟩), .pointer (some ⟨wr.heap.size, 5, none⟩), .pointer (some ⟨wr.heap.size, 6, none⟩)] 57)) w1.heap.size from blk_alloc (blk_alloc LJ.out _) _).at_ 3 (by omega)
            have l1 : ((wr.alloc (.cells #[.int .i64 (g 0), .int .i64 (g 1), .int .i64 (g 2), .int .i64 (g 3), .int .i64 (g 4), .int .i64 n, .int .i64 (g 6)] 55)).alloc (.cells #[.pointer (some ⟨wr.heap.size, 2, none⟩), .pointer (some ⟨wr.heap.size, 3, none⟩), .pointer (some ⟨wr.heap.size, 4, none⟩), .pointer (some ⟨wr.heap.size, 5, none⟩), .pointer (some ⟨wr.heap.size, 6, none⟩)] 57)).cell? ⟨w1.heap.size + 1, 3, none⟩ = some (.int .i64 1048576) := (show Hi ((wr.alloc (.cells #[.int .i64 (g 0), .int .i64 (g 1), .int .i64 (g 2), .int .i64 (g 3), .int .i64 (g 4), .int .i64 n, .int .i64 (g 6)] 55)).alloc (.cells #[.pointer (some ⟨wr.heap.size, 2, none⟩), .pointer (some ⟨wr.heap.size, 3, none⟩), .pointer (some ⟨wr.heap.size, 4, none⟩), .pointer (some ⟨wr.heap.size, 5, none⟩), .pointer (some ⟨wr.heap.size, 6, none⟩)] 57)) (w1.heap.size + 1) from blk_alloc (blk_alloc HJ.out _) _).at_ 3 (by omega)
            go_wp2_with (fail)
            refine (config_Check.calls 20 _ _ _ _ _ _ _ 4 _ hf).mono ?_
            rintro e w12 ⟨rfl, hb⟩
            have hbW : Below wr.heap.size wr w12 := (below_alloc (below_alloc (Below.refl _ wr) _) _).trans (hb.mono (by simp; omega))
            have S12 := Aside0.mk (SJ.out.step hbW)
            have L12 := Aside0.mk (show Lo w12 w1.heap.size from blk_below LJ.out hbW)
            have H12 := Aside0.mk (show Hi w12 (w1.heap.size + 1) from blk_below HJ.out hbW)
            clear hb hbW l0 l1 k0 k1 k2 k3 k4 k5 k6
            go_wp2
            exact ⟨⟨3 + 1, by omega, by go_num, S12, L12, H12⟩, by simp [intOf]⟩
          · have e2 : decide (n > 1048576) = false := decide_eq_false hhi
            have hf : config_Check.f 20 (g 0) (g 1) (g 2) (g 3) (g 4) n (g 6) = some 0 := by
              rw [show config_Check.f 20 (g 0) (g 1) (g 2) (g 3) (g 4) n (g 6) = some (chk (upd g (3 + 2) n)) from HCU.out (3 + 2) n, chk_upd g HC0.out 3 (by omega) n]
              rw [if_neg (show ¬ n < low 3 from hlo), if_neg (show ¬ n > high 3 from hhi)]
            have l0 : ((wr.alloc (.cells #[.int .i64 (g 0), .int .i64 (g 1), .int .i64 (g 2), .int .i64 (g 3), .int .i64 (g 4), .int .i64 n, .int .i64 (g 6)] 55)).alloc (.cells #[.pointer (some ⟨wr.heap.size, 2, none⟩), .pointer (some ⟨wr.heap.size, 3, none⟩), .pointer (some ⟨wr.heap.size, 4, none⟩), .pointer (some ⟨wr.heap.size, 5, none⟩), .pointer (some ⟨wr.heap.size, 6, none⟩)] 57)).cell? ⟨w1.heap.size, 3, none⟩ = some (.int .i64 1) := (show Lo ((wr.alloc (.cells #[.int .i64 (g 0), .int .i64 (g 1), .int .i64 (g 2), .int .i64 (g 3), .int .i64 (g 4), .int .i64 n, .int .i64 (g 6)] 55)).alloc (.cells #[.pointer (some ⟨wr.heap.size, 2, none⟩), .pointer (some ⟨wr.heap.size, 3, none⟩), .pointer (some ⟨wr.heap.size, 4, none⟩), .pointer (some ⟨wr.heap.size, 5, none⟩), .pointer (some ⟨wr.heap.size, 6, none⟩)] 57)) w1.heap.size from blk_alloc (blk_alloc LJ.out _) _).at_ 3 (by omega)
            have l1 : ((wr.alloc (.cells #[.int .i64 (g 0), .int .i64 (g 1), .int .i64 (g 2), .int .i64 (g 3), .int .i64 (g 4), .int .i64 n, .int .i64 (g 6)] 55)).alloc (.cells #[.pointer (some ⟨wr.heap.size, 2, none⟩), .pointer (some ⟨wr.heap.size, 3, none⟩), .pointer (some ⟨wr.heap.size, 4, none⟩), .pointer (some ⟨wr.heap.size, 5, none⟩), .pointer (some ⟨wr.heap.size, 6, none⟩)] 57)).cell? ⟨w1.heap.size + 1, 3, none⟩ = some (.int .i64 1048576) := (show Hi ((wr.alloc (.cells #[.int .i64 (g 0), .int .i64 (g 1), .int .i64 (g 2), .int .i64 (g 3), .int .i64 (g 4), .int .i64 n, .int .i64 (g 6)] 55)).alloc (.cells #[.pointer (some ⟨wr.heap.size, 2, none⟩), .pointer (some ⟨wr.heap.size, 3, none⟩), .pointer (some ⟨wr.heap.size, 4, none⟩), .pointer (some ⟨wr.heap.size, 5, none⟩), .pointer (some ⟨wr.heap.size, 6, none⟩)] 57)) (w1.heap.size + 1) from blk_alloc (blk_alloc HJ.out _) _).at_ 3 (by omega)
            go_wp2_with (fail)
            refine (config_Check.calls 20 _ _ _ _ _ _ _ 0 _ hf).mono ?_
            rintro e w12 ⟨rfl, hb⟩
            have hbW : Below wr.heap.size wr w12 := (below_alloc (below_alloc (Below.refl _ wr) _) _).trans (hb.mono (by simp; omega))
            have S12 := Aside0.mk (SJ.out.step hbW)
            have L12 := Aside0.mk (show Lo w12 w1.heap.size from blk_below LJ.out hbW)
            have H12 := Aside0.mk (show Hi w12 (w1.heap.size + 1) from blk_below HJ.out hbW)
            clear hb hbW l0 l1 k0 k1 k2 k3 k4 k5 k6
            go_wp2
            exact ⟨⟨3 + 1, by omega, by go_num, S12, L12, H12⟩, by simp [intOf]⟩
        · by_cases hlo : n < 1
          · have e1 : decide (n < 1) = true := decide_eq_true hlo
            have hf : config_Check.f 20 (g 0) (g 1) (g 2) (g 3) (g 4) (g 5) n = some 3 := by
              rw [show config_Check.f 20 (g 0) (g 1) (g 2) (g 3) (g 4) (g 5) n = some (chk (upd g (4 + 2) n)) from HCU.out (4 + 2) n, chk_upd g HC0.out 4 (by omega) n]
              rw [if_pos (show n < low 4 from hlo)]
            have l0 : ((wr.alloc (.cells #[.int .i64 (g 0), .int .i64 (g 1), .int .i64 (g 2), .int .i64 (g 3), .int .i64 (g 4), .int .i64 (g 5), .int .i64 n] 55)).alloc (.cells #[.pointer (some ⟨wr.heap.size, 2, none⟩), .pointer (some ⟨wr.heap.size, 3, none⟩), .pointer (some ⟨wr.heap.size, 4, none⟩), .pointer (some ⟨wr.heap.size, 5, none⟩), .pointer (some ⟨wr.heap.size, 6, none⟩)] 57)).cell? ⟨w1.heap.size, 4, none⟩ = some (.int .i64 1) := (show Lo ((wr.alloc (.cells #[.int .i64 (g 0), .int .i64 (g 1), .int .i64 (g 2), .int .i64 (g 3), .int .i64 (g 4), .int .i64 (g 5), .int .i64 n] 55)).alloc (.cells #[.pointer (some ⟨wr.heap.size, 2, none⟩), .pointer (some ⟨wr.heap.size, 3, none⟩), .pointer (some ⟨wr.heap.size, 4, none⟩), .pointer (some ⟨wr.heap.size, 5, none⟩), .pointer (some ⟨wr.heap.size, 6, none⟩)] 57)) w1.heap.size from blk_alloc (blk_alloc LJ.out _) _).at_ 4 (by omega)
            have l1 : ((wr.alloc (.cells #[.int .i64 (g 0), .int .i64 (g 1), .int .i64 (g 2), .int .i64 (g 3), .int .i64 (g 4), .int .i64 (g 5), .int .i64 n] 55)).alloc (.cells #[.pointer (some ⟨wr.heap.size, 2, none⟩), .pointer (some ⟨wr.heap.size, 3, none⟩), .pointer (some ⟨wr.heap.size, 4, none⟩), .pointer (some ⟨wr.heap.size, 5, none⟩), .pointer (some ⟨wr.heap.size, 6, none⟩)] 57)).cell? ⟨w1.heap.size + 1, 4, none⟩ = some (.int .i64 1024) := (show Hi ((wr.alloc (.cells #[.int .i64 (g 0), .int .i64 (g 1), .int .i64 (g 2), .int .i64 (g 3), .int .i64 (g 4), .int .i64 (g 5), .int .i64 n] 55)).alloc (.cells #[.pointer (some ⟨wr.heap.size, 2, none⟩), .pointer (some ⟨wr.heap.size, 3, none⟩), .pointer (some ⟨wr.heap.size, 4, none⟩), .pointer (some ⟨wr.heap.size, 5, none⟩), .pointer (some ⟨wr.heap.size, 6, none⟩)] 57)) (w1.heap.size + 1) from blk_alloc (blk_alloc HJ.out _) _).at_ 4 (by omega)
            go_wp2_with (fail)
            refine (config_Check.calls 20 _ _ _ _ _ _ _ 3 _ hf).mono ?_
            rintro e w12 ⟨rfl, hb⟩
            have hbW : Below wr.heap.size wr w12 := (below_alloc (below_alloc (Below.refl _ wr) _) _).trans (hb.mono (by simp; omega))
            have S12 := Aside0.mk (SJ.out.step hbW)
            have L12 := Aside0.mk (show Lo w12 w1.heap.size from blk_below LJ.out hbW)
            have H12 := Aside0.mk (show Hi w12 (w1.heap.size + 1) from blk_below HJ.out hbW)
            clear hb hbW l0 l1 k0 k1 k2 k3 k4 k5 k6
            go_wp2
            exact ⟨⟨4 + 1, by omega, by go_num, S12, L12, H12⟩, by simp [intOf]⟩
          have e1 : decide (n < 1) = false := decide_eq_false hlo
          by_cases hhi : n > 1024
          · have e2 : decide (n > 1024) = true := decide_eq_true hhi
            have hf : config_Check.f 20 (g 0) (g 1) (g 2) (g 3) (g 4) (g 5) n = some 4 := by
              rw [show config_Check.f 20 (g 0) (g 1) (g 2) (g 3) (g 4) (g 5) n = some (chk (upd g (4 + 2) n)) from HCU.out (4 + 2) n, chk_upd g HC0.out 4 (by omega) n]
              rw [if_neg (show ¬ n < low 4 from hlo), if_pos (show n > high 4 from hhi)]
            have l0 : ((wr.alloc (.cells #[.int .i64 (g 0), .int .i64 (g 1), .int .i64 (g 2), .int .i64 (g 3), .int .i64 (g 4), .int .i64 (g 5), .int .i64 n] 55)).alloc (.cells #[.pointer (some ⟨wr.heap.size, 2, none⟩), .pointer (some ⟨wr.heap.size, 3, none⟩), .pointer (some ⟨wr.heap.size, 4, none⟩), .pointer (some ⟨wr.heap.size, 5, none⟩), .pointer (some ⟨wr.heap.size, 6, none⟩)] 57)).cell? ⟨w1.heap.size, 4, none⟩ = some (.int .i64 1) := (show Lo ((wr.alloc (.cells #[.int .i64 (g 0), .int .i64 (g 1), .int .i64 (g 2), .int .i64 (g 3), .int .i64 (g 4), .int .i64 (g 5), .int .i64 n] 55)).alloc (.cells #[.pointer (some ⟨wr.heap.size, 2, none⟩), .pointer (some ⟨wr.heap.size, 3, none⟩), .pointer (some ⟨wr.heap.size, 4, none⟩), .pointer (some ⟨wr.heap.size, 5, none⟩), .pointer (some ⟨wr.heap.size, 6, none⟩)] 57)) w1.heap.size from blk_alloc (blk_alloc LJ.out _) _).at_ 4 (by omega)
            have l1 : ((wr.alloc (.cells #[.int .i64 (g 0), .int .i64 (g 1), .int .i64 (g 2), .int .i64 (g 3), .int .i64 (g 4), .int .i64 (g 5), .int .i64 n] 55)).alloc (.cells #[.pointer (some ⟨wr.heap.size, 2, none⟩), .pointer (some ⟨wr.heap.size, 3, none⟩), .pointer (some ⟨wr.heap.size, 4, none⟩), .pointer (some ⟨wr.heap.size, 5, none⟩), .pointer (some ⟨wr.heap.size, 6, none⟩)] 57)).cell? ⟨w1.heap.size + 1, 4, none⟩ = some (.int .i64 1024) := (show Hi ((wr.alloc (.cells #[.int .i64 (g 0), .int .i64 (g 1), .int .i64 (g 2), .int .i64 (g 3), .int .i64 (g 4), .int .i64 (g 5), .int .i64 n] 55)).alloc (.cells #[.pointer (some ⟨wr.heap.size, 2, none⟩), .pointer (some ⟨wr.heap.size, 3, none⟩), .pointer (some ⟨wr.heap.size, 4, none⟩), .pointer (some ⟨wr.heap.size, 5, none⟩), .pointer (some ⟨wr.heap.size, 6, none⟩)] 57)) (w1.heap.size + 1) from blk_alloc (blk_alloc HJ.out _) _).at_ 4 (by omega)
            go_wp2_with (fail)
            refine (config_Check.calls 20 _ _ _ _ _ _ _ 4 _ hf).mono ?_
            rintro e w12 ⟨rfl, hb⟩
            have hbW : Below wr.heap.size wr w12 := (below_alloc (below_alloc (Below.refl _ wr) _) _).trans (hb.mono (by simp; omega))
            have S12 := Aside0.mk (SJ.out.step hbW)
            have L12 := Aside0.mk (show Lo w12 w1.heap.size from blk_below LJ.out hbW)
            have H12 := Aside0.mk (show Hi w12 (w1.heap.size + 1) from blk_below HJ.out hbW)
            clear hb hbW l0 l1 k0 k1 k2 k3 k4 k5 k6
            go_wp2
            exact ⟨⟨4 + 1, by omega, by go_num, S12, L12, H12⟩, by simp [intOf]⟩
          · have e2 : decide (n > 1024) = false := decide_eq_false hhi
            have hf : config_Check.f 20 (g 0) (g 1) (g 2) (g 3) (g 4) (g 5) n = some 0 := by
              rw [show config_Check.f 20 (g 0) (g 1) (g 2) (g 3) (g 4) (g 5) n = some (chk (upd g (4 + 2) n)) from HCU.out (4 + 2) n, chk_upd g HC0.out 4 (by omega) n]
              rw [if_neg (show ¬ n < low 4 from hlo), if_neg (show ¬ n > high 4 from hhi)]
            have l0 : ((wr.alloc (.cells #[.int .i64 (g 0), .int .i64 (g 1), .int .i64 (g 2), .int .i64 (g 3), .int .i64 (g 4), .int .i64 (g 5), .int .i64 n] 55)).alloc (.cells #[.pointer (some ⟨wr.heap.size, 2, none⟩), .pointer (some ⟨wr.heap.size, 3, none⟩), .pointer (some ⟨wr.heap.size, 4, none⟩), .pointer (some ⟨wr.heap.size, 5, none⟩), .pointer (some ⟨wr.heap.size, 6, none⟩)] 57)).cell? ⟨w1.heap.size, 4, none⟩ = some (.int .i64 1) := (show Lo ((wr.alloc (.cells #[.int .i64 (g 0), .int .i64 (g 1), .int .i64 (g 2), .int .i64 (g 3), .int .i64 (g 4), .int .i64 (g 5), .int .i64 n] 55)).alloc (.cells #[.pointer (some ⟨wr.heap.size, 2, none⟩), .pointer (some ⟨wr.heap.size, 3, none⟩), .pointer (some ⟨wr.heap.size, 4, none⟩), .pointer (some ⟨wr.heap.size, 5, none⟩), .pointer (some ⟨wr.heap.size, 6, none⟩)] 57)) w1.heap.size from blk_alloc (blk_alloc LJ.out _) _).at_ 4 (by omega)
            have l1 : ((wr.alloc (.cells #[.int .i64 (g 0), .int .i64 (g 1), .int .i64 (g 2), .int .i64 (g 3), .int .i64 (g 4), .int .i64 (g 5), .int .i64 n] 55)).alloc (.cells #[.pointer (some ⟨wr.heap.size, 2, none⟩), .pointer (some ⟨wr.heap.size, 3, none⟩), .pointer (some ⟨wr.heap.size, 4, none⟩), .pointer (some ⟨wr.heap.size, 5, none⟩), .pointer (some ⟨wr.heap.size, 6, none⟩)] 57)).cell? ⟨w1.heap.size + 1, 4, none⟩ = some (.int .i64 1024) := (show Hi ((wr.alloc (.cells #[.int .i64 (g 0), .int .i64 (g 1), .int .i64 (g 2), .int .i64 (g 3), .int .i64 (g 4), .int .i64 (g 5), .int .i64 n] 55)).alloc (.cells #[.pointer (some ⟨wr.heap.size, 2, none⟩), .pointer (some ⟨wr.heap.size, 3, none⟩), .pointer (some ⟨wr.heap.size, 4, none⟩), .pointer (some ⟨wr.heap.size, 5, none⟩), .pointer (some ⟨wr.heap.size, 6, none⟩)] 57)) (w1.heap.size + 1) from blk_alloc (blk_alloc HJ.out _) _).at_ 4 (by omega)
            go_wp2_with (fail)
            refine (config_Check.calls 20 _ _ _ _ _ _ _ 0 _ hf).mono ?_
            rintro e w12 ⟨rfl, hb⟩
            have hbW : Below wr.heap.size wr w12 := (below_alloc (below_alloc (Below.refl _ wr) _) _).trans (hb.mono (by simp; omega))
            have S12 := Aside0.mk (SJ.out.step hbW)
            have L12 := Aside0.mk (show Lo w12 w1.heap.size from blk_below LJ.out hbW)
            have H12 := Aside0.mk (show Hi w12 (w1.heap.size + 1) from blk_below HJ.out hbW)
            clear hb hbW l0 l1 k0 k1 k2 k3 k4 k5 k6
            go_wp2
            exact ⟨⟨4 + 1, by omega, by go_num, S12, L12, H12⟩, by simp [intOf]⟩
      · obtain rfl : j = 5 := by omega
        have d0 : decide ((5 : Int) < 5) = false := by decide
        go_wp2_with (fail)
        refine (hornbeamlaw08_fixed.calls true _ rfl).mono ?_
        rintro e w8 ⟨rfl, hb⟩
        have S8 := Aside0.mk (SJ.out.step hb)
        clear hb
        go_wp2
        go_ret
        exact ⟨rfl, S8.out.2⟩
  · have dc0 : (chk g != 0) = true := bne_iff_ne.mpr hc0
    clear hc0
    go_wp2_with (fail)
    refine (hornbeamlaw08_fixed.calls true _ rfl).mono ?_
    rintro e w8 ⟨rfl, hb⟩
    have S8 := Aside0.mk (S1.out.step hb)
    clear hb
    go_wp2
    go_ret
    exact ⟨rfl, S8.out.2⟩
end Go.Proofs.Ytebbnjgaikppgaa.FConfigEnds
