/- The contract of walk.Place by a walk: to which leaf a row of bins comes down nodes, as a plain function of the nodes' fields; nothing that was there is changed. -/
import Derived.RangeFuncNested
import Derived.RangeFuncBound
import Derived.RangeFuncCalls
import Derived.RangeFuncLeaves
import Derived.Shelf.Abstract
import Derived.Shelf.RegionOpen
import Derived.WalkKit
import Derived.OwnWalkIn
import Derived.TacticsInMore
import Derived.LoopNIn
import Derived.LoopIn
import Derived.Lib.Hide
import Derived.Outline
import Derived.Sort.QuietTacIn
import Derived.Test.YtlmmlhljflladaaProg
namespace Go.Proofs.Ytlmmlhljflladaa.FWalk
open Go.RowKit Go.Shelf

attribute [local go_sem] Oper.semAt_some
set_option linter.unusedVariables false

/-- Where the walk goes on from place i. -/
def next (g : Nat → Nat → Int) (z : Nat → Int) (i : Nat) : Int := if z (g i 0).toNat > g i 1 then wrap64 (g i 2 + 1) else g i 2

/-- The numbers of the nodes of a walk. -/
def vis (g : Nat → Nat → Int) (z : Nat → Int) (len m : Nat) : Nat → Int → List (Fin len)
  | 0, _ => []
  | k + 1, at_ => if h : 0 ≤ at_ ∧ at_ < len then (⟨at_.toNat, by omega⟩ : Fin len) :: (if 0 ≤ g at_.toNat 0 ∧ g at_.toNat 0 < m then vis g z len m k (next g z at_.toNat) else []) else []
/-- The leaf that the walk comes to. -/
def pick {len : Nat} : Option (Fin len) → Int
  | some x => (x.1 : Int)
  | none => -1
def place (g : Nat → Nat → Int) (z : Nat → Int) (len m : Nat) : Int := pick ((vis g z len m len 0).find? (fun x => g x.1 0 == -1))

def Nodes (n₀ : Nat) (W : World) (A : Option Addr) (len : Nat) (g : Nat → Nat → Int) : Prop :=
  ∀ i, i < len → ∃ ad, A = some ad ∧ ad.block < n₀ ∧ W.cell? (ad.add (i * 6)) = some (.int .i64 (g i 0)) ∧ ∀ j, 0 < j → j < 6 → W.cell? ⟨(ad.add (i * 6)).block, (ad.add (i * 6)).off + j, none⟩ = some (.int .i64 (g i j))
def Ints (n₀ : Nat) (W : World) (A : Option Addr) (m : Nat) (z : Nat → Int) : Prop :=
  ∀ i, i < m → ∃ ad, A = some ad ∧ ad.block < n₀ ∧ W.cell? (ad.add i) = some (.int .i64 (z i))
theorem block_of_add (a : Addr) (n : Nat) : (a.add n).block = a.block := by unfold Addr.add; split <;> rfl
theorem Nodes.below {n₀ : Nat} {A B : World} {ad : Option Addr} {len : Nat} {g : Nat → Nat → Int} (h : Nodes n₀ A ad len g) (hb : Below n₀ A B) : Nodes n₀ B ad len g := by
  intro i hi
  obtain ⟨ad, e, h1, h2, h3⟩ := h i hi
  exact ⟨ad, e, h1, (hb.cell (p := ad.add (i * 6)) (by rw [block_of_add]; exact h1)).trans h2, fun j h0 h6 => (hb.cell (p := ⟨(ad.add (i * 6)).block, (ad.add (i * 6)).off + j, none⟩) (by rw [block_of_add]; exact h1)).trans (h3 j h0 h6)⟩
theorem Ints.below {n₀ : Nat} {A B : World} {ad : Option Addr} {m : Nat} {z : Nat → Int} (h : Ints n₀ A ad m z) (hb : Below n₀ A B) : Ints n₀ B ad m z := by
  intro i hi
  obtain ⟨ad, e, h1, h2⟩ := h i hi
  exact ⟨ad, e, h1, (hb.cell (p := ad.add i) (by rw [block_of_add]; exact h1)).trans h2⟩

theorem below_drewN {B : Nat} {a w : World} (h : Below B a w) (n : Nat) : Below B a (w.drewN n) := ⟨h.os, h.tape, h.output, h.size, h.block⟩
theorem grown_drewN (w : World) (n : Nat) : w.grownBy (w.drewN n) none := ⟨rfl, rfl, rfl, Nat.le_refl _, fun _ _ _ => rfl⟩

set_option maxRecDepth 100000 in
set_option maxHeartbeats 2000000 in
/-- The closure of walk.steps, for every loop body that keeps what lay below n₀. -/
theorem steps1_in (n : Nat) (hn : 1 ≤ n) (l Bt Br n₀ len ct m cr : Nat) (ad ar : Option Addr) (g : Nat → Nat → Int) (z : Nat → Int)
    (hlen : len ≤ 9223372036854775807) (hm : m ≤ 9223372036854775807) (hBt0 : Bt < n₀) (hBr0 : Br < n₀) (J Jx : List (Fin len) → World → Prop) (hJg : ∀ s A B, J s A → A.grownBy B none → J s B)
    (hY : ∀ (pre : List (Fin len)) (x : Fin len) W, J pre W → pre.length < len → YieldAt Fence.wide (n - 1) Try.prog l #[.int .i64 (x.1 : Int)] W fun e W' =>
      (e = .returned (.bool true) ∧ J (pre ++ [x]) W' ∧ Below n₀ W W') ∨ (e = .returned (.bool false) ∧ Jx (pre ++ [x]) W'))
    (W : World) (hn0 : n₀ ≤ W.heap.size) (hBt : W.cell? ⟨Bt, 0, none⟩ = some (.slice ad len ct)) (hBr : W.cell? ⟨Br, 0, none⟩ = some (.slice ar m cr))
    (hT : Nodes n₀ W ad len g) (hR : Ints n₀ W ar m z) (h0 : J [] W) :
    CallsIn Fence.wide n Try.prog 59 #[.func (.yield l) #[] #[], .pointer (some ⟨Bt, 0, none⟩), .pointer (some ⟨Br, 0, none⟩)] W fun e W' => (∃ v, e = .returned v) ∧
      ((∃ ys, ys = vis g z len m len 0 ∧ J ys W') ∨ (∃ pre, pre <+: vis g z len m len 0 ∧ Jx pre W')) := by
  have hu29 := Try.underlying59
  refine callsIn_of_wp Try.func59 rfl trivial ?_ rfl
  simp only [Try.ntmps59, List.size_toArray, List.length_cons, List.length_nil, Nat.reduceAdd, Nat.reduceSub, Array.replicate_succ, Array.replicate_zero, List.push_toArray, List.append_toArray, List.nil_append, List.cons_append]
  gi_wp2
  gi_loopw [4, 8] (fun va vk wr => ∃ (k : Nat) (at_ : Int) (pre : List (Fin len)), k ≤ len ∧ pre.length = k ∧ va = .int .i64 at_ ∧ vk = .int .i64 k ∧ vis g z len m len 0 = pre ++ vis g z len m (len - k) at_ ∧ J pre wr ∧ Below n₀ W wr)
    (fun _ i _ => len - (intOf i).toNat)
  case atStart => exact ⟨0, 0, [], Nat.zero_le _, rfl, rfl, rfl, by simp, h0, Below.refl _ _⟩
  case round =>
    obtain ⟨k, at_, pre, hk, hpl, rfl, rfl, hv, hJs, hnx⟩ := hrel
    have Hpl := Lib.hid hpl; clear hpl
    have Hv := Lib.hid hv; clear hv
    have hBt' := (hnx.cell (p := ⟨Bt, 0, none⟩) hBt0).trans hBt
    have hBr' := (hnx.cell (p := ⟨Br, 0, none⟩) hBr0).trans hBr
    by_cases hlt : k < len
    · have hs1 : len - k = (len - (k + 1)) + 1 := by omega
      by_cases hat0 : at_ < 0
      · have d0 : decide (at_ < 0) = true := decide_eq_true hat0
        have hv' : vis g z len m len 0 = pre := by rw [Hv.out, hs1]; simp [vis, show ¬ 0 ≤ at_ by omega]
        have Hv' := Lib.hid hv'; clear hv' Hv hs1
        gi_wp2
        refine ⟨fun _ h => (by cases h), ?_⟩
        gi_wp2
        refine bodyPost_ret (results_none rfl _ _ _) rfl ?_
        exact ⟨⟨_, rfl⟩, .inl ⟨pre, Hv'.out.symm, hJs⟩⟩
      · have d0 : decide (at_ < 0) = false := decide_eq_false hat0
        by_cases hat1 : at_ ≥ (len : Int)
        · have d1 : decide (at_ ≥ (len : Int)) = true := decide_eq_true hat1
          have hv' : vis g z len m len 0 = pre := by rw [Hv.out, hs1]; simp [vis, show ¬ at_ < (len : Int) by omega]
          have Hv' := Lib.hid hv'; clear hv' Hv hs1
          gi_wp2
          refine ⟨fun _ h => (by cases h), ?_⟩
          gi_wp2
          refine bodyPost_ret (results_none rfl _ _ _) rfl ?_
          exact ⟨⟨_, rfl⟩, .inl ⟨pre, Hv'.out.symm, hJs⟩⟩
        · have d1 : decide (at_ ≥ (len : Int)) = false := decide_eq_false hat1
          obtain ⟨i, rfl⟩ := Int.eq_ofNat_of_zero_le (show 0 ≤ at_ by omega)
          have hil : i < len := by omega
          obtain ⟨fn, tmps, assign, body, hy, hRd⟩ := hY pre ⟨i, hil⟩ wr hJs (by rw [Hpl.out]; exact hlt)
          dsimp only at hy
          have hv' : vis g z len m len 0 = pre ++ (⟨i, hil⟩ : Fin len) :: (if 0 ≤ g i 0 ∧ g i 0 < m then vis g z len m (len - (k + 1)) (next g z i) else []) := by
            rw [Hv.out, hs1]; simp [vis, hil]
          have Hv' := Lib.hid hv'; clear hv' Hv hs1
          have HY := Lib.hid hY; clear hY
          gi_wp2
          refine hRd.mono ?_
          rintro e W3 (⟨rfl, hJ3, hk3⟩ | ⟨rfl, hJx3⟩)
          · have hb3 := hnx.trans hk3
            have hBt3 := (hk3.cell (p := ⟨Bt, 0, none⟩) hBt0).trans hBt'
            have hBr3 := (hk3.cell (p := ⟨Br, 0, none⟩) hBr0).trans hBr'
            obtain ⟨ad, rfl, _, hc0, hcj⟩ := hT.below hb3 i hil
            have hBr4 : ∀ o, (W3.alloc o).cell? ⟨Br, 0, none⟩ = some (.slice ar m cr) := fun o => (World.cell?_alloc_lt W3 o _ (World.block_lt_of_cell? W3 _ hBr3)).trans hBr3
            have hJ4 : ∀ o, J (pre ++ [⟨i, hil⟩]) (W3.alloc o) := fun o => hJg _ _ _ hJ3 (World.grownBy_alloc _ _ none)
            have HJ4 := Lib.hid hJ4; clear hJ4
            have hc1 := hcj 1 (by omega) (by omega)
            have hc2 := hcj 2 (by omega) (by omega)
            have hc3 := hcj 3 (by omega) (by omega)
            have hc4 := hcj 4 (by omega) (by omega)
            have hc5 := hcj 5 (by omega) (by omega)
            clear hcj hRd hy
            by_cases hf0 : g i 0 < 0
            · have e0 : decide (g i 0 < 0) = true := decide_eq_true hf0
              gi_wp2
              refine bodyPost_ret (results_none rfl _ _ _) rfl ?_
              exact ⟨⟨_, rfl⟩, .inl ⟨_, by rw [Hv'.out, if_neg (by omega)], HJ4.out _⟩⟩
            · have e0 : decide (g i 0 < 0) = false := decide_eq_false hf0
              by_cases hf1 : g i 0 ≥ (m : Int)
              · have e1 : decide (g i 0 ≥ (m : Int)) = true := decide_eq_true hf1
                gi_wp2
                refine bodyPost_ret (results_none rfl _ _ _) rfl ?_
                exact ⟨⟨_, rfl⟩, .inl ⟨_, by rw [Hv'.out, if_neg (by omega)], HJ4.out _⟩⟩
              · have e1 : decide (g i 0 ≥ (m : Int)) = false := decide_eq_false hf1
                have hq0 : 0 ≤ g i 0 := by omega
                have hq1 : g i 0 < (m : Int) := by omega
                obtain ⟨ar, rfl, _, hz⟩ := hR.below hb3 (g i 0).toNat (by omega)
                have hz4 : ∀ o, (W3.alloc o).cell? (ar.add (g i 0).toNat) = some (.int .i64 (z (g i 0).toNat)) := fun o => (World.cell?_alloc_lt W3 o _ (World.block_lt_of_cell? W3 _ hz)).trans hz
                have hv'' : vis g z len m len 0 = (pre ++ [⟨i, hil⟩]) ++ vis g z len m (len - (k + 1)) (next g z i) := by rw [Hv'.out, if_pos ⟨hq0, hq1⟩]; simp
                have Hv2 := Lib.hid hv''; clear hv'' Hv'
                gi_wp2
                by_cases hgt : z (g i 0).toNat > g i 1
                · have e3 : decide (z (g i 0).toNat > g i 1) = true := decide_eq_true hgt
                  have Hn : Hid (next g z i = wrap64 (g i 2 + 1)) := if_pos hgt
                  gi_quiet_th (fail)
                  gi_wp2
                  exact ⟨⟨k + 1, _, pre ++ [⟨i, hil⟩], by omega, by simp [Hpl.out], rfl, rfl, by rw [Hv2.out, Hn.out], hJg _ _ _ (HJ4.out _) (grown_drewN _ _), below_drewN (hb3.alloc (Nat.le_trans hn0 hb3.size) _) _⟩, by simp [intOf]; omega⟩
                · have e3 : decide (z (g i 0).toNat > g i 1) = false := decide_eq_false hgt
                  have Hn : Hid (next g z i = g i 2) := if_neg hgt
                  gi_quiet_th (fail)
                  gi_wp2
                  exact ⟨⟨k + 1, _, pre ++ [⟨i, hil⟩], by omega, by simp [Hpl.out], rfl, rfl, by rw [Hv2.out, Hn.out], hJg _ _ _ (HJ4.out _) (grown_drewN _ _), below_drewN (hb3.alloc (Nat.le_trans hn0 hb3.size) _) _⟩, by simp [intOf]; omega⟩
          · gi_wp2
            refine bodyPost_ret (results_none rfl _ _ _) rfl ?_
            exact ⟨⟨_, rfl⟩, .inr ⟨_, ⟨_, by rw [Hv'.out]; simp; rfl⟩, hJx3⟩⟩
    · obtain rfl : k = len := by omega
      gi_wp2
      go_end0
      exact ⟨⟨_, rfl⟩, .inl ⟨pre, by rw [Hv.out]; simp [vis], hJs⟩⟩

set_option maxHeartbeats 1000000 in
/-- walk.steps: both arguments are boxed; the function value captures the boxes. -/
theorem steps_in (n : Nat) (A : Option Addr) (len ct : Nat) (R : Option Addr) (m cr : Nat) (w : World) :
    CallsIn Fence.wide n Try.prog 53 #[.slice A len ct, .slice R m cr] w fun e w' =>
      e = .returned (.func (.func 59) #[] #[.pointer (some ⟨w.heap.size, 0, none⟩), .pointer (some ⟨w.heap.size + 1, 0, none⟩)]) ∧ w' = (w.alloc (.cells #[.slice A len ct] 60)).alloc (.cells #[.slice R m cr] 42) := by
  refine callsIn_of_wp Try.func53 rfl trivial ?_ rfl
  simp only [Try.ntmps53, List.size_toArray, List.length_cons, List.length_nil, Nat.reduceAdd, Nat.reduceSub, Array.replicate_succ, Array.replicate_zero, List.push_toArray, List.append_toArray, List.nil_append, List.cons_append]
  gi_wp2
  go_ret
  exact ⟨rfl, rfl⟩

theorem find_none {len : Nat} {g : Nat → Nat → Int} {l : List (Fin len)} (h : ∀ x ∈ l, g x.1 0 ≠ -1) : l.find? (fun x => g x.1 0 == -1) = none := by
  rw [List.find?_eq_none]; intro x hx; simpa using h x hx
theorem find_some {len : Nat} {g : Nat → Nat → Int} {l ini : List (Fin len)} {last : Fin len} (hp : ini ++ [last] <+: l) (h : ∀ x ∈ ini, g x.1 0 ≠ -1) (h1 : g last.1 0 = -1) : l.find? (fun x => g x.1 0 == -1) = some last := by
  obtain ⟨r, rfl⟩ := hp
  rw [List.append_assoc, List.find?_append, find_none h]; simp [h1]

def Placed (n₀ : Nat) (w : World) (r : Int) (e : Ending) (W : World) : Prop := e = .returned (.int .i64 r) ∧ Below n₀ w W

set_option maxRecDepth 100000 in
set_option maxHeartbeats 2000000 in
theorem place_in (n : Nat) (hn : 3 ≤ n) (A : Option Addr) (len ct : Nat) (R : Option Addr) (m cr : Nat) (g : Nat → Nat → Int) (z : Nat → Int) (hlen : len ≤ 9223372036854775807) (hm : m ≤ 9223372036854775807) (w : World)
    (hT : Nodes w.heap.size w A len g) (hR : Ints w.heap.size w R m z) :
    CallsIn Fence.wide n Try.prog 43 #[.slice A len ct, .slice R m cr] w (Placed w.heap.size w (place g z len m)) := by
  have h1 : 1 ≤ n := by omega
  have hu29 := Try.underlying59
  refine callsIn_of_wp_marks Try.func43 rfl trivial ?_ rfl
  simp only [Try.ntmps43, List.size_toArray, List.length_cons, List.length_nil, Nat.reduceAdd, Nat.reduceSub, Array.replicate_succ, Array.replicate_zero, List.push_toArray, List.append_toArray, List.nil_append, List.cons_append]
  gi_wp2_with (refine ⟨trivial, ?_⟩; gi_at_call 53; refine (steps_in (n - 1) _ _ _ _ _ _ _).mono ?_; rintro e w' ⟨rfl, rfl⟩)
  have bT := Boxed.new w 60 (.slice A len ct)
  have bR := Boxed.new (w.alloc (.cells #[.slice A len ct] 60)) 3 (.int .i64 0)
  rw [World.size_alloc] at bR
  obtain ⟨W0, hW0⟩ : ∃ W0, ((((w.alloc (.cells #[.slice A len ct] 60)).alloc (.cells #[.int .i64 0] 3)).alloc (.cells #[.slice A len ct] 60)).alloc (.cells #[.slice R m cr] 42)) = W0 := ⟨_, rfl⟩
  have hz0 : W0.heap.size = w.heap.size + 4 := by rw [← hW0]; simp
  have hB0 : Below w.heap.size w W0 := by rw [← hW0]; exact ((((Below.refl _ w).alloc (Nat.le_refl _) _).alloc (by simp) _).alloc (by simp; omega) _).alloc (by simp; omega) _
  have b1 := ((bT.alloc (.cells #[.int .i64 0] 3)).alloc (.cells #[.slice A len ct] 60)).alloc (.cells #[.slice R m cr] 42)
  have b2 := (bR.alloc (.cells #[.slice A len ct] 60)).alloc (.cells #[.slice R m cr] 42)
  have b3 := (Boxed.new ((w.alloc (.cells #[.slice A len ct] 60)).alloc (.cells #[.int .i64 0] 3)) 60 (.slice A len ct)).alloc (.cells #[.slice R m cr] 42)
  have b4 := Boxed.new (((w.alloc (.cells #[.slice A len ct] 60)).alloc (.cells #[.int .i64 0] 3)).alloc (.cells #[.slice A len ct] 60)) 42 (.slice R m cr)
  rw [hW0] at b1 b2 b3 b4
  simp only [World.size_alloc] at b3 b4
  rw [hW0]
  have hT0 : Nodes W0.heap.size W0 A len g := fun i hi => by
    obtain ⟨ad, e, q1, q2⟩ := hT.below hB0 i hi
    exact ⟨ad, e, by omega, q2⟩
  have hR0 : Ints W0.heap.size W0 R m z := fun i hi => by
    obtain ⟨ad, e, q1, q2⟩ := hR.below hB0 i hi
    exact ⟨ad, e, by omega, q2⟩
  have hseq : SeqStopsK Fence.wide (n - 1) Try.prog 59 #[.pointer (some ⟨w.heap.size + 1 + 1, 0, none⟩), .pointer (some ⟨w.heap.size + 1 + 1 + 1, 0, none⟩)] (fun x : Fin len => #[Value.int .i64 (x.1 : Int)]) (Below W0.heap.size)
      (fun ys => ys = vis g z len m len 0) (fun pre => pre <+: vis g z len m len 0) len W0 := fun l J Jx W hW hJ hJx hY h0 =>
    steps1_in (n - 1) (by omega) l (w.heap.size + 1 + 1) (w.heap.size + 1 + 1 + 1) W0.heap.size len ct m cr A R g z hlen hm (by omega) (by omega) J Jx (fun s A B hs hg => hJ s A B none hs hg (fun _ e => by cases e)) hY W hW.size
      ((hW.cell (p := ⟨w.heap.size + 1 + 1, 0, none⟩) (by simp; omega)).trans b3.cell) ((hW.cell (p := ⟨w.heap.size + 1 + 1 + 1, 0, none⟩) (by simp; omega)).trans b4.cell) (hT0.below hW) (hR0.below hW) h0
  clear hW0
  refine wpIn_rangeFunc_ownG rfl h1 (gf := 59) (lb := #[.pointer (some ⟨w.heap.size + 1 + 1, 0, none⟩), .pointer (some ⟨w.heap.size + 1 + 1 + 1, 0, none⟩)]) rfl trivial (enters_of Try.func59 (by kernel_rfl) rfl)
    hseq belowK_t (belowK_b (Nat.le_refl _)) (Below.refl _ _) (fun _ => rfl)
    (fun pre W => ((∀ x ∈ pre, g x.1 0 ≠ -1) ∧ W.cell? ⟨w.heap.size, 0, none⟩ = some (.slice A len ct) ∧ W.cell? ⟨w.heap.size + 1, 0, none⟩ = some (.int .i64 0) ∧ W.frozen? ⟨w.heap.size + 1, 0, none⟩ = false) ∧ Below w.heap.size w W)
    (fun c pre W => (c = .ret ∧ ∃ ini last, pre = ini ++ [last] ∧ (∀ x ∈ ini, g x.1 0 ≠ -1) ∧ g last.1 0 = -1 ∧ W.cell? ⟨w.heap.size + 1, 0, none⟩ = some (.int .i64 (last.1 : Int))) ∧ Below w.heap.size w W)
    (OwnFrom.and (Own.from (fun s A B row hs hg hr => ⟨hs.1, cell_kept hs.2.1 hg hr, cell_kept hs.2.2.1 hg hr, (frozen_kept hs.2.2.1 hg hr).trans hs.2.2.2⟩) _) (ownFrom_below (Nat.le_refl _) (by omega)))
    (fun c => OwnFrom.and (Own.from (fun s A B row hs hg hr => by obtain ⟨hc, ini, last, e1, e2, e3, e4⟩ := hs; exact ⟨hc, ini, last, e1, e2, e3, cell_kept e4 hg hr⟩) _) (ownFrom_below (Nat.le_refl _) (by omega)))
    ⟨⟨by simp, b1.cell, b2.cell, b2.frozen⟩, hB0⟩
    (fun x => { tmps := #[.slice A len ct, .slice R m cr, .pointer (some ⟨w.heap.size, 0, none⟩), undef, .pointer (some ⟨w.heap.size + 1, 0, none⟩), .int .i64 (x.1 : Int), .slice A len ct, .slice R m cr,
      .func (.func 59) #[] #[.pointer (some ⟨w.heap.size + 1 + 1, 0, none⟩), .pointer (some ⟨w.heap.size + 1 + 1 + 1, 0, none⟩)], .int .i64 (x.1 : Int), undef, undef, undef, undef, undef, undef, undef], defers := [] }) ?assign ?body ?done ?stop
  case assign =>
    intro l x W K hK
    gi_wp2
    exact hK
  case body =>
    rintro l pre ⟨i, hi⟩ W ⟨⟨hp, hct, hcr, hfr⟩, hB⟩ _
    obtain ⟨ad, rfl, _, hc0, _⟩ := hT.below hB i hi
    dsimp only
    clear hseq hT0 hR0 hB0 b1 b2 b3 b4
    by_cases hx : g i 0 = -1
    · have hx1 : (g i 0 == -1) = true := beq_iff_eq.mpr hx
      have HX := Lib.hid hx; clear hx
      gi_wp2
      exact ⟨(KeepsOthers.setCell _ _ _).from _, ⟨rfl, pre, ⟨i, hi⟩, rfl, hp, HX.out, World.cell?_setCell_same' _ _ _ (by rw [hcr]; rfl)⟩, hB.setCell (p := ⟨w.heap.size + 1, 0, none⟩) (by simp) _⟩
    · have hx1 : (g i 0 == -1) = false := beq_eq_false_iff_ne.mpr hx
      gi_wp2
      exact ⟨KeepsFrom.refl _ _, Below.refl _ _, ⟨fun p hp' => (List.mem_append.1 hp').elim (hp p) (fun e => by simp at e; subst e; exact hx), hct, hcr, hfr⟩, hB⟩
  case done =>
    rintro D ys W hD rfl ⟨⟨hne, hct, hcr, hfr⟩, hB⟩ hK
    have hpl : Hid (place g z len m = -1) := by unfold Hid place; rw [find_none hne]; rfl
    gi_wp2
    have hK' := (KeepsOthers.setCell W ⟨w.heap.size + 1, 0, none⟩ (.int .i64 (-1))).same D _ hK rfl
    refine ⟨by simp, .inl ⟨_, _, rfl, run_takeDeferred hK', ?_⟩⟩
    have hc5 := cell_kept (World.cell?_setCell_same' W ⟨w.heap.size + 1, 0, none⟩ (.int .i64 (-1)) (by rw [hcr]; rfl)) (grownBy_putObj' _ D (.deferred none)) (fun r e => by cases e; exact ⟨_, hK', rfl⟩)
    refine ⟨.int .i64 (-1), ?_, by rw [hpl.out], (hB.setCell (p := ⟨w.heap.size + 1, 0, none⟩) (by simp) _).trans (belowK_b (w := w) (Nat.le_refl _) _ D _ _ (by omega) hK' rfl rfl)⟩
    simp [results, Try.f43, go_sem, hc5]
  case stop =>
    rintro D c pre W hD hpre ⟨⟨rfl, ini, last, rfl, e2, e3, hcr⟩, hB⟩ hK
    have hpl : Hid (place g z len m = (last.1 : Int)) := by unfold Hid place; rw [find_some hpre e2 e3]; rfl
    clear hpre e2 e3
    gi_wp2
    refine ⟨by simp, .inl ⟨_, _, rfl, run_takeDeferred hK, ?_⟩⟩
    have hc5 := cell_kept hcr (grownBy_putObj' _ D (.deferred none)) (fun r e => by cases e; exact ⟨_, hK, rfl⟩)
    refine ⟨.int .i64 (last.1 : Int), ?_, by rw [hpl.out], hB.trans (belowK_b (w := w) (Nat.le_refl _) W D _ _ (by omega) hK rfl rfl)⟩
    simp [results, Try.f43, go_sem, hc5]
end Go.Proofs.Ytlmmlhljflladaa.FWalk
