/- The functions of package take by walks: what a reader hands out, how it fails, and what Try answers. -/
import Derived.Test.YtnagfbadjbkhmaaWMore
import Derived.RangeFuncBox
import Derived.Defers
import Derived.Recover
import Derived.WalkLawsBesides
import Derived.Laws.Pointers
import Derived.Shelf.Abstract
import Derived.Test.YtnagfbadjbkhmaaFlt
import Derived.Test.YtnagfbadjbkhmaaProg
namespace Go.Proofs.Ytnagfbadjbkhmaa.FTake
open Go.RowKit Go.Shelf Go.Proofs.YtnagfbadjbkhmaaW.PrintWords Go.Proofs.YtnagfbadjbkhmaaW.PrintLast Go.Proofs.YtnagfbadjbkhmaaW.PrintMore
attribute [local go_sem high] Flt.run_bits Flt.run_frombits
set_option linter.unusedVariables false
set_option linter.unusedSimpArgs false

/-- All blocks but one are as they were. -/
structure Off (B : Nat) (w w' : World) : Prop where
  os : w'.os = w.os
  tape : w'.tape = w.tape
  output : w'.output = w.output
  size : w.heap.size ≤ w'.heap.size
  block : ∀ k, k < w.heap.size → k ≠ B → w'.heap[k]? = w.heap[k]?
namespace Off
variable {B : Nat} {a b c : World}
theorem refl (B : Nat) (w : World) : Off B w w := ⟨rfl, rfl, rfl, Nat.le_refl _, fun _ _ _ => rfl⟩
theorem trans (h : Off B a b) (k : Off B b c) : Off B a c :=
  ⟨k.os.trans h.os, k.tape.trans h.tape, k.output.trans h.output, Nat.le_trans h.size k.size, fun i hi hne => (k.block i (Nat.lt_of_lt_of_le hi h.size) hne).trans (h.block i hi hne)⟩
theorem of_below (h : Below a.heap.size a b) : Off B a b := ⟨h.os, h.tape, h.output, h.size, fun k hk _ => h.block k hk⟩
theorem drewN (h : Off B a b) (n : Nat) : Off B a (b.drewN n) := ⟨h.os, h.tape, h.output, h.size, h.block⟩
theorem alloc (h : Off B a b) (o : Obj) : Off B a (b.alloc o) := h.trans (of_below ((Below.refl _ _).alloc (Nat.le_refl _) o))
theorem setCell (h : Off B a b) (i : Nat) (v : Value) : Off B a (b.setCell ⟨B, i, none⟩ v) :=
  h.trans ⟨rfl, rfl, rfl, by simp [World.setCell], fun k _ hne => Below.heap_setCell _ _ _ _ hne⟩
/-- A store into a block that wasn't there. -/
theorem setNew (h : Off B a b) {p : Addr} (hp : a.heap.size ≤ p.block) (v : Value) : Off B a (b.setCell p v) :=
  ⟨h.os, h.tape, h.output, by simpa [World.setCell] using h.size, fun k hk hne => (Below.heap_setCell _ _ _ _ (by omega)).trans (h.block k hk hne)⟩
theorem below (h : Off B a b) {n : Nat} (h1 : n ≤ a.heap.size) (h2 : n ≤ B) : Below n a b := ⟨h.os, h.tape, h.output, h.size, fun k hk => h.block k (by omega) (by omega)⟩
theorem boxed (h : Off B a b) {C : Nat} {t : TypeId} {v : Value} (hb : Boxed a C t v) (hne : C ≠ B) : Boxed b C t v := (h.block C hb.lt hne).trans hb
end Off

/-- All blocks but those of S are as they were. -/
structure Offs (S : Nat → Prop) (w w' : World) : Prop where
  os : w'.os = w.os
  tape : w'.tape = w.tape
  output : w'.output = w.output
  size : w.heap.size ≤ w'.heap.size
  block : ∀ k, k < w.heap.size → ¬ S k → w'.heap[k]? = w.heap[k]?
namespace Offs
variable {S : Nat → Prop} {a b c : World}
theorem refl (S : Nat → Prop) (w : World) : Offs S w w := ⟨rfl, rfl, rfl, Nat.le_refl _, fun _ _ _ => rfl⟩
theorem trans (h : Offs S a b) (k : Offs S b c) : Offs S a c :=
  ⟨k.os.trans h.os, k.tape.trans h.tape, k.output.trans h.output, Nat.le_trans h.size k.size, fun i hi hne => (k.block i (Nat.lt_of_lt_of_le hi h.size) hne).trans (h.block i hi hne)⟩
theorem of_off {B : Nat} (h : Off B a b) (hB : S B) : Offs S a b := ⟨h.os, h.tape, h.output, h.size, fun k hk hs => h.block k hk (fun e => hs (e ▸ hB))⟩
theorem of_below (h : Below a.heap.size a b) : Offs S a b := ⟨h.os, h.tape, h.output, h.size, fun k hk _ => h.block k hk⟩
theorem drewN (h : Offs S a b) (n : Nat) : Offs S a (b.drewN n) := ⟨h.os, h.tape, h.output, h.size, h.block⟩
theorem alloc (h : Offs S a b) (o : Obj) : Offs S a (b.alloc o) := h.trans (of_below ((Below.refl _ _).alloc (Nat.le_refl _) o))
theorem setCell (h : Offs S a b) {p : Addr} (hp : S p.block ∨ a.heap.size ≤ p.block) (v : Value) : Offs S a (b.setCell p v) :=
  ⟨h.os, h.tape, h.output, by simpa [World.setCell] using h.size, fun k hk hne => (Below.heap_setCell _ _ _ _ (fun e => hp.elim (fun q => hne (by rw [e]; exact q)) (fun q => by omega))).trans (h.block k hk hne)⟩
theorem below (h : Offs S a b) {n : Nat} (h1 : n ≤ a.heap.size) (h2 : ∀ k, S k → n ≤ k) : Below n a b := ⟨h.os, h.tape, h.output, h.size, fun k hk => h.block k (by omega) (fun hs => by have := h2 k hs; omega)⟩
theorem boxed (h : Offs S a b) {C : Nat} {t : TypeId} {v : Value} (hb : Boxed a C t v) (hne : ¬ S C) : Boxed b C t v := (h.block C hb.lt hne).trans hb
theorem grown (h : Offs S a b) {row : Option Nat} (hg : b.grownBy c row) (hr : ∀ k, row = some k → S k ∨ a.heap.size ≤ k) : Offs S a c :=
  ⟨hg.os.trans h.os, hg.tape.trans h.tape, hg.output.trans h.output, Nat.le_trans h.size hg.size, fun k hk hs => (hg.block k (Nat.lt_of_lt_of_le hk h.size) (fun e => (hr k e.symm).elim hs (fun q => by omega))).trans (h.block k hk hs)⟩
end Offs

/-- The reader whose one cell lies at B has these bytes left; they lie in blocks of ok. -/
def Rdr (ok : Nat → Prop) (w : World) (B : Nat) (l : List Int) : Prop :=
  ∃ A c, Boxed w B 120 (.slice A l.length c) ∧ l.length ≤ c ∧ Kd.F (Kd.int .u8) w ok A l.length l ∧ ∀ x ∈ l, 0 ≤ x ∧ x < 256
theorem Rdr.off {ok : Nat → Prop} {w w' : World} {B C : Nat} {l : List Int} (h : Rdr ok w B l) (ho : Off C w w') (hne : B ≠ C) (hn : ∀ k, ok k → k ≠ C) : Rdr ok w' B l := by
  obtain ⟨A, c, hb, hl, hF, hx⟩ := h
  exact ⟨A, c, ho.boxed hb hne, hl, Kd.F_step hF (fun k hk hlt => ho.block k hlt (hn k hk)), hx⟩
theorem Rdr.below {ok : Nat → Prop} {w w' : World} {B : Nat} {l : List Int} (h : Rdr ok w B l) (hb : Below w.heap.size w w') : Rdr ok w' B l := by
  obtain ⟨A, c, hbx, hl, hF, hx⟩ := h
  exact ⟨A, c, (hb.block B hbx.lt).trans hbx, hl, Kd.F_below hF hb, hx⟩

/-- How many bytes are meant. -/
def cnt (n : Int) : Nat := if n < 0 then 0 else if n > 8 then 8 else n.toNat
/-- The number of some bytes. -/
def val (l : List Int) : Int := l.foldl (fun x y => x * 256 + y) 0
/-- What a reader hands out, and what it has left; or the error. -/
def number (n : Int) (l : List Int) : Except Int (Int × List Int) := if cnt n ≤ l.length then .ok (val (l.take (cnt n)), l.drop (cnt n)) else .error 2
/-- The value that who fails panics with. -/
def fault (c : Int) : List PanicEntry := [{ v := .iface 122 (.agg #[.int .i64 c]), recovered := false }]
/-- What a reader's function does: it answers, the reader's cell is turned, or it fails. -/
def Gives {α : Type} (ok : Nat → Prop) (B : Nat) (w : World) (x : Except Int (α × List Int)) (P : α → Value → World → Prop) (e : Ending) (w' : World) : Prop :=
  Off B w w' ∧ match x with
    | .ok (a, l) => Rdr ok w' B l ∧ ∃ v, e = .returned v ∧ P a v w'
    | .error c => e = .panicked (fault c)

theorem val_snoc (l : List Int) (y : Int) : val (l ++ [y]) = val l * 256 + y := by simp [val]
theorem val_from : ∀ (l : List Int) (a : Int), (∀ x ∈ l, 0 ≤ x ∧ x < 256) → 0 ≤ a → 0 ≤ l.foldl (fun x y => x * 256 + y) a ∧ l.foldl (fun x y => x * 256 + y) a < (a + 1) * 256 ^ l.length
  | [], a, _, h0 => by simp; omega
  | y :: l, a, h, h0 => by
    have hy := h y (by simp)
    have := val_from l (a * 256 + y) (fun x hx => h x (by simp [hx])) (by omega)
    refine ⟨this.1, Int.lt_of_lt_of_le this.2 ?_⟩
    have h1 : (a * 256 + y + 1) * 256 ^ l.length ≤ ((a + 1) * 256) * 256 ^ l.length := Int.mul_le_mul_of_nonneg_right (by omega) (Int.pow_nonneg (by omega))
    rw [List.length_cons, Int.pow_succ, Int.mul_comm (256 ^ l.length) 256, ← Int.mul_assoc]
    exact h1
theorem val_bound (l : List Int) (h : ∀ x ∈ l, 0 ≤ x ∧ x < 256) : 0 ≤ val l ∧ val l < 256 ^ l.length := by
  have := val_from l 0 h (by omega)
  simpa [val] using this
theorem pow_le (n : Nat) (h : n ≤ 7) : (256 : Int) ^ n ≤ 72057594037927936 := by
  have : n = 0 ∨ n = 1 ∨ n = 2 ∨ n = 3 ∨ n = 4 ∨ n = 5 ∨ n = 6 ∨ n = 7 := by omega
  rcases this with rfl | rfl | rfl | rfl | rfl | rfl | rfl | rfl <;> decide
theorem or_join (x y : Int) (h0 : 0 ≤ x) (h1 : x < 72057594037927936) (h2 : 0 ≤ y) (h3 : y < 256) : Go.bits .or .u64 (IntKind.u64.wrap (x * 256)) (IntKind.u64.wrap y) = x * 256 + y := by
  have w64 : ∀ n : Int, 0 ≤ n → n < 2 ^ 64 → IntKind.u64.wrap n = n := fun n h0 h1 => by
    simp [IntKind.wrap, IntKind.bits, IntKind.signed]; omega
  rw [w64 _ (by omega) (by omega), w64 _ (by omega) (by omega)]
  exact bits_join .u64 64 (by decide) w64 8 (x * 256) y (by omega) (by omega) (by omega) h2 (by omega) (by omega)
theorem cnt_le (n : Int) : cnt n ≤ 8 := by unfold cnt; split <;> (try split) <;> omega

theorem info_u8 : (Try.prog.info? 5).map (fun i => (i.zero, i.size, i.bytes)) = some (some (.int .u8 0), 1, 1) := by kernel_rfl
theorem count_calls (n : Int) (w : World) : Calls Try.prog 78 #[.int .i64 n] w fun e w' => e = .returned (.int .i64 (cnt n)) ∧ w' = w := by
  unfold cnt
  by_cases h0 : n < 0
  · rw [if_pos h0]
    have d0 : decide (n < 0) = true := decide_eq_true h0
    go_enter Try.func78, Try.ntmps78
    go_wp2
    go_ret
    exact ⟨rfl, rfl⟩
  · rw [if_neg h0]
    have d0 : decide (n < 0) = false := decide_eq_false h0
    by_cases h1 : n > 8
    · rw [if_pos h1]
      have d1 : decide (8 < n) = true := decide_eq_true h1
      go_enter Try.func78, Try.ntmps78
      go_wp2
      go_ret
      exact ⟨rfl, rfl⟩
    · rw [if_neg h1]
      have d1 : decide (8 < n) = false := decide_eq_false h1
      obtain ⟨m, rfl⟩ := Int.eq_ofNat_of_zero_le (Int.not_lt.1 h0)
      go_enter Try.func78, Try.ntmps78
      go_wp2
      go_ret
      exact ⟨rfl, rfl⟩

theorem fail_calls (p : Option Addr) (c : Int) (w : World) : Calls Try.prog 86 #[.pointer p, .int .i64 c] w fun e w' => e = .panicked (fault (if c = 0 then 3 else c)) ∧ w' = w := by
  by_cases h0 : c = 0
  · have d : (c == 0) = true := beq_iff_eq.2 h0
    rw [if_pos h0]
    clear h0
    go_enter Try.func86, Try.ntmps86
    go_wp2
    exact ⟨rfl, rfl, rfl⟩
  · have d : (c == 0) = false := beq_eq_false_iff_ne.2 h0
    rw [if_neg h0]
    clear h0
    go_enter Try.func86, Try.ntmps86
    go_wp2
    exact ⟨rfl, rfl, rfl⟩

set_option maxHeartbeats 2000000 in
theorem number_calls (ok : Nat → Prop) (B : Nat) (n : Int) (l : List Int) (w : World) (h : Rdr ok w B l) (hn : ∀ k, ok k → k ≠ B) :
    Calls Try.prog 85 #[.pointer (some ⟨B, 0, none⟩), .int .i64 n] w (Gives ok B w (number n l) (fun a v _ => v = .int .u64 a)) := by
  obtain ⟨A, c, hb, hl, hF, hx⟩ := h
  have hcell := hb.cell
  have hfr := hb.frozen
  have HB := Aside0.mk hb
  have HF := Aside0.mk hF
  have HX := Aside0.mk hx
  clear hb hF hx
  have HCN := Aside0.mk (count_calls n)
  unfold number
  by_cases hk : cnt n ≤ l.length
  · rw [if_pos hk]
    have d0 : decide ((cnt n : Int) > (l.length : Int)) = false := decide_eq_false (by omega)
    have hc8 := cnt_le n
    obtain ⟨i0, hi0, _, hsz, _⟩ := info_parts info_u8
    have hcut1 := (print_take_of (P := Try.prog) (Value.int .u8) 0 42 5 .i64 Try.underlying42 hi0 hsz A c l (cnt n) (by omega) (by omega) hl).1
    obtain ⟨A2, hcut2, hA2, hl2⟩ := print_drop_of (P := Try.prog) (Value.int .u8) 0 42 5 .i64 Try.underlying42 hi0 hsz A c l (cnt n) (by omega) (by omega) hl
    simp only [Int.toNat_natCast] at hcut1 hcut2 hA2 hl2
    have hlt : (l.take (cnt n)).length = cnt n := by rw [List.length_take]; omega
    rw [hlt] at hcut1
    have HA2 := Aside0.mk hA2
    have HL2 := Aside0.mk hl2
    generalize cnt n = m at *
    generalize c - m = c2 at *
    clear hA2 hl2 hlt hi0 hsz
    go_enter Try.func85, Try.ntmps85
    go_wp2_with (go_at_call 78; refine (HCN.out w).mono ?_; rintro e w1 ⟨rfl, rfl⟩)
    go_loop [6, 27] (fun v6 v27 => ∃ k : Nat, k ≤ m ∧ v27 = .int .i64 k ∧ v6 = .int .u64 (val (l.take k))) (fun _ v => m - (intOf v).toNat)
    case atStart => exact ⟨0, Nat.zero_le _, rfl, rfl⟩
    case round =>
      obtain ⟨k, hkm, rfl, rfl⟩ := hrel
      by_cases hlt : k < m
      · obtain ⟨ad, e0, hx⟩ := Kd.at_int (Kd.F_now HF.out) k (by omega) (by omega)
        cases e0
        simp only [Int.toNat_natCast] at hx
        go_wp2
        have hv : (l.take k).length ≤ 7 := by rw [List.length_take]; omega
        have hb1 := val_bound (l.take k) (fun x hx => HX.out x (List.mem_of_mem_take hx))
        have hb2 := pow_le _ hv
        have hy : 0 ≤ rd l k ∧ rd l k < 256 := HX.out _ (by unfold rd; simp only [Int.toNat_natCast, List.getD_eq_getElem?_getD]; rw [List.getElem?_eq_getElem (by omega)]; exact List.getElem_mem _)
        have hts : l.take (k + 1) = l.take k ++ [rd l k] := by
          unfold rd
          rw [List.take_add_one, List.getElem?_eq_getElem (by omega)]
          simp [show k < l.length by omega]
        refine ⟨⟨k + 1, by omega, by go_num, ?_⟩, by simp [intOf]; omega⟩
        rw [hts, val_snoc, or_join _ _ hb1.1 (by omega) hy.1 hy.2]
      · obtain rfl : k = m := by omega
        go_wp2
        go_ret
        refine ⟨(Off.refl B w1).setCell 0 _, ⟨A2, c2, by rw [List.length_drop]; exact HB.out.set _, HL2.out, ?_, fun x hx => HX.out x (List.mem_of_mem_drop hx)⟩, _, rfl, rfl⟩
        refine Kd.F_far (p := ⟨B, 0, none⟩) ?_ (fun j hj => hn j hj) _
        exact Kd.F_imp HF.out (fun W' hC => Kd.C_of_reads (h1 := fun _ => rfl) (HA2.out W' (Kd.reads_of_C hC)))
  · rw [if_neg hk]
    have d0 : decide ((cnt n : Int) > (l.length : Int)) = true := decide_eq_true (by omega)
    go_enter Try.func85, Try.ntmps85
    go_wp2_with (first | (go_at_call 78; refine (count_calls _ _).mono ?_; rintro e w1 ⟨rfl, rfl⟩) | (go_at_call 86; refine (fail_calls _ _ _).mono ?_; rintro e w1 ⟨rfl, rfl⟩))
    exact ⟨rfl, Off.refl _ _, rfl⟩

set_option maxHeartbeats 2000000 in
theorem whole_calls (ok : Nat → Prop) (B : Nat) (l : List Int) (w : World) (h : Rdr ok w B l) (hn : ∀ k, ok k → k ≠ B) :
    Calls Try.prog 90 #[.pointer (some ⟨B, 0, none⟩)] w (Gives ok B w (number 8 l) (fun a v _ => v = .int .i64 (wrap64 a))) := by
  have H := Aside0.mk (number_calls ok B 8 l w h hn)
  clear h
  cases hx : number 8 l with
  | error c =>
    rw [hx] at H
    clear hx
    go_enter Try.func90, Try.ntmps90
    go_wp2_with (go_at_call 85; refine H.out.mono ?_; rintro e w1 ⟨ho, rfl⟩)
    exact ⟨rfl, ho, rfl⟩
  | ok q =>
    obtain ⟨a, l1⟩ := q
    rw [hx] at H
    clear hx
    go_enter Try.func90, Try.ntmps90
    go_wp2_with (go_at_call 85; refine H.out.mono ?_; rintro e w1 ⟨ho, hr, v, rfl, rfl⟩)
    go_ret
    exact ⟨ho, hr, _, rfl, rfl⟩
set_option maxHeartbeats 2000000 in
theorem value_calls (ok : Nat → Prop) (B : Nat) (l : List Int) (w : World) (h : Rdr ok w B l) (hn : ∀ k, ok k → k ≠ B) :
    Calls Try.prog 89 #[.pointer (some ⟨B, 0, none⟩)] w (Gives ok B w (number 8 l) (fun a v _ => v = .float .f64 (Flt.fbits a))) := by
  have H := Aside0.mk (number_calls ok B 8 l w h hn)
  clear h
  cases hx : number 8 l with
  | error c =>
    rw [hx] at H
    clear hx
    go_enter Try.func89, Try.ntmps89
    go_wp2_with (go_at_call 85; refine H.out.mono ?_; rintro e w1 ⟨ho, rfl⟩)
    exact ⟨rfl, ho, rfl⟩
  | ok q =>
    obtain ⟨a, l1⟩ := q
    rw [hx] at H
    clear hx
    go_enter Try.func89, Try.ntmps89
    go_wp2_with (go_at_call 85; refine H.out.mono ?_; rintro e w1 ⟨ho, hr, v, rfl, rfl⟩)
    go_wp2
    go_ret
    exact ⟨ho, hr, _, rfl, rfl⟩
theorem left_calls (ok : Nat → Prop) (B : Nat) (l : List Int) (w : World) (h : Rdr ok w B l) :
    Calls Try.prog 84 #[.pointer (some ⟨B, 0, none⟩)] w fun e w' => e = .returned (.int .i64 l.length) ∧ w' = w := by
  obtain ⟨A, c, hb, hl, hF, hx⟩ := h
  have hcell := hb.cell
  clear hb hF hx
  go_enter Try.func84, Try.ntmps84
  go_wp2
  go_ret
  exact ⟨rfl, rfl⟩

/-- The function that Try defers, where nothing has failed. -/
theorem catch_idle (p : Addr) (w : World) :
    CallsD Try.prog 83 #[.pointer (some p)] .returning w fun e u' w' => e = .returned (.tuple #[]) ∧ u' = .returning ∧ w' = w := by
  refine callsD_of_wpS Try.func83 rfl fun c₀ cs hu => ?_
  apply wpS_seq
  apply wpS_region
  simp [wpOpsS, go_sem, recoverD, hu, Try.ntmps83, Exit.thenS, Array.replicate]
  refine wpS_of_wp ?_
  go_wp2
  cases c₀
  simp_all [bodyPostS, results, Try.results83]
/-- The function that Try defers, where something has failed. -/
theorem assert_fault (v : Value) (w : World) : (Instr.typeAssert (.iface 122 v) 20 122 true).run Try.prog w = .ok (.tuple #[v, .bool true]) w := by
  kernel_rfl
set_option maxRecDepth 100000 in

theorem catch_fault (E : Nat) (t : TypeId) (c : Int) (w : World) (hE : Boxed w E t (.int .i64 0)) :
    CallsD Try.prog 83 #[.pointer (some ⟨E, 0, none⟩)] (.panicking (fault c)) w fun e u' w' => e = .returned (.tuple #[]) ∧ (∃ v, u' = .panicking [{ v := v, recovered := true }]) ∧ Off E w w' ∧ Boxed w' E t (.int .i64 c) := by
  refine callsD_of_wpS Try.func83 rfl fun c₀ cs hu => ?_
  unfold fault at hu
  apply wpS_seq
  apply wpS_region
  simp [wpOpsS, go_sem, recoverD, hu, Try.ntmps83, Exit.thenS, Array.replicate]
  refine wpS_of_wp ?_
  have hcell := fun o => (hE.alloc o).cell
  have hfr := fun o => (hE.alloc o).frozen
  have HE := Aside0.mk hE
  have hta := assert_fault (.agg #[.int .i64 c])
  clear hE hu
  go_wp2
  exact ⟨rfl, _, rfl, .tuple #[], by simp [results, Try.results83], rfl, ⟨_, rfl⟩, ((Off.refl E w).alloc _).setCell 0 _, (HE.out.alloc _).set _⟩

/-- The world in which Try calls its function: the error's box, and the reader. -/
def begun (w : World) (A : Option Addr) (n c : Nat) : World := (w.alloc (.cells #[.int .i64 0] 43)).alloc (.cells #[.slice A n c] 120)
/-- What Try's function is asked: its error's box stays, and what it leaves behind. -/
def Tries (ok : Nat → Prop) (E : Nat) (Q : List Int → World → Prop) (Qe : Int → World → Prop) (e : Ending) (W : World) : Prop :=
  Boxed W E 43 (.int .i64 0) ∧ ((∃ v l, e = .returned v ∧ Rdr ok W (E + 1) l ∧ Q l W) ∨ ∃ c, e = .panicked (fault c) ∧ Qe c W)
/-- What Try answers. -/
def Tried (E : Nat) (Q : List Int → World → Prop) (Qe : Int → World → Prop) (e : Ending) (w' : World) : Prop :=
  ∃ c W, e = .returned (.int .i64 c) ∧ Off E W w' ∧ ((∃ l, Q l W ∧ c = if l.length > 0 then 3 else 0) ∨ Qe c W)
set_option maxRecDepth 100000 in
set_option maxHeartbeats 4000000 in
theorem try_calls (cf : Nat) (caps : Array Value) (ok : Nat → Prop) (A : Option Addr) (c : Nat) (l : List Int) (w : World) (eg : ∀ args W, (callFunc cf args).run Try.prog W = .ok (.enter cf args) W)
    (Q : List Int → World → Prop) (Qe : Int → World → Prop)
    (hf : Calls Try.prog cf (#[.pointer (some ⟨w.heap.size + 1, 0, none⟩)] ++ caps) (begun w A l.length c) (Tries ok w.heap.size Q Qe)) :
    Calls Try.prog 59 #[.slice A l.length c, .func (.func cf) #[] caps] w (Tried w.heap.size Q Qe) := by
  have hmf : ∀ (fn : Fn) (first cap : Array Value) (W : World), (Instr.makeFunc fn first cap).run Try.prog W = .ok (.func fn first cap) W := fun _ _ _ _ => rfl
  have HCF := Aside0.mk hf
  unfold begun at HCF
  clear hf
  go_enter_defers Try.func59, Try.ntmps59
  go_wp2_with (fail)
  refine HCF.out.mono ?_
  rintro e W ⟨hbx, ⟨v, l', rfl, hr, hq⟩ | ⟨c', rfl, hq⟩⟩
  · have HL := Aside0.mk (left_calls ok (w.heap.size + 1) l' W hr)
    have hcell := hbx.cell
    have hfr := hbx.frozen
    have HB := Aside0.mk hbx
    clear HCF hbx hr
    by_cases hl : l'.length > 0
    · have d0 : decide ((l'.length : Int) > 0) = true := decide_eq_true (by omega)
      go_wp2_with (go_at_call 84; refine HL.out.mono ?_; rintro e w1 ⟨rfl, rfl⟩)
      refine leaves_cons (f := 83) (args := #[.pointer (some ⟨w.heap.size, 0, none⟩)]) (by simp) (by simp [go_sem]) ?_
      refine (catch_idle _ _).mono ?_
      rintro e u' w'' ⟨rfl, rfl, rfl⟩
      have hcell := (HB.out.set (.int .i64 3)).cell
      simp [Leaves, settle, results, Try.results59, go_sem, hcell]
      exact ⟨_, w1, rfl, (Off.refl _ _).setCell 0 _, .inl ⟨l', hq, (if_pos hl).symm⟩⟩
    · have d0 : decide ((l'.length : Int) > 0) = false := decide_eq_false (by omega)
      go_wp2_with (go_at_call 84; refine HL.out.mono ?_; rintro e w1 ⟨rfl, rfl⟩)
      refine leaves_cons (f := 83) (args := #[.pointer (some ⟨w.heap.size, 0, none⟩)]) (by simp) (by simp [go_sem]) ?_
      refine (catch_idle _ _).mono ?_
      rintro e u' w'' ⟨rfl, rfl, rfl⟩
      have hcell := (HB.out.set (.int .i64 0)).cell
      simp [Leaves, settle, results, Try.results59, go_sem, hcell]
      exact ⟨_, w1, rfl, (Off.refl _ _).setCell 0 _, .inl ⟨l', hq, (if_neg hl).symm⟩⟩
  · refine leaves_cons (f := 83) (args := #[.pointer (some ⟨w.heap.size, 0, none⟩)]) (by simp) (by simp [go_sem]) ?_
    refine (catch_fault w.heap.size _ c' W hbx).mono ?_
    rintro e u' w'' ⟨rfl, ⟨v, rfl⟩, ho, hb⟩
    have hcell := hb.cell
    simp [Leaves, settle, results, Try.results59, go_sem, hcell]
    exact ⟨c', W, rfl, ho, .inr hq⟩
/-- The reader as Try makes it. -/
theorem start_rdr (ok : Nat → Prop) (A : Option Addr) (c : Nat) (l : List Int) (w : World) (hF : Kd.F (Kd.int .u8) w ok A l.length l) (hl : l.length ≤ c) (hx : ∀ x ∈ l, 0 ≤ x ∧ x < 256) : Rdr ok (begun w A l.length c) (w.heap.size + 1) l := by
  refine ⟨A, c, ?_, hl, Kd.F_alloc (Kd.F_alloc hF _) _, hx⟩
  have := Boxed.new (w.alloc (.cells #[.int .i64 0] 43)) 120 (.slice A l.length c)
  rwa [World.size_alloc] at this
theorem start_err (A : Option Addr) (n c : Nat) (w : World) : Boxed (begun w A n c) w.heap.size 43 (.int .i64 0) := (Boxed.new w _ _).alloc _
theorem start_below (A : Option Addr) (n c : Nat) (w : World) : Below w.heap.size w (begun w A n c) := ((Below.refl _ w).alloc (Nat.le_refl _) _).alloc (by simp) _
theorem start_size (A : Option Addr) (n c : Nat) (w : World) : (begun w A n c).heap.size = w.heap.size + 2 := by simp [begun]

end Go.Proofs.Ytnagfbadjbkhmaa.FTake
