/- The law BinsOrder by a walk. -/
import Derived.Test.YtnagfbadjbkhmaaPureOrd
namespace Go.Proofs.Ytnagfbadjbkhmaa.FBinsOrder
open Go.RowKit Go.Shelf Go.Proofs.YtnagfbadjbkhmaaW.PrintWords Go.Proofs.YtnagfbadjbkhmaaW.PrintLast Go.Proofs.YtnagfbadjbkhmaaW.PrintMore Go.Proofs.Ytnagfbadjbkhmaa.Pure Go.Proofs.Ytnagfbadjbkhmaa.PureFlt Go.Proofs.Ytnagfbadjbkhmaa.PB Go.Proofs.Ytnagfbadjbkhmaa.PureOrd
attribute [local go_sem high] Flt.run_bits Flt.run_frombits
set_option linter.unusedVariables false
set_option linter.unusedSimpArgs false
def Pl (W : World) (g : Nat) (k0 k1 k2 k3 k4 k5 k6 rows cols : Int) (v t : Value) : Prop := W.heap[g]? = some (.cells #[.int .i64 k0, .int .i64 k1, .int .i64 k2, .int .i64 k3, .int .i64 k4, .int .i64 k5, .int .i64 k6, .int .i64 rows, .int .i64 cols, v, t] 27 (0, 0))
def Dat (W : World) (g : Nat) (k0 k1 k2 k3 k4 k5 k6 rows cols : Int) (v t : Value) : Prop := W.heap[g]? = some (.cells #[.int .i64 k0, .int .i64 k1, .int .i64 k2, .int .i64 k3, .int .i64 k4, .int .i64 k5, .int .i64 k6, .int .i64 rows, .int .i64 cols, v, t] 32 (0, 0))
def Mat (W : World) (g : Nat) (r c : Int) (v : Value) : Prop := W.heap[g]? = some (.cells #[.int .i64 r, .int .i64 c, v] 62 (0, 0))
namespace Pl
variable {W : World} {g : Nat} {k0 k1 k2 k3 k4 k5 k6 rows cols : Int} {v t : Value}
theorem c0 (H : Pl W g k0 k1 k2 k3 k4 k5 k6 rows cols v t) : W.cell? ⟨g, 0, none⟩ = some (.int .i64 k0) := (blk_cell H 0).trans rfl
theorem c1 (H : Pl W g k0 k1 k2 k3 k4 k5 k6 rows cols v t) : W.cell? ⟨g, 1, none⟩ = some (.int .i64 k1) := (blk_cell H 1).trans rfl
theorem c2 (H : Pl W g k0 k1 k2 k3 k4 k5 k6 rows cols v t) : W.cell? ⟨g, 2, none⟩ = some (.int .i64 k2) := (blk_cell H 2).trans rfl
theorem c3 (H : Pl W g k0 k1 k2 k3 k4 k5 k6 rows cols v t) : W.cell? ⟨g, 3, none⟩ = some (.int .i64 k3) := (blk_cell H 3).trans rfl
theorem c4 (H : Pl W g k0 k1 k2 k3 k4 k5 k6 rows cols v t) : W.cell? ⟨g, 4, none⟩ = some (.int .i64 k4) := (blk_cell H 4).trans rfl
theorem c5 (H : Pl W g k0 k1 k2 k3 k4 k5 k6 rows cols v t) : W.cell? ⟨g, 5, none⟩ = some (.int .i64 k5) := (blk_cell H 5).trans rfl
theorem c6 (H : Pl W g k0 k1 k2 k3 k4 k5 k6 rows cols v t) : W.cell? ⟨g, 6, none⟩ = some (.int .i64 k6) := (blk_cell H 6).trans rfl
theorem c7 (H : Pl W g k0 k1 k2 k3 k4 k5 k6 rows cols v t) : W.cell? ⟨g, 7, none⟩ = some (.int .i64 rows) := (blk_cell H 7).trans rfl
theorem c8 (H : Pl W g k0 k1 k2 k3 k4 k5 k6 rows cols v t) : W.cell? ⟨g, 8, none⟩ = some (.int .i64 cols) := (blk_cell H 8).trans rfl
theorem c9 (H : Pl W g k0 k1 k2 k3 k4 k5 k6 rows cols v t) : W.cell? ⟨g, 9, none⟩ = some v := (blk_cell H 9).trans rfl
theorem c10 (H : Pl W g k0 k1 k2 k3 k4 k5 k6 rows cols v t) : W.cell? ⟨g, 10, none⟩ = some t := (blk_cell H 10).trans rfl
end Pl
namespace Dat
variable {W : World} {g : Nat} {k0 k1 k2 k3 k4 k5 k6 rows cols : Int} {v t : Value}
theorem c0 (H : Dat W g k0 k1 k2 k3 k4 k5 k6 rows cols v t) : W.cell? ⟨g, 0, none⟩ = some (.int .i64 k0) := (blk_cell H 0).trans rfl
theorem c1 (H : Dat W g k0 k1 k2 k3 k4 k5 k6 rows cols v t) : W.cell? ⟨g, 1, none⟩ = some (.int .i64 k1) := (blk_cell H 1).trans rfl
theorem c2 (H : Dat W g k0 k1 k2 k3 k4 k5 k6 rows cols v t) : W.cell? ⟨g, 2, none⟩ = some (.int .i64 k2) := (blk_cell H 2).trans rfl
theorem c3 (H : Dat W g k0 k1 k2 k3 k4 k5 k6 rows cols v t) : W.cell? ⟨g, 3, none⟩ = some (.int .i64 k3) := (blk_cell H 3).trans rfl
theorem c4 (H : Dat W g k0 k1 k2 k3 k4 k5 k6 rows cols v t) : W.cell? ⟨g, 4, none⟩ = some (.int .i64 k4) := (blk_cell H 4).trans rfl
theorem c5 (H : Dat W g k0 k1 k2 k3 k4 k5 k6 rows cols v t) : W.cell? ⟨g, 5, none⟩ = some (.int .i64 k5) := (blk_cell H 5).trans rfl
theorem c6 (H : Dat W g k0 k1 k2 k3 k4 k5 k6 rows cols v t) : W.cell? ⟨g, 6, none⟩ = some (.int .i64 k6) := (blk_cell H 6).trans rfl
theorem c7 (H : Dat W g k0 k1 k2 k3 k4 k5 k6 rows cols v t) : W.cell? ⟨g, 7, none⟩ = some (.int .i64 rows) := (blk_cell H 7).trans rfl
theorem c8 (H : Dat W g k0 k1 k2 k3 k4 k5 k6 rows cols v t) : W.cell? ⟨g, 8, none⟩ = some (.int .i64 cols) := (blk_cell H 8).trans rfl
theorem c9 (H : Dat W g k0 k1 k2 k3 k4 k5 k6 rows cols v t) : W.cell? ⟨g, 9, none⟩ = some v := (blk_cell H 9).trans rfl
theorem c10 (H : Dat W g k0 k1 k2 k3 k4 k5 k6 rows cols v t) : W.cell? ⟨g, 10, none⟩ = some t := (blk_cell H 10).trans rfl
end Dat
namespace Mat
variable {W : World} {g : Nat} {r c : Int} {v : Value}
theorem c0 (H : Mat W g r c v) : W.cell? ⟨g, 0, none⟩ = some (.int .i64 r) := (blk_cell H 0).trans rfl
theorem c1 (H : Mat W g r c v) : W.cell? ⟨g, 1, none⟩ = some (.int .i64 c) := (blk_cell H 1).trans rfl
theorem c2 (H : Mat W g r c v) : W.cell? ⟨g, 2, none⟩ = some v := (blk_cell H 2).trans rfl
theorem f0 (H : Mat W g r c v) : W.frozen? ⟨g, 0, none⟩ = false := blk_frozen H 0
theorem f1 (H : Mat W g r c v) : W.frozen? ⟨g, 1, none⟩ = false := blk_frozen H 1
theorem f2 (H : Mat W g r c v) : W.frozen? ⟨g, 2, none⟩ = false := blk_frozen H 2
end Mat
/-- The plain dataset that came in, and the dataset of it. -/
structure St (w W : World) (g : Nat) (k0 k1 k2 k3 k4 k5 k6 r c : Int) (A9 A10 Av At : Option Addr) (c9 c10 cv ct : Nat) (v t : List Int) (vs : List Nat) : Prop where
  p : Pl W w.heap.size k0 k1 k2 k3 k4 k5 k6 r c (.slice A9 v.length c9) (.slice A10 t.length c10)
  d : Dat W g k0 k1 k2 k3 k4 k5 k6 r c (.slice Av vs.length cv) (.slice At t.length ct)
  fv : Kd.R Flt.kf 36 W w.heap.size (fun _ => True) (.slice Av vs.length cv) vs
  ft : Kd.R (Kd.int .i64) 2 W w.heap.size (fun _ => True) (.slice At t.length ct) t
  b : Below w.heap.size w W
section
variable {w W W' : World} {g gm : Nat} {k0 k1 k2 k3 k4 k5 k6 r c : Int} {A9 A10 Av At : Option Addr} {c9 c10 cv ct : Nat} {v t : List Int} {vs : List Nat}
theorem St.step (h : St w W g k0 k1 k2 k3 k4 k5 k6 r c A9 A10 Av At c9 c10 cv ct v t vs) (hb : Below W.heap.size W W') : St w W' g k0 k1 k2 k3 k4 k5 k6 r c A9 A10 Av At c9 c10 cv ct v t vs :=
  ⟨blk_below h.p hb, blk_below h.d hb, Kd.R_below h.fv hb, Kd.R_below h.ft hb, below_step h.b hb⟩
theorem St.put1 (h : St w W g k0 k1 k2 k3 k4 k5 k6 r c A9 A10 Av At c9 c10 cv ct v t vs) {cs : Array Value} (hm : W.heap[gm]? = some (.cells cs 62 (0, 0))) (hg : w.heap.size ≤ gm) (i : Nat) (u : Value) : St w (W.setCell ⟨gm, i, none⟩ u) g k0 k1 k2 k3 k4 k5 k6 r c A9 A10 Av At c9 c10 cv ct v t vs :=
  ⟨blk_far h.p (p := ⟨gm, i, none⟩) (blk_ne h.p hm (by decide)) u, blk_far h.d (p := ⟨gm, i, none⟩) (blk_ne h.d hm (by decide)) u,
    Kd.R_mono (Kd.R_far (p := ⟨gm, i, none⟩) (Kd.R_types h.fv hm (by decide)) (fun _ hk => hk.2) u) (fun _ _ => trivial),
    Kd.R_mono (Kd.R_far (p := ⟨gm, i, none⟩) (Kd.R_types h.ft hm (by decide)) (fun _ hk => hk.2) u) (fun _ _ => trivial), below_set h.b hg⟩
end
/-- With the matrix. -/
structure Jn (w W : World) (g gm : Nat) (k0 k1 k2 k3 k4 k5 k6 r c : Int) (A9 A10 Av At : Option Addr) (c9 c10 cv ct : Nat) (v t : List Int) (vs : List Nat) (x0 x1 : Int) (x2 um : Value) (cl : List Int) : Prop where
  s : St w W g k0 k1 k2 k3 k4 k5 k6 r c A9 A10 Av At c9 c10 cv ct v t vs
  m : Mat W gm x0 x1 x2
  fc : Kd.R (Kd.int .u16) 53 W w.heap.size (fun _ => True) um cl
  hg : w.heap.size ≤ gm
section
variable {w W W' : World} {g gm : Nat} {k0 k1 k2 k3 k4 k5 k6 r c : Int} {A9 A10 Av At : Option Addr} {c9 c10 cv ct : Nat} {v t : List Int} {vs : List Nat} {x0 x1 : Int} {x2 um : Value} {cl : List Int}
theorem Jn.step (h : Jn w W g gm k0 k1 k2 k3 k4 k5 k6 r c A9 A10 Av At c9 c10 cv ct v t vs x0 x1 x2 um cl) (hb : Below W.heap.size W W') : Jn w W' g gm k0 k1 k2 k3 k4 k5 k6 r c A9 A10 Av At c9 c10 cv ct v t vs x0 x1 x2 um cl :=
  ⟨h.s.step hb, blk_below h.m hb, Kd.R_below h.fc hb, h.hg⟩
theorem Jn.put (h : Jn w W g gm k0 k1 k2 k3 k4 k5 k6 r c A9 A10 Av At c9 c10 cv ct v t vs x0 x1 x2 um cl) (y0 y1 : Int) (y2 : Value) : Jn w (((W.setCell ⟨gm, 0, none⟩ (.int .i64 y0)).setCell ⟨gm, 1, none⟩ (.int .i64 y1)).setCell ⟨gm, 2, none⟩ y2) g gm k0 k1 k2 k3 k4 k5 k6 r c A9 A10 Av At c9 c10 cv ct v t vs y0 y1 y2 um cl := by
  have h1 := blk_set h.m 0 (.int .i64 y0)
  have h2 := blk_set h1 1 (.int .i64 y1)
  have h3 := blk_set h2 2 y2
  have far : ∀ (W : World) (cs : Array Value) (i : Nat) (u : Value), W.heap[gm]? = some (.cells cs 62 (0, 0)) → Kd.R (Kd.int .u16) 53 W w.heap.size (fun _ => True) um cl → Kd.R (Kd.int .u16) 53 (W.setCell ⟨gm, i, none⟩ u) w.heap.size (fun _ => True) um cl := fun W cs i u hm hr =>
    Kd.R_mono (Kd.R_far (p := ⟨gm, i, none⟩) (Kd.R_types hr hm (by decide)) (fun _ hk => hk.2) u) (fun _ _ => trivial)
  exact ⟨((h.s.put1 h.m h.hg 0 _).put1 h1 h.hg 1 _).put1 h2 h.hg 2 _, h3, far _ _ _ _ h2 (far _ _ _ _ h1 (far _ _ _ _ h.m h.fc)), h.hg⟩
theorem drawn_below (h : Drawn0 W W') : Below W.heap.size W W' := by
  obtain ⟨n, rfl⟩ := h
  exact pw_below_drewN (Below.refl _ _) n
end
/-- The edges and the matrix, or that there is none. -/
theorem both (k0 k1 k2 k3 k4 k5 k6 r c : Int) (vs : List Nat) (t : List Int) (hl : vs.length ≤ 500) (hw : W64 vs) (hr : r ≤ 1000) (hc : c ≤ 1000) :
    ∃ (es : List (List Nat)) (mr mc : Int) (cl : List Int) (er : Int), bins_Edges.f 2000 k0 k1 k2 k3 k4 k5 k6 r c vs t = some es ∧ bins_Of.f 2000000 k0 k1 k2 k3 k4 k5 k6 r c vs t es = some (mr, mc, cl, er) ∧
      (er = 8 ∨ ∃ (R C : Nat), r = (R : Int) ∧ c = (C : Int) ∧ mr = (R : Int) ∧ mc = (C : Int) ∧ er = 0 ∧ R ≤ 1000 ∧ C ≤ 1000 ∧ shp R C vs.length = true ∧ cl = cells R (C * R) vs k2) := by
  cases hs : shp r c vs.length with
  | false => exact ⟨[], 0, 0, [], 8, edges_none _ _ _ _ _ _ _ _ _ _ _ hs _, bof_none _ _ _ _ _ _ _ _ _ _ _ hs _ _ (by decide), .inl rfl⟩
  | true =>
    obtain ⟨h1, _, h2, _, _⟩ := shp_is hs
    obtain ⟨R, rfl⟩ : ∃ R : Nat, r = (R : Int) := ⟨r.toNat, by omega⟩
    obtain ⟨C, rfl⟩ : ∃ C : Nat, c = (C : Int) := ⟨c.toNat, by omega⟩
    have hm : C * (R + 2) ≤ 1000 * 1002 := Nat.mul_le_mul (by omega) (by omega)
    exact ⟨_, _, _, _, _, edges_f _ _ _ _ _ _ _ _ _ hs hl hw _ (by omega), bof_f _ _ _ _ _ _ _ _ _ hs hl hw _ (by omega), .inr ⟨R, C, rfl, rfl, rfl, rfl, rfl, by omega, by omega, hs, rfl⟩⟩
theorem next_in {i R : Nat} (h : i < R) (hR : R ≤ 1000) : ∃ i2 : Nat, i2 < R ∧ Int.tmod (wrap64 ((i : Int) + 1)) (R : Int) = (i2 : Int) := by
  refine ⟨(i + 1) % R, Nat.mod_lt _ (by omega), ?_⟩
  rw [wrap_in (by omega) (by omega), show (i : Int) + 1 = ((i + 1 : Nat) : Int) by omega, Int.tmod_eq_emod_of_nonneg (by omega)]
  exact (Int.natCast_emod (i + 1) R).symm
def T4 : Bool × List (List Nat × List Nat) := (true, [([], []), ([], []), ([1], [1]), ([0, 2, 2], [0, 2]), ([3], [3]), ([4], [4]), ([4], [4]), ([], []), ([7, 5, 3, 0, 1, 2, 3, 4, 5, 7], [5, 7]), ([6, 8, 0, 1, 2, 3, 4, 5, 6, 7, 8], [6])])
def T17 : Bool × List (List Nat × List Nat) := (true, [([], []), ([], []), ([1], [1]), ([], []), ([3], [3]), ([2, 4], [2, 4]), ([], []), ([0, 5, 6], [0, 5, 6]), ([7], [7]), ([8], [8]), ([8], [8]), ([9, 7, 0, 1, 2, 3, 4, 5, 6, 7, 8, 9], [9]), ([10, 11, 0, 1, 2, 3, 4, 5, 6, 7, 8, 9, 10, 11], [10])])
def T18 : Bool × List (List Nat × List Nat) := (true, [([], []), ([0], [0]), ([], []), ([], []), ([3], [3]), ([2, 4], [2, 4]), ([], []), ([6], [6]), ([], []), ([8], [8]), ([7, 9], [7, 9]), ([5, 10], [5, 10]), ([1, 11], [1, 11]), ([12], [12]), ([13, 0, 1, 2, 3, 4, 5, 6, 7, 8, 9, 10, 11, 12, 13], [13])])
def B4 : List Nat := [0, 0, 2, 7, 15, 31, 31, 0, 191, 511]
def B17 : List Nat := [0, 0, 2, 0, 8, 30, 0, 127, 255, 511, 511, 1023, 4095]
def B18 : List Nat := [0, 1, 0, 0, 8, 28, 0, 64, 0, 256, 960, 2044, 4095, 8191, 16383]
theorem tab4 : rtab .any (opsOf Try.f10 4) = T4 := by kernel_rfl
theorem bits4 : waitsOk T4.2 B4 = true := by kernel_rfl
theorem tab17 : rtab .any (opsOf Try.f10 17) = T17 := by kernel_rfl
theorem bits17 : waitsOk T17.2 B17 = true := by kernel_rfl
theorem tab18 : rtab .any (opsOf Try.f10 18) = T18 := by kernel_rfl
theorem bits18 : waitsOk T18.2 B18 = true := by kernel_rfl
set_option maxHeartbeats 20000000 in
set_option maxRecDepth 100000 in
theorem law_calls (k0 k1 k2 k3 k4 k5 k6 r c : Int) (A9 A10 : Option Addr) (c9 c10 : Nat) (v t : List Int) (w : World) (hr9 : Kd.C (Kd.int .u64) w A9 v.length v) (hc9 : v.length ≤ c9) (hr10 : Kd.C (Kd.int .i64) w A10 t.length t) (hc10 : t.length ≤ c10) (hv : ∀ y ∈ v, (Lit.int .u64 y).wf = true) :
    Calls Try.prog 10 #[.agg #[.int .i64 k0, .int .i64 k1, .int .i64 k2, .int .i64 k3, .int .i64 k4, .int .i64 k5, .int .i64 k6, .int .i64 r, .int .i64 c, .slice A9 v.length c9, .slice A10 t.length c10]] w fun e w' => e = .returned (.bool true) ∧ Below w.heap.size w w' := by
  have hu := Try.underlying32
  have hu2 := Try.underlying62
  have hu3 := Try.underlying27
  have HR9 := Aside0.mk hr9
  have HC9 := Aside0.mk hc9
  have HR10 := Aside0.mk hr10
  have HC10 := Aside0.mk hc10
  have HV := Aside0.mk (of_w64 hv)
  obtain ⟨W0, hW0⟩ : ∃ W0, w.alloc (.cells #[.int .i64 k0, .int .i64 k1, .int .i64 k2, .int .i64 k3, .int .i64 k4, .int .i64 k5, .int .i64 k6, .int .i64 r, .int .i64 c, .slice A9 v.length c9, .slice A10 t.length c10] 27) = W0 := ⟨_, rfl⟩
  have P0 := Aside0.mk (show Pl W0 w.heap.size k0 k1 k2 k3 k4 k5 k6 r c (.slice A9 v.length c9) (.slice A10 t.length c10) from by rw [← hW0]; exact blk_new w _)
  have B0 := Aside0.mk (show Below w.heap.size w W0 from by rw [← hW0]; exact below_alloc (Below.refl _ w) _)
  have HW0 := Aside0.mk hW0
  clear hr9 hc9 hr10 hc10 hv hW0
  by_cases hg : (decide (500 < v.length) || decide (200 < t.length)) = true
  · have HG := Aside0.mk (show hornbeamlaw09_Great.f k0 k1 k2 k3 k4 k5 k6 r c v t = some true from by rw [great_f, hg])
    clear hg
    go_enter Try.func10, Try.ntmps10
    go_wp2_with (fail)
    rw [HW0.out]
    refine (hornbeamlaw09_Great.calls k0 k1 k2 k3 k4 k5 k6 r c A9 c9 v A10 c10 t true _ (Kd.C_below HR9.out B0.out) HC9.out (Kd.C_below HR10.out B0.out) HC10.out HG.out).mono ?_
    rintro e w1 ⟨rfl, hb⟩
    have B1 := Aside0.mk (below_step B0.out hb)
    clear hb P0 B0 HG HW0
    go_wp2_with (fail)
    refine (hornbeamlaw11_fixed.calls 40 true _ (fixed_t (Nat.le_refl 40))).mono ?_
    rintro e w2 ⟨rfl, hb⟩
    have B2 := Aside0.mk (below_step B1.out hb)
    clear hb B1
    go_wp2
    go_ret
    exact ⟨rfl, B2.out⟩
  have hl : v.length ≤ 500 := by simp at hg; omega
  have ht : t.length ≤ 200 := by simp at hg; omega
  have HG := Aside0.mk (show hornbeamlaw09_Great.f k0 k1 k2 k3 k4 k5 k6 r c v t = some false from by rw [great_f]; congr 1; exact Bool.eq_false_iff.mpr hg)
  have HL := Aside0.mk (And.intro hl ht)
  clear hg hl ht
  by_cases h8 : c > 1000
  · have e8 : decide (c > 1000) = true := decide_eq_true h8
    go_enter Try.func10, Try.ntmps10
    go_wp2_with (fail)
    rw [HW0.out]
    refine (hornbeamlaw09_Great.calls k0 k1 k2 k3 k4 k5 k6 r c A9 c9 v A10 c10 t false _ (Kd.C_below HR9.out B0.out) HC9.out (Kd.C_below HR10.out B0.out) HC10.out HG.out).mono ?_
    rintro e w1 ⟨rfl, hb⟩
    have P1 := Aside0.mk (show Pl w1 w.heap.size k0 k1 k2 k3 k4 k5 k6 r c (.slice A9 v.length c9) (.slice A10 t.length c10) from blk_below P0.out hb)
    have B1 := Aside0.mk (below_step B0.out hb)
    clear hb P0 B0 HG HW0
    have p7 := P1.out.c7
    have p8 := P1.out.c8
    go_wp2_with (fail)
    refine (hornbeamlaw11_fixed.calls 40 true _ (fixed_t (Nat.le_refl 40))).mono ?_
    rintro e w2 ⟨rfl, hb⟩
    have B2 := Aside0.mk (below_step B1.out hb)
    clear hb B1
    go_wp2
    go_ret
    exact ⟨rfl, B2.out⟩
  by_cases h7 : r > 1000
  · have e8 : decide (c > 1000) = false := decide_eq_false h8
    have e7 : decide (r > 1000) = true := decide_eq_true h7
    go_enter Try.func10, Try.ntmps10
    go_wp2_with (fail)
    rw [HW0.out]
    refine (hornbeamlaw09_Great.calls k0 k1 k2 k3 k4 k5 k6 r c A9 c9 v A10 c10 t false _ (Kd.C_below HR9.out B0.out) HC9.out (Kd.C_below HR10.out B0.out) HC10.out HG.out).mono ?_
    rintro e w1 ⟨rfl, hb⟩
    have P1 := Aside0.mk (show Pl w1 w.heap.size k0 k1 k2 k3 k4 k5 k6 r c (.slice A9 v.length c9) (.slice A10 t.length c10) from blk_below P0.out hb)
    have B1 := Aside0.mk (below_step B0.out hb)
    clear hb P0 B0 HG HW0
    have p7 := P1.out.c7
    have p8 := P1.out.c8
    go_wp2_with (fail)
    refine (hornbeamlaw11_fixed.calls 40 true _ (fixed_t (Nat.le_refl 40))).mono ?_
    rintro e w2 ⟨rfl, hb⟩
    have B2 := Aside0.mk (below_step B1.out hb)
    clear hb B1
    go_wp2
    go_ret
    exact ⟨rfl, B2.out⟩
  have e8 : decide (c > 1000) = false := decide_eq_false h8
  have e7 : decide (r > 1000) = false := decide_eq_false h7
  have H87 := Aside0.mk (And.intro h8 h7)
  clear h8 h7
  go_enter Try.func10, Try.ntmps10
  go_wp2_with (fail)
  rw [HW0.out]
  refine (hornbeamlaw09_Great.calls k0 k1 k2 k3 k4 k5 k6 r c A9 c9 v A10 c10 t false _ (Kd.C_below HR9.out B0.out) HC9.out (Kd.C_below HR10.out B0.out) HC10.out HG.out).mono ?_
  rintro e w1 ⟨rfl, hb⟩
  have P1 := Aside0.mk (show Pl w1 w.heap.size k0 k1 k2 k3 k4 k5 k6 r c (.slice A9 v.length c9) (.slice A10 t.length c10) from blk_below P0.out hb)
  have B1 := Aside0.mk (below_step B0.out hb)
  clear hb P0 B0 HG HW0
  have p7 := P1.out.c7
  have p8 := P1.out.c8
  have p0 := P1.out.c0
  have p1 := P1.out.c1
  have p2 := P1.out.c2
  have p3 := P1.out.c3
  have p4 := P1.out.c4
  have p5 := P1.out.c5
  have p6 := P1.out.c6
  have p9 := P1.out.c9
  have p10 := P1.out.c10
  go_wp2_with (fail)
  clear p0 p1 p2 p3 p4 p5 p6 p7 p8 p9 p10 e7 e8
  obtain ⟨vs, hvs⟩ : ∃ vs, vs = v.map Flt.fbits := ⟨_, rfl⟩
  have HF := Aside0.mk (show hornbeamref09_Plain_Full.f 600 k0 k1 k2 k3 k4 k5 k6 r c v t = some (k0, k1, k2, k3, k4, k5, k6, r, c, vs, t) from by rw [hvs]; exact full_f k0 k1 k2 k3 k4 k5 k6 r c v t 600 (by have := HL.out; omega) (by have := HL.out; omega) (by have := HL.out; omega))
  have HVW := Aside0.mk (show W64 vs from by rw [hvs]; exact HV.out)
  have HVL := Aside0.mk (show vs.length ≤ 500 by rw [hvs, List.length_map]; have := HL.out; omega)
  clear hvs
  obtain ⟨es, mr, mc, cl, er, HX⟩ := both k0 k1 k2 k3 k4 k5 k6 r c vs t HVL.out HVW.out (by have := H87.out; omega) (by have := H87.out; omega)
  refine (hornbeamref09_Plain_Full.calls 600 k0 k1 k2 k3 k4 k5 k6 r c A9 c9 v A10 c10 t k0 k1 k2 k3 k4 k5 k6 r c vs t _ (Kd.C_below HR9.out B1.out) HC9.out (Kd.C_below HR10.out B1.out) HC10.out HF.out).mono ?_
  rintro e w2 ⟨u9, u10, rfl, hR9, hR10, hb⟩
  obtain ⟨Av, cv, rfl, _, _⟩ := Kd.R_reads hR9
  obtain ⟨At, ct, rfl, _, _⟩ := Kd.R_reads hR10
  obtain ⟨g, hgg⟩ : ∃ g, w2.heap.size = g := ⟨_, rfl⟩
  obtain ⟨W3, hW3⟩ : ∃ W3, w2.alloc (.cells #[.int .i64 k0, .int .i64 k1, .int .i64 k2, .int .i64 k3, .int .i64 k4, .int .i64 k5, .int .i64 k6, .int .i64 r, .int .i64 c, .slice Av vs.length cv, .slice At t.length ct] 32) = W3 := ⟨_, rfl⟩
  have S3 := Aside0.mk (show St w W3 g k0 k1 k2 k3 k4 k5 k6 r c A9 A10 Av At c9 c10 cv ct v t vs from by
    rw [← hW3, ← hgg]
    exact ⟨blk_alloc (blk_below P1.out hb) _, blk_new w2 _, Kd.R_below (Kd.R_lower hR9 (below_size B1.out)) (below_alloc (Below.refl _ _) _), Kd.R_below (Kd.R_lower hR10 (below_size B1.out)) (below_alloc (Below.refl _ _) _), below_alloc (below_step B1.out hb) _⟩)
  have HW3 := Aside0.mk hW3
  have HGG := Aside0.mk hgg
  clear hR9 hR10 hb P1 B1 hW3 hgg HF
  go_upto_region 4 with (fail)
  rw [HW3.out, HGG.out]
  clear HW3 HGG
  refine start_ (n := 10) (S := fun W => Dat W g k0 k1 k2 k3 k4 k5 k6 r c (.slice Av vs.length cv) (.slice At t.length ct)) (ds := []) #[false, false, false, false, false, false, false, false, false, false] (by kernel_rfl) rfl rfl S3.out.d (fun hHeld => ?_)
  refine with_tabW tab4 bits4 (fun HT_ HW_ => ?_)
  have S4 := Aside0.mk (S3.out.step (below_drew (Below.refl _ _)))
  clear S3
  generalize W3.drew = w3 at S4 hHeld ⊢
  refine take_ (i := 0) (N := some 31) (v := ?_) (a' := ?_) #[true, false, false, false, false, false, false, false, false, false] rfl rfl (take_ofW HT_.out HW_.out (by kernel_rfl)) (fun _ _ _ h => h) (Or.inl ⟨by rfl, ?_⟩) hHeld ?_ ?_
  rotate_left
  · intro w' s
    have q0 := s.c0
    have q1 := s.c1
    have q2 := s.c2
    have q3 := s.c3
    have q4 := s.c4
    have q5 := s.c5
    have q6 := s.c6
    have q7 := s.c7
    have q8 := s.c8
    have q9 := s.c9
    have q10 := s.c10
    clear s
    go_simp
    with_reducible rfl
  rotate_left
  · simp only [Act.put, List.setIfInBounds_toArray, List.set_cons_zero, List.set_cons_succ, i64_w, i32_w]
    rfl
  refine take_ (i := 1) (N := some 32) (v := ?_) (a' := ?_) #[true, true, false, false, false, false, false, false, false, false] rfl rfl (take_ofW HT_.out HW_.out (by kernel_rfl)) (fun _ _ _ h => h) (Or.inl ⟨by rfl, ?_⟩) hHeld ?_ ?_
  rotate_left
  · intro w' s
    have q0 := s.c0
    have q1 := s.c1
    have q2 := s.c2
    have q3 := s.c3
    have q4 := s.c4
    have q5 := s.c5
    have q6 := s.c6
    have q7 := s.c7
    have q8 := s.c8
    have q9 := s.c9
    have q10 := s.c10
    clear s
    go_simp
    with_reducible rfl
  rotate_left
  · simp only [Act.put, List.setIfInBounds_toArray, List.set_cons_zero, List.set_cons_succ, i64_w, i32_w]
    rfl
  refine join_ (σ := Value × Value × Nat) 2 #[true, true, true, true, true, true, true, true, false, false] (fun s_ => [(33, s_.1), (34, .tuple #[.agg #[.int .i64 mr, .int .i64 mc, s_.2.1], .int .i64 er]), (4, .pointer (some ⟨s_.2.2, 0, none⟩)), (30, .tuple #[.agg #[.int .i64 mr, .int .i64 mc, s_.2.1], .int .i64 er]), (35, .agg #[.int .i64 mr, .int .i64 mc, s_.2.1]), (36, .int .i64 er)]) (fun s_ w' => Jn w w' g s_.2.2 k0 k1 k2 k3 k4 k5 k6 r c A9 A10 Av At c9 c10 cv ct v t vs 0 0 (.slice none 0 0) s_.2.1 cl) ?_ ?_
  rotate_left
  · intro hCont
    refine two_ (i := 2) (j := 7) (Ni := some 33) (Nj := some 4) #[true, true, true, false, false, false, false, false, false, false] #[true, true, false, false, false, false, false, true, false, false] rfl rfl rfl rfl (two_of HT_.out (by kernel_rfl)) (by decide) (by decide) (fun K hK => ?_) (fun K hK => ?_)
    · skip
      refine goes_ Try.func26 (by kernel_rfl) rfl #[.agg #[.int .i64 k0, .int .i64 k1, .int .i64 k2, .int .i64 k3, .int .i64 k4, .int .i64 k5, .int .i64 k6, .int .i64 r, .int .i64 c, .slice Av vs.length cv, .slice At t.length ct]] (by rfl) rfl rfl (by (try simp only [List.map_toArray, List.map_cons, List.map_nil]); first | done | rfl) ?_
      refine (bins_Edges.calls 2000 k0 k1 k2 k3 k4 k5 k6 r c Av cv vs At ct t es _ (Kd.R_reads' S4.out.fv).2.2 (Kd.R_reads' S4.out.fv).2.1 (Kd.R_reads' S4.out.ft).2.2 (Kd.R_reads' S4.out.ft).2.1 HX.1).mono ?_
      rintro e wE ⟨u1, rfl, hR1, hb⟩
      obtain ⟨A1, c1, rfl, hc1, hC1⟩ := Kd.S_reads hR1
      have HE := Aside0.mk (And.intro hc1 hC1)
      have S5 := Aside0.mk (S4.out.step hb)
      refine ⟨_, rfl, ?_⟩
      clear hR1 hc1 hC1 hb
      refine hK.out _ _ S5.out.d (fun hHeld => ?_)
      clear hK K
      refine norm_ (a' := ?_) ?_ ?_
      rotate_left
      · show Act.put _ (some 33) _ = _
        simp only [Act.put, List.setIfInBounds_toArray, List.set_cons_zero, List.set_cons_succ, i64_w, i32_w]
        rfl
      clear S4
      refine two_ (i := 3) (j := 7) (Ni := some 34) (Nj := some 4) #[true, true, true, true, false, false, false, false, false, false] #[true, true, true, false, false, false, false, true, false, false] rfl rfl rfl rfl (two_of HT_.out (by kernel_rfl)) (by decide) (by decide) (fun K hK => ?_) (fun K hK => ?_)
      · skip
        refine goes_ Try.func29 (by kernel_rfl) rfl #[.agg #[.int .i64 k0, .int .i64 k1, .int .i64 k2, .int .i64 k3, .int .i64 k4, .int .i64 k5, .int .i64 k6, .int .i64 r, .int .i64 c, .slice Av vs.length cv, .slice At t.length ct], .slice A1 es.length c1] (by rfl) rfl rfl (by (try simp only [List.map_toArray, List.map_cons, List.map_nil]); first | done | rfl) ?_
        refine (bins_Of.calls 2000000 k0 k1 k2 k3 k4 k5 k6 r c Av cv vs At ct t A1 c1 es mr mc cl er _ (Kd.R_reads' S5.out.fv).2.2 (Kd.R_reads' S5.out.fv).2.1 (Kd.R_reads' S5.out.ft).2.2 (Kd.R_reads' S5.out.ft).2.1 HE.out.2 HE.out.1 HX.2.1).mono ?_
        rintro e wO ⟨u2, rfl, hR2, hb⟩
        have HO := Aside0.mk (Kd.R_lower hR2 (below_size S5.out.b))
        have S6 := Aside0.mk (S5.out.step hb)
        refine ⟨_, rfl, ?_⟩
        clear hR2 hb
        refine hK.out _ _ S6.out.d (fun hHeld => ?_)
        clear hK K
        refine norm_ (a' := ?_) ?_ ?_
        rotate_left
        · show Act.put _ (some 34) _ = _
          simp only [Act.put, List.setIfInBounds_toArray, List.set_cons_zero, List.set_cons_succ, i64_w, i32_w]
          rfl
        refine pure_ (i := 4) (N := some 30) (v := ?_) (a' := ?_) #[true, true, true, true, true, false, false, false, false, false] rfl rfl (any_of HT_.out (by kernel_rfl)) (fun _ _ _ h => h) (Or.inl ⟨by rfl, ?_⟩) ?_ ?_
        rotate_left
        · intro w'
          go_simp
          with_reducible rfl
        rotate_left
        · simp only [Act.put, List.setIfInBounds_toArray, List.set_cons_zero, List.set_cons_succ, i64_w, i32_w]
          rfl
        refine pure_ (i := 5) (N := some 35) (v := ?_) (a' := ?_) #[true, true, true, true, true, true, false, false, false, false] rfl rfl (any_of HT_.out (by kernel_rfl)) (fun _ _ _ h => h) (Or.inl ⟨by rfl, ?_⟩) ?_ ?_
        rotate_left
        · intro w'
          go_simp
          with_reducible rfl
        rotate_left
        · simp only [Act.put, List.setIfInBounds_toArray, List.set_cons_zero, List.set_cons_succ, i64_w, i32_w]
          rfl
        refine pure_ (i := 6) (N := some 36) (v := ?_) (a' := ?_) #[true, true, true, true, true, true, true, false, false, false] rfl rfl (any_of HT_.out (by kernel_rfl)) (fun _ _ _ h => h) (Or.inl ⟨by rfl, ?_⟩) ?_ ?_
        rotate_left
        · intro w'
          go_simp
          with_reducible rfl
        rotate_left
        · simp only [Act.put, List.setIfInBounds_toArray, List.set_cons_zero, List.set_cons_succ, i64_w, i32_w]
          rfl
        refine one_ (i := 7) (N := some 4) #[true, true, true, true, true, true, true, true, false, false] rfl rfl (one_of HT_.out (by kernel_rfl)) (by decide) (fun K hK => ?_)
        refine box_step ?hg (N := 4) ?hd (cs := #[.int .i64 0, .int .i64 0, .slice none 0 0]) (t := 62) ?hr ?_
        (case hd => rfl)
        (case hg => rfl)
        (case hr => first | (go_simp; done) | (go_simp; rfl))
        intro gm hg wB hbox hb
        have HM := Aside0.mk (show Mat wB gm 0 0 (.slice none 0 0) from hbox)
        have HGM := Aside0.mk (show w.heap.size ≤ gm by rw [hg]; exact below_size S6.out.b)
        have S7 := Aside0.mk (S6.out.step hb)
        have HO := Aside0.mk (Kd.R_below HO.out hb)
        clear hg hbox hb
        refine hK.out _ _ S7.out.d (fun hHeld => ?_)
        clear hK K
        refine norm_ (a' := ?_) ?_ ?_
        rotate_left
        · show Act.put _ (some 4) _ = _
          simp only [Act.put, List.setIfInBounds_toArray, List.set_cons_zero, List.set_cons_succ, i64_w, i32_w]
          rfl
        exact norm_ (by simp only [putAll, Act.put, List.setIfInBounds_toArray, List.set_cons_zero, List.set_cons_succ]) (hCont (.slice A1 es.length c1, u2, gm) _ ⟨S7.out, HM.out, HO.out, HGM.out⟩)
      · skip
        refine box_step ?hg (N := 4) ?hd (cs := #[.int .i64 0, .int .i64 0, .slice none 0 0]) (t := 62) ?hr ?_
        (case hd => rfl)
        (case hg => rfl)
        (case hr => first | (go_simp; done) | (go_simp; rfl))
        intro gm hg wB hbox hb
        have HM := Aside0.mk (show Mat wB gm 0 0 (.slice none 0 0) from hbox)
        have HGM := Aside0.mk (show w.heap.size ≤ gm by rw [hg]; exact below_size S5.out.b)
        have S6 := Aside0.mk (S5.out.step hb)
        have HE := Aside0.mk (And.intro HE.out.1 (Kd.C_below HE.out.2 hb))
        clear hg hbox hb
        refine hK.out _ _ S6.out.d (fun hHeld => ?_)
        clear hK K
        refine norm_ (a' := ?_) ?_ ?_
        rotate_left
        · show Act.put _ (some 4) _ = _
          simp only [Act.put, List.setIfInBounds_toArray, List.set_cons_zero, List.set_cons_succ, i64_w, i32_w]
          rfl
        refine one_ (i := 3) (N := some 34) #[true, true, true, true, false, false, false, true, false, false] rfl rfl (one_of HT_.out (by kernel_rfl)) (by decide) (fun K hK => ?_)
        refine goes_ Try.func29 (by kernel_rfl) rfl #[.agg #[.int .i64 k0, .int .i64 k1, .int .i64 k2, .int .i64 k3, .int .i64 k4, .int .i64 k5, .int .i64 k6, .int .i64 r, .int .i64 c, .slice Av vs.length cv, .slice At t.length ct], .slice A1 es.length c1] (by rfl) rfl rfl (by (try simp only [List.map_toArray, List.map_cons, List.map_nil]); first | done | rfl) ?_
        refine (bins_Of.calls 2000000 k0 k1 k2 k3 k4 k5 k6 r c Av cv vs At ct t A1 c1 es mr mc cl er _ (Kd.R_reads' S6.out.fv).2.2 (Kd.R_reads' S6.out.fv).2.1 (Kd.R_reads' S6.out.ft).2.2 (Kd.R_reads' S6.out.ft).2.1 HE.out.2 HE.out.1 HX.2.1).mono ?_
        rintro e wO ⟨u2, rfl, hR2, hb⟩
        have HO := Aside0.mk (Kd.R_lower hR2 (below_size S6.out.b))
        have S7 := Aside0.mk (S6.out.step hb)
        have HM := Aside0.mk (show Mat wO gm 0 0 (.slice none 0 0) from blk_below HM.out hb)
        refine ⟨_, rfl, ?_⟩
        clear hR2 hb
        refine hK.out _ _ S7.out.d (fun hHeld => ?_)
        clear hK K
        refine norm_ (a' := ?_) ?_ ?_
        rotate_left
        · show Act.put _ (some 34) _ = _
          simp only [Act.put, List.setIfInBounds_toArray, List.set_cons_zero, List.set_cons_succ, i64_w, i32_w]
          rfl
        refine pure_ (i := 4) (N := some 30) (v := ?_) (a' := ?_) #[true, true, true, true, true, false, false, true, false, false] rfl rfl (any_of HT_.out (by kernel_rfl)) (fun _ _ _ h => h) (Or.inl ⟨by rfl, ?_⟩) ?_ ?_
        rotate_left
        · intro w'
          go_simp
          with_reducible rfl
        rotate_left
        · simp only [Act.put, List.setIfInBounds_toArray, List.set_cons_zero, List.set_cons_succ, i64_w, i32_w]
          rfl
        refine pure_ (i := 5) (N := some 35) (v := ?_) (a' := ?_) #[true, true, true, true, true, true, false, true, false, false] rfl rfl (any_of HT_.out (by kernel_rfl)) (fun _ _ _ h => h) (Or.inl ⟨by rfl, ?_⟩) ?_ ?_
        rotate_left
        · intro w'
          go_simp
          with_reducible rfl
        rotate_left
        · simp only [Act.put, List.setIfInBounds_toArray, List.set_cons_zero, List.set_cons_succ, i64_w, i32_w]
          rfl
        refine pure_ (i := 6) (N := some 36) (v := ?_) (a' := ?_) #[true, true, true, true, true, true, true, true, false, false] rfl rfl (any_of HT_.out (by kernel_rfl)) (fun _ _ _ h => h) (Or.inl ⟨by rfl, ?_⟩) ?_ ?_
        rotate_left
        · intro w'
          go_simp
          with_reducible rfl
        rotate_left
        · simp only [Act.put, List.setIfInBounds_toArray, List.set_cons_zero, List.set_cons_succ, i64_w, i32_w]
          rfl
        exact norm_ (by simp only [putAll, Act.put, List.setIfInBounds_toArray, List.set_cons_zero, List.set_cons_succ]) (hCont (.slice A1 es.length c1, u2, gm) _ ⟨S7.out, HM.out, HO.out, HGM.out⟩)
    · skip
      refine box_step ?hg (N := 4) ?hd (cs := #[.int .i64 0, .int .i64 0, .slice none 0 0]) (t := 62) ?hr ?_
      (case hd => rfl)
      (case hg => rfl)
      (case hr => first | (go_simp; done) | (go_simp; rfl))
      intro gm hg wB hbox hb
      have HM := Aside0.mk (show Mat wB gm 0 0 (.slice none 0 0) from hbox)
      have HGM := Aside0.mk (show w.heap.size ≤ gm by rw [hg]; exact below_size S4.out.b)
      have S5 := Aside0.mk (S4.out.step hb)
      clear hg hbox hb
      refine hK.out _ _ S5.out.d (fun hHeld => ?_)
      clear hK K
      refine norm_ (a' := ?_) ?_ ?_
      rotate_left
      · show Act.put _ (some 4) _ = _
        simp only [Act.put, List.setIfInBounds_toArray, List.set_cons_zero, List.set_cons_succ, i64_w, i32_w]
        rfl
      refine one_ (i := 2) (N := some 33) #[true, true, true, false, false, false, false, true, false, false] rfl rfl (one_of HT_.out (by kernel_rfl)) (by decide) (fun K hK => ?_)
      refine goes_ Try.func26 (by kernel_rfl) rfl #[.agg #[.int .i64 k0, .int .i64 k1, .int .i64 k2, .int .i64 k3, .int .i64 k4, .int .i64 k5, .int .i64 k6, .int .i64 r, .int .i64 c, .slice Av vs.length cv, .slice At t.length ct]] (by rfl) rfl rfl (by (try simp only [List.map_toArray, List.map_cons, List.map_nil]); first | done | rfl) ?_
      refine (bins_Edges.calls 2000 k0 k1 k2 k3 k4 k5 k6 r c Av cv vs At ct t es _ (Kd.R_reads' S5.out.fv).2.2 (Kd.R_reads' S5.out.fv).2.1 (Kd.R_reads' S5.out.ft).2.2 (Kd.R_reads' S5.out.ft).2.1 HX.1).mono ?_
      rintro e wE ⟨u1, rfl, hR1, hb⟩
      obtain ⟨A1, c1, rfl, hc1, hC1⟩ := Kd.S_reads hR1
      have HE := Aside0.mk (And.intro hc1 hC1)
      have S6 := Aside0.mk (S5.out.step hb)
      have HM := Aside0.mk (show Mat wE gm 0 0 (.slice none 0 0) from blk_below HM.out hb)
      refine ⟨_, rfl, ?_⟩
      clear hR1 hc1 hC1 hb
      refine hK.out _ _ S6.out.d (fun hHeld => ?_)
      clear hK K
      refine norm_ (a' := ?_) ?_ ?_
      rotate_left
      · show Act.put _ (some 33) _ = _
        simp only [Act.put, List.setIfInBounds_toArray, List.set_cons_zero, List.set_cons_succ, i64_w, i32_w]
        rfl
      refine one_ (i := 3) (N := some 34) #[true, true, true, true, false, false, false, true, false, false] rfl rfl (one_of HT_.out (by kernel_rfl)) (by decide) (fun K hK => ?_)
      refine goes_ Try.func29 (by kernel_rfl) rfl #[.agg #[.int .i64 k0, .int .i64 k1, .int .i64 k2, .int .i64 k3, .int .i64 k4, .int .i64 k5, .int .i64 k6, .int .i64 r, .int .i64 c, .slice Av vs.length cv, .slice At t.length ct], .slice A1 es.length c1] (by rfl) rfl rfl (by (try simp only [List.map_toArray, List.map_cons, List.map_nil]); first | done | rfl) ?_
      refine (bins_Of.calls 2000000 k0 k1 k2 k3 k4 k5 k6 r c Av cv vs At ct t A1 c1 es mr mc cl er _ (Kd.R_reads' S6.out.fv).2.2 (Kd.R_reads' S6.out.fv).2.1 (Kd.R_reads' S6.out.ft).2.2 (Kd.R_reads' S6.out.ft).2.1 HE.out.2 HE.out.1 HX.2.1).mono ?_
      rintro e wO ⟨u2, rfl, hR2, hb⟩
      have HO := Aside0.mk (Kd.R_lower hR2 (below_size S6.out.b))
      have S7 := Aside0.mk (S6.out.step hb)
      have HM := Aside0.mk (show Mat wO gm 0 0 (.slice none 0 0) from blk_below HM.out hb)
      refine ⟨_, rfl, ?_⟩
      clear hR2 hb
      refine hK.out _ _ S7.out.d (fun hHeld => ?_)
      clear hK K
      refine norm_ (a' := ?_) ?_ ?_
      rotate_left
      · show Act.put _ (some 34) _ = _
        simp only [Act.put, List.setIfInBounds_toArray, List.set_cons_zero, List.set_cons_succ, i64_w, i32_w]
        rfl
      refine pure_ (i := 4) (N := some 30) (v := ?_) (a' := ?_) #[true, true, true, true, true, false, false, true, false, false] rfl rfl (any_of HT_.out (by kernel_rfl)) (fun _ _ _ h => h) (Or.inl ⟨by rfl, ?_⟩) ?_ ?_
      rotate_left
      · intro w'
        go_simp
        with_reducible rfl
      rotate_left
      · simp only [Act.put, List.setIfInBounds_toArray, List.set_cons_zero, List.set_cons_succ, i64_w, i32_w]
        rfl
      refine pure_ (i := 5) (N := some 35) (v := ?_) (a' := ?_) #[true, true, true, true, true, true, false, true, false, false] rfl rfl (any_of HT_.out (by kernel_rfl)) (fun _ _ _ h => h) (Or.inl ⟨by rfl, ?_⟩) ?_ ?_
      rotate_left
      · intro w'
        go_simp
        with_reducible rfl
      rotate_left
      · simp only [Act.put, List.setIfInBounds_toArray, List.set_cons_zero, List.set_cons_succ, i64_w, i32_w]
        rfl
      refine pure_ (i := 6) (N := some 36) (v := ?_) (a' := ?_) #[true, true, true, true, true, true, true, true, false, false] rfl rfl (any_of HT_.out (by kernel_rfl)) (fun _ _ _ h => h) (Or.inl ⟨by rfl, ?_⟩) ?_ ?_
      rotate_left
      · intro w'
        go_simp
        with_reducible rfl
      rotate_left
      · simp only [Act.put, List.setIfInBounds_toArray, List.set_cons_zero, List.set_cons_succ, i64_w, i32_w]
        rfl
      exact norm_ (by simp only [putAll, Act.put, List.setIfInBounds_toArray, List.set_cons_zero, List.set_cons_succ]) (hCont (.slice A1 es.length c1, u2, gm) _ ⟨S7.out, HM.out, HO.out, HGM.out⟩)
  rintro ⟨u1, um, gm⟩ w4 hJ4
  have J4 := Aside0.mk hJ4
  clear hJ4
  dsimp only at J4
  clear S4 hHeld
  obtain ⟨Am, cm, eum⟩ := Kd.R_slice J4.out.fc
  subst eum
  refine norm_ (a' := ?_) ?_ ?_
  rotate_left
  · simp only [putAll, Act.put, List.setIfInBounds_toArray, List.set_cons_zero, List.set_cons_succ]
    rfl
  have m0 := J4.out.m.c0
  have m1 := J4.out.m.c1
  have m2 := J4.out.m.c2
  have z0 := J4.out.m.f0
  have z1 := J4.out.m.f1
  have z2 := J4.out.m.f2
  refine one_ (i := 8) (N := none) #[true, true, true, true, true, true, true, true, true, false] rfl rfl (one_of HT_.out (by kernel_rfl)) (by decide) (fun K hK => ?_)
  refine skip_ (w1 := ?_) (by rfl) rfl ?_ ?_
  rotate_left
  · go_simp
    rfl
  have J5 := Aside0.mk (J4.out.put mr mc (.slice Am cl.length cm))
  refine hK.out _ _ J5.out.s.d (fun hHeld => ?_)
  clear hK K m0 m1 m2 z0 z1 z2 J4
  generalize (((w4.setCell ⟨gm, 0, none⟩ (.int .i64 mr)).setCell ⟨gm, 1, none⟩ (.int .i64 mc)).setCell ⟨gm, 2, none⟩ (.slice Am cl.length cm)) = w5 at J5 hHeld ⊢
  refine pure_ (i := 9) (N := some 5) (v := ?_) (a' := ?_) #[true, true, true, true, true, true, true, true, true, true] rfl rfl (any_of HT_.out (by kernel_rfl)) (fun _ _ _ h => h) (Or.inl ⟨by rfl, ?_⟩) ?_ ?_
  rotate_left
  · intro w'
    go_simp
    with_reducible rfl
  rotate_left
  · simp only [Act.put, List.setIfInBounds_toArray, List.set_cons_zero, List.set_cons_succ, i64_w, i32_w]
    rfl
  refine done_ (done_of HT_.out (by kernel_rfl)) ?_
  clear hHeld HT_ HW_
  obtain ⟨_, _, HX⟩ := HX
  rcases HX with rfl | ⟨R, C, rfl, rfl, rfl, rfl, rfl, hR, hC, hs, hcl⟩
  · have e0 : ((8 : Int) != 0) = true := rfl
    have e1 : ((8 : Int) == 8) = true := rfl
    go_wp2_with (fail)
    refine (hornbeamlaw11_fixed.calls 40 true _ (fixed_t (Nat.le_refl 40))).mono ?_
    rintro e w6 ⟨rfl, hb⟩
    have J6 := Aside0.mk (J5.out.step hb)
    clear hb J5
    go_wp2
    go_ret
    exact ⟨rfl, J6.out.s.b⟩
  have HS := Aside0.mk hs
  have HCL := Aside0.mk hcl
  clear hs hcl
  have p8 := J5.out.s.p.c8
  go_wp2_with (fail)
  clear p8
  go_loopw [46] (fun v46 w' => ∃ j : Nat, j ≤ C ∧ v46 = .int .i64 j ∧ Aside0 (Jn w w' g gm k0 k1 k2 k3 k4 k5 k6 R C A9 A10 Av At c9 c10 cv ct v t vs R C (.slice Am cl.length cm) (.slice Am cl.length cm) cl)) (fun u _ => C - (intOf u).toNat)
  case atStart => exact ⟨0, by omega, rfl, J5⟩
  case round =>
    obtain ⟨j, hj, rfl, JJ⟩ := hrel
    clear J5
    by_cases hlt : j < C
    · have d0 : decide ((j : Int) < (C : Int)) = true := decide_eq_true (by omega)
      have p7 := JJ.out.s.p.c7
      go_wp2_with (fail)
      clear p7 d0
      go_loopw [51] (fun v51 w' => ∃ i : Nat, i ≤ R ∧ v51 = .int .i64 i ∧ Aside0 (Jn w w' g gm k0 k1 k2 k3 k4 k5 k6 R C A9 A10 Av At c9 c10 cv ct v t vs R C (.slice Am cl.length cm) (.slice Am cl.length cm) cl)) (fun u _ => R - (intOf u).toNat)
      case atStart => exact ⟨0, by omega, rfl, JJ⟩
      case round =>
        obtain ⟨i, hi, rfl, JI⟩ := hrel
        clear JJ
        by_cases hil : i < R
        · have d0 : decide ((i : Int) < (R : Int)) = true := decide_eq_true (by omega)
          obtain ⟨i2, hi2, hmod⟩ := next_in hil hR
          have HI2 := Aside0.mk hi2
          have HMOD := Aside0.mk hmod
          clear hi2 hmod
          obtain ⟨x, hx⟩ : ∃ x, x = bn R vs k2 i j := ⟨_, rfl⟩
          obtain ⟨y, hy⟩ : ∃ y, y = bn R vs k2 i2 j := ⟨_, rfl⟩
          have HCF := Aside0.mk (show bins_Cell.f R C cl i j = some (x, true) by rw [HCL.out, hx]; exact cell_f HS.out k2 hlt hil)
          have HCF2 := Aside0.mk (show bins_Cell.f R C cl i2 j = some (y, true) by rw [HCL.out, hy]; exact cell_f HS.out k2 hlt HI2.out)
          obtain ⟨pl1, pl2⟩ := place_in HS.out hlt hil
          obtain ⟨pk1, pk2⟩ := place_in HS.out hlt HI2.out
          obtain ⟨p, hp⟩ : ∃ p, p = j * R + i := ⟨_, rfl⟩
          obtain ⟨q, hq⟩ : ∃ q, q = j * R + i2 := ⟨_, rfl⟩
          rw [← hp] at pl1 pl2
          rw [← hq] at pk1 pk2
          obtain ⟨f, hf⟩ : ∃ f, f = vs.getD p 0 := ⟨_, rfl⟩
          obtain ⟨h, hh⟩ : ∃ h, h = vs.getD q 0 := ⟨_, rfl⟩
          obtain ⟨mi, hmi⟩ : ∃ mi, mi = decide (nan f) := ⟨_, rfl⟩
          obtain ⟨o, ho⟩ : ∃ o, o = cmp f h := ⟨_, rfl⟩
          have HMI := Aside0.mk (show hornbeamref06_Missing.f f = some mi by rw [hmi]; exact missing_f f)
          have HCM := Aside0.mk (show hornbeamref06_Cmp.f 5 f h = some o by rw [ho, hf, hh]; exact ref_cmp (getD_w HVW.out _) (getD_w HVW.out _) 4)
          have HXM := Aside0.mk (show ((x == 0) == mi) = true by rw [hmi, hf, hx, hp, beqd, zero_iff (C := C)]; simp)
          have HXY := Aside0.mk (show (o < 0 → x ≤ y) ∧ (o = 0 → x = y) ∧ (0 < o → y ≤ x) by
            rw [ho, hf, hh, hx, hy, hp, hq]
            refine ⟨fun h1 => order_lt HVW.out k2 (by omega), fun h1 => Int.le_antisymm (order_lt HVW.out k2 (by omega)) (order_gt HVW.out k2 (by omega)), fun h1 => order_gt HVW.out k2 (by omega)⟩)
          have HPL := Aside0.mk (And.intro pl1 pl2)
          have HPK := Aside0.mk (And.intro pk1 pk2)
          have HFV := Aside0.mk (And.intro hf hh)
          clear hx hy hp hq hf hh hmi ho pl1 pl2 pk1 pk2
          have m0 := JI.out.m.c0
          have m1 := JI.out.m.c1
          have m2 := JI.out.m.c2
          go_wp2_with (fail)
          clear m0 m1 m2 d0
          refine (bins_Cell.calls R C Am cm cl i j x true _ (Kd.R_reads' JI.out.fc).2.2 (Kd.R_reads' JI.out.fc).2.1 HCF.out).mono ?_
          rintro e w6 ⟨rfl, hb⟩
          have J1 := Aside0.mk (JI.out.step hb)
          clear hb
          obtain ⟨pl1, pl2⟩ := HPL.out
          obtain ⟨ad, ea, hc1⟩ := Flt.at_kf (Kd.R_reads' J1.out.s.fv).2.2 (p : Int) (by omega) (by omega)
          cases ea
          simp only [rdOf, Int.toNat_natCast] at hc1
          rw [← HFV.out.1] at hc1
          have q9 := J1.out.s.d.c9
          have p7 := J1.out.s.p.c7
          go_wp2_with (fail)
          clear q9 p7 hc1 pl1 pl2
          refine (hornbeamref06_Missing.calls f mi _ HMI.out).mono ?_
          rintro e w7 ⟨rfl, hdr⟩
          have J2 := Aside0.mk (J1.out.step (drawn_below hdr))
          clear hdr J1 JI
          have dv := HXM.out
          go_upto_region 17 with (fail)
          clear dv
          refine start_ (n := 13) (S := fun W => Mat W gm R C (.slice Am cl.length cm) ∧ Pl W w.heap.size k0 k1 k2 k3 k4 k5 k6 R C (.slice A9 v.length c9) (.slice A10 t.length c10)) (ds := []) #[false, false, false, false, false, false, false, false, false, false, false, false, false] (by kernel_rfl) rfl rfl ⟨J2.out.m, J2.out.s.p⟩ (fun hHeld => ?_)
          refine with_tabW tab17 bits17 (fun HT_ HW_ => ?_)
          have J3 := Aside0.mk (J2.out.step (below_drew (Below.refl _ _)))
          clear J2
          generalize w7.drew = w8 at J3 hHeld ⊢
          have hmod := HMOD.out
          have hR0 : ¬ R = 0 := by omega
          have hR1 : ((R : Int) == 0) = false := by simp; omega
          refine take_ (i := 0) (N := some 81) (v := ?_) (a' := ?_) #[true, false, false, false, false, false, false, false, false, false, false, false, false] rfl rfl (take_ofW HT_.out HW_.out (by kernel_rfl)) (fun _ _ _ h => h) (Or.inl ⟨by rfl, ?_⟩) hHeld ?_ ?_
          rotate_left
          · intro w' s
            have m0 := s.1.c0
            have m1 := s.1.c1
            have m2 := s.1.c2
            clear s
            go_simp
            with_reducible rfl
          rotate_left
          · simp only [Act.put, List.setIfInBounds_toArray, List.set_cons_zero, List.set_cons_succ, i64_w, i32_w]
            rfl
          refine pure_ (i := 1) (N := some 82) (v := ?_) (a' := ?_) #[true, true, false, false, false, false, false, false, false, false, false, false, false] rfl rfl (any_of HT_.out (by kernel_rfl)) (fun _ _ _ h => h) (Or.inl ⟨by rfl, ?_⟩) ?_ ?_
          rotate_left
          · intro w'
            go_simp
            with_reducible rfl
          rotate_left
          · simp only [Act.put, List.setIfInBounds_toArray, List.set_cons_zero, List.set_cons_succ, i64_w, i32_w]
            rfl
          refine pure_ (i := 2) (N := some 83) (v := ?_) (a' := ?_) #[true, true, true, false, false, false, false, false, false, false, false, false, false] rfl rfl (any_of HT_.out (by kernel_rfl)) (fun _ _ _ h => h) (Or.inl ⟨by rfl, ?_⟩) ?_ ?_
          rotate_left
          · intro w'
            go_simp
            with_reducible rfl
          rotate_left
          · simp only [Act.put, List.setIfInBounds_toArray, List.set_cons_zero, List.set_cons_succ, i64_w, i32_w]
            rfl
          refine pure_ (i := 3) (N := some 84) (v := ?_) (a' := ?_) #[true, true, true, true, false, false, false, false, false, false, false, false, false] rfl rfl (any_of HT_.out (by kernel_rfl)) (fun _ _ _ h => h) (Or.inl ⟨by rfl, ?_⟩) ?_ ?_
          rotate_left
          · intro w'
            go_simp
            with_reducible rfl
          rotate_left
          · simp only [Act.put, List.setIfInBounds_toArray, List.set_cons_zero, List.set_cons_succ, i64_w, i32_w]
            rfl
          refine take_ (i := 4) (N := some 85) (v := ?_) (a' := ?_) #[true, true, true, true, true, false, false, false, false, false, false, false, false] rfl rfl (take_ofW HT_.out HW_.out (by kernel_rfl)) (fun _ _ _ h => h) (Or.inl ⟨by rfl, ?_⟩) hHeld ?_ ?_
          rotate_left
          · intro w' s
            have p7 := s.2.c7
            clear s
            go_simp
            with_reducible rfl
          rotate_left
          · simp only [Act.put, List.setIfInBounds_toArray, List.set_cons_zero, List.set_cons_succ, i64_w, i32_w]
            rfl
          refine pure_ (i := 5) (N := some 86) (v := ?_) (a' := ?_) #[true, true, true, true, true, true, false, false, false, false, false, false, false] rfl rfl (any_of HT_.out (by kernel_rfl)) (fun _ _ _ h => h) (Or.inl ⟨by rfl, ?_⟩) ?_ ?_
          rotate_left
          · intro w'
            go_simp
            with_reducible rfl
          rotate_left
          · simp only [Act.put, List.setIfInBounds_toArray, List.set_cons_zero, List.set_cons_succ, i64_w, i32_w]
            rfl
          refine pure_ (i := 6) (N := some 87) (v := ?_) (a' := ?_) #[true, true, true, true, true, true, true, false, false, false, false, false, false] rfl rfl (any_of HT_.out (by kernel_rfl)) (fun _ _ _ h => h) (Or.inl ⟨by rfl, ?_⟩) ?_ ?_
          rotate_left
          · intro w'
            go_simp
            with_reducible rfl
          rotate_left
          · simp only [Act.put, List.setIfInBounds_toArray, List.set_cons_zero, List.set_cons_succ, i64_w, i32_w]
            rfl
          refine one_ (i := 7) (N := some 88) #[true, true, true, true, true, true, true, true, false, false, false, false, false] rfl rfl (one_of HT_.out (by kernel_rfl)) (by decide) (fun K hK => ?_)
          refine goes_ Try.func37 (by kernel_rfl) rfl #[.agg #[.int .i64 (R : Int), .int .i64 (C : Int), .slice Am cl.length cm], .int .i64 (i2 : Int), .int .i64 (j : Int)] (by rfl) rfl rfl (by (try simp only [List.map_toArray, List.map_cons, List.map_nil]); first | done | rfl) ?_
          refine (bins_Cell.calls R C Am cm cl i2 j y true _ (Kd.R_reads' J3.out.fc).2.2 (Kd.R_reads' J3.out.fc).2.1 HCF2.out).mono ?_
          rintro e w9 ⟨rfl, hb⟩
          refine ⟨_, rfl, ?_⟩
          have J4 := Aside0.mk (J3.out.step hb)
          clear hb J3
          refine hK.out _ _ ⟨J4.out.m, J4.out.s.p⟩ (fun hHeld => ?_)
          clear hK K
          refine norm_ (a' := ?_) ?_ ?_
          rotate_left
          · show Act.put _ (some 88) _ = _
            simp only [Act.put, List.setIfInBounds_toArray, List.set_cons_zero, List.set_cons_succ, i64_w, i32_w]
            rfl
          refine pure_ (i := 8) (N := some 80) (v := ?_) (a' := ?_) #[true, true, true, true, true, true, true, true, true, false, false, false, false] rfl rfl (any_of HT_.out (by kernel_rfl)) (fun _ _ _ h => h) (Or.inl ⟨by rfl, ?_⟩) ?_ ?_
          rotate_left
          · intro w'
            go_simp
            with_reducible rfl
          rotate_left
          · simp only [Act.put, List.setIfInBounds_toArray, List.set_cons_zero, List.set_cons_succ, i64_w, i32_w]
            rfl
          refine pure_ (i := 9) (N := some 89) (v := ?_) (a' := ?_) #[true, true, true, true, true, true, true, true, true, true, false, false, false] rfl rfl (any_of HT_.out (by kernel_rfl)) (fun _ _ _ h => h) (Or.inl ⟨by rfl, ?_⟩) ?_ ?_
          rotate_left
          · intro w'
            go_simp
            with_reducible rfl
          rotate_left
          · simp only [Act.put, List.setIfInBounds_toArray, List.set_cons_zero, List.set_cons_succ, i64_w, i32_w]
            rfl
          refine pure_ (i := 10) (N := some 90) (v := ?_) (a' := ?_) #[true, true, true, true, true, true, true, true, true, true, true, false, false] rfl rfl (any_of HT_.out (by kernel_rfl)) (fun _ _ _ h => h) (Or.inl ⟨by rfl, ?_⟩) ?_ ?_
          rotate_left
          · intro w'
            go_simp
            with_reducible rfl
          rotate_left
          · simp only [Act.put, List.setIfInBounds_toArray, List.set_cons_zero, List.set_cons_succ, i64_w, i32_w]
            rfl
          refine pure_ (i := 11) (N := some 11) (v := ?_) (a' := ?_) #[true, true, true, true, true, true, true, true, true, true, true, true, false] rfl rfl (any_of HT_.out (by kernel_rfl)) (fun _ _ _ h => h) (Or.inl ⟨by rfl, ?_⟩) ?_ ?_
          rotate_left
          · intro w'
            go_simp
            with_reducible rfl
          rotate_left
          · simp only [Act.put, List.setIfInBounds_toArray, List.set_cons_zero, List.set_cons_succ, i64_w, i32_w]
            rfl
          refine pure_ (i := 12) (N := some 12) (v := ?_) (a' := ?_) #[true, true, true, true, true, true, true, true, true, true, true, true, true] rfl rfl (any_of HT_.out (by kernel_rfl)) (fun _ _ _ h => h) (Or.inl ⟨by rfl, ?_⟩) ?_ ?_
          rotate_left
          · intro w'
            go_simp
            with_reducible rfl
          rotate_left
          · simp only [Act.put, List.setIfInBounds_toArray, List.set_cons_zero, List.set_cons_succ, i64_w, i32_w]
            rfl
          refine done_ (done_of HT_.out (by kernel_rfl)) ?_
          clear hHeld HT_ HW_
          go_upto_region 18 with (fail)
          obtain ⟨pk1, pk2⟩ := HPK.out
          obtain ⟨ad2, ea2, hc2⟩ := Flt.at_kf (Kd.R_reads' J4.out.s.fv).2.2 (q : Int) (by omega) (by omega)
          cases ea2
          simp only [rdOf, Int.toNat_natCast] at hc2
          rw [← HFV.out.2] at hc2
          refine start_ (n := 15) (S := fun W => W.cell? ⟨g, 9, none⟩ = some (.slice (some ad) vs.length cv) ∧ W.cell? ⟨w.heap.size, 7, none⟩ = some (.int .i64 (R : Int)) ∧ W.cell? (ad.add q) = some (.float .f64 h)) (ds := []) #[false, false, false, false, false, false, false, false, false, false, false, false, false, false, false] (by kernel_rfl) rfl rfl ⟨J4.out.s.d.c9, J4.out.s.p.c7, hc2⟩ (fun hHeld => ?_)
          refine with_tabW tab18 bits18 (fun HT_ HW_ => ?_)
          have J5 := Aside0.mk (J4.out.step (below_drew (Below.refl _ _)))
          clear J4 hc2
          generalize w9.drew = w10 at J5 hHeld ⊢
          refine pure_ (i := 0) (N := some 91) (v := ?_) (a' := ?_) #[true, false, false, false, false, false, false, false, false, false, false, false, false, false, false] rfl rfl (any_of HT_.out (by kernel_rfl)) (fun _ _ _ h => h) (Or.inl ⟨by rfl, ?_⟩) ?_ ?_
          rotate_left
          · intro w'
            go_simp
            with_reducible rfl
          rotate_left
          · simp only [Act.put, List.setIfInBounds_toArray, List.set_cons_zero, List.set_cons_succ, i64_w, i32_w]
            rfl
          refine take_ (i := 1) (N := some 92) (v := ?_) (a' := ?_) #[true, true, false, false, false, false, false, false, false, false, false, false, false, false, false] rfl rfl (take_ofW HT_.out HW_.out (by kernel_rfl)) (fun _ _ _ h => h) (Or.inl ⟨by rfl, ?_⟩) hHeld ?_ ?_
          rotate_left
          · intro w' s
            have s0 := s.1
            have s1 := s.2.1
            have s2 := s.2.2
            clear s
            go_simp
            with_reducible rfl
          rotate_left
          · simp only [Act.put, List.setIfInBounds_toArray, List.set_cons_zero, List.set_cons_succ, i64_w, i32_w]
            rfl
          refine pure_ (i := 2) (N := some 93) (v := ?_) (a' := ?_) #[true, true, true, false, false, false, false, false, false, false, false, false, false, false, false] rfl rfl (any_of HT_.out (by kernel_rfl)) (fun _ _ _ h => h) (Or.inl ⟨by rfl, ?_⟩) ?_ ?_
          rotate_left
          · intro w'
            go_simp
            with_reducible rfl
          rotate_left
          · simp only [Act.put, List.setIfInBounds_toArray, List.set_cons_zero, List.set_cons_succ, i64_w, i32_w]
            rfl
          refine pure_ (i := 3) (N := some 94) (v := ?_) (a' := ?_) #[true, true, true, true, false, false, false, false, false, false, false, false, false, false, false] rfl rfl (any_of HT_.out (by kernel_rfl)) (fun _ _ _ h => h) (Or.inl ⟨by rfl, ?_⟩) ?_ ?_
          rotate_left
          · intro w'
            go_simp
            with_reducible rfl
          rotate_left
          · simp only [Act.put, List.setIfInBounds_toArray, List.set_cons_zero, List.set_cons_succ, i64_w, i32_w]
            rfl
          refine take_ (i := 4) (N := some 95) (v := ?_) (a' := ?_) #[true, true, true, true, true, false, false, false, false, false, false, false, false, false, false] rfl rfl (take_ofW HT_.out HW_.out (by kernel_rfl)) (fun _ _ _ h => h) (Or.inl ⟨by rfl, ?_⟩) hHeld ?_ ?_
          rotate_left
          · intro w' s
            have s0 := s.1
            have s1 := s.2.1
            have s2 := s.2.2
            clear s
            go_simp
            with_reducible rfl
          rotate_left
          · simp only [Act.put, List.setIfInBounds_toArray, List.set_cons_zero, List.set_cons_succ, i64_w, i32_w]
            rfl
          refine pure_ (i := 5) (N := some 96) (v := ?_) (a' := ?_) #[true, true, true, true, true, true, false, false, false, false, false, false, false, false, false] rfl rfl (any_of HT_.out (by kernel_rfl)) (fun _ _ _ h => h) (Or.inl ⟨by rfl, ?_⟩) ?_ ?_
          rotate_left
          · intro w'
            go_simp
            with_reducible rfl
          rotate_left
          · simp only [Act.put, List.setIfInBounds_toArray, List.set_cons_zero, List.set_cons_succ, i64_w, i32_w]
            rfl
          refine pure_ (i := 6) (N := some 97) (v := ?_) (a' := ?_) #[true, true, true, true, true, true, true, false, false, false, false, false, false, false, false] rfl rfl (any_of HT_.out (by kernel_rfl)) (fun _ _ _ h => h) (Or.inl ⟨by rfl, ?_⟩) ?_ ?_
          rotate_left
          · intro w'
            go_simp
            with_reducible rfl
          rotate_left
          · simp only [Act.put, List.setIfInBounds_toArray, List.set_cons_zero, List.set_cons_succ, i64_w, i32_w]
            rfl
          refine pure_ (i := 7) (N := some 98) (v := ?_) (a' := ?_) #[true, true, true, true, true, true, true, true, false, false, false, false, false, false, false] rfl rfl (any_of HT_.out (by kernel_rfl)) (fun _ _ _ h => h) (Or.inl ⟨by rfl, ?_⟩) ?_ ?_
          rotate_left
          · intro w'
            go_simp
            with_reducible rfl
          rotate_left
          · simp only [Act.put, List.setIfInBounds_toArray, List.set_cons_zero, List.set_cons_succ, i64_w, i32_w]
            rfl
          refine pure_ (i := 8) (N := some 99) (v := ?_) (a' := ?_) #[true, true, true, true, true, true, true, true, true, false, false, false, false, false, false] rfl rfl (any_of HT_.out (by kernel_rfl)) (fun _ _ _ h => h) (Or.inl ⟨by rfl, ?_⟩) ?_ ?_
          rotate_left
          · intro w'
            go_simp
            with_reducible rfl
          rotate_left
          · simp only [Act.put, List.setIfInBounds_toArray, List.set_cons_zero, List.set_cons_succ, i64_w, i32_w]
            rfl
          refine take_ (i := 9) (N := some 100) (v := ?_) (a' := ?_) #[true, true, true, true, true, true, true, true, true, true, false, false, false, false, false] rfl rfl (take_ofW HT_.out HW_.out (by kernel_rfl)) (fun _ _ _ h => h) (Or.inl ⟨by rfl, ?_⟩) hHeld ?_ ?_
          rotate_left
          · intro w' s
            have s0 := s.1
            have s1 := s.2.1
            have s2 := s.2.2
            clear s
            go_simp
            with_reducible rfl
          rotate_left
          · simp only [Act.put, List.setIfInBounds_toArray, List.set_cons_zero, List.set_cons_succ, i64_w, i32_w]
            rfl
          refine pure_ (i := 10) (N := some 101) (v := ?_) (a' := ?_) #[true, true, true, true, true, true, true, true, true, true, true, false, false, false, false] rfl rfl (any_of HT_.out (by kernel_rfl)) (fun _ _ _ h => h) (Or.inl ⟨by rfl, ?_⟩) ?_ ?_
          rotate_left
          · intro w'
            go_simp
            with_reducible rfl
          rotate_left
          · simp only [Act.put, List.setIfInBounds_toArray, List.set_cons_zero, List.set_cons_succ, i64_w, i32_w]
            rfl
          refine pure_ (i := 11) (N := some 102) (v := ?_) (a' := ?_) #[true, true, true, true, true, true, true, true, true, true, true, true, false, false, false] rfl rfl (any_of HT_.out (by kernel_rfl)) (fun _ _ _ h => h) (Or.inl ⟨by rfl, ?_⟩) ?_ ?_
          rotate_left
          · intro w'
            go_simp
            with_reducible rfl
          rotate_left
          · simp only [Act.put, List.setIfInBounds_toArray, List.set_cons_zero, List.set_cons_succ, i64_w, i32_w]
            rfl
          refine pure_ (i := 12) (N := some 103) (v := ?_) (a' := ?_) #[true, true, true, true, true, true, true, true, true, true, true, true, true, false, false] rfl rfl (any_of HT_.out (by kernel_rfl)) (fun _ _ _ h => h) (Or.inl ⟨by rfl, ?_⟩) ?_ ?_
          rotate_left
          · intro w'
            go_simp
            with_reducible rfl
          rotate_left
          · simp only [Act.put, List.setIfInBounds_toArray, List.set_cons_zero, List.set_cons_succ, i64_w, i32_w]
            rfl
          refine take_ (i := 13) (N := some 104) (v := ?_) (a' := ?_) #[true, true, true, true, true, true, true, true, true, true, true, true, true, true, false] rfl rfl (take_ofW HT_.out HW_.out (by kernel_rfl)) (fun _ _ _ h => h) (Or.inl ⟨by rfl, ?_⟩) hHeld ?_ ?_
          rotate_left
          · intro w' s
            have s0 := s.1
            have s1 := s.2.1
            have s2 := s.2.2
            clear s
            go_simp
            with_reducible rfl
          rotate_left
          · simp only [Act.put, List.setIfInBounds_toArray, List.set_cons_zero, List.set_cons_succ, i64_w, i32_w]
            rfl
          refine pure_ (i := 14) (N := some 13) (v := ?_) (a' := ?_) #[true, true, true, true, true, true, true, true, true, true, true, true, true, true, true] rfl rfl (any_of HT_.out (by kernel_rfl)) (fun _ _ _ h => h) (Or.inl ⟨by rfl, ?_⟩) ?_ ?_
          rotate_left
          · intro w'
            go_simp
            with_reducible rfl
          rotate_left
          · simp only [Act.put, List.setIfInBounds_toArray, List.set_cons_zero, List.set_cons_succ, i64_w, i32_w]
            rfl
          refine done_ (done_of HT_.out (by kernel_rfl)) ?_
          clear hHeld HT_ HW_ pk1 pk2 hmod hR0 hR1
          go_wp2_with (fail)
          refine (hornbeamref06_Cmp.calls 5 f h o _ HCM.out).mono ?_
          rintro e w11 ⟨rfl, hdr⟩
          have J6 := Aside0.mk (J5.out.step (drawn_below hdr))
          clear hdr J5
          obtain ⟨hx1, hx2, hx3⟩ := HXY.out
          rcases Int.lt_trichotomy o 0 with ho | ho | ho
          · have d1 : decide (o < 0) = true := decide_eq_true ho
            have d2 : (o == 0) = false := beq_eq_false_iff_ne.2 (by omega)
            have d3 : decide (o > 0) = false := decide_eq_false (by omega)
            have d4 : decide (x > y) = false := decide_eq_false (by have := hx1 ho; omega)
            clear hx1 hx2 hx3 ho
            go_wp2
            exact ⟨⟨i + 1, by omega, by go_num, J6⟩, by simp [intOf]; omega⟩
          · subst ho
            have d1 : decide ((0 : Int) < 0) = false := rfl
            have d2 : ((0 : Int) == 0) = true := rfl
            have d3 : decide ((0 : Int) > 0) = false := rfl
            have d4 : (x != y) = false := bne_eq_false_iff_eq.2 (hx2 rfl)
            clear hx1 hx2 hx3
            go_wp2
            exact ⟨⟨i + 1, by omega, by go_num, J6⟩, by simp [intOf]; omega⟩
          · have d1 : decide (o < 0) = false := decide_eq_false (by omega)
            have d2 : (o == 0) = false := beq_eq_false_iff_ne.2 (by omega)
            have d3 : decide (o > 0) = true := decide_eq_true ho
            have d4 : decide (x < y) = false := decide_eq_false (by have := hx3 ho; omega)
            clear hx1 hx2 hx3 ho
            go_wp2
            exact ⟨⟨i + 1, by omega, by go_num, J6⟩, by simp [intOf]; omega⟩
        · have d0 : decide ((i : Int) < (R : Int)) = false := decide_eq_false (by omega)
          go_wp2
          exact ⟨⟨j + 1, by omega, by go_num, JI⟩, by simp [intOf]; omega⟩
    · have d0 : decide ((j : Int) < (C : Int)) = false := decide_eq_false (by omega)
      go_wp2_with (fail)
      refine (hornbeamlaw11_fixed.calls 40 true _ (fixed_t (Nat.le_refl 40))).mono ?_
      rintro e w6 ⟨rfl, hb⟩
      have J6 := Aside0.mk (JJ.out.step hb)
      clear hb JJ
      go_wp2
      go_ret
      exact ⟨rfl, J6.out.s.b⟩
end Go.Proofs.Ytnagfbadjbkhmaa.FBinsOrder
