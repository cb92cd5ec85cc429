-- Written by a program of this session (wip/hp) out of the translation of seat Ytlmmlhljflladaa.
import Derived.Test.YtlmmlhljflladaaPAx0
import Derived.Test.YtlmmlhljflladaaPAx2
import Derived.Test.YtlmmlhljflladaaPAx5
import Derived.Test.YtlmmlhljflladaaPAx7
import Derived.Test.YtlmmlhljflladaaPAx12
import Derived.Test.YtlmmlhljflladaaPAx13
namespace Go.Proofs.Ytlmmlhljflladaa.PA
open Go.RowKit Go.Proofs.YtlmmlhljflladaaW.PrintWords Go.Proofs.YtlmmlhljflladaaW.PrintLast Go.Proofs.YtlmmlhljflladaaW.PrintMore
attribute [local go_sem] max2_int min2_int max_two min_two max_three min_three max_four min_four   -- for this text's walks alone
attribute [local go_sem high] Flt.fold_eq Flt.fold_ne Flt.fold_lt Flt.fold_gt Flt.fold_le Flt.fold_ge Flt.run_bits Flt.run_frombits
set_option linter.unusedVariables false
set_option linter.unusedSimpArgs false

/-! ### hornbeamlaw10_EdgesCut: function 8 -/
mutual
def hornbeamlaw10_EdgesCut.j0 : Nat → List Nat → List Nat → Bool → Option (Bool)
  | 0, _, _, _ => none
  | k + 1, x5, x6, x37 => if x37 = true then (some false) else (if 0 ≤ (wrap64 ((x6.length : Int) + 2)) then (if (wrap64 ((x6.length : Int) + 2) : Int).toNat ≤ 35184372088832 then (hornbeamlaw10_EdgesCut.l0 k x5 x6 (List.replicate (wrap64 ((x6.length : Int) + 2) : Int).toNat 0) 0 x5 (x5.length : Int) 0) else (none)) else (none))
def hornbeamlaw10_EdgesCut.l0 : Nat → List Nat → List Nat → List Int → Int → List Nat → Int → Int → Option (Bool)
  | 0, _, _, _, _, _, _, _ => none
  | k + 1, x5, x6, x7, x8, x42, x43, x44 => if x44 < x43 then (if 0 ≤ x44 then (if x44 < (x42.length : Int) then ((edges_Bin.f k x6 (rdOf (0 : Nat) x42 x44)).bind fun t279 => (if t279 < 0 then (hornbeamlaw10_EdgesCut.j2 k x5 x6 x7 x8 t279 x42 x43 x44 true) else (if t279 ≥ (x7.length : Int) then (hornbeamlaw10_EdgesCut.j2 k x5 x6 x7 x8 t279 x42 x43 x44 true) else ((hornbeamref06_Missing.f (rdOf (0 : Nat) x42 x44)).bind fun t280 => (hornbeamlaw10_EdgesCut.j2 k x5 x6 x7 x8 t279 x42 x43 x44 ((t279 == 0) != t280)))))) else (none)) else (none)) else (hornbeamlaw10_EdgesCut.l1 k x5 x6 x7 x8 x6 (x6.length : Int) 0)
def hornbeamlaw10_EdgesCut.j2 : Nat → List Nat → List Nat → List Int → Int → Int → List Nat → Int → Int → Bool → Option (Bool)
  | 0, _, _, _, _, _, _, _, _, _ => none
  | k + 1, x5, x6, x7, x8, x11, x42, x43, x44, x65 => if x65 = true then (some false) else (if 0 ≤ x11 then (if x11 < (x7.length : Int) then ((some (x7.set (x11 : Int).toNat (wrap64 ((rd x7 x11) + 1)) : List Int)).bind fun y282 => (if x11 > 0 then (hornbeamlaw10_EdgesCut.l0 k x5 x6 y282 (wrap64 (x8 + 1)) x42 x43 (wrap64 (x44 + 1))) else (hornbeamlaw10_EdgesCut.l0 k x5 x6 y282 x8 x42 x43 (wrap64 (x44 + 1))))) else (none)) else (none))
def hornbeamlaw10_EdgesCut.l1 : Nat → List Nat → List Nat → List Int → Int → List Nat → Int → Int → Option (Bool)
  | 0, _, _, _, _, _, _, _ => none
  | k + 1, x5, x6, x7, x8, x77, x78, x79 => if x79 < x78 then (if 0 ≤ x79 then (if x79 < (x77.length : Int) then (hornbeamlaw10_EdgesCut.l2 k x5 x6 x7 x8 x79 (rdOf (0 : Nat) x77 x79) false x77 x78 x79 x5 (x5.length : Int) 0) else (none)) else (none)) else (hornbeamlaw10_EdgesCut.l3 k x7 x8 1)
def hornbeamlaw10_EdgesCut.l2 : Nat → List Nat → List Nat → List Int → Int → Int → Nat → Bool → List Nat → Int → Int → List Nat → Int → Int → Option (Bool)
  | 0, _, _, _, _, _, _, _, _, _, _, _, _, _ => none
  | k + 1, x5, x6, x7, x8, x12, x13, x14, x77, x78, x79, x84, x85, x86 => if x86 < x85 then (if 0 ≤ x86 then (if x86 < (x84.length : Int) then (if x14 = true then (hornbeamlaw10_EdgesCut.l2 k x5 x6 x7 x8 x12 x13 true x77 x78 x79 x84 x85 (wrap64 (x86 + 1))) else ((hornbeamref06_Cmp.f k (rdOf (0 : Nat) x84 x86) x13).bind fun t285 => (hornbeamlaw10_EdgesCut.l2 k x5 x6 x7 x8 x12 x13 (t285 == 0) x77 x78 x79 x84 x85 (wrap64 (x86 + 1))))) else (none)) else (none)) else (if x14 = true then ((edges_Bin.f k x6 x13).bind fun t286 => (if t286 = (wrap64 (x12 + 2)) then (hornbeamlaw10_EdgesCut.l1 k x5 x6 x7 x8 x77 x78 (wrap64 (x79 + 1))) else (some false))) else (some false))
def hornbeamlaw10_EdgesCut.l3 : Nat → List Int → Int → Int → Option (Bool)
  | 0, _, _, _ => none
  | k + 1, x7, x8, x17 => if x17 < (x7.length : Int) then (hornbeamlaw10_EdgesCut.j6 k x7 x8 x17 (decide (x8 > 0))) else (hornbeamlaw10_EdgesCut.j6 k x7 x8 x17 false)
def hornbeamlaw10_EdgesCut.j6 : Nat → List Int → Int → Int → Bool → Option (Bool)
  | 0, _, _, _, _ => none
  | k + 1, x7, x8, x17, x116 => if x116 = true then (if 0 ≤ x17 then (if x17 < (x7.length : Int) then (if (rd x7 x17) = 0 then (some false) else (hornbeamlaw10_EdgesCut.l3 k x7 x8 (wrap64 (x17 + 1)))) else (none)) else (none)) else ((hornbeamlaw10_fixed.f k).bind fun t288 => (some t288))
end
def hornbeamlaw10_EdgesCut.f (k : Nat) (l0 : List Int) (a1 : Int) : Option (Bool) := if (l0.length : Int) > 200 then ((hornbeamlaw10_fixed.f k).bind fun t268 => (some t268)) else ((hornbeamref06_Of.f k l0).bind fun t269 => ((edges_Of.f t269 (wrap64 (a1))).bind fun t272 => (if (t272.length : Int) > 0 then (hornbeamlaw10_EdgesCut.j0 k t269 t272 (decide ((t272.length : Int) ≥ (wrap64 (a1))))) else (hornbeamlaw10_EdgesCut.j0 k t269 t272 false))))
theorem hornbeamlaw10_EdgesCut.mono_l : ∀ k, (∀ y0 y1 y2, LeO (hornbeamlaw10_EdgesCut.j0 k y0 y1 y2) (hornbeamlaw10_EdgesCut.j0 (k + 1) y0 y1 y2)) ∧ (∀ y0 y1 y2 y3 y4 y5 y6, LeO (hornbeamlaw10_EdgesCut.l0 k y0 y1 y2 y3 y4 y5 y6) (hornbeamlaw10_EdgesCut.l0 (k + 1) y0 y1 y2 y3 y4 y5 y6)) ∧ (∀ y0 y1 y2 y3 y4 y5 y6 y7 y8, LeO (hornbeamlaw10_EdgesCut.j2 k y0 y1 y2 y3 y4 y5 y6 y7 y8) (hornbeamlaw10_EdgesCut.j2 (k + 1) y0 y1 y2 y3 y4 y5 y6 y7 y8)) ∧ (∀ y0 y1 y2 y3 y4 y5 y6, LeO (hornbeamlaw10_EdgesCut.l1 k y0 y1 y2 y3 y4 y5 y6) (hornbeamlaw10_EdgesCut.l1 (k + 1) y0 y1 y2 y3 y4 y5 y6)) ∧ (∀ y0 y1 y2 y3 y4 y5 y6 y7 y8 y9 y10 y11 y12, LeO (hornbeamlaw10_EdgesCut.l2 k y0 y1 y2 y3 y4 y5 y6 y7 y8 y9 y10 y11 y12) (hornbeamlaw10_EdgesCut.l2 (k + 1) y0 y1 y2 y3 y4 y5 y6 y7 y8 y9 y10 y11 y12)) ∧ (∀ y0 y1 y2, LeO (hornbeamlaw10_EdgesCut.l3 k y0 y1 y2) (hornbeamlaw10_EdgesCut.l3 (k + 1) y0 y1 y2)) ∧ (∀ y0 y1 y2 y3, LeO (hornbeamlaw10_EdgesCut.j6 k y0 y1 y2 y3) (hornbeamlaw10_EdgesCut.j6 (k + 1) y0 y1 y2 y3))
  | 0 => ⟨fun _ _ _ r h => by simp [hornbeamlaw10_EdgesCut.j0] at h, fun _ _ _ _ _ _ _ r h => by simp [hornbeamlaw10_EdgesCut.l0] at h, fun _ _ _ _ _ _ _ _ _ r h => by simp [hornbeamlaw10_EdgesCut.j2] at h, fun _ _ _ _ _ _ _ r h => by simp [hornbeamlaw10_EdgesCut.l1] at h, fun _ _ _ _ _ _ _ _ _ _ _ _ _ r h => by simp [hornbeamlaw10_EdgesCut.l2] at h, fun _ _ _ r h => by simp [hornbeamlaw10_EdgesCut.l3] at h, fun _ _ _ _ r h => by simp [hornbeamlaw10_EdgesCut.j6] at h⟩
  | k + 1 => by
    obtain ⟨ih0, ih1, ih2, ih3, ih4, ih5, ih6⟩ := hornbeamlaw10_EdgesCut.mono_l k
    refine ⟨?_, ?_, ?_, ?_, ?_, ?_, ?_⟩
    · intro y0 y1 y2
      unfold hornbeamlaw10_EdgesCut.j0
      repeat' first
      | (with_reducible exact ih0 _ _ _)
      | (with_reducible exact ih1 _ _ _ _ _ _ _)
      | (with_reducible exact ih2 _ _ _ _ _ _ _ _ _)
      | (with_reducible exact ih3 _ _ _ _ _ _ _)
      | (with_reducible exact ih4 _ _ _ _ _ _ _ _ _ _ _ _ _)
      | (with_reducible exact ih5 _ _ _)
      | (with_reducible exact ih6 _ _ _ _)
      | (with_reducible exact edges_Bin.mono _ _ _)
      | (with_reducible exact hornbeamlaw10_fixed.mono _)
      | (with_reducible exact hornbeamref06_Cmp.mono _ _ _)
      | (with_reducible exact hornbeamref06_Of.mono _ _)
      | (with_reducible exact LeO.refl _)
      | (with_reducible exact LeO.none _)
      | (with_reducible refine LeO.ite ?_ ?_)
      | (with_reducible refine LeO.bind ?_ (fun _ => ?_))
      | exact ih0 _ _ _
      | exact ih1 _ _ _ _ _ _ _
      | exact ih2 _ _ _ _ _ _ _ _ _
      | exact ih3 _ _ _ _ _ _ _
      | exact ih4 _ _ _ _ _ _ _ _ _ _ _ _ _
      | exact ih5 _ _ _
      | exact ih6 _ _ _ _
      | exact edges_Bin.mono _ _ _
      | exact hornbeamlaw10_fixed.mono _
      | exact hornbeamref06_Cmp.mono _ _ _
      | exact hornbeamref06_Of.mono _ _
      | exact LeO.none _
      | refine LeO.ite ?_ ?_
      | refine LeO.bind ?_ (fun _ => ?_)
    · intro y0 y1 y2 y3 y4 y5 y6
      unfold hornbeamlaw10_EdgesCut.l0
      repeat' first
      | (with_reducible exact ih0 _ _ _)
      | (with_reducible exact ih1 _ _ _ _ _ _ _)
      | (with_reducible exact ih2 _ _ _ _ _ _ _ _ _)
      | (with_reducible exact ih3 _ _ _ _ _ _ _)
      | (with_reducible exact ih4 _ _ _ _ _ _ _ _ _ _ _ _ _)
      | (with_reducible exact ih5 _ _ _)
      | (with_reducible exact ih6 _ _ _ _)
      | (with_reducible exact edges_Bin.mono _ _ _)
      | (with_reducible exact hornbeamlaw10_fixed.mono _)
      | (with_reducible exact hornbeamref06_Cmp.mono _ _ _)
      | (with_reducible exact hornbeamref06_Of.mono _ _)
      | (with_reducible exact LeO.refl _)
      | (with_reducible exact LeO.none _)
      | (with_reducible refine LeO.ite ?_ ?_)
      | (with_reducible refine LeO.bind ?_ (fun _ => ?_))
      | exact ih0 _ _ _
      | exact ih1 _ _ _ _ _ _ _
      | exact ih2 _ _ _ _ _ _ _ _ _
      | exact ih3 _ _ _ _ _ _ _
      | exact ih4 _ _ _ _ _ _ _ _ _ _ _ _ _
      | exact ih5 _ _ _
      | exact ih6 _ _ _ _
      | exact edges_Bin.mono _ _ _
      | exact hornbeamlaw10_fixed.mono _
      | exact hornbeamref06_Cmp.mono _ _ _
      | exact hornbeamref06_Of.mono _ _
      | exact LeO.none _
      | refine LeO.ite ?_ ?_
      | refine LeO.bind ?_ (fun _ => ?_)
    · intro y0 y1 y2 y3 y4 y5 y6 y7 y8
      unfold hornbeamlaw10_EdgesCut.j2
      repeat' first
      | (with_reducible exact ih0 _ _ _)
      | (with_reducible exact ih1 _ _ _ _ _ _ _)
      | (with_reducible exact ih2 _ _ _ _ _ _ _ _ _)
      | (with_reducible exact ih3 _ _ _ _ _ _ _)
      | (with_reducible exact ih4 _ _ _ _ _ _ _ _ _ _ _ _ _)
      | (with_reducible exact ih5 _ _ _)
      | (with_reducible exact ih6 _ _ _ _)
      | (with_reducible exact edges_Bin.mono _ _ _)
      | (with_reducible exact hornbeamlaw10_fixed.mono _)
      | (with_reducible exact hornbeamref06_Cmp.mono _ _ _)
      | (with_reducible exact hornbeamref06_Of.mono _ _)
      | (with_reducible exact LeO.refl _)
      | (with_reducible exact LeO.none _)
      | (with_reducible refine LeO.ite ?_ ?_)
      | (with_reducible refine LeO.bind ?_ (fun _ => ?_))
      | exact ih0 _ _ _
      | exact ih1 _ _ _ _ _ _ _
      | exact ih2 _ _ _ _ _ _ _ _ _
      | exact ih3 _ _ _ _ _ _ _
      | exact ih4 _ _ _ _ _ _ _ _ _ _ _ _ _
      | exact ih5 _ _ _
      | exact ih6 _ _ _ _
      | exact edges_Bin.mono _ _ _
      | exact hornbeamlaw10_fixed.mono _
      | exact hornbeamref06_Cmp.mono _ _ _
      | exact hornbeamref06_Of.mono _ _
      | exact LeO.none _
      | refine LeO.ite ?_ ?_
      | refine LeO.bind ?_ (fun _ => ?_)
    · intro y0 y1 y2 y3 y4 y5 y6
      unfold hornbeamlaw10_EdgesCut.l1
      repeat' first
      | (with_reducible exact ih0 _ _ _)
      | (with_reducible exact ih1 _ _ _ _ _ _ _)
      | (with_reducible exact ih2 _ _ _ _ _ _ _ _ _)
      | (with_reducible exact ih3 _ _ _ _ _ _ _)
      | (with_reducible exact ih4 _ _ _ _ _ _ _ _ _ _ _ _ _)
      | (with_reducible exact ih5 _ _ _)
      | (with_reducible exact ih6 _ _ _ _)
      | (with_reducible exact edges_Bin.mono _ _ _)
      | (with_reducible exact hornbeamlaw10_fixed.mono _)
      | (with_reducible exact hornbeamref06_Cmp.mono _ _ _)
      | (with_reducible exact hornbeamref06_Of.mono _ _)
      | (with_reducible exact LeO.refl _)
      | (with_reducible exact LeO.none _)
      | (with_reducible refine LeO.ite ?_ ?_)
      | (with_reducible refine LeO.bind ?_ (fun _ => ?_))
      | exact ih0 _ _ _
      | exact ih1 _ _ _ _ _ _ _
      | exact ih2 _ _ _ _ _ _ _ _ _
      | exact ih3 _ _ _ _ _ _ _
      | exact ih4 _ _ _ _ _ _ _ _ _ _ _ _ _
      | exact ih5 _ _ _
      | exact ih6 _ _ _ _
      | exact edges_Bin.mono _ _ _
      | exact hornbeamlaw10_fixed.mono _
      | exact hornbeamref06_Cmp.mono _ _ _
      | exact hornbeamref06_Of.mono _ _
      | exact LeO.none _
      | refine LeO.ite ?_ ?_
      | refine LeO.bind ?_ (fun _ => ?_)
    · intro y0 y1 y2 y3 y4 y5 y6 y7 y8 y9 y10 y11 y12
      unfold hornbeamlaw10_EdgesCut.l2
      repeat' first
      | (with_reducible exact ih0 _ _ _)
      | (with_reducible exact ih1 _ _ _ _ _ _ _)
      | (with_reducible exact ih2 _ _ _ _ _ _ _ _ _)
      | (with_reducible exact ih3 _ _ _ _ _ _ _)
      | (with_reducible exact ih4 _ _ _ _ _ _ _ _ _ _ _ _ _)
      | (with_reducible exact ih5 _ _ _)
      | (with_reducible exact ih6 _ _ _ _)
      | (with_reducible exact edges_Bin.mono _ _ _)
      | (with_reducible exact hornbeamlaw10_fixed.mono _)
      | (with_reducible exact hornbeamref06_Cmp.mono _ _ _)
      | (with_reducible exact hornbeamref06_Of.mono _ _)
      | (with_reducible exact LeO.refl _)
      | (with_reducible exact LeO.none _)
      | (with_reducible refine LeO.ite ?_ ?_)
      | (with_reducible refine LeO.bind ?_ (fun _ => ?_))
      | exact ih0 _ _ _
      | exact ih1 _ _ _ _ _ _ _
      | exact ih2 _ _ _ _ _ _ _ _ _
      | exact ih3 _ _ _ _ _ _ _
      | exact ih4 _ _ _ _ _ _ _ _ _ _ _ _ _
      | exact ih5 _ _ _
      | exact ih6 _ _ _ _
      | exact edges_Bin.mono _ _ _
      | exact hornbeamlaw10_fixed.mono _
      | exact hornbeamref06_Cmp.mono _ _ _
      | exact hornbeamref06_Of.mono _ _
      | exact LeO.none _
      | refine LeO.ite ?_ ?_
      | refine LeO.bind ?_ (fun _ => ?_)
    · intro y0 y1 y2
      unfold hornbeamlaw10_EdgesCut.l3
      repeat' first
      | (with_reducible exact ih0 _ _ _)
      | (with_reducible exact ih1 _ _ _ _ _ _ _)
      | (with_reducible exact ih2 _ _ _ _ _ _ _ _ _)
      | (with_reducible exact ih3 _ _ _ _ _ _ _)
      | (with_reducible exact ih4 _ _ _ _ _ _ _ _ _ _ _ _ _)
      | (with_reducible exact ih5 _ _ _)
      | (with_reducible exact ih6 _ _ _ _)
      | (with_reducible exact edges_Bin.mono _ _ _)
      | (with_reducible exact hornbeamlaw10_fixed.mono _)
      | (with_reducible exact hornbeamref06_Cmp.mono _ _ _)
      | (with_reducible exact hornbeamref06_Of.mono _ _)
      | (with_reducible exact LeO.refl _)
      | (with_reducible exact LeO.none _)
      | (with_reducible refine LeO.ite ?_ ?_)
      | (with_reducible refine LeO.bind ?_ (fun _ => ?_))
      | exact ih0 _ _ _
      | exact ih1 _ _ _ _ _ _ _
      | exact ih2 _ _ _ _ _ _ _ _ _
      | exact ih3 _ _ _ _ _ _ _
      | exact ih4 _ _ _ _ _ _ _ _ _ _ _ _ _
      | exact ih5 _ _ _
      | exact ih6 _ _ _ _
      | exact edges_Bin.mono _ _ _
      | exact hornbeamlaw10_fixed.mono _
      | exact hornbeamref06_Cmp.mono _ _ _
      | exact hornbeamref06_Of.mono _ _
      | exact LeO.none _
      | refine LeO.ite ?_ ?_
      | refine LeO.bind ?_ (fun _ => ?_)
    · intro y0 y1 y2 y3
      unfold hornbeamlaw10_EdgesCut.j6
      repeat' first
      | (with_reducible exact ih0 _ _ _)
      | (with_reducible exact ih1 _ _ _ _ _ _ _)
      | (with_reducible exact ih2 _ _ _ _ _ _ _ _ _)
      | (with_reducible exact ih3 _ _ _ _ _ _ _)
      | (with_reducible exact ih4 _ _ _ _ _ _ _ _ _ _ _ _ _)
      | (with_reducible exact ih5 _ _ _)
      | (with_reducible exact ih6 _ _ _ _)
      | (with_reducible exact edges_Bin.mono _ _ _)
      | (with_reducible exact hornbeamlaw10_fixed.mono _)
      | (with_reducible exact hornbeamref06_Cmp.mono _ _ _)
      | (with_reducible exact hornbeamref06_Of.mono _ _)
      | (with_reducible exact LeO.refl _)
      | (with_reducible exact LeO.none _)
      | (with_reducible refine LeO.ite ?_ ?_)
      | (with_reducible refine LeO.bind ?_ (fun _ => ?_))
      | exact ih0 _ _ _
      | exact ih1 _ _ _ _ _ _ _
      | exact ih2 _ _ _ _ _ _ _ _ _
      | exact ih3 _ _ _ _ _ _ _
      | exact ih4 _ _ _ _ _ _ _ _ _ _ _ _ _
      | exact ih5 _ _ _
      | exact ih6 _ _ _ _
      | exact edges_Bin.mono _ _ _
      | exact hornbeamlaw10_fixed.mono _
      | exact hornbeamref06_Cmp.mono _ _ _
      | exact hornbeamref06_Of.mono _ _
      | exact LeO.none _
      | refine LeO.ite ?_ ?_
      | refine LeO.bind ?_ (fun _ => ?_)
theorem hornbeamlaw10_EdgesCut.mono : ∀ a0 a1 k, LeO (hornbeamlaw10_EdgesCut.f k a0 a1) (hornbeamlaw10_EdgesCut.f (k + 1) a0 a1) := by
  intro a0 a1 k
  obtain ⟨ih0, ih1, ih2, ih3, ih4, ih5, ih6⟩ := hornbeamlaw10_EdgesCut.mono_l k
  unfold hornbeamlaw10_EdgesCut.f
  repeat' first
      | (with_reducible exact ih0 _ _ _)
      | (with_reducible exact ih1 _ _ _ _ _ _ _)
      | (with_reducible exact ih2 _ _ _ _ _ _ _ _ _)
      | (with_reducible exact ih3 _ _ _ _ _ _ _)
      | (with_reducible exact ih4 _ _ _ _ _ _ _ _ _ _ _ _ _)
      | (with_reducible exact ih5 _ _ _)
      | (with_reducible exact ih6 _ _ _ _)
      | (with_reducible exact edges_Bin.mono _ _ _)
      | (with_reducible exact hornbeamlaw10_fixed.mono _)
      | (with_reducible exact hornbeamref06_Cmp.mono _ _ _)
      | (with_reducible exact hornbeamref06_Of.mono _ _)
      | (with_reducible exact LeO.refl _)
      | (with_reducible exact LeO.none _)
      | (with_reducible refine LeO.ite ?_ ?_)
      | (with_reducible refine LeO.bind ?_ (fun _ => ?_))
      | exact ih0 _ _ _
      | exact ih1 _ _ _ _ _ _ _
      | exact ih2 _ _ _ _ _ _ _ _ _
      | exact ih3 _ _ _ _ _ _ _
      | exact ih4 _ _ _ _ _ _ _ _ _ _ _ _ _
      | exact ih5 _ _ _
      | exact ih6 _ _ _ _
      | exact edges_Bin.mono _ _ _
      | exact hornbeamlaw10_fixed.mono _
      | exact hornbeamref06_Cmp.mono _ _ _
      | exact hornbeamref06_Of.mono _ _
      | exact LeO.none _
      | refine LeO.ite ?_ ?_
      | refine LeO.bind ?_ (fun _ => ?_)
set_option maxHeartbeats 8000000 in
set_option maxRecDepth 100000 in
theorem hornbeamlaw10_EdgesCut.calls (k : Nat) (A0 : Option Addr) (c0 : Nat) (l0 : List Int) (a1 : Int) (r : Bool) (w : World) (hr0 : Kd.C (Kd.int .u64) w A0 l0.length l0) (hc0 : l0.length ≤ c0) (h : hornbeamlaw10_EdgesCut.f k l0 a1 = some r) :
    Calls Try.prog 8 #[.slice A0 l0.length c0, .int .u8 a1] w fun e w' => e = .returned (.bool r) ∧ Below w.heap.size w w' := by
  have HR0 := Aside0.mk hr0
  have HC0 := Aside0.mk hc0
  clear hr0 hc0
  have HB := Aside0.mk (Below.refl w.heap.size w)
  have H : (if (l0.length : Int) > 200 then ((hornbeamlaw10_fixed.f k).bind fun t268 => (some t268)) else ((hornbeamref06_Of.f k l0).bind fun t269 => ((edges_Of.f t269 (wrap64 (a1))).bind fun t272 => (if (t272.length : Int) > 0 then (hornbeamlaw10_EdgesCut.j0 k t269 t272 (decide ((t272.length : Int) ≥ (wrap64 (a1))))) else (hornbeamlaw10_EdgesCut.j0 k t269 t272 false))))) = some r := h
  clear h
  by_cases c3 : (l0.length : Int) > 200
  · rw [if_pos c3] at H
    have c3b0 : decide (200 < (l0.length : Int)) = true := decide_eq_true c3
    have c3b1 : decide (200 < l0.length) = true := decide_eq_true (by omega)
    clear c3
    replace H := Option.bind_eq_some_iff.mp H
    obtain ⟨t268, A40, H⟩ := H
    replace H : (some t268) = some r := H
    have A4 := Aside0.mk A40
    clear A40
    obtain rfl := Option.some.inj H
    go_enter Try.func8, Try.ntmps8
    go_wp2_with (first | ((with_reducible refine gate_callee (f := 32) rfl ?_); refine goesL_ (some 21) rfl rfl Try.func32 (by kernel_rfl) rfl #[] rfl (by (try simp only [List.map_toArray, List.map_cons, List.map_nil]); first | done | rfl | (simp only [List.length_drop, List.length_take]; rfl)) ?_; (with_reducible refine (hornbeamlaw10_fixed.calls k  t268 _ A4.out).mono ?_); rintro e w5 ⟨rfl, hb⟩; refine ⟨_, rfl, ?_⟩; have n0_ := Aside0.mk (below_step (by repeat (first | (with_reducible first | exact HB.out | apply below_alloc | apply pw_below_drewN | apply below_drew1) | exact HB.out)) hb); clear HB; have HB := n0_; clear n0_; (try clear hb); (try clear hb2); (try clear hk); (try clear hi)))
    go_ret
    exact ⟨by first | rfl | (simp [errW_none, errW_some] <;> rfl) | (simp [*, errW_none, errW_some] <;> rfl), by repeat (first | (with_reducible first | exact HB.out | apply below_alloc | apply pw_below_drewN | apply below_drew1) | exact HB.out)⟩
  · rw [if_neg c3] at H
    have c3b0 : decide (200 < (l0.length : Int)) = false := decide_eq_false c3
    have c3b1 : decide (200 < l0.length) = false := decide_eq_false (by omega)
    clear c3
    replace H := Option.bind_eq_some_iff.mp H
    obtain ⟨t269, A60, H⟩ := H
    replace H : ((edges_Of.f t269 (wrap64 (a1))).bind fun t272 => (if (t272.length : Int) > 0 then (hornbeamlaw10_EdgesCut.j0 k t269 t272 (decide ((t272.length : Int) ≥ (wrap64 (a1))))) else (hornbeamlaw10_EdgesCut.j0 k t269 t272 false))) = some r := H
    have A6 := Aside0.mk A60
    clear A60
    replace H := Option.bind_eq_some_iff.mp H
    obtain ⟨t272, A70, H⟩ := H
    replace H : (if (t272.length : Int) > 0 then (hornbeamlaw10_EdgesCut.j0 k t269 t272 (decide ((t272.length : Int) ≥ (wrap64 (a1))))) else (hornbeamlaw10_EdgesCut.j0 k t269 t272 false)) = some r := H
    have A7 := Aside0.mk A70
    clear A70
    have HC8 := Aside0.mk H
    clear H
    go_enter Try.func8, Try.ntmps8
    go_upto_region 5 with (first | ((with_reducible refine gate_callee (f := 28) rfl ?_); refine goesL_ (some 23) rfl rfl Try.func28 (by kernel_rfl) rfl #[.slice A0 l0.length c0] rfl (by (try simp only [List.map_toArray, List.map_cons, List.map_nil]); first | done | rfl | (simp only [List.length_drop, List.length_take]; rfl)) ?_; (with_reducible refine (hornbeamref06_Of.calls k _ _ l0 t269 _ ?side1 ?side2 A6.out).mono ?_); (case side1 => repeat (first | exact HR0.out | (with_reducible refine Kd.C_alloc ?_ _) | (with_reducible refine Kd.C_drewN ?_ _) | (with_reducible refine Kd.C_drew ?_))); (case side2 => exact HC0.out); rintro e w9 ⟨v270, rfl, ho0, hb⟩; refine ⟨_, rfl, ?_⟩; have n0_ := Aside0.mk (Kd.R_lower ho0 (below_size (by repeat (first | (with_reducible first | exact HB.out | apply below_alloc | apply pw_below_drewN | apply below_drew1) | exact HB.out)))); have n1_ := Aside0.mk (below_step (by repeat (first | (with_reducible first | exact HB.out | apply below_alloc | apply pw_below_drewN | apply below_drew1) | exact HB.out)) hb); clear HB; have HO271 := n0_; have HB := n1_; clear n0_ n1_; (try clear hb); (try clear hb2); (try clear hk); (try clear hi); (try clear ho0); obtain ⟨Ao10, co10, eo10⟩ := Kd.R_slice HO271.out; subst eo10) | ((with_reducible refine gate_callee (f := 33) rfl ?_); refine goesL_ (some 27) rfl rfl Try.func33 (by kernel_rfl) rfl #[.slice Ao10 t269.length co10, .int .i64 (wrap64 (a1))] rfl (by (try simp only [List.map_toArray, List.map_cons, List.map_nil]); first | done | rfl | (simp only [List.length_drop, List.length_take]; rfl)) ?_; (with_reducible refine (edges_Of.calls _ _ t269 (wrap64 (a1)) t272 _ ?side1 ?side2 A7.out).mono ?_); (case side1 => repeat (first | exact (Kd.R_reads' HO271.out).2.2 | (with_reducible refine Kd.C_alloc ?_ _) | (with_reducible refine Kd.C_drewN ?_ _) | (with_reducible refine Kd.C_drew ?_))); (case side2 => exact (Kd.R_reads' HO271.out).2.1); rintro e w11 ⟨v273, rfl, ho0, hb⟩; refine ⟨_, rfl, ?_⟩; have n0_ := Aside0.mk (Kd.R_elder' (by (with_reducible repeat (first | apply Kd.R_alloc | apply Kd.R_drewN | apply Kd.R_drew)); exact HO271.out) (Kd.R_base ho0) hb); have n1_ := Aside0.mk (Kd.R_lower (Kd.R_new' ho0 (Kd.R_lt (by (with_reducible repeat (first | apply Kd.R_alloc | apply Kd.R_drewN | apply Kd.R_drew)); exact HO271.out))) (below_size (by repeat (first | (with_reducible first | exact HB.out | apply below_alloc | apply pw_below_drewN | apply below_drew1) | exact HB.out)))); have n2_ := Aside0.mk (below_step (by repeat (first | (with_reducible first | exact HB.out | apply below_alloc | apply pw_below_drewN | apply below_drew1) | exact HB.out)) hb); clear HO271; clear HB; have HO271 := n0_; have HO274 := n1_; have HB := n2_; clear n0_ n1_ n2_; (try clear hb); (try clear hb2); (try clear hk); (try clear hi); (try clear ho0)))
    (try simp only [Act.put, List.setIfInBounds_toArray, List.set_cons_zero, List.set_cons_succ])
    go_cut [37] (fun v37 wc => ∃ (kq : Nat) (x37_7 : Bool), v37 = .bool x37_7 ∧ Aside0 (hornbeamlaw10_EdgesCut.j0 kq t269 t272 x37_7 = some r) ∧ Aside0 (kq ≤ k) ∧ Aside0 (Kd.R Flt.kf 23 wc w.heap.size (fun k_ => some k_ ≠ (v273 : Value).ownBlock) (.slice Ao10 t269.length co10) t269) ∧ Aside0 (Kd.R Flt.kf 23 wc w.heap.size (fun k_ => some k_ ≠ ((.slice Ao10 t269.length co10) : Value).ownBlock) v273 t272) ∧ Aside0 (Below w.heap.size w wc))
    case first =>
      have H := HC8.out
      clear HC8
      by_cases c12 : (t272.length : Int) > 0
      · rw [if_pos c12] at H
        have c12b0 : decide (0 < (t272.length : Int)) = true := decide_eq_true c12
        have c12b1 : decide (0 < t272.length) = true := decide_eq_true (by omega)
        clear c12
        (first | rw [c12b0] | (simp only [i64_w, i32_w]; rw [c12b0]) | skip)
        have H' := Aside0.mk H
        clear H
        obtain ⟨Ao13, co13, eo13⟩ := Kd.R_slice HO274.out
        subst eo13
        go_wp2
        go_meet
        case rel => exact ⟨_, (decide ((t272.length : Int) ≥ (wrap64 (a1)))), (by first | rfl | (simp; done) | (simp [*]; done)), H', ⟨by first | omega | exact Nat.le_refl _⟩, ⟨by (with_reducible repeat (first | apply Kd.R_alloc | apply Kd.R_drewN | apply Kd.R_drew)); exact Kd.R_mono HO271.out (fun _ hk => hk.2)⟩, ⟨by (with_reducible repeat (first | apply Kd.R_alloc | apply Kd.R_drewN | apply Kd.R_drew)); exact Kd.R_mono HO274.out (fun _ hk => hk.2)⟩, ⟨by repeat (first | (with_reducible first | exact HB.out | apply below_alloc | apply pw_below_drewN | apply below_drew1) | exact HB.out)⟩⟩
      · rw [if_neg c12] at H
        have c12b0 : decide (0 < (t272.length : Int)) = false := decide_eq_false c12
        have c12b1 : decide (0 < t272.length) = false := decide_eq_false (by omega)
        clear c12
        (first | rw [c12b0] | (simp only [i64_w, i32_w]; rw [c12b0]) | skip)
        have H' := Aside0.mk H
        clear H
        obtain ⟨Ao14, co14, eo14⟩ := Kd.R_slice HO274.out
        subst eo14
        go_wp2
        go_meet
        case rel => exact ⟨_, (false), (by first | rfl | (simp; done) | (simp [*]; done)), H', ⟨by first | omega | exact Nat.le_refl _⟩, ⟨by (with_reducible repeat (first | apply Kd.R_alloc | apply Kd.R_drewN | apply Kd.R_drew)); exact Kd.R_mono HO271.out (fun _ hk => hk.2)⟩, ⟨by (with_reducible repeat (first | apply Kd.R_alloc | apply Kd.R_drewN | apply Kd.R_drew)); exact Kd.R_mono HO274.out (fun _ hk => hk.2)⟩, ⟨by repeat (first | (with_reducible first | exact HB.out | apply below_alloc | apply pw_below_drewN | apply below_drew1) | exact HB.out)⟩⟩
    case rest =>
      clear HC8
      try clear c1
      try clear c2
      try clear p2
      try clear c3
      try clear c3b0
      try clear c3b1
      try clear p6
      try clear c8
      try clear c12
      try clear c12b0
      try clear c12b1
      obtain ⟨kq, x37_7, rfl, HA, HJ7, HO_5, HO_6, HB⟩ := hcut
      cases kq with
      | zero => exact absurd HA.out (by simp [hornbeamlaw10_EdgesCut.j0])
      | succ kj7 =>
        have H := HA.out
        clear HA
        simp only [hornbeamlaw10_EdgesCut.j0] at H
        by_cases c15 : x37_7 = true
        · subst c15
          have H1 : (some false) = some r := by rw [if_pos rfl] at H; exact H
          clear H
          have H := H1
          clear H1
          obtain rfl := Option.some.inj H
          go_wp2
          go_ret
          exact ⟨by first | rfl | (simp [errW_none, errW_some] <;> rfl) | (simp [*, errW_none, errW_some] <;> rfl), by repeat (first | (with_reducible first | exact HB.out | apply below_alloc | apply pw_below_drewN | apply below_drew1) | exact HB.out)⟩
        · replace c15 := Bool.eq_false_iff.mpr c15
          subst c15
          have H1 : (if 0 ≤ (wrap64 ((t272.length : Int) + 2)) then (if (wrap64 ((t272.length : Int) + 2) : Int).toNat ≤ 35184372088832 then (hornbeamlaw10_EdgesCut.l0 kj7 t269 t272 (List.replicate (wrap64 ((t272.length : Int) + 2) : Int).toNat 0) 0 t269 (t269.length : Int) 0) else (none)) else (none)) = some r := by rw [if_neg (show ¬ (false = true) by decide)] at H; exact H
          clear H
          have H := H1
          clear H1
          obtain ⟨ji16, hji16⟩ : ∃ j_ : Int, (wrap64 ((t272.length : Int) + 2)) = j_ := ⟨_, rfl⟩
          replace H : (if 0 ≤ (ji16) then (if (ji16 : Int).toNat ≤ 35184372088832 then (hornbeamlaw10_EdgesCut.l0 kj7 t269 t272 (List.replicate (ji16 : Int).toNat 0) 0 t269 (t269.length : Int) 0) else (none)) else (none)) = some r := by first | (rw [hji16] at H; exact H) | (simp only [hji16] at H ⊢; exact H)
          have hji16w : (IntKind.i64.wrap ((t272.length : Int) + 2)) = ji16 := (i64_w _).trans hji16
          by_cases c17 : 0 ≤ (ji16)
          · rw [if_pos c17] at H
            have c17b0 := eq_true c17
            have c17b1 : decide (0 ≤ (ji16)) = true := decide_eq_true c17
            clear c17
            by_cases c18 : (ji16 : Int).toNat ≤ 35184372088832
            · rw [if_pos c18] at H
              have c18b0 := eq_true c18
              have c18b1 : decide ((ji16 : Int).toNat ≤ 35184372088832) = true := decide_eq_true c18
              clear c18
              obtain ⟨y275, hy275⟩ : ∃ y_ : List Int, y_ = (List.replicate (ji16 : Int).toNat 0) := ⟨_, rfl⟩
              replace H : (hornbeamlaw10_EdgesCut.l0 kj7 t269 t272 y275 0 t269 (t269.length : Int) 0) = some r := by first | (rw [hy275]; with_reducible exact H) | (have H2_ := (Option.bind_some _ _).symm.trans H; rw [hy275]; with_reducible exact H2_) | (have H2_ := (Option.bind_some _ _).symm.trans H; with_reducible exact H2_) | with_reducible exact H | (rw [hy275]; exact H) | exact H
              have Ny275 := Aside0.mk hy275
              clear hy275
              have H' := Aside0.mk H
              clear H
              obtain ⟨Ao19, co19, eo19⟩ := Kd.R_slice HO_6.out
              subst eo19
              go_wp2_with (first | ((with_reducible refine gate_dst (N := 41) rfl ?_); (try (refine gate_guard (by rfl) ?_; dsimp only)); refine Kd.R_make (Kd.int .i64) _ 3 rfl (N := 41) rfl 42 _ _ rfl ji16 rfl rfl Try.underlying42 (.int .i64 0) 8 info3 rfl (by decide) (by omega) 0 (ok := fun _ => True) (okp := fun _ => True) rfl (fun _ hk => hk) trivial (of_decide_eq_true (by first | (with_reducible assumption) | assumption)) (Nat.le_trans (Nat.mul_le_mul_right _ (of_decide_eq_true (by first | (with_reducible assumption) | assumption) : ji16.toNat ≤ 35184372088832)) (by omega)) (Below.refl _ _) (Nat.le_refl _) ?_; intro v276 w20 ho21 hb hg_ hnew_; clear hg_ hnew_; (first | rw [← Ny275.out] at ho21 | (simp only [Int.reduceToNat] at ho21; rw [← Ny275.out] at ho21)); have n0_ := Aside0.mk (Kd.R_below (by (with_reducible repeat (first | apply Kd.R_alloc | apply Kd.R_drewN | apply Kd.R_drew)); exact HO_5.out) hb); have n1_ := Aside0.mk (Kd.R_below (by (with_reducible repeat (first | apply Kd.R_alloc | apply Kd.R_drewN | apply Kd.R_drew)); exact HO_6.out) hb); have n2_ := Aside0.mk (Kd.R_lower ho21 (below_size (by repeat (first | (with_reducible first | exact HB.out | apply below_alloc | apply pw_below_drewN | apply below_drew1) | exact HB.out)))); have n3_ := Aside0.mk (below_step (by repeat (first | (with_reducible first | exact HB.out | apply below_alloc | apply pw_below_drewN | apply below_drew1) | exact HB.out)) hb); clear HO_5; clear HO_6; clear HB; have HO_5 := n0_; have HO_6 := n1_; have HO277 := n2_; have HB := n3_; clear n0_ n1_ n2_ n3_; clear hb ho21))
              go_loopg [8, 44] kj7 (fun kq v8 v44 w' => ∃ (x7_2 : List Int) (x8_2 : Int) (x44_2 : Int), v8 = .int .i64 x8_2 ∧ v44 = .int .i64 x44_2 ∧ Aside0 (hornbeamlaw10_EdgesCut.l0 kq t269 t272 x7_2 x8_2 t269 (t269.length : Int) x44_2 = some r) ∧ Aside0 (kq ≤ kj7) ∧ Aside0 (Kd.R Flt.kf 23 w' w.heap.size (fun k_ => some k_ ≠ ((.slice Ao19 t272.length co19) : Value).ownBlock) (.slice Ao10 t269.length co10) t269) ∧ Aside0 (Kd.R Flt.kf 23 w' w.heap.size (fun k_ => some k_ ≠ ((.slice Ao10 t269.length co10) : Value).ownBlock ∧ some k_ ≠ ((.slice Ao10 t269.length co10) : Value).ownBlock) (.slice Ao19 t272.length co19) t272) ∧ Aside0 (Kd.R (Kd.int .i64) 3 w' w.heap.size (fun _ => True) v276 x7_2) ∧ Aside0 (Kd.R Flt.kf 23 w' w.heap.size (fun k_ => some k_ ≠ ((.slice Ao19 t272.length co19) : Value).ownBlock) (.slice Ao10 t269.length co10) t269) ∧ Aside0 (Below w.heap.size w w'))
              case atStart => exact ⟨(y275), (0), (0), (by first | rfl | (simp; done) | (simp [*]; done)), (by first | rfl | (simp; done) | (simp [*]; done)), H', ⟨Nat.le_refl _⟩, ⟨by (with_reducible repeat (first | apply Kd.R_alloc | apply Kd.R_drewN | apply Kd.R_drew)); exact HO_5.out⟩, ⟨by (with_reducible repeat (first | apply Kd.R_alloc | apply Kd.R_drewN | apply Kd.R_drew)); exact Kd.R_mono HO_6.out (fun _ hk => ⟨hk, hk⟩)⟩, ⟨by (with_reducible repeat (first | apply Kd.R_alloc | apply Kd.R_drewN | apply Kd.R_drew)); exact HO277.out⟩, ⟨by (with_reducible repeat (first | apply Kd.R_alloc | apply Kd.R_drewN | apply Kd.R_drew)); exact HO_5.out⟩, ⟨by repeat (first | (with_reducible first | exact HB.out | apply below_alloc | apply pw_below_drewN | apply below_drew1) | exact HB.out)⟩⟩
              case round =>
                clear H'
                try clear c1
                try clear c2
                try clear p2
                try clear c3
                try clear c3b0
                try clear c3b1
                try clear p6
                try clear c8
                try clear c12
                try clear c12b0
                try clear c12b1
                try clear c15
                try clear c17
                try clear c17b0
                try clear c17b1
                try clear c18
                try clear c18b0
                try clear c18b1
                try clear p2
                try clear p6
                obtain ⟨x7_2, x8_2, x44_2, rfl, rfl, HA, HK2, HO_5, HO_6, HO_7, HO_42, HB⟩ := hrel
                cases gk with
                | zero => exact absurd HA.out (by simp [hornbeamlaw10_EdgesCut.l0])
                | succ k2 =>
                  have H := HA.out
                  clear HA
                  simp only [hornbeamlaw10_EdgesCut.l0] at H
                  by_cases c22 : x44_2 < (t269.length : Int)
                  · rw [if_pos c22] at H
                    have c22b0 : decide (x44_2 < (t269.length : Int)) = true := decide_eq_true c22
                    clear c22
                    by_cases c23 : 0 ≤ x44_2
                    · rw [if_pos c23] at H
                      have c23b0 : decide (0 ≤ x44_2) = true := decide_eq_true c23
                      clear c23
                      by_cases c24 : x44_2 < (t269.length : Int)
                      · rw [if_pos c24] at H
                        have c24b0 : decide (x44_2 < (t269.length : Int)) = true := decide_eq_true c24
                        clear c24
                        replace H := Option.bind_eq_some_iff.mp H
                        obtain ⟨t279, A250, H⟩ := H
                        replace H : (if t279 < 0 then (hornbeamlaw10_EdgesCut.j2 k2 t269 t272 x7_2 x8_2 t279 t269 (t269.length : Int) x44_2 true) else (if t279 ≥ (x7_2.length : Int) then (hornbeamlaw10_EdgesCut.j2 k2 t269 t272 x7_2 x8_2 t279 t269 (t269.length : Int) x44_2 true) else ((hornbeamref06_Missing.f (rdOf (0 : Nat) t269 x44_2)).bind fun t280 => (hornbeamlaw10_EdgesCut.j2 k2 t269 t272 x7_2 x8_2 t279 t269 (t269.length : Int) x44_2 ((t279 == 0) != t280))))) = some r := H
                        have A25 := Aside0.mk A250
                        clear A250
                        have HC26 := Aside0.mk H
                        clear H
                        have p278 : 0 ≤ (x44_2 : Int) := of_decide_eq_true (by first | (with_reducible assumption) | assumption)
                        have q278 : x44_2 < (t269.length : Int) := of_decide_eq_true (by first | (with_reducible assumption) | assumption)
                        obtain ⟨ad278, e278, hx278_0⟩ := Flt.at_kf (Kd.R_reads' HO_42.out).2.2 x44_2 p278 q278
                        cases e278
                        replace p278 := eq_true p278
                        replace q278 := eq_true q278
                        go_upto_region 13 with (first | ((with_reducible refine gate_callee (f := 34) rfl ?_); refine goesL_ (some 50) rfl rfl Try.func34 (by kernel_rfl) rfl #[.slice Ao19 t272.length co19, .float .f64 (rdOf (0 : Nat) t269 x44_2)] rfl (by (try simp only [List.map_toArray, List.map_cons, List.map_nil]); first | done | rfl | (simp only [List.length_drop, List.length_take]; rfl)) ?_; (with_reducible refine (edges_Bin.calls k2 _ _ t272 (rdOf (0 : Nat) t269 x44_2) t279 _ ?side1 ?side2 A25.out).mono ?_); (case side1 => repeat (first | exact (Kd.R_reads' HO_6.out).2.2 | (with_reducible refine Kd.C_alloc ?_ _) | (with_reducible refine Kd.C_drewN ?_ _) | (with_reducible refine Kd.C_drew ?_))); (case side2 => exact (Kd.R_reads' HO_6.out).2.1); rintro e w' ⟨rfl, ⟨nd, rfl⟩⟩; refine ⟨_, rfl, ?_⟩))
                        (try simp only [Act.put, List.setIfInBounds_toArray, List.set_cons_zero, List.set_cons_succ])
                        go_cut [65] (fun v65 wc => ∃ (kq : Nat) (x65_25 : Bool), v65 = .bool x65_25 ∧ Aside0 (hornbeamlaw10_EdgesCut.j2 kq t269 t272 x7_2 x8_2 t279 t269 (t269.length : Int) x44_2 x65_25 = some r) ∧ Aside0 (kq ≤ k2) ∧ Aside0 (Kd.R Flt.kf 23 wc w.heap.size (fun k_ => some k_ ≠ ((.slice Ao19 t272.length co19) : Value).ownBlock) (.slice (some ad278) t269.length co10) t269) ∧ Aside0 (Kd.R Flt.kf 23 wc w.heap.size (fun k_ => some k_ ≠ ((.slice (some ad278) t269.length co10) : Value).ownBlock ∧ some k_ ≠ ((.slice (some ad278) t269.length co10) : Value).ownBlock) (.slice Ao19 t272.length co19) t272) ∧ Aside0 (Kd.R (Kd.int .i64) 3 wc w.heap.size (fun _ => True) v276 x7_2) ∧ Aside0 (Kd.R Flt.kf 23 wc w.heap.size (fun k_ => some k_ ≠ ((.slice Ao19 t272.length co19) : Value).ownBlock) (.slice (some ad278) t269.length co10) t269) ∧ Aside0 (Below w.heap.size w wc))
                        case first =>
                          have H := HC26.out
                          clear HC26
                          by_cases c27 : t279 < 0
                          · rw [if_pos c27] at H
                            have c27b0 : decide (t279 < 0) = true := decide_eq_true c27
                            clear c27
                            (first | rw [c27b0] | (simp only [i64_w, i32_w]; rw [c27b0]) | skip)
                            have H' := Aside0.mk H
                            clear H
                            go_wp2
                            go_meet
                            case rel => exact ⟨_, (true), (by first | rfl | (simp; done) | (simp [*]; done)), H', ⟨by have := HJ7.out; have := HK2.out; first | omega | exact Nat.le_refl _⟩, ⟨by (with_reducible repeat (first | apply Kd.R_alloc | apply Kd.R_drewN | apply Kd.R_drew)); exact HO_5.out⟩, ⟨by (with_reducible repeat (first | apply Kd.R_alloc | apply Kd.R_drewN | apply Kd.R_drew)); exact HO_6.out⟩, ⟨by (with_reducible repeat (first | apply Kd.R_alloc | apply Kd.R_drewN | apply Kd.R_drew)); exact HO_7.out⟩, ⟨by (with_reducible repeat (first | apply Kd.R_alloc | apply Kd.R_drewN | apply Kd.R_drew)); exact HO_42.out⟩, ⟨by repeat (first | (with_reducible first | exact HB.out | apply below_alloc | apply pw_below_drewN | apply below_drew1) | exact HB.out)⟩⟩
                          · rw [if_neg c27] at H
                            have c27b0 : decide (t279 < 0) = false := decide_eq_false c27
                            clear c27
                            (first | rw [c27b0] | (simp only [i64_w, i32_w]; rw [c27b0]) | skip)
                            by_cases c28 : t279 ≥ (x7_2.length : Int)
                            · rw [if_pos c28] at H
                              have c28b0 : decide ((x7_2.length : Int) ≤ t279) = true := decide_eq_true c28
                              clear c28
                              have H' := Aside0.mk H
                              clear H
                              obtain ⟨Ao29, co29, eo29⟩ := Kd.R_slice HO_7.out
                              subst eo29
                              go_wp2
                              go_meet
                              case rel => exact ⟨_, (true), (by first | rfl | (simp; done) | (simp [*]; done)), H', ⟨by have := HJ7.out; have := HK2.out; first | omega | exact Nat.le_refl _⟩, ⟨by (with_reducible repeat (first | apply Kd.R_alloc | apply Kd.R_drewN | apply Kd.R_drew)); exact HO_5.out⟩, ⟨by (with_reducible repeat (first | apply Kd.R_alloc | apply Kd.R_drewN | apply Kd.R_drew)); exact HO_6.out⟩, ⟨by (with_reducible repeat (first | apply Kd.R_alloc | apply Kd.R_drewN | apply Kd.R_drew)); exact HO_7.out⟩, ⟨by (with_reducible repeat (first | apply Kd.R_alloc | apply Kd.R_drewN | apply Kd.R_drew)); exact HO_42.out⟩, ⟨by repeat (first | (with_reducible first | exact HB.out | apply below_alloc | apply pw_below_drewN | apply below_drew1) | exact HB.out)⟩⟩
                            · rw [if_neg c28] at H
                              have c28b0 : decide ((x7_2.length : Int) ≤ t279) = false := decide_eq_false c28
                              clear c28
                              replace H := Option.bind_eq_some_iff.mp H
                              obtain ⟨t280, A300, H⟩ := H
                              replace H : (hornbeamlaw10_EdgesCut.j2 k2 t269 t272 x7_2 x8_2 t279 t269 (t269.length : Int) x44_2 ((t279 == 0) != t280)) = some r := H
                              have A30 := Aside0.mk A300
                              clear A300
                              have H' := Aside0.mk H
                              clear H
                              obtain ⟨Ao31, co31, eo31⟩ := Kd.R_slice HO_7.out
                              subst eo31
                              go_wp2_with (first | (go_at_call 21; (with_reducible refine (hornbeamref06_Missing.calls (rdOf (0 : Nat) t269 x44_2) t280 _ A30.out).mono ?_); rintro e w' ⟨rfl, ⟨nd, rfl⟩⟩))
                              go_meet
                              case rel => exact ⟨_, (((t279 == 0) != t280)), (by first | rfl | (simp; done) | (simp [*]; done)), H', ⟨by have := HJ7.out; have := HK2.out; first | omega | exact Nat.le_refl _⟩, ⟨by (with_reducible repeat (first | apply Kd.R_alloc | apply Kd.R_drewN | apply Kd.R_drew)); exact HO_5.out⟩, ⟨by (with_reducible repeat (first | apply Kd.R_alloc | apply Kd.R_drewN | apply Kd.R_drew)); exact HO_6.out⟩, ⟨by (with_reducible repeat (first | apply Kd.R_alloc | apply Kd.R_drewN | apply Kd.R_drew)); exact HO_7.out⟩, ⟨by (with_reducible repeat (first | apply Kd.R_alloc | apply Kd.R_drewN | apply Kd.R_drew)); exact HO_42.out⟩, ⟨by repeat (first | (with_reducible first | exact HB.out | apply below_alloc | apply pw_below_drewN | apply below_drew1) | exact HB.out)⟩⟩
                        case rest =>
                          clear HC26
                          try clear c1
                          try clear c2
                          try clear p2
                          try clear q2
                          try clear hx2
                          try clear c3
                          try clear c3b0
                          try clear c3b1
                          try clear p6
                          try clear c8
                          try clear c12
                          try clear c12b0
                          try clear c12b1
                          try clear c15
                          try clear c17
                          try clear c17b0
                          try clear c17b1
                          try clear c18
                          try clear c18b0
                          try clear c18b1
                          try clear c22
                          try clear c22b0
                          try clear c23
                          try clear c23b0
                          try clear c24
                          try clear c24b0
                          try clear c27
                          try clear c27b0
                          try clear p27
                          try clear q27
                          try clear hx27
                          try clear c28
                          try clear c28b0
                          try clear hx278_0
                          try clear p2
                          try clear p278
                          try clear p6
                          try clear q278
                          obtain ⟨kq, x65_25, rfl, HA, HJ25, HO_5, HO_6, HO_7, HO_42, HB⟩ := hcut
                          cases kq with
                          | zero => exact absurd HA.out (by simp [hornbeamlaw10_EdgesCut.j2])
                          | succ kj25 =>
                            have H := HA.out
                            clear HA
                            simp only [hornbeamlaw10_EdgesCut.j2] at H
                            by_cases c32 : x65_25 = true
                            · subst c32
                              have H1 : (some false) = some r := by rw [if_pos rfl] at H; exact H
                              clear H
                              have H := H1
                              clear H1
                              obtain rfl := Option.some.inj H
                              go_wp2
                              go_ret
                              exact ⟨by first | rfl | (simp [errW_none, errW_some] <;> rfl) | (simp only [← hji16]; first | rfl | (simp [errW_none, errW_some] <;> rfl)) | (simp [*, errW_none, errW_some] <;> rfl), by repeat (first | (with_reducible first | exact HB.out | apply below_alloc | apply pw_below_drewN | apply below_drew1) | exact HB.out)⟩
                            · replace c32 := Bool.eq_false_iff.mpr c32
                              subst c32
                              have H1 : (if 0 ≤ t279 then (if t279 < (x7_2.length : Int) then ((some (x7_2.set (t279 : Int).toNat (wrap64 ((rd x7_2 t279) + 1)) : List Int)).bind fun y282 => (if t279 > 0 then (hornbeamlaw10_EdgesCut.l0 kj25 t269 t272 y282 (wrap64 (x8_2 + 1)) t269 (t269.length : Int) (wrap64 (x44_2 + 1))) else (hornbeamlaw10_EdgesCut.l0 kj25 t269 t272 y282 x8_2 t269 (t269.length : Int) (wrap64 (x44_2 + 1))))) else (none)) else (none)) = some r := by rw [if_neg (show ¬ (false = true) by decide)] at H; exact H
                              clear H
                              have H := H1
                              clear H1
                              by_cases c33 : 0 ≤ t279
                              · rw [if_pos c33] at H
                                have c33b0 : decide (0 ≤ t279) = true := decide_eq_true c33
                                clear c33
                                by_cases c34 : t279 < (x7_2.length : Int)
                                · rw [if_pos c34] at H
                                  have c34b0 : decide (t279 < (x7_2.length : Int)) = true := decide_eq_true c34
                                  clear c34
                                  obtain ⟨y282, hy282⟩ : ∃ y_ : List Int, y_ = (x7_2.set (t279 : Int).toNat (wrap64 ((rd x7_2 t279) + 1))) := ⟨_, rfl⟩
                                  replace H : (if t279 > 0 then (hornbeamlaw10_EdgesCut.l0 kj25 t269 t272 y282 (wrap64 (x8_2 + 1)) t269 (t269.length : Int) (wrap64 (x44_2 + 1))) else (hornbeamlaw10_EdgesCut.l0 kj25 t269 t272 y282 x8_2 t269 (t269.length : Int) (wrap64 (x44_2 + 1)))) = some r := by first | (rw [hy282]; with_reducible exact H) | (have H2_ := (Option.bind_some _ _).symm.trans H; rw [hy282]; with_reducible exact H2_) | (have H2_ := (Option.bind_some _ _).symm.trans H; with_reducible exact H2_) | with_reducible exact H | (rw [hy282]; exact H) | exact H
                                  have Ny282 := Aside0.mk hy282
                                  clear hy282
                                  by_cases c36 : t279 > 0
                                  · rw [if_pos c36] at H
                                    have c36b0 : decide (0 < t279) = true := decide_eq_true c36
                                    clear c36
                                    have H' := Aside0.mk H
                                    clear H
                                    obtain ⟨Ao37, co37, eo37⟩ := Kd.R_slice HO_7.out
                                    subst eo37
                                    have p281 : 0 ≤ (t279 : Int) := of_decide_eq_true (by first | (with_reducible assumption) | assumption)
                                    have q281 : t279 < (x7_2.length : Int) := of_decide_eq_true (by first | (with_reducible assumption) | assumption)
                                    obtain ⟨ad281, e281, hx281_0⟩ := Kd.at_int (Kd.R_reads' HO_7.out).2.2 t279 p281 q281
                                    cases e281
                                    replace p281 := eq_true p281
                                    replace q281 := eq_true q281
                                    have p35 : 0 ≤ (t279 : Int) := of_decide_eq_true (by first | (with_reducible assumption) | assumption)
                                    have q35 : (t279 : Int) < ((x7_2.length : Int) : Int) := of_decide_eq_true (by first | (with_reducible assumption) | assumption)
                                    obtain ⟨go35, co35, eo35, gb35, gl35, cl35, HG35⟩ := Kd.R_form HO_7.out (by omega)
                                    (first | cases eo35 | (injection eo35 with ea_ en_ ec_; (first | subst ea_ | (injection ea_ with ea_; subst ea_)); subst ec_; clear en_))
                                    have GB35 := Aside0.mk gb35
                                    have GG35 := Aside0.mk HG35
                                    clear gb35 gl35 HG35
                                    (first | simp only [add_plain] at hx281_0 | skip)
                                    obtain ⟨hx35_0, hf35_0⟩ := Kd.R_celln 0 HO_7.out (t279 : Int) p35 q35
                                    replace p35 := eq_true p35
                                    replace q35 := eq_true q35
                                    have HP38 := Kd.R_putg HO_7.out (t279 : Int) (wrap64 ((rd x7_2 t279) + 1))
                                    go_wp2_with (first | ((with_reducible refine gate_store (t := 3) (p := 71) rfl ?_); refine store_event (t := 3) (p := 71) (v := ?vo_w39) (w1 := (wc.setCell ⟨go35, (t279 : Int).toNat, none⟩ (.int .i64 (wrap64 ((rd x7_2 t279) + 1))))) ?hg ?ho ?hn ?hr ?_; (case ho => rfl); (case hg => rfl); (case hn => rfl); (case hr => first | (go_simp; done) | (go_simp; rfl)); intro w39 hw; have hg : wc.grownBy w39 (some go35) := (by rw [hw]; exact HP38.2); have hp_ : Kd.R (Kd.int .i64) 3 w39 w.heap.size (fun _ => True) (.slice (some ⟨go35, 0, none⟩) x7_2.length co37) y282 := (by rw [hw, Ny282.out]; exact HP38.1); clear HP38; have n0_ := Aside0.mk (Kd.R_over' (v := (.slice (some ⟨go35, 0, none⟩) x7_2.length co37)) (by (with_reducible repeat (first | apply Kd.R_alloc | apply Kd.R_drewN | apply Kd.R_drew)); exact HO_5.out) (Kd.R_typed HO_7.out) (by decide) hg); have n1_ := Aside0.mk (Kd.R_over' (v := (.slice (some ⟨go35, 0, none⟩) x7_2.length co37)) (by (with_reducible repeat (first | apply Kd.R_alloc | apply Kd.R_drewN | apply Kd.R_drew)); exact HO_6.out) (Kd.R_typed HO_7.out) (by decide) hg); have n2_ := Aside0.mk (hp_); have n3_ := Aside0.mk (Kd.R_over' (v := (.slice (some ⟨go35, 0, none⟩) x7_2.length co37)) (by (with_reducible repeat (first | apply Kd.R_alloc | apply Kd.R_drewN | apply Kd.R_drew)); exact HO_42.out) (Kd.R_typed HO_7.out) (by decide) hg); have n4_ := Aside0.mk ((by rw [hw]; exact below_set (HB.out) GB35.out : Below w.heap.size w w39)); clear HO_5; clear HO_6; clear HO_7; clear HO_42; clear HB; have HO_5 := n0_; have HO_6 := n1_; have HO_7 := n2_; have HO_42 := n3_; have HB := n4_; clear n0_ n1_ n2_ n3_ n4_; clear hg hw hp_))
                                    go_roundg kj25
                                    case measure => have := HJ7.out; have := HK2.out; have := HJ25.out; omega
                                    case rel => exact ⟨(y282), (wrap64 (x8_2 + 1)), (wrap64 (x44_2 + 1)), (by first | rfl | (simp; done) | (simp [*]; done)), (by first | rfl | (simp; done) | (simp [*]; done)), H', ⟨by have := HJ7.out; have := HK2.out; have := HJ25.out; omega⟩, ⟨by (with_reducible repeat (first | apply Kd.R_alloc | apply Kd.R_drewN | apply Kd.R_drew)); exact HO_5.out⟩, ⟨by (with_reducible repeat (first | apply Kd.R_alloc | apply Kd.R_drewN | apply Kd.R_drew)); exact HO_6.out⟩, ⟨by (with_reducible repeat (first | apply Kd.R_alloc | apply Kd.R_drewN | apply Kd.R_drew)); exact HO_7.out⟩, ⟨by (with_reducible repeat (first | apply Kd.R_alloc | apply Kd.R_drewN | apply Kd.R_drew)); exact HO_42.out⟩, ⟨by repeat (first | (with_reducible first | exact HB.out | apply below_alloc | apply pw_below_drewN | apply below_drew1) | exact HB.out)⟩⟩
                                  · rw [if_neg c36] at H
                                    have c36b0 : decide (0 < t279) = false := decide_eq_false c36
                                    clear c36
                                    have H' := Aside0.mk H
                                    clear H
                                    obtain ⟨Ao40, co40, eo40⟩ := Kd.R_slice HO_7.out
                                    subst eo40
                                    have p281 : 0 ≤ (t279 : Int) := of_decide_eq_true (by first | (with_reducible assumption) | assumption)
                                    have q281 : t279 < (x7_2.length : Int) := of_decide_eq_true (by first | (with_reducible assumption) | assumption)
                                    obtain ⟨ad281, e281, hx281_0⟩ := Kd.at_int (Kd.R_reads' HO_7.out).2.2 t279 p281 q281
                                    cases e281
                                    replace p281 := eq_true p281
                                    replace q281 := eq_true q281
                                    have p35 : 0 ≤ (t279 : Int) := of_decide_eq_true (by first | (with_reducible assumption) | assumption)
                                    have q35 : (t279 : Int) < ((x7_2.length : Int) : Int) := of_decide_eq_true (by first | (with_reducible assumption) | assumption)
                                    obtain ⟨go35, co35, eo35, gb35, gl35, cl35, HG35⟩ := Kd.R_form HO_7.out (by omega)
                                    (first | cases eo35 | (injection eo35 with ea_ en_ ec_; (first | subst ea_ | (injection ea_ with ea_; subst ea_)); subst ec_; clear en_))
                                    have GB35 := Aside0.mk gb35
                                    have GG35 := Aside0.mk HG35
                                    clear gb35 gl35 HG35
                                    (first | simp only [add_plain] at hx281_0 | skip)
                                    obtain ⟨hx35_0, hf35_0⟩ := Kd.R_celln 0 HO_7.out (t279 : Int) p35 q35
                                    replace p35 := eq_true p35
                                    replace q35 := eq_true q35
                                    have HP41 := Kd.R_putg HO_7.out (t279 : Int) (wrap64 ((rd x7_2 t279) + 1))
                                    go_wp2_with (first | ((with_reducible refine gate_store (t := 3) (p := 71) rfl ?_); refine store_event (t := 3) (p := 71) (v := ?vo_w42) (w1 := (wc.setCell ⟨go35, (t279 : Int).toNat, none⟩ (.int .i64 (wrap64 ((rd x7_2 t279) + 1))))) ?hg ?ho ?hn ?hr ?_; (case ho => rfl); (case hg => rfl); (case hn => rfl); (case hr => first | (go_simp; done) | (go_simp; rfl)); intro w42 hw; have hg : wc.grownBy w42 (some go35) := (by rw [hw]; exact HP41.2); have hp_ : Kd.R (Kd.int .i64) 3 w42 w.heap.size (fun _ => True) (.slice (some ⟨go35, 0, none⟩) x7_2.length co40) y282 := (by rw [hw, Ny282.out]; exact HP41.1); clear HP41; have n0_ := Aside0.mk (Kd.R_over' (v := (.slice (some ⟨go35, 0, none⟩) x7_2.length co40)) (by (with_reducible repeat (first | apply Kd.R_alloc | apply Kd.R_drewN | apply Kd.R_drew)); exact HO_5.out) (Kd.R_typed HO_7.out) (by decide) hg); have n1_ := Aside0.mk (Kd.R_over' (v := (.slice (some ⟨go35, 0, none⟩) x7_2.length co40)) (by (with_reducible repeat (first | apply Kd.R_alloc | apply Kd.R_drewN | apply Kd.R_drew)); exact HO_6.out) (Kd.R_typed HO_7.out) (by decide) hg); have n2_ := Aside0.mk (hp_); have n3_ := Aside0.mk (Kd.R_over' (v := (.slice (some ⟨go35, 0, none⟩) x7_2.length co40)) (by (with_reducible repeat (first | apply Kd.R_alloc | apply Kd.R_drewN | apply Kd.R_drew)); exact HO_42.out) (Kd.R_typed HO_7.out) (by decide) hg); have n4_ := Aside0.mk ((by rw [hw]; exact below_set (HB.out) GB35.out : Below w.heap.size w w42)); clear HO_5; clear HO_6; clear HO_7; clear HO_42; clear HB; have HO_5 := n0_; have HO_6 := n1_; have HO_7 := n2_; have HO_42 := n3_; have HB := n4_; clear n0_ n1_ n2_ n3_ n4_; clear hg hw hp_))
                                    go_roundg kj25
                                    case measure => have := HJ7.out; have := HK2.out; have := HJ25.out; omega
                                    case rel => exact ⟨(y282), (x8_2), (wrap64 (x44_2 + 1)), (by first | rfl | (simp; done) | (simp [*]; done)), (by first | rfl | (simp; done) | (simp [*]; done)), H', ⟨by have := HJ7.out; have := HK2.out; have := HJ25.out; omega⟩, ⟨by (with_reducible repeat (first | apply Kd.R_alloc | apply Kd.R_drewN | apply Kd.R_drew)); exact HO_5.out⟩, ⟨by (with_reducible repeat (first | apply Kd.R_alloc | apply Kd.R_drewN | apply Kd.R_drew)); exact HO_6.out⟩, ⟨by (with_reducible repeat (first | apply Kd.R_alloc | apply Kd.R_drewN | apply Kd.R_drew)); exact HO_7.out⟩, ⟨by (with_reducible repeat (first | apply Kd.R_alloc | apply Kd.R_drewN | apply Kd.R_drew)); exact HO_42.out⟩, ⟨by repeat (first | (with_reducible first | exact HB.out | apply below_alloc | apply pw_below_drewN | apply below_drew1) | exact HB.out)⟩⟩
                                · rw [if_neg c34] at H
                                  exact absurd H (by simp)
                              · rw [if_neg c33] at H
                                exact absurd H (by simp)
                      · rw [if_neg c24] at H
                        exact absurd H (by simp)
                    · rw [if_neg c23] at H
                      exact absurd H (by simp)
                  · rw [if_neg c22] at H
                    have c22b0 : decide (x44_2 < (t269.length : Int)) = false := decide_eq_false c22
                    clear c22
                    have H' := Aside0.mk H
                    clear H
                    go_wp2
                    go_loopg [79] k2 (fun kq v79 w' => ∃ (x79_3 : Int), v79 = .int .i64 x79_3 ∧ Aside0 (hornbeamlaw10_EdgesCut.l1 kq t269 t272 x7_2 x8_2 t272 (t272.length : Int) x79_3 = some r) ∧ Aside0 (kq ≤ k2) ∧ Aside0 (Kd.R Flt.kf 23 w' w.heap.size (fun k_ => some k_ ≠ ((.slice Ao19 t272.length co19) : Value).ownBlock ∧ some k_ ≠ ((.slice Ao19 t272.length co19) : Value).ownBlock) (.slice Ao10 t269.length co10) t269) ∧ Aside0 (Kd.R Flt.kf 23 w' w.heap.size (fun k_ => some k_ ≠ ((.slice Ao10 t269.length co10) : Value).ownBlock) (.slice Ao19 t272.length co19) t272) ∧ Aside0 (Kd.R (Kd.int .i64) 3 w' w.heap.size (fun _ => True) v276 x7_2) ∧ Aside0 (Kd.R Flt.kf 23 w' w.heap.size (fun k_ => some k_ ≠ ((.slice Ao10 t269.length co10) : Value).ownBlock) (.slice Ao19 t272.length co19) t272) ∧ Aside0 (Below w.heap.size w w'))
                    case atStart => exact ⟨(0), (by first | rfl | (simp; done) | (simp [*]; done)), H', ⟨Nat.le_refl _⟩, ⟨by (with_reducible repeat (first | apply Kd.R_alloc | apply Kd.R_drewN | apply Kd.R_drew)); exact Kd.R_mono HO_5.out (fun _ hk => ⟨hk, hk⟩)⟩, ⟨by (with_reducible repeat (first | apply Kd.R_alloc | apply Kd.R_drewN | apply Kd.R_drew)); exact Kd.R_mono HO_6.out (fun _ hk => hk.1)⟩, ⟨by (with_reducible repeat (first | apply Kd.R_alloc | apply Kd.R_drewN | apply Kd.R_drew)); exact HO_7.out⟩, ⟨by (with_reducible repeat (first | apply Kd.R_alloc | apply Kd.R_drewN | apply Kd.R_drew)); exact Kd.R_mono HO_6.out (fun _ hk => hk.1)⟩, ⟨by repeat (first | (with_reducible first | exact HB.out | apply below_alloc | apply pw_below_drewN | apply below_drew1) | exact HB.out)⟩⟩
                    case round =>
                      clear H'
                      try clear c1
                      try clear c2
                      try clear p2
                      try clear q2
                      try clear hx2
                      try clear c3
                      try clear c3b0
                      try clear c3b1
                      try clear p3
                      try clear q3
                      try clear hx3
                      try clear hf3
                      try clear p6
                      try clear c8
                      try clear c12
                      try clear c12b0
                      try clear c12b1
                      try clear c15
                      try clear c17
                      try clear c17b0
                      try clear c17b1
                      try clear c18
                      try clear c18b0
                      try clear c18b1
                      try clear c22
                      try clear c22b0
                      try clear c23
                      try clear c23b0
                      try clear c24
                      try clear c24b0
                      try clear c27
                      try clear c27b0
                      try clear p27
                      try clear q27
                      try clear hx27
                      try clear c28
                      try clear c28b0
                      try clear p28
                      try clear q28
                      try clear hx28
                      try clear c32
                      try clear c33
                      try clear c33b0
                      try clear c34
                      try clear c34b0
                      try clear p35
                      try clear q35
                      try clear hx35
                      try clear hf35
                      try clear c36
                      try clear c36b0
                      try clear hx278_0
                      try clear hx281_0
                      try clear hx35_0
                      try clear p2
                      try clear p27
                      try clear p278
                      try clear p281
                      try clear p35
                      try clear p6
                      try clear q2
                      try clear q27
                      try clear q278
                      try clear q281
                      try clear q35
                      obtain ⟨x79_3, rfl, HA, HK3, HO_5, HO_6, HO_7, HO_77, HB⟩ := hrel
                      cases gk with
                      | zero => exact absurd HA.out (by simp [hornbeamlaw10_EdgesCut.l1])
                      | succ k3 =>
                        have H := HA.out
                        clear HA
                        simp only [hornbeamlaw10_EdgesCut.l1] at H
                        by_cases c43 : x79_3 < (t272.length : Int)
                        · rw [if_pos c43] at H
                          have c43b0 : decide (x79_3 < (t272.length : Int)) = true := decide_eq_true c43
                          clear c43
                          by_cases c44 : 0 ≤ x79_3
                          · rw [if_pos c44] at H
                            have c44b0 : decide (0 ≤ x79_3) = true := decide_eq_true c44
                            clear c44
                            by_cases c45 : x79_3 < (t272.length : Int)
                            · rw [if_pos c45] at H
                              have c45b0 : decide (x79_3 < (t272.length : Int)) = true := decide_eq_true c45
                              clear c45
                              have H' := Aside0.mk H
                              clear H
                              have p283 : 0 ≤ (x79_3 : Int) := of_decide_eq_true (by first | (with_reducible assumption) | assumption)
                              have q283 : x79_3 < (t272.length : Int) := of_decide_eq_true (by first | (with_reducible assumption) | assumption)
                              obtain ⟨ad283, e283, hx283_0⟩ := Flt.at_kf (Kd.R_reads' HO_77.out).2.2 x79_3 p283 q283
                              cases e283
                              replace p283 := eq_true p283
                              replace q283 := eq_true q283
                              go_wp2
                              go_loopg [14, 86] k3 (fun kq v14 v86 w' => ∃ (x14_4 : Bool) (x86_4 : Int), v14 = .bool x14_4 ∧ v86 = .int .i64 x86_4 ∧ Aside0 (hornbeamlaw10_EdgesCut.l2 kq t269 t272 x7_2 x8_2 x79_3 (rdOf (0 : Nat) t272 x79_3) x14_4 t272 (t272.length : Int) x79_3 t269 (t269.length : Int) x86_4 = some r) ∧ Aside0 (kq ≤ k3) ∧ Aside0 (Kd.R Flt.kf 23 w' w.heap.size (fun k_ => some k_ ≠ ((.slice (some ad283) t272.length co19) : Value).ownBlock ∧ some k_ ≠ ((.slice (some ad283) t272.length co19) : Value).ownBlock) (.slice Ao10 t269.length co10) t269) ∧ Aside0 (Kd.R Flt.kf 23 w' w.heap.size (fun k_ => some k_ ≠ ((.slice Ao10 t269.length co10) : Value).ownBlock ∧ some k_ ≠ ((.slice Ao10 t269.length co10) : Value).ownBlock) (.slice (some ad283) t272.length co19) t272) ∧ Aside0 (Kd.R (Kd.int .i64) 3 w' w.heap.size (fun _ => True) v276 x7_2) ∧ Aside0 (Kd.R Flt.kf 23 w' w.heap.size (fun k_ => some k_ ≠ ((.slice Ao10 t269.length co10) : Value).ownBlock ∧ some k_ ≠ ((.slice Ao10 t269.length co10) : Value).ownBlock) (.slice (some ad283) t272.length co19) t272) ∧ Aside0 (Kd.R Flt.kf 23 w' w.heap.size (fun k_ => some k_ ≠ ((.slice (some ad283) t272.length co19) : Value).ownBlock ∧ some k_ ≠ ((.slice (some ad283) t272.length co19) : Value).ownBlock) (.slice Ao10 t269.length co10) t269) ∧ Aside0 (Below w.heap.size w w'))
                              case atStart => exact ⟨(false), (0), (by first | rfl | (simp; done) | (simp [*]; done)), (by first | rfl | (simp; done) | (simp [*]; done)), H', ⟨Nat.le_refl _⟩, ⟨by (with_reducible repeat (first | apply Kd.R_alloc | apply Kd.R_drewN | apply Kd.R_drew)); exact HO_5.out⟩, ⟨by (with_reducible repeat (first | apply Kd.R_alloc | apply Kd.R_drewN | apply Kd.R_drew)); exact Kd.R_mono HO_6.out (fun _ hk => ⟨hk, hk⟩)⟩, ⟨by (with_reducible repeat (first | apply Kd.R_alloc | apply Kd.R_drewN | apply Kd.R_drew)); exact HO_7.out⟩, ⟨by (with_reducible repeat (first | apply Kd.R_alloc | apply Kd.R_drewN | apply Kd.R_drew)); exact Kd.R_mono HO_77.out (fun _ hk => ⟨hk, hk⟩)⟩, ⟨by (with_reducible repeat (first | apply Kd.R_alloc | apply Kd.R_drewN | apply Kd.R_drew)); exact HO_5.out⟩, ⟨by repeat (first | (with_reducible first | exact HB.out | apply below_alloc | apply pw_below_drewN | apply below_drew1) | exact HB.out)⟩⟩
                              case round =>
                                clear H'
                                try clear c1
                                try clear c2
                                try clear p2
                                try clear q2
                                try clear hx2
                                try clear c3
                                try clear c3b0
                                try clear c3b1
                                try clear p3
                                try clear q3
                                try clear hx3
                                try clear hf3
                                try clear c4
                                try clear p6
                                try clear c8
                                try clear c12
                                try clear c12b0
                                try clear c12b1
                                try clear c15
                                try clear c17
                                try clear c17b0
                                try clear c17b1
                                try clear c18
                                try clear c18b0
                                try clear c18b1
                                try clear c22
                                try clear c22b0
                                try clear c23
                                try clear c23b0
                                try clear c24
                                try clear c24b0
                                try clear c27
                                try clear c27b0
                                try clear p27
                                try clear q27
                                try clear hx27
                                try clear c28
                                try clear c28b0
                                try clear p28
                                try clear q28
                                try clear hx28
                                try clear c32
                                try clear c33
                                try clear c33b0
                                try clear c34
                                try clear c34b0
                                try clear p35
                                try clear q35
                                try clear hx35
                                try clear hf35
                                try clear c36
                                try clear c36b0
                                try clear c43
                                try clear c43b0
                                try clear c44
                                try clear c44b0
                                try clear c45
                                try clear c45b0
                                try clear hx278_0
                                try clear hx281_0
                                try clear hx283_0
                                try clear hx35_0
                                try clear p2
                                try clear p27
                                try clear p278
                                try clear p28
                                try clear p281
                                try clear p283
                                try clear p3
                                try clear p35
                                try clear p6
                                try clear q2
                                try clear q27
                                try clear q278
                                try clear q28
                                try clear q281
                                try clear q283
                                try clear q3
                                try clear q35
                                obtain ⟨x14_4, x86_4, rfl, rfl, HA, HK4, HO_5, HO_6, HO_7, HO_77, HO_84, HB⟩ := hrel
                                cases gk with
                                | zero => exact absurd HA.out (by simp [hornbeamlaw10_EdgesCut.l2])
                                | succ k4 =>
                                  have H := HA.out
                                  clear HA
                                  simp only [hornbeamlaw10_EdgesCut.l2] at H
                                  by_cases c46 : x86_4 < (t269.length : Int)
                                  · rw [if_pos c46] at H
                                    have c46b0 : decide (x86_4 < (t269.length : Int)) = true := decide_eq_true c46
                                    clear c46
                                    by_cases c47 : 0 ≤ x86_4
                                    · rw [if_pos c47] at H
                                      have c47b0 : decide (0 ≤ x86_4) = true := decide_eq_true c47
                                      clear c47
                                      by_cases c48 : x86_4 < (t269.length : Int)
                                      · rw [if_pos c48] at H
                                        have c48b0 : decide (x86_4 < (t269.length : Int)) = true := decide_eq_true c48
                                        clear c48
                                        by_cases c49 : x14_4 = true
                                        · subst c49
                                          have H1 : (hornbeamlaw10_EdgesCut.l2 k4 t269 t272 x7_2 x8_2 x79_3 (rdOf (0 : Nat) t272 x79_3) true t272 (t272.length : Int) x79_3 t269 (t269.length : Int) (wrap64 (x86_4 + 1))) = some r := by rw [if_pos rfl] at H; exact H
                                          clear H
                                          have H := H1
                                          clear H1
                                          have H' := Aside0.mk H
                                          clear H
                                          have p284 : 0 ≤ (x86_4 : Int) := of_decide_eq_true (by first | (with_reducible assumption) | assumption)
                                          have q284 : x86_4 < (t269.length : Int) := of_decide_eq_true (by first | (with_reducible assumption) | assumption)
                                          obtain ⟨ad284, e284, hx284_0⟩ := Flt.at_kf (Kd.R_reads' HO_84.out).2.2 x86_4 p284 q284
                                          cases e284
                                          replace p284 := eq_true p284
                                          replace q284 := eq_true q284
                                          go_wp2
                                          go_roundg k4
                                          case measure => have := HJ7.out; have := HK2.out; have := HK3.out; have := HK4.out; omega
                                          case rel => exact ⟨(true), (wrap64 (x86_4 + 1)), (by first | rfl | (simp; done) | (simp [*]; done)), (by first | rfl | (simp; done) | (simp [*]; done)), H', ⟨by have := HJ7.out; have := HK2.out; have := HK3.out; have := HK4.out; omega⟩, ⟨by (with_reducible repeat (first | apply Kd.R_alloc | apply Kd.R_drewN | apply Kd.R_drew)); exact HO_5.out⟩, ⟨by (with_reducible repeat (first | apply Kd.R_alloc | apply Kd.R_drewN | apply Kd.R_drew)); exact HO_6.out⟩, ⟨by (with_reducible repeat (first | apply Kd.R_alloc | apply Kd.R_drewN | apply Kd.R_drew)); exact HO_7.out⟩, ⟨by (with_reducible repeat (first | apply Kd.R_alloc | apply Kd.R_drewN | apply Kd.R_drew)); exact HO_77.out⟩, ⟨by (with_reducible repeat (first | apply Kd.R_alloc | apply Kd.R_drewN | apply Kd.R_drew)); exact HO_84.out⟩, ⟨by repeat (first | (with_reducible first | exact HB.out | apply below_alloc | apply pw_below_drewN | apply below_drew1) | exact HB.out)⟩⟩
                                        · replace c49 := Bool.eq_false_iff.mpr c49
                                          subst c49
                                          have H1 : ((hornbeamref06_Cmp.f k4 (rdOf (0 : Nat) t269 x86_4) (rdOf (0 : Nat) t272 x79_3)).bind fun t285 => (hornbeamlaw10_EdgesCut.l2 k4 t269 t272 x7_2 x8_2 x79_3 (rdOf (0 : Nat) t272 x79_3) (t285 == 0) t272 (t272.length : Int) x79_3 t269 (t269.length : Int) (wrap64 (x86_4 + 1)))) = some r := by rw [if_neg (show ¬ (false = true) by decide)] at H; exact H
                                          clear H
                                          have H := H1
                                          clear H1
                                          replace H := Option.bind_eq_some_iff.mp H
                                          obtain ⟨t285, A500, H⟩ := H
                                          replace H : (hornbeamlaw10_EdgesCut.l2 k4 t269 t272 x7_2 x8_2 x79_3 (rdOf (0 : Nat) t272 x79_3) (t285 == 0) t272 (t272.length : Int) x79_3 t269 (t269.length : Int) (wrap64 (x86_4 + 1))) = some r := H
                                          have A50 := Aside0.mk A500
                                          clear A500
                                          have H' := Aside0.mk H
                                          clear H
                                          have p284 : 0 ≤ (x86_4 : Int) := of_decide_eq_true (by first | (with_reducible assumption) | assumption)
                                          have q284 : x86_4 < (t269.length : Int) := of_decide_eq_true (by first | (with_reducible assumption) | assumption)
                                          obtain ⟨ad284, e284, hx284_0⟩ := Flt.at_kf (Kd.R_reads' HO_84.out).2.2 x86_4 p284 q284
                                          cases e284
                                          replace p284 := eq_true p284
                                          replace q284 := eq_true q284
                                          go_wp2_with (first | (go_at_call 27; (with_reducible refine (hornbeamref06_Cmp.calls k4 (rdOf (0 : Nat) t269 x86_4) (rdOf (0 : Nat) t272 x79_3) t285 _ A50.out).mono ?_); rintro e w' ⟨rfl, ⟨nd, rfl⟩⟩))
                                          go_roundg k4
                                          case measure => have := HJ7.out; have := HK2.out; have := HK3.out; have := HK4.out; omega
                                          case rel => exact ⟨((t285 == 0)), (wrap64 (x86_4 + 1)), (by first | rfl | (simp; done) | (simp [*]; done)), (by first | rfl | (simp; done) | (simp [*]; done)), H', ⟨by have := HJ7.out; have := HK2.out; have := HK3.out; have := HK4.out; omega⟩, ⟨by (with_reducible repeat (first | apply Kd.R_alloc | apply Kd.R_drewN | apply Kd.R_drew)); exact HO_5.out⟩, ⟨by (with_reducible repeat (first | apply Kd.R_alloc | apply Kd.R_drewN | apply Kd.R_drew)); exact HO_6.out⟩, ⟨by (with_reducible repeat (first | apply Kd.R_alloc | apply Kd.R_drewN | apply Kd.R_drew)); exact HO_7.out⟩, ⟨by (with_reducible repeat (first | apply Kd.R_alloc | apply Kd.R_drewN | apply Kd.R_drew)); exact HO_77.out⟩, ⟨by (with_reducible repeat (first | apply Kd.R_alloc | apply Kd.R_drewN | apply Kd.R_drew)); exact HO_84.out⟩, ⟨by repeat (first | (with_reducible first | exact HB.out | apply below_alloc | apply pw_below_drewN | apply below_drew1) | exact HB.out)⟩⟩
                                      · rw [if_neg c48] at H
                                        exact absurd H (by simp)
                                    · rw [if_neg c47] at H
                                      exact absurd H (by simp)
                                  · rw [if_neg c46] at H
                                    have c46b0 : decide (x86_4 < (t269.length : Int)) = false := decide_eq_false c46
                                    clear c46
                                    by_cases c51 : x14_4 = true
                                    · subst c51
                                      have H1 : ((edges_Bin.f k4 t272 (rdOf (0 : Nat) t272 x79_3)).bind fun t286 => (if t286 = (wrap64 (x79_3 + 2)) then (hornbeamlaw10_EdgesCut.l1 k4 t269 t272 x7_2 x8_2 t272 (t272.length : Int) (wrap64 (x79_3 + 1))) else (some false))) = some r := by rw [if_pos rfl] at H; exact H
                                      clear H
                                      have H := H1
                                      clear H1
                                      replace H := Option.bind_eq_some_iff.mp H
                                      obtain ⟨t286, A520, H⟩ := H
                                      replace H : (if t286 = (wrap64 (x79_3 + 2)) then (hornbeamlaw10_EdgesCut.l1 k4 t269 t272 x7_2 x8_2 t272 (t272.length : Int) (wrap64 (x79_3 + 1))) else (some false)) = some r := H
                                      have A52 := Aside0.mk A520
                                      clear A520
                                      by_cases c53 : t286 = (wrap64 (x79_3 + 2))
                                      · rw [if_pos c53] at H
                                        have c53b0 : (t286 == (wrap64 (x79_3 + 2))) = true := beq_iff_eq.mpr c53
                                        have c53b1 : (t286 != (wrap64 (x79_3 + 2))) = false := bne_eq_false_iff_eq.mpr c53
                                        clear c53
                                        have H' := Aside0.mk H
                                        clear H
                                        go_wp2_with (first | (go_at_call 34; (with_reducible refine (edges_Bin.calls k4 _ _ t272 (rdOf (0 : Nat) t272 x79_3) t286 _ ?side1 ?side2 A52.out).mono ?_); (case side1 => repeat (first | exact (Kd.R_reads' HO_6.out).2.2 | (with_reducible refine Kd.C_alloc ?_ _) | (with_reducible refine Kd.C_drewN ?_ _) | (with_reducible refine Kd.C_drew ?_))); (case side2 => exact (Kd.R_reads' HO_6.out).2.1); rintro e w' ⟨rfl, ⟨nd, rfl⟩⟩))
                                        go_roundg k4
                                        case measure => have := HJ7.out; have := HK2.out; have := HK3.out; have := HK4.out; omega
                                        case rel => exact ⟨(wrap64 (x79_3 + 1)), (by first | rfl | (simp; done) | (simp [*]; done)), H', ⟨by have := HJ7.out; have := HK2.out; have := HK3.out; have := HK4.out; omega⟩, ⟨by (with_reducible repeat (first | apply Kd.R_alloc | apply Kd.R_drewN | apply Kd.R_drew)); exact HO_5.out⟩, ⟨by (with_reducible repeat (first | apply Kd.R_alloc | apply Kd.R_drewN | apply Kd.R_drew)); exact Kd.R_mono HO_6.out (fun _ hk => hk.1)⟩, ⟨by (with_reducible repeat (first | apply Kd.R_alloc | apply Kd.R_drewN | apply Kd.R_drew)); exact HO_7.out⟩, ⟨by (with_reducible repeat (first | apply Kd.R_alloc | apply Kd.R_drewN | apply Kd.R_drew)); exact Kd.R_mono HO_77.out (fun _ hk => hk.1)⟩, ⟨by repeat (first | (with_reducible first | exact HB.out | apply below_alloc | apply pw_below_drewN | apply below_drew1) | exact HB.out)⟩⟩
                                      · rw [if_neg c53] at H
                                        have c53b0 : (t286 == (wrap64 (x79_3 + 2))) = false := beq_eq_false_iff_ne.mpr c53
                                        have c53b1 : (t286 != (wrap64 (x79_3 + 2))) = true := bne_iff_ne.mpr c53
                                        obtain rfl := Option.some.inj H
                                        go_wp2_with (first | (go_at_call 34; (with_reducible refine (edges_Bin.calls k4 _ _ t272 (rdOf (0 : Nat) t272 x79_3) t286 _ ?side1 ?side2 A52.out).mono ?_); (case side1 => repeat (first | exact (Kd.R_reads' HO_6.out).2.2 | (with_reducible refine Kd.C_alloc ?_ _) | (with_reducible refine Kd.C_drewN ?_ _) | (with_reducible refine Kd.C_drew ?_))); (case side2 => exact (Kd.R_reads' HO_6.out).2.1); rintro e w' ⟨rfl, ⟨nd, rfl⟩⟩))
                                        go_ret
                                        exact ⟨by first | rfl | (simp [errW_none, errW_some] <;> rfl) | (simp only [← hji16]; first | rfl | (simp [errW_none, errW_some] <;> rfl)) | (simp [*, errW_none, errW_some] <;> rfl), by repeat (first | (with_reducible first | exact HB.out | apply below_alloc | apply pw_below_drewN | apply below_drew1) | exact HB.out)⟩
                                    · replace c51 := Bool.eq_false_iff.mpr c51
                                      subst c51
                                      have H1 : (some false) = some r := by rw [if_neg (show ¬ (false = true) by decide)] at H; exact H
                                      clear H
                                      have H := H1
                                      clear H1
                                      obtain rfl := Option.some.inj H
                                      go_wp2
                                      go_ret
                                      exact ⟨by first | rfl | (simp [errW_none, errW_some] <;> rfl) | (simp only [← hji16]; first | rfl | (simp [errW_none, errW_some] <;> rfl)) | (simp [*, errW_none, errW_some] <;> rfl), by repeat (first | (with_reducible first | exact HB.out | apply below_alloc | apply pw_below_drewN | apply below_drew1) | exact HB.out)⟩
                            · rw [if_neg c45] at H
                              exact absurd H (by simp)
                          · rw [if_neg c44] at H
                            exact absurd H (by simp)
                        · rw [if_neg c43] at H
                          have c43b0 : decide (x79_3 < (t272.length : Int)) = false := decide_eq_false c43
                          clear c43
                          have H' := Aside0.mk H
                          clear H
                          go_wp2
                          go_loopg [17] k3 (fun kq v17 w' => ∃ (x17_4 : Int), v17 = .int .i64 x17_4 ∧ Aside0 (hornbeamlaw10_EdgesCut.l3 kq x7_2 x8_2 x17_4 = some r) ∧ Aside0 (kq ≤ k3) ∧ Aside0 (Kd.R (Kd.int .i64) 3 w' w.heap.size (fun _ => True) v276 x7_2) ∧ Aside0 (Below w.heap.size w w'))
                          case atStart => exact ⟨(1), (by first | rfl | (simp; done) | (simp [*]; done)), H', ⟨Nat.le_refl _⟩, ⟨by (with_reducible repeat (first | apply Kd.R_alloc | apply Kd.R_drewN | apply Kd.R_drew)); exact HO_7.out⟩, ⟨by repeat (first | (with_reducible first | exact HB.out | apply below_alloc | apply pw_below_drewN | apply below_drew1) | exact HB.out)⟩⟩
                          case round =>
                            clear H'
                            try clear c1
                            try clear c2
                            try clear p2
                            try clear q2
                            try clear hx2
                            try clear c3
                            try clear c3b0
                            try clear c3b1
                            try clear p3
                            try clear q3
                            try clear hx3
                            try clear hf3
                            try clear c4
                            try clear c5
                            try clear p6
                            try clear c8
                            try clear c12
                            try clear c12b0
                            try clear c12b1
                            try clear c15
                            try clear c17
                            try clear c17b0
                            try clear c17b1
                            try clear c18
                            try clear c18b0
                            try clear c18b1
                            try clear c22
                            try clear c22b0
                            try clear c23
                            try clear c23b0
                            try clear c24
                            try clear c24b0
                            try clear c27
                            try clear c27b0
                            try clear p27
                            try clear q27
                            try clear hx27
                            try clear c28
                            try clear c28b0
                            try clear p28
                            try clear q28
                            try clear hx28
                            try clear c32
                            try clear c33
                            try clear c33b0
                            try clear c34
                            try clear c34b0
                            try clear p35
                            try clear q35
                            try clear hx35
                            try clear hf35
                            try clear c36
                            try clear c36b0
                            try clear c43
                            try clear c43b0
                            try clear c44
                            try clear c44b0
                            try clear c45
                            try clear c45b0
                            try clear c46
                            try clear c46b0
                            try clear c47
                            try clear c47b0
                            try clear c48
                            try clear c48b0
                            try clear c49
                            try clear c51
                            try clear c53
                            try clear c53b0
                            try clear c53b1
                            try clear hx278_0
                            try clear hx281_0
                            try clear hx283_0
                            try clear hx284_0
                            try clear hx35_0
                            try clear p2
                            try clear p27
                            try clear p278
                            try clear p28
                            try clear p281
                            try clear p283
                            try clear p284
                            try clear p3
                            try clear p35
                            try clear p6
                            try clear q2
                            try clear q27
                            try clear q278
                            try clear q28
                            try clear q281
                            try clear q283
                            try clear q284
                            try clear q3
                            try clear q35
                            obtain ⟨x17_4, rfl, HA, HK4, HO_7, HB⟩ := hrel
                            cases gk with
                            | zero => exact absurd HA.out (by simp [hornbeamlaw10_EdgesCut.l3])
                            | succ k4 =>
                              have H := HA.out
                              clear HA
                              simp only [hornbeamlaw10_EdgesCut.l3] at H
                              have HC54 := Aside0.mk H
                              clear H
                              go_upto_region 32 with (fail)
                              go_cut [116] (fun v116 wc => ∃ (kq : Nat) (x116_53 : Bool), v116 = .bool x116_53 ∧ Aside0 (hornbeamlaw10_EdgesCut.j6 kq x7_2 x8_2 x17_4 x116_53 = some r) ∧ Aside0 (kq ≤ k4) ∧ Aside0 (Kd.R (Kd.int .i64) 3 wc w.heap.size (fun _ => True) v276 x7_2) ∧ Aside0 (Below w.heap.size w wc))
                              case first =>
                                have H := HC54.out
                                clear HC54
                                by_cases c55 : x17_4 < (x7_2.length : Int)
                                · rw [if_pos c55] at H
                                  have c55b0 : decide (x17_4 < (x7_2.length : Int)) = true := decide_eq_true c55
                                  clear c55
                                  (first | rw [c55b0] | (simp only [i64_w, i32_w]; rw [c55b0]) | skip)
                                  have H' := Aside0.mk H
                                  clear H
                                  obtain ⟨Ao56, co56, eo56⟩ := Kd.R_slice HO_7.out
                                  subst eo56
                                  go_wp2
                                  go_meet
                                  case rel => exact ⟨_, (decide (x8_2 > 0)), (by first | rfl | (simp; done) | (simp [*]; done)), H', ⟨by have := HJ7.out; have := HK2.out; have := HK3.out; have := HK4.out; first | omega | exact Nat.le_refl _⟩, ⟨by (with_reducible repeat (first | apply Kd.R_alloc | apply Kd.R_drewN | apply Kd.R_drew)); exact HO_7.out⟩, ⟨by repeat (first | (with_reducible first | exact HB.out | apply below_alloc | apply pw_below_drewN | apply below_drew1) | exact HB.out)⟩⟩
                                · rw [if_neg c55] at H
                                  have c55b0 : decide (x17_4 < (x7_2.length : Int)) = false := decide_eq_false c55
                                  clear c55
                                  (first | rw [c55b0] | (simp only [i64_w, i32_w]; rw [c55b0]) | skip)
                                  have H' := Aside0.mk H
                                  clear H
                                  obtain ⟨Ao57, co57, eo57⟩ := Kd.R_slice HO_7.out
                                  subst eo57
                                  go_wp2
                                  go_meet
                                  case rel => exact ⟨_, (false), (by first | rfl | (simp; done) | (simp [*]; done)), H', ⟨by have := HJ7.out; have := HK2.out; have := HK3.out; have := HK4.out; first | omega | exact Nat.le_refl _⟩, ⟨by (with_reducible repeat (first | apply Kd.R_alloc | apply Kd.R_drewN | apply Kd.R_drew)); exact HO_7.out⟩, ⟨by repeat (first | (with_reducible first | exact HB.out | apply below_alloc | apply pw_below_drewN | apply below_drew1) | exact HB.out)⟩⟩
                              case rest =>
                                clear HC54
                                try clear c1
                                try clear c2
                                try clear p2
                                try clear q2
                                try clear hx2
                                try clear c3
                                try clear c3b0
                                try clear c3b1
                                try clear p3
                                try clear q3
                                try clear hx3
                                try clear hf3
                                try clear c4
                                try clear c5
                                try clear p6
                                try clear c8
                                try clear c12
                                try clear c12b0
                                try clear c12b1
                                try clear c15
                                try clear c17
                                try clear c17b0
                                try clear c17b1
                                try clear c18
                                try clear c18b0
                                try clear c18b1
                                try clear c22
                                try clear c22b0
                                try clear c23
                                try clear c23b0
                                try clear c24
                                try clear c24b0
                                try clear c27
                                try clear c27b0
                                try clear p27
                                try clear q27
                                try clear hx27
                                try clear c28
                                try clear c28b0
                                try clear p28
                                try clear q28
                                try clear hx28
                                try clear c32
                                try clear c33
                                try clear c33b0
                                try clear c34
                                try clear c34b0
                                try clear p35
                                try clear q35
                                try clear hx35
                                try clear hf35
                                try clear c36
                                try clear c36b0
                                try clear c43
                                try clear c43b0
                                try clear c44
                                try clear c44b0
                                try clear c45
                                try clear c45b0
                                try clear c46
                                try clear c46b0
                                try clear c47
                                try clear c47b0
                                try clear c48
                                try clear c48b0
                                try clear c49
                                try clear c51
                                try clear c53
                                try clear c53b0
                                try clear c53b1
                                try clear c55
                                try clear c55b0
                                try clear hx278_0
                                try clear hx281_0
                                try clear hx283_0
                                try clear hx284_0
                                try clear hx35_0
                                try clear p2
                                try clear p27
                                try clear p278
                                try clear p28
                                try clear p281
                                try clear p283
                                try clear p284
                                try clear p3
                                try clear p35
                                try clear p6
                                try clear q2
                                try clear q27
                                try clear q278
                                try clear q28
                                try clear q281
                                try clear q283
                                try clear q284
                                try clear q3
                                try clear q35
                                obtain ⟨kq, x116_53, rfl, HA, HJ53, HO_7, HB⟩ := hcut
                                cases kq with
                                | zero => exact absurd HA.out (by simp [hornbeamlaw10_EdgesCut.j6])
                                | succ kj53 =>
                                  have H := HA.out
                                  clear HA
                                  simp only [hornbeamlaw10_EdgesCut.j6] at H
                                  by_cases c58 : x116_53 = true
                                  · subst c58
                                    have H1 : (if 0 ≤ x17_4 then (if x17_4 < (x7_2.length : Int) then (if (rd x7_2 x17_4) = 0 then (some false) else (hornbeamlaw10_EdgesCut.l3 kj53 x7_2 x8_2 (wrap64 (x17_4 + 1)))) else (none)) else (none)) = some r := by rw [if_pos rfl] at H; exact H
                                    clear H
                                    have H := H1
                                    clear H1
                                    by_cases c59 : 0 ≤ x17_4
                                    · rw [if_pos c59] at H
                                      have c59b0 : decide (0 ≤ x17_4) = true := decide_eq_true c59
                                      clear c59
                                      by_cases c60 : x17_4 < (x7_2.length : Int)
                                      · rw [if_pos c60] at H
                                        have c60b0 : decide (x17_4 < (x7_2.length : Int)) = true := decide_eq_true c60
                                        clear c60
                                        by_cases c61 : (rd x7_2 x17_4) = 0
                                        · rw [if_pos c61] at H
                                          have c61b0 : ((rd x7_2 x17_4) == 0) = true := beq_iff_eq.mpr c61
                                          have c61b1 : ((rd x7_2 x17_4) != 0) = false := bne_eq_false_iff_eq.mpr c61
                                          clear c61
                                          obtain rfl := Option.some.inj H
                                          obtain ⟨Ao62, co62, eo62⟩ := Kd.R_slice HO_7.out
                                          subst eo62
                                          have p287 : 0 ≤ (x17_4 : Int) := of_decide_eq_true (by first | (with_reducible assumption) | assumption)
                                          have q287 : x17_4 < (x7_2.length : Int) := of_decide_eq_true (by first | (with_reducible assumption) | assumption)
                                          obtain ⟨ad287, e287, hx287_0⟩ := Kd.at_int (Kd.R_reads' HO_7.out).2.2 x17_4 p287 q287
                                          cases e287
                                          replace p287 := eq_true p287
                                          replace q287 := eq_true q287
                                          go_wp2
                                          go_ret
                                          exact ⟨by first | rfl | (simp [errW_none, errW_some] <;> rfl) | (simp only [← hji16]; first | rfl | (simp [errW_none, errW_some] <;> rfl)) | (simp [*, errW_none, errW_some] <;> rfl), by repeat (first | (with_reducible first | exact HB.out | apply below_alloc | apply pw_below_drewN | apply below_drew1) | exact HB.out)⟩
                                        · rw [if_neg c61] at H
                                          have c61b0 : ((rd x7_2 x17_4) == 0) = false := beq_eq_false_iff_ne.mpr c61
                                          have c61b1 : ((rd x7_2 x17_4) != 0) = true := bne_iff_ne.mpr c61
                                          have H' := Aside0.mk H
                                          clear H
                                          obtain ⟨Ao63, co63, eo63⟩ := Kd.R_slice HO_7.out
                                          subst eo63
                                          have p287 : 0 ≤ (x17_4 : Int) := of_decide_eq_true (by first | (with_reducible assumption) | assumption)
                                          have q287 : x17_4 < (x7_2.length : Int) := of_decide_eq_true (by first | (with_reducible assumption) | assumption)
                                          obtain ⟨ad287, e287, hx287_0⟩ := Kd.at_int (Kd.R_reads' HO_7.out).2.2 x17_4 p287 q287
                                          cases e287
                                          replace p287 := eq_true p287
                                          replace q287 := eq_true q287
                                          go_wp2
                                          go_roundg kj53
                                          case measure => have := HJ7.out; have := HK2.out; have := HK3.out; have := HK4.out; have := HJ53.out; omega
                                          case rel => exact ⟨(wrap64 (x17_4 + 1)), (by first | rfl | (simp; done) | (simp [*]; done)), H', ⟨by have := HJ7.out; have := HK2.out; have := HK3.out; have := HK4.out; have := HJ53.out; omega⟩, ⟨by (with_reducible repeat (first | apply Kd.R_alloc | apply Kd.R_drewN | apply Kd.R_drew)); exact HO_7.out⟩, ⟨by repeat (first | (with_reducible first | exact HB.out | apply below_alloc | apply pw_below_drewN | apply below_drew1) | exact HB.out)⟩⟩
                                      · rw [if_neg c60] at H
                                        exact absurd H (by simp)
                                    · rw [if_neg c59] at H
                                      exact absurd H (by simp)
                                  · replace c58 := Bool.eq_false_iff.mpr c58
                                    subst c58
                                    have H1 : ((hornbeamlaw10_fixed.f kj53).bind fun t288 => (some t288)) = some r := by rw [if_neg (show ¬ (false = true) by decide)] at H; exact H
                                    clear H
                                    have H := H1
                                    clear H1
                                    replace H := Option.bind_eq_some_iff.mp H
                                    obtain ⟨t288, A640, H⟩ := H
                                    replace H : (some t288) = some r := H
                                    have A64 := Aside0.mk A640
                                    clear A640
                                    obtain rfl := Option.some.inj H
                                    go_wp2_with (first | ((with_reducible refine gate_callee (f := 32) rfl ?_); refine goesL_ (some 124) rfl rfl Try.func32 (by kernel_rfl) rfl #[] rfl (by (try simp only [List.map_toArray, List.map_cons, List.map_nil]); first | done | rfl | (simp only [List.length_drop, List.length_take]; rfl)) ?_; (with_reducible refine (hornbeamlaw10_fixed.calls kj53  t288 _ A64.out).mono ?_); rintro e w65 ⟨rfl, hb⟩; refine ⟨_, rfl, ?_⟩; have n0_ := Aside0.mk (Kd.R_below (by (with_reducible repeat (first | apply Kd.R_alloc | apply Kd.R_drewN | apply Kd.R_drew)); exact HO_7.out) hb); have n1_ := Aside0.mk (below_step (by repeat (first | (with_reducible first | exact HB.out | apply below_alloc | apply pw_below_drewN | apply below_drew1) | exact HB.out)) hb); clear HO_7; clear HB; have HO_7 := n0_; have HB := n1_; clear n0_ n1_; (try clear hb); (try clear hb2); (try clear hk); (try clear hi)))
                                    go_ret
                                    exact ⟨by first | rfl | (simp [errW_none, errW_some] <;> rfl) | (simp only [← hji16]; first | rfl | (simp [errW_none, errW_some] <;> rfl)) | (simp [*, errW_none, errW_some] <;> rfl), by repeat (first | (with_reducible first | exact HB.out | apply below_alloc | apply pw_below_drewN | apply below_drew1) | exact HB.out)⟩
            · rw [if_neg c18] at H
              exact absurd H (by simp)
          · rw [if_neg c17] at H
            exact absurd H (by simp)

/-- What is left to prove of hornbeamlaw10_EdgesCut. -/
def hornbeamlaw10_EdgesCut.Pure : Prop := ∀ (l0 : List Int) (a1 : Int), ((l0.length ≤ 9223372036854775807 ∧ l0.length * 8 ≤ 140737488351232 ∧ ∀ x ∈ l0, (Lit.int .u64 x).wf = true)) → ((Lit.int .u8 a1).wf = true) → ∃ k, hornbeamlaw10_EdgesCut.f k l0 a1 = some true

end Go.Proofs.Ytlmmlhljflladaa.PA
