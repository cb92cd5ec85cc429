/- config.Check and config.Put by walks. -/
import Derived.Test.YtnagfbadjbkhmaaPureVal
import Derived.Test.YtnagfbadjbkhmaaFStore
import Derived.Test.YtnagfbadjbkhmaaPAx1
import Derived.Test.YtnagfbadjbkhmaaPAx2
import Derived.Test.YtnagfbadjbkhmaaPAx1
namespace Go.Proofs.Ytnagfbadjbkhmaa.FConfGet
open Go.RowKit
/-- What is wrong with a config, by its fields. -/
def chk (g : Nat → Int) : Int :=
 if g 0 < 0 ∨ g 0 > 1 then 3 else if g 1 < (if g 0 = 1 then 0 else 2) ∨ (g 0 = 1 ∧ g 1 ≠ 0) then 3 else if g 1 > 256 then 4 else
 if g 2 < 2 then 3 else if g 2 > 256 then 4 else if g 3 < 1 then 3 else if g 3 > 4096 then 4 else if g 4 < 0 then 3 else if g 4 > 32 then 4 else
 if g 5 < 1 then 3 else if g 5 > 1048576 then 4 else if g 6 < 1 then 3 else if g 6 > 1024 then 4 else 0
end Go.Proofs.Ytnagfbadjbkhmaa.FConfGet
namespace Go.Proofs.Ytnagfbadjbkhmaa.FConfD
open Go.RowKit Go.Shelf Go.Proofs.YtnagfbadjbkhmaaW.PrintWords Go.Proofs.YtnagfbadjbkhmaaW.PrintLast Go.Proofs.YtnagfbadjbkhmaaW.PrintMore Go.Proofs.Ytnagfbadjbkhmaa.PA Go.Proofs.Ytnagfbadjbkhmaa.PureTake Go.Proofs.Ytnagfbadjbkhmaa.FConfGet
set_option linter.unusedVariables false
set_option linter.unusedSimpArgs false
/-- The fields of a config. -/
def gk (k0 k1 k2 k3 k4 k5 k6 : Int) : Nat → Int:=fun i=>[k0,k1,k2,k3,k4,k5,k6].getD i 0
/-- A config's bytes. -/
def bytesC (g : Nat → Int) : List Int:=be 1 (g 0) ++ be 2 (g 1) ++ be 2 (g 2) ++ be 2 (g 3) ++ be 1 (g 4) ++ be 4 (g 5) ++ be 2 (g 6)
theorem bytesC_len (g : Nat → Int) : (bytesC g).length = 14:=by simp [bytesC,be_len]
theorem chk_zero {g : Nat → Int} (h : chk g = 0) : (0 ≤ g 0 ∧ g 0 ≤ 1) ∧ (0 ≤ g 1 ∧ g 1 ≤ 256) ∧ (2 ≤ g 2 ∧ g 2 ≤ 256) ∧ (1 ≤ g 3 ∧ g 3 ≤ 4096) ∧ (0 ≤ g 4 ∧ g 4 ≤ 32) ∧ (1 ≤ g 5 ∧ g 5 ≤ 1048576) ∧ (1 ≤ g 6 ∧ g 6 ≤ 1024) ∧ (g 0 = 0 → 2 ≤ g 1) ∧ (g 0 = 1 → g 1 = 0):=by
 unfold chk at h
 by_cases h0 : g 0 = 1
 ·simp only [h0,if_true,true_and] at h
  repeat (split at h;(next=>exact absurd h (by decide)))
  omega
 ·simp only [if_neg h0] at h
  repeat (split at h;(next=>exact absurd h (by decide)))
  omega
def Cf (W : World) (g : Nat) (k0 k1 k2 k3 k4 k5 k6 : Int) : Prop:=W.heap[g]? = some (.cells #[.int .i64 k0,.int .i64 k1,.int .i64 k2,.int .i64 k3,.int .i64 k4,.int .i64 k5,.int .i64 k6] 23 (0,0))
namespace Cf
variable {W : World} {g : Nat} {k0 k1 k2 k3 k4 k5 k6 : Int}
theorem c0 (H : Cf W g k0 k1 k2 k3 k4 k5 k6) : W.cell? ⟨g,0,none⟩ = some (.int .i64 k0):=(blk_cell H 0).trans rfl
theorem c1 (H : Cf W g k0 k1 k2 k3 k4 k5 k6) : W.cell? ⟨g,1,none⟩ = some (.int .i64 k1):=(blk_cell H 1).trans rfl
theorem c2 (H : Cf W g k0 k1 k2 k3 k4 k5 k6) : W.cell? ⟨g,2,none⟩ = some (.int .i64 k2):=(blk_cell H 2).trans rfl
theorem c3 (H : Cf W g k0 k1 k2 k3 k4 k5 k6) : W.cell? ⟨g,3,none⟩ = some (.int .i64 k3):=(blk_cell H 3).trans rfl
theorem c4 (H : Cf W g k0 k1 k2 k3 k4 k5 k6) : W.cell? ⟨g,4,none⟩ = some (.int .i64 k4):=(blk_cell H 4).trans rfl
theorem c5 (H : Cf W g k0 k1 k2 k3 k4 k5 k6) : W.cell? ⟨g,5,none⟩ = some (.int .i64 k5):=(blk_cell H 5).trans rfl
theorem c6 (H : Cf W g k0 k1 k2 k3 k4 k5 k6) : W.cell? ⟨g,6,none⟩ = some (.int .i64 k6):=(blk_cell H 6).trans rfl
end Cf
structure CS (w W : World) (k0 k1 k2 k3 k4 k5 k6 : Int) : Prop where
 c : Cf W w.heap.size k0 k1 k2 k3 k4 k5 k6
 b : Below w.heap.size w W
theorem CS.step {w W W' : World} {k0 k1 k2 k3 k4 k5 k6 : Int} (h : CS w W k0 k1 k2 k3 k4 k5 k6) (hb : Below W.heap.size W W') : CS w W' k0 k1 k2 k3 k4 k5 k6:=⟨blk_below h.c hb,below_step h.b hb⟩
theorem fields_f (k0 k1 k2 k3 k4 k5 k6 lo : Int) (h : lo = if k0 = 1 then 0 else 2) : config_fields.f k0 k1 k2 k3 k4 k5 k6 = some (k0,0,1,1,k1,lo,256,2,k2,2,256,2,k3,1,4096,2,k4,0,32,1,k5,1,1048576,4,k6,1,1024,2):=by
 unfold config_fields.f
 by_cases hk : k0 = 1
 ·rw [if_pos hk] at h ⊢;rw [h]
 ·rw [if_neg hk] at h ⊢;rw [h]
def two (lo hi x r : Int) : Int:=if x < lo then 3 else if x > hi then 4 else r
/-- What is left to ask from a field on. -/
def R (g : Nat → Int) : Nat → Int
 | 0=>chk g
 | 1=>if g 1 < (if g 0 = 1 then 0 else 2) ∨ (g 0 = 1 ∧ g 1 ≠ 0) then 3 else if g 1 > 256 then 4 else two 2 256 (g 2) (two 1 4096 (g 3) (two 0 32 (g 4) (two 1 1048576 (g 5) (two 1 1024 (g 6) 0))))
 | 2=>two 2 256 (g 2) (two 1 4096 (g 3) (two 0 32 (g 4) (two 1 1048576 (g 5) (two 1 1024 (g 6) 0))))
 | 3=>two 1 4096 (g 3) (two 0 32 (g 4) (two 1 1048576 (g 5) (two 1 1024 (g 6) 0)))
 | 4=>two 0 32 (g 4) (two 1 1048576 (g 5) (two 1 1024 (g 6) 0))
 | 5=>two 1 1048576 (g 5) (two 1 1024 (g 6) 0)
 | 6=>two 1 1024 (g 6) 0
 | _=>0
theorem R0 (g : Nat → Int) : R g 0 = if g 0 < 0 ∨ g 0 > 1 then 3 else R g 1:=rfl
set_option maxHeartbeats 4000000 in
set_option maxRecDepth 100000 in
theorem check_calls (k0 k1 k2 k3 k4 k5 k6 : Int) (w : World) : Calls Try.prog 47 #[.agg #[.int .i64 k0,.int .i64 k1,.int .i64 k2,.int .i64 k3,.int .i64 k4,.int .i64 k5,.int .i64 k6]] w fun e w'=>e = .returned (.int .i64 (chk (gk k0 k1 k2 k3 k4 k5 k6))) ∧ Below w.heap.size w w':=by
 have hu2:=Try.underlying23
 have hu3:=Try.underlying113
 obtain ⟨W0,hW0⟩ : ∃ W0,w.alloc (.cells #[.int .i64 k0,.int .i64 k1,.int .i64 k2,.int .i64 k3,.int .i64 k4,.int .i64 k5,.int .i64 k6] 23) = W0:=⟨_,rfl⟩
 have S0:=Aside0.mk (show CS w W0 k0 k1 k2 k3 k4 k5 k6 from by rw [← hW0];exact ⟨blk_new w _,below_alloc (Below.refl _ w) _⟩)
 have HW0:=Aside0.mk hW0
 obtain ⟨lo,hlo⟩ : ∃ lo : Int,lo = if k0 = 1 then 0 else 2:=⟨_,rfl⟩
 have HF:=Aside0.mk (fields_f k0 k1 k2 k3 k4 k5 k6 lo hlo)
 have HLO:=Aside0.mk hlo
 have HI0:=Aside0.mk (show chk (gk k0 k1 k2 k3 k4 k5 k6) = R (gk k0 k1 k2 k3 k4 k5 k6) 0 from rfl)
 clear hW0 hlo
 go_enter Try.func47,Try.ntmps47
 go_wp2_with (fail)
 rw [HW0.out]
 clear HW0
 refine (config_fields.calls k0 k1 k2 k3 k4 k5 k6 k0 0 1 1 k1 lo 256 2 k2 2 256 2 k3 1 4096 2 k4 0 32 1 k5 1 1048576 4 k6 1 1024 2 _ HF.out).mono ?_
 rintro e w1 ⟨rfl,hb⟩
 have S1:=Aside0.mk (S0.out.step hb)
 clear hb S0 HF
 go_wp2_with (fail)
 go_loopw [7] (fun v7 w'=>∃ i : Nat,i ≤ 7 ∧ v7 = .int .i64 i ∧ Aside0 (CS w w' k0 k1 k2 k3 k4 k5 k6) ∧ Aside0 (chk (gk k0 k1 k2 k3 k4 k5 k6) = R (gk k0 k1 k2 k3 k4 k5 k6) i)) (fun v _=>7 - (intOf v).toNat)
 case atStart=>exact ⟨0,by omega,rfl,S1,HI0⟩
 case round =>
  obtain ⟨i,hi,rfl,SI,HI⟩:=hrel
  clear S1 HI0
  by_cases hlt : i < 7
  ·have d0 : decide ((i : Int) < 7) = true:=decide_eq_true (by omega)
   have hii : i = 0 ∨ i = 1 ∨ i = 2 ∨ i = 3 ∨ i = 4 ∨ i = 5 ∨ i = 6:=by omega
   have q0:=SI.out.c.c0
   have f0:=SI.out.c
   clear hi hlt f0
   rcases hii with rfl|rfl|rfl|rfl|rfl|rfl|rfl
   ·have hix : ∀ W : World,(Instr.index 114 (.agg #[.int .i64 k0,.int .i64 0,.int .i64 1,.int .i64 1,.int .i64 k1,.int .i64 lo,.int .i64 256,.int .i64 2,.int .i64 k2,.int .i64 2,.int .i64 256,.int .i64 2,.int .i64 k3,.int .i64 1,.int .i64 4096,.int .i64 2,.int .i64 k4,.int .i64 0,.int .i64 32,.int .i64 1,.int .i64 k5,.int .i64 1,.int .i64 1048576,.int .i64 4,.int .i64 k6,.int .i64 1,.int .i64 1024,.int .i64 2]) (.int .i64 0)).run Try.prog W = .ok (.agg #[.int .i64 k0,.int .i64 0,.int .i64 1,.int .i64 1]) W:=fun W=>by first|rfl|kernel_rfl
    go_upto_if 11 with (fail)
    obtain ⟨g4,hg4⟩ : ∃ g4,wr.heap.size = g4:=⟨_,rfl⟩
    obtain ⟨W1,hW1⟩ : ∃ W1,wr.alloc (.cells #[.int .i64 k0,.int .i64 0,.int .i64 1,.int .i64 1] 113) = W1:=⟨_,rfl⟩
    have S1:=Aside0.mk (show CS w W1 k0 k1 k2 k3 k4 k5 k6 from by rw [← hW1];exact SI.out.step (below_alloc (Below.refl _ _) _))
    have T1:=Aside0.mk (show W1.heap[g4]? = some (.cells #[.int .i64 k0,.int .i64 0,.int .i64 1,.int .i64 1] 113 (0,0)) from by rw [← hW1,← hg4];exact blk_new wr _)
    rw [hW1,hg4]
    clear hW1 hg4 SI q0 hix
    go_cut [11] (fun v11 wc=>∃ b : Bool,v11 = .bool b ∧ Aside0 (b = true ↔ (k0 < 0 ∨ k0 > 1)) ∧ Aside0 (CS w wc k0 k1 k2 k3 k4 k5 k6) ∧ Aside0 (wc.heap[g4]? = some (.cells #[.int .i64 k0,.int .i64 0,.int .i64 1,.int .i64 1] 113 (0,0))))
    case first =>
     have q0:=S1.out.c.c0
     have m0:=(blk_cell T1.out 0).trans (rfl : _ = some _)
     have m1:=(blk_cell T1.out 1).trans (rfl : _ = some _)
     have m2:=(blk_cell T1.out 2).trans (rfl : _ = some _)
     have m3:=(blk_cell T1.out 3).trans (rfl : _ = some _)
     by_cases hA : k0 < 0
     ·have eA : decide (k0 < 0) = true:=decide_eq_true hA
      (first|rw [eA]|skip)
      go_wp2
      go_meet
      case rel=>exact ⟨_,rfl,⟨by simp [hA]⟩,S1,T1⟩
     ·have eA : decide (k0 < 0) = false:=decide_eq_false hA
      (first|rw [eA]|skip)
      by_cases hB : k0 > 1
      ·have eB : decide (k0 > 1) = true:=decide_eq_true hB
       go_wp2
       go_meet
       case rel=>exact ⟨_,rfl,⟨by simp [hA,hB]⟩,S1,T1⟩
      ·have eB : decide (k0 > 1) = false:=decide_eq_false hB
       go_wp2
       go_meet
       case rel=>exact ⟨_,rfl,⟨by simp [hA,hB]⟩,S1,T1⟩
    case rest =>
     clear S1 T1
     obtain ⟨b,rfl,HBB,SC,TC⟩:=hcut
     cases b with
     | true =>
      have HC:=Aside0.mk (show chk (gk k0 k1 k2 k3 k4 k5 k6) = 3 from HI.out.trans (if_pos (HBB.out.1 rfl)))
      clear HI HBB
      go_wp2
      go_ret
      exact ⟨by rw [HC.out];rfl,SC.out.b⟩
     | false =>
      have HN:=Aside0.mk (HI.out.trans (if_neg (fun h=>by have:=HBB.out.2 h;cases this)))
      have m0:=(blk_cell TC.out 0).trans (rfl : _ = some _)
      have m1:=(blk_cell TC.out 1).trans (rfl : _ = some _)
      have m2:=(blk_cell TC.out 2).trans (rfl : _ = some _)
      have m3:=(blk_cell TC.out 3).trans (rfl : _ = some _)
      have hB : ¬ k0 > 1:=fun h=>by have:=HBB.out.2 (Or.inr h);cases this
      have eB : decide (k0 > 1) = false:=decide_eq_false hB
      have HN2:=Aside0.mk (show chk (gk k0 k1 k2 k3 k4 k5 k6) = R (gk k0 k1 k2 k3 k4 k5 k6) 1 from HN.out)
      clear HI HBB HN hB
      go_wp2
      exact ⟨⟨1,by omega,by go_num,SC,HN2⟩,by simp [intOf]⟩
   ·have hix : ∀ W : World,(Instr.index 114 (.agg #[.int .i64 k0,.int .i64 0,.int .i64 1,.int .i64 1,.int .i64 k1,.int .i64 lo,.int .i64 256,.int .i64 2,.int .i64 k2,.int .i64 2,.int .i64 256,.int .i64 2,.int .i64 k3,.int .i64 1,.int .i64 4096,.int .i64 2,.int .i64 k4,.int .i64 0,.int .i64 32,.int .i64 1,.int .i64 k5,.int .i64 1,.int .i64 1048576,.int .i64 4,.int .i64 k6,.int .i64 1,.int .i64 1024,.int .i64 2]) (.int .i64 1)).run Try.prog W = .ok (.agg #[.int .i64 k1,.int .i64 lo,.int .i64 256,.int .i64 2]) W:=fun W=>by first|rfl|kernel_rfl
    go_upto_if 11 with (fail)
    obtain ⟨g4,hg4⟩ : ∃ g4,wr.heap.size = g4:=⟨_,rfl⟩
    obtain ⟨W1,hW1⟩ : ∃ W1,wr.alloc (.cells #[.int .i64 k1,.int .i64 lo,.int .i64 256,.int .i64 2] 113) = W1:=⟨_,rfl⟩
    have S1:=Aside0.mk (show CS w W1 k0 k1 k2 k3 k4 k5 k6 from by rw [← hW1];exact SI.out.step (below_alloc (Below.refl _ _) _))
    have T1:=Aside0.mk (show W1.heap[g4]? = some (.cells #[.int .i64 k1,.int .i64 lo,.int .i64 256,.int .i64 2] 113 (0,0)) from by rw [← hW1,← hg4];exact blk_new wr _)
    rw [hW1,hg4]
    clear hW1 hg4 SI q0 hix
    go_cut [11] (fun v11 wc=>∃ b : Bool,v11 = .bool b ∧ Aside0 (b = true ↔ (k1 < lo ∨ (k0 = 1 ∧ k1 ≠ 0))) ∧ Aside0 (CS w wc k0 k1 k2 k3 k4 k5 k6) ∧ Aside0 (wc.heap[g4]? = some (.cells #[.int .i64 k1,.int .i64 lo,.int .i64 256,.int .i64 2] 113 (0,0))))
    case first =>
     have q0:=S1.out.c.c0
     have m0:=(blk_cell T1.out 0).trans (rfl : _ = some _)
     have m1:=(blk_cell T1.out 1).trans (rfl : _ = some _)
     have m2:=(blk_cell T1.out 2).trans (rfl : _ = some _)
     have m3:=(blk_cell T1.out 3).trans (rfl : _ = some _)
     by_cases hA : k1 < lo
     ·have eA : decide (k1 < lo) = true:=decide_eq_true hA
      (first|rw [eA]|skip)
      go_wp2
      go_meet
      case rel=>exact ⟨_,rfl,⟨by simp [hA]⟩,S1,T1⟩
     ·have eA : decide (k1 < lo) = false:=decide_eq_false hA
      (first|rw [eA]|skip)
      by_cases hk : k0 = 1
      ·have ek : (k0 == 1) = true:=beq_iff_eq.mpr hk
       by_cases hz : k1 = 0
       ·have ez : (k1 != 0) = false:=bne_eq_false_iff_eq.mpr hz
        have HX:=Aside0.mk hk
        have HZ:=Aside0.mk hz
        have HAA:=Aside0.mk hA
        clear hk hz hA
        go_wp2
        go_meet
        case rel=>exact ⟨_,rfl,⟨by have:=HX.out;have:=HZ.out;have:=HAA.out;simp_all⟩,S1,T1⟩
       ·have ez : (k1 != 0) = true:=bne_iff_ne.mpr hz
        have HX:=Aside0.mk hk
        have HZ:=Aside0.mk hz
        clear hk hz
        go_wp2
        go_meet
        case rel=>exact ⟨_,rfl,⟨by have:=HX.out;have:=HZ.out;simp_all⟩,S1,T1⟩
      ·have ek : (k0 == 1) = false:=beq_eq_false_iff_ne.mpr hk
       have HX:=Aside0.mk hk
       have HAA:=Aside0.mk hA
       clear hk hA
       go_wp2
       go_meet
       case rel=>exact ⟨_,rfl,⟨by have:=HX.out;have:=HAA.out;simp_all⟩,S1,T1⟩
    case rest =>
     clear S1 T1
     obtain ⟨b,rfl,HBB,SC,TC⟩:=hcut
     cases b with
     | true =>
      have HC:=Aside0.mk (show chk (gk k0 k1 k2 k3 k4 k5 k6) = 3 from HI.out.trans (if_pos (by have h:=HBB.out.1 rfl;rw [HLO.out] at h;exact h)))
      clear HI HBB
      go_wp2
      go_ret
      exact ⟨by rw [HC.out];rfl,SC.out.b⟩
     | false =>
      have HN:=Aside0.mk (HI.out.trans (if_neg (fun h=>by have:=HBB.out.2 (by rw [HLO.out];exact h);cases this)))
      have m0:=(blk_cell TC.out 0).trans (rfl : _ = some _)
      have m1:=(blk_cell TC.out 1).trans (rfl : _ = some _)
      have m2:=(blk_cell TC.out 2).trans (rfl : _ = some _)
      have m3:=(blk_cell TC.out 3).trans (rfl : _ = some _)
      by_cases hB : k1 > 256
      ·have eB : decide (k1 > 256) = true:=decide_eq_true hB
       have HC:=Aside0.mk (show chk (gk k0 k1 k2 k3 k4 k5 k6) = 4 from HN.out.trans (if_pos hB))
       clear HI HBB HN
       go_wp2
       go_ret
       exact ⟨by rw [HC.out];rfl,SC.out.b⟩
      have eB : decide (k1 > 256) = false:=decide_eq_false hB
      have HN2:=Aside0.mk (show chk (gk k0 k1 k2 k3 k4 k5 k6) = R (gk k0 k1 k2 k3 k4 k5 k6) 2 from HN.out.trans (if_neg hB))
      clear HI HBB HN hB
      go_wp2
      exact ⟨⟨2,by omega,by go_num,SC,HN2⟩,by simp [intOf]⟩
   ·have hix : ∀ W : World,(Instr.index 114 (.agg #[.int .i64 k0,.int .i64 0,.int .i64 1,.int .i64 1,.int .i64 k1,.int .i64 lo,.int .i64 256,.int .i64 2,.int .i64 k2,.int .i64 2,.int .i64 256,.int .i64 2,.int .i64 k3,.int .i64 1,.int .i64 4096,.int .i64 2,.int .i64 k4,.int .i64 0,.int .i64 32,.int .i64 1,.int .i64 k5,.int .i64 1,.int .i64 1048576,.int .i64 4,.int .i64 k6,.int .i64 1,.int .i64 1024,.int .i64 2]) (.int .i64 2)).run Try.prog W = .ok (.agg #[.int .i64 k2,.int .i64 2,.int .i64 256,.int .i64 2]) W:=fun W=>by first|rfl|kernel_rfl
    go_upto_if 11 with (fail)
    obtain ⟨g4,hg4⟩ : ∃ g4,wr.heap.size = g4:=⟨_,rfl⟩
    obtain ⟨W1,hW1⟩ : ∃ W1,wr.alloc (.cells #[.int .i64 k2,.int .i64 2,.int .i64 256,.int .i64 2] 113) = W1:=⟨_,rfl⟩
    have S1:=Aside0.mk (show CS w W1 k0 k1 k2 k3 k4 k5 k6 from by rw [← hW1];exact SI.out.step (below_alloc (Below.refl _ _) _))
    have T1:=Aside0.mk (show W1.heap[g4]? = some (.cells #[.int .i64 k2,.int .i64 2,.int .i64 256,.int .i64 2] 113 (0,0)) from by rw [← hW1,← hg4];exact blk_new wr _)
    rw [hW1,hg4]
    clear hW1 hg4 SI q0 hix
    go_cut [11] (fun v11 wc=>∃ b : Bool,v11 = .bool b ∧ Aside0 (b = true ↔ (k2 < 2)) ∧ Aside0 (CS w wc k0 k1 k2 k3 k4 k5 k6) ∧ Aside0 (wc.heap[g4]? = some (.cells #[.int .i64 k2,.int .i64 2,.int .i64 256,.int .i64 2] 113 (0,0))))
    case first =>
     have q0:=S1.out.c.c0
     have m0:=(blk_cell T1.out 0).trans (rfl : _ = some _)
     have m1:=(blk_cell T1.out 1).trans (rfl : _ = some _)
     have m2:=(blk_cell T1.out 2).trans (rfl : _ = some _)
     have m3:=(blk_cell T1.out 3).trans (rfl : _ = some _)
     by_cases hA : k2 < 2
     ·have eA : decide (k2 < 2) = true:=decide_eq_true hA
      (first|rw [eA]|skip)
      go_wp2
      go_meet
      case rel=>exact ⟨_,rfl,⟨by simp [hA]⟩,S1,T1⟩
     ·have eA : decide (k2 < 2) = false:=decide_eq_false hA
      (first|rw [eA]|skip)
      go_wp2
      go_meet
      case rel=>exact ⟨_,rfl,⟨by simp [hA]⟩,S1,T1⟩
    case rest =>
     clear S1 T1
     obtain ⟨b,rfl,HBB,SC,TC⟩:=hcut
     cases b with
     | true =>
      have HC:=Aside0.mk (show chk (gk k0 k1 k2 k3 k4 k5 k6) = 3 from HI.out.trans (if_pos (HBB.out.1 rfl)))
      clear HI HBB
      go_wp2
      go_ret
      exact ⟨by rw [HC.out];rfl,SC.out.b⟩
     | false =>
      have HN:=Aside0.mk (HI.out.trans (if_neg (fun h=>by have:=HBB.out.2 h;cases this)))
      have m0:=(blk_cell TC.out 0).trans (rfl : _ = some _)
      have m1:=(blk_cell TC.out 1).trans (rfl : _ = some _)
      have m2:=(blk_cell TC.out 2).trans (rfl : _ = some _)
      have m3:=(blk_cell TC.out 3).trans (rfl : _ = some _)
      by_cases hB : k2 > 256
      ·have eB : decide (k2 > 256) = true:=decide_eq_true hB
       have HC:=Aside0.mk (show chk (gk k0 k1 k2 k3 k4 k5 k6) = 4 from HN.out.trans (if_pos hB))
       clear HI HBB HN
       go_wp2
       go_ret
       exact ⟨by rw [HC.out];rfl,SC.out.b⟩
      have eB : decide (k2 > 256) = false:=decide_eq_false hB
      have HN2:=Aside0.mk (show chk (gk k0 k1 k2 k3 k4 k5 k6) = R (gk k0 k1 k2 k3 k4 k5 k6) 3 from HN.out.trans (if_neg hB))
      clear HI HBB HN hB
      go_wp2
      exact ⟨⟨3,by omega,by go_num,SC,HN2⟩,by simp [intOf]⟩
   ·have hix : ∀ W : World,(Instr.index 114 (.agg #[.int .i64 k0,.int .i64 0,.int .i64 1,.int .i64 1,.int .i64 k1,.int .i64 lo,.int .i64 256,.int .i64 2,.int .i64 k2,.int .i64 2,.int .i64 256,.int .i64 2,.int .i64 k3,.int .i64 1,.int .i64 4096,.int .i64 2,.int .i64 k4,.int .i64 0,.int .i64 32,.int .i64 1,.int .i64 k5,.int .i64 1,.int .i64 1048576,.int .i64 4,.int .i64 k6,.int .i64 1,.int .i64 1024,.int .i64 2]) (.int .i64 3)).run Try.prog W = .ok (.agg #[.int .i64 k3,.int .i64 1,.int .i64 4096,.int .i64 2]) W:=fun W=>by first|rfl|kernel_rfl
    go_upto_if 11 with (fail)
    obtain ⟨g4,hg4⟩ : ∃ g4,wr.heap.size = g4:=⟨_,rfl⟩
    obtain ⟨W1,hW1⟩ : ∃ W1,wr.alloc (.cells #[.int .i64 k3,.int .i64 1,.int .i64 4096,.int .i64 2] 113) = W1:=⟨_,rfl⟩
    have S1:=Aside0.mk (show CS w W1 k0 k1 k2 k3 k4 k5 k6 from by rw [← hW1];exact SI.out.step (below_alloc (Below.refl _ _) _))
    have T1:=Aside0.mk (show W1.heap[g4]? = some (.cells #[.int .i64 k3,.int .i64 1,.int .i64 4096,.int .i64 2] 113 (0,0)) from by rw [← hW1,← hg4];exact blk_new wr _)
    rw [hW1,hg4]
    clear hW1 hg4 SI q0 hix
    go_cut [11] (fun v11 wc=>∃ b : Bool,v11 = .bool b ∧ Aside0 (b = true ↔ (k3 < 1)) ∧ Aside0 (CS w wc k0 k1 k2 k3 k4 k5 k6) ∧ Aside0 (wc.heap[g4]? = some (.cells #[.int .i64 k3,.int .i64 1,.int .i64 4096,.int .i64 2] 113 (0,0))))
    case first =>
     have q0:=S1.out.c.c0
     have m0:=(blk_cell T1.out 0).trans (rfl : _ = some _)
     have m1:=(blk_cell T1.out 1).trans (rfl : _ = some _)
     have m2:=(blk_cell T1.out 2).trans (rfl : _ = some _)
     have m3:=(blk_cell T1.out 3).trans (rfl : _ = some _)
     by_cases hA : k3 < 1
     ·have eA : decide (k3 < 1) = true:=decide_eq_true hA
      (first|rw [eA]|skip)
      go_wp2
      go_meet
      case rel=>exact ⟨_,rfl,⟨by simp [hA]⟩,S1,T1⟩
     ·have eA : decide (k3 < 1) = false:=decide_eq_false hA
      (first|rw [eA]|skip)
      go_wp2
      go_meet
      case rel=>exact ⟨_,rfl,⟨by simp [hA]⟩,S1,T1⟩
    case rest =>
     clear S1 T1
     obtain ⟨b,rfl,HBB,SC,TC⟩:=hcut
     cases b with
     | true =>
      have HC:=Aside0.mk (show chk (gk k0 k1 k2 k3 k4 k5 k6) = 3 from HI.out.trans (if_pos (HBB.out.1 rfl)))
      clear HI HBB
      go_wp2
      go_ret
      exact ⟨by rw [HC.out];rfl,SC.out.b⟩
     | false =>
      have HN:=Aside0.mk (HI.out.trans (if_neg (fun h=>by have:=HBB.out.2 h;cases this)))
      have m0:=(blk_cell TC.out 0).trans (rfl : _ = some _)
      have m1:=(blk_cell TC.out 1).trans (rfl : _ = some _)
      have m2:=(blk_cell TC.out 2).trans (rfl : _ = some _)
      have m3:=(blk_cell TC.out 3).trans (rfl : _ = some _)
      by_cases hB : k3 > 4096
      ·have eB : decide (k3 > 4096) = true:=decide_eq_true hB
       have HC:=Aside0.mk (show chk (gk k0 k1 k2 k3 k4 k5 k6) = 4 from HN.out.trans (if_pos hB))
       clear HI HBB HN
       go_wp2
       go_ret
       exact ⟨by rw [HC.out];rfl,SC.out.b⟩
      have eB : decide (k3 > 4096) = false:=decide_eq_false hB
      have HN2:=Aside0.mk (show chk (gk k0 k1 k2 k3 k4 k5 k6) = R (gk k0 k1 k2 k3 k4 k5 k6) 4 from HN.out.trans (if_neg hB))
      clear HI HBB HN hB
      go_wp2
      exact ⟨⟨4,by omega,by go_num,SC,HN2⟩,by simp [intOf]⟩
   ·have hix : ∀ W : World,(Instr.index 114 (.agg #[.int .i64 k0,.int .i64 0,.int .i64 1,.int .i64 1,.int .i64 k1,.int .i64 lo,.int .i64 256,.int .i64 2,.int .i64 k2,.int .i64 2,.int .i64 256,.int .i64 2,.int .i64 k3,.int .i64 1,.int .i64 4096,.int .i64 2,.int .i64 k4,.int .i64 0,.int .i64 32,.int .i64 1,.int .i64 k5,.int .i64 1,.int .i64 1048576,.int .i64 4,.int .i64 k6,.int .i64 1,.int .i64 1024,.int .i64 2]) (.int .i64 4)).run Try.prog W = .ok (.agg #[.int .i64 k4,.int .i64 0,.int .i64 32,.int .i64 1]) W:=fun W=>by first|rfl|kernel_rfl
    go_upto_if 11 with (fail)
    obtain ⟨g4,hg4⟩ : ∃ g4,wr.heap.size = g4:=⟨_,rfl⟩
    obtain ⟨W1,hW1⟩ : ∃ W1,wr.alloc (.cells #[.int .i64 k4,.int .i64 0,.int .i64 32,.int .i64 1] 113) = W1:=⟨_,rfl⟩
    have S1:=Aside0.mk (show CS w W1 k0 k1 k2 k3 k4 k5 k6 from by rw [← hW1];exact SI.out.step (below_alloc (Below.refl _ _) _))
    have T1:=Aside0.mk (show W1.heap[g4]? = some (.cells #[.int .i64 k4,.int .i64 0,.int .i64 32,.int .i64 1] 113 (0,0)) from by rw [← hW1,← hg4];exact blk_new wr _)
    rw [hW1,hg4]
    clear hW1 hg4 SI q0 hix
    go_cut [11] (fun v11 wc=>∃ b : Bool,v11 = .bool b ∧ Aside0 (b = true ↔ (k4 < 0)) ∧ Aside0 (CS w wc k0 k1 k2 k3 k4 k5 k6) ∧ Aside0 (wc.heap[g4]? = some (.cells #[.int .i64 k4,.int .i64 0,.int .i64 32,.int .i64 1] 113 (0,0))))
    case first =>
     have q0:=S1.out.c.c0
     have m0:=(blk_cell T1.out 0).trans (rfl : _ = some _)
     have m1:=(blk_cell T1.out 1).trans (rfl : _ = some _)
     have m2:=(blk_cell T1.out 2).trans (rfl : _ = some _)
     have m3:=(blk_cell T1.out 3).trans (rfl : _ = some _)
     by_cases hA : k4 < 0
     ·have eA : decide (k4 < 0) = true:=decide_eq_true hA
      (first|rw [eA]|skip)
      go_wp2
      go_meet
      case rel=>exact ⟨_,rfl,⟨by simp [hA]⟩,S1,T1⟩
     ·have eA : decide (k4 < 0) = false:=decide_eq_false hA
      (first|rw [eA]|skip)
      go_wp2
      go_meet
      case rel=>exact ⟨_,rfl,⟨by simp [hA]⟩,S1,T1⟩
    case rest =>
     clear S1 T1
     obtain ⟨b,rfl,HBB,SC,TC⟩:=hcut
     cases b with
     | true =>
      have HC:=Aside0.mk (show chk (gk k0 k1 k2 k3 k4 k5 k6) = 3 from HI.out.trans (if_pos (HBB.out.1 rfl)))
      clear HI HBB
      go_wp2
      go_ret
      exact ⟨by rw [HC.out];rfl,SC.out.b⟩
     | false =>
      have HN:=Aside0.mk (HI.out.trans (if_neg (fun h=>by have:=HBB.out.2 h;cases this)))
      have m0:=(blk_cell TC.out 0).trans (rfl : _ = some _)
      have m1:=(blk_cell TC.out 1).trans (rfl : _ = some _)
      have m2:=(blk_cell TC.out 2).trans (rfl : _ = some _)
      have m3:=(blk_cell TC.out 3).trans (rfl : _ = some _)
      by_cases hB : k4 > 32
      ·have eB : decide (k4 > 32) = true:=decide_eq_true hB
       have HC:=Aside0.mk (show chk (gk k0 k1 k2 k3 k4 k5 k6) = 4 from HN.out.trans (if_pos hB))
       clear HI HBB HN
       go_wp2
       go_ret
       exact ⟨by rw [HC.out];rfl,SC.out.b⟩
      have eB : decide (k4 > 32) = false:=decide_eq_false hB
      have HN2:=Aside0.mk (show chk (gk k0 k1 k2 k3 k4 k5 k6) = R (gk k0 k1 k2 k3 k4 k5 k6) 5 from HN.out.trans (if_neg hB))
      clear HI HBB HN hB
      go_wp2
      exact ⟨⟨5,by omega,by go_num,SC,HN2⟩,by simp [intOf]⟩
   ·have hix : ∀ W : World,(Instr.index 114 (.agg #[.int .i64 k0,.int .i64 0,.int .i64 1,.int .i64 1,.int .i64 k1,.int .i64 lo,.int .i64 256,.int .i64 2,.int .i64 k2,.int .i64 2,.int .i64 256,.int .i64 2,.int .i64 k3,.int .i64 1,.int .i64 4096,.int .i64 2,.int .i64 k4,.int .i64 0,.int .i64 32,.int .i64 1,.int .i64 k5,.int .i64 1,.int .i64 1048576,.int .i64 4,.int .i64 k6,.int .i64 1,.int .i64 1024,.int .i64 2]) (.int .i64 5)).run Try.prog W = .ok (.agg #[.int .i64 k5,.int .i64 1,.int .i64 1048576,.int .i64 4]) W:=fun W=>by first|rfl|kernel_rfl
    go_upto_if 11 with (fail)
    obtain ⟨g4,hg4⟩ : ∃ g4,wr.heap.size = g4:=⟨_,rfl⟩
    obtain ⟨W1,hW1⟩ : ∃ W1,wr.alloc (.cells #[.int .i64 k5,.int .i64 1,.int .i64 1048576,.int .i64 4] 113) = W1:=⟨_,rfl⟩
    have S1:=Aside0.mk (show CS w W1 k0 k1 k2 k3 k4 k5 k6 from by rw [← hW1];exact SI.out.step (below_alloc (Below.refl _ _) _))
    have T1:=Aside0.mk (show W1.heap[g4]? = some (.cells #[.int .i64 k5,.int .i64 1,.int .i64 1048576,.int .i64 4] 113 (0,0)) from by rw [← hW1,← hg4];exact blk_new wr _)
    rw [hW1,hg4]
    clear hW1 hg4 SI q0 hix
    go_cut [11] (fun v11 wc=>∃ b : Bool,v11 = .bool b ∧ Aside0 (b = true ↔ (k5 < 1)) ∧ Aside0 (CS w wc k0 k1 k2 k3 k4 k5 k6) ∧ Aside0 (wc.heap[g4]? = some (.cells #[.int .i64 k5,.int .i64 1,.int .i64 1048576,.int .i64 4] 113 (0,0))))
    case first =>
     have q0:=S1.out.c.c0
     have m0:=(blk_cell T1.out 0).trans (rfl : _ = some _)
     have m1:=(blk_cell T1.out 1).trans (rfl : _ = some _)
     have m2:=(blk_cell T1.out 2).trans (rfl : _ = some _)
     have m3:=(blk_cell T1.out 3).trans (rfl : _ = some _)
     by_cases hA : k5 < 1
     ·have eA : decide (k5 < 1) = true:=decide_eq_true hA
      (first|rw [eA]|skip)
      go_wp2
      go_meet
      case rel=>exact ⟨_,rfl,⟨by simp [hA]⟩,S1,T1⟩
     ·have eA : decide (k5 < 1) = false:=decide_eq_false hA
      (first|rw [eA]|skip)
      go_wp2
      go_meet
      case rel=>exact ⟨_,rfl,⟨by simp [hA]⟩,S1,T1⟩
    case rest =>
     clear S1 T1
     obtain ⟨b,rfl,HBB,SC,TC⟩:=hcut
     cases b with
     | true =>
      have HC:=Aside0.mk (show chk (gk k0 k1 k2 k3 k4 k5 k6) = 3 from HI.out.trans (if_pos (HBB.out.1 rfl)))
      clear HI HBB
      go_wp2
      go_ret
      exact ⟨by rw [HC.out];rfl,SC.out.b⟩
     | false =>
      have HN:=Aside0.mk (HI.out.trans (if_neg (fun h=>by have:=HBB.out.2 h;cases this)))
      have m0:=(blk_cell TC.out 0).trans (rfl : _ = some _)
      have m1:=(blk_cell TC.out 1).trans (rfl : _ = some _)
      have m2:=(blk_cell TC.out 2).trans (rfl : _ = some _)
      have m3:=(blk_cell TC.out 3).trans (rfl : _ = some _)
      by_cases hB : k5 > 1048576
      ·have eB : decide (k5 > 1048576) = true:=decide_eq_true hB
       have HC:=Aside0.mk (show chk (gk k0 k1 k2 k3 k4 k5 k6) = 4 from HN.out.trans (if_pos hB))
       clear HI HBB HN
       go_wp2
       go_ret
       exact ⟨by rw [HC.out];rfl,SC.out.b⟩
      have eB : decide (k5 > 1048576) = false:=decide_eq_false hB
      have HN2:=Aside0.mk (show chk (gk k0 k1 k2 k3 k4 k5 k6) = R (gk k0 k1 k2 k3 k4 k5 k6) 6 from HN.out.trans (if_neg hB))
      clear HI HBB HN hB
      go_wp2
      exact ⟨⟨6,by omega,by go_num,SC,HN2⟩,by simp [intOf]⟩
   ·have hix : ∀ W : World,(Instr.index 114 (.agg #[.int .i64 k0,.int .i64 0,.int .i64 1,.int .i64 1,.int .i64 k1,.int .i64 lo,.int .i64 256,.int .i64 2,.int .i64 k2,.int .i64 2,.int .i64 256,.int .i64 2,.int .i64 k3,.int .i64 1,.int .i64 4096,.int .i64 2,.int .i64 k4,.int .i64 0,.int .i64 32,.int .i64 1,.int .i64 k5,.int .i64 1,.int .i64 1048576,.int .i64 4,.int .i64 k6,.int .i64 1,.int .i64 1024,.int .i64 2]) (.int .i64 6)).run Try.prog W = .ok (.agg #[.int .i64 k6,.int .i64 1,.int .i64 1024,.int .i64 2]) W:=fun W=>by first|rfl|kernel_rfl
    go_upto_if 11 with (fail)
    obtain ⟨g4,hg4⟩ : ∃ g4,wr.heap.size = g4:=⟨_,rfl⟩
    obtain ⟨W1,hW1⟩ : ∃ W1,wr.alloc (.cells #[.int .i64 k6,.int .i64 1,.int .i64 1024,.int .i64 2] 113) = W1:=⟨_,rfl⟩
    have S1:=Aside0.mk (show CS w W1 k0 k1 k2 k3 k4 k5 k6 from by rw [← hW1];exact SI.out.step (below_alloc (Below.refl _ _) _))
    have T1:=Aside0.mk (show W1.heap[g4]? = some (.cells #[.int .i64 k6,.int .i64 1,.int .i64 1024,.int .i64 2] 113 (0,0)) from by rw [← hW1,← hg4];exact blk_new wr _)
    rw [hW1,hg4]
    clear hW1 hg4 SI q0 hix
    go_cut [11] (fun v11 wc=>∃ b : Bool,v11 = .bool b ∧ Aside0 (b = true ↔ (k6 < 1)) ∧ Aside0 (CS w wc k0 k1 k2 k3 k4 k5 k6) ∧ Aside0 (wc.heap[g4]? = some (.cells #[.int .i64 k6,.int .i64 1,.int .i64 1024,.int .i64 2] 113 (0,0))))
    case first =>
     have q0:=S1.out.c.c0
     have m0:=(blk_cell T1.out 0).trans (rfl : _ = some _)
     have m1:=(blk_cell T1.out 1).trans (rfl : _ = some _)
     have m2:=(blk_cell T1.out 2).trans (rfl : _ = some _)
     have m3:=(blk_cell T1.out 3).trans (rfl : _ = some _)
     by_cases hA : k6 < 1
     ·have eA : decide (k6 < 1) = true:=decide_eq_true hA
      (first|rw [eA]|skip)
      go_wp2
      go_meet
      case rel=>exact ⟨_,rfl,⟨by simp [hA]⟩,S1,T1⟩
     ·have eA : decide (k6 < 1) = false:=decide_eq_false hA
      (first|rw [eA]|skip)
      go_wp2
      go_meet
      case rel=>exact ⟨_,rfl,⟨by simp [hA]⟩,S1,T1⟩
    case rest =>
     clear S1 T1
     obtain ⟨b,rfl,HBB,SC,TC⟩:=hcut
     cases b with
     | true =>
      have HC:=Aside0.mk (show chk (gk k0 k1 k2 k3 k4 k5 k6) = 3 from HI.out.trans (if_pos (HBB.out.1 rfl)))
      clear HI HBB
      go_wp2
      go_ret
      exact ⟨by rw [HC.out];rfl,SC.out.b⟩
     | false =>
      have HN:=Aside0.mk (HI.out.trans (if_neg (fun h=>by have:=HBB.out.2 h;cases this)))
      have m0:=(blk_cell TC.out 0).trans (rfl : _ = some _)
      have m1:=(blk_cell TC.out 1).trans (rfl : _ = some _)
      have m2:=(blk_cell TC.out 2).trans (rfl : _ = some _)
      have m3:=(blk_cell TC.out 3).trans (rfl : _ = some _)
      by_cases hB : k6 > 1024
      ·have eB : decide (k6 > 1024) = true:=decide_eq_true hB
       have HC:=Aside0.mk (show chk (gk k0 k1 k2 k3 k4 k5 k6) = 4 from HN.out.trans (if_pos hB))
       clear HI HBB HN
       go_wp2
       go_ret
       exact ⟨by rw [HC.out];rfl,SC.out.b⟩
      have eB : decide (k6 > 1024) = false:=decide_eq_false hB
      have HN2:=Aside0.mk (show chk (gk k0 k1 k2 k3 k4 k5 k6) = R (gk k0 k1 k2 k3 k4 k5 k6) 7 from HN.out.trans (if_neg hB))
      clear HI HBB HN hB
      go_wp2
      exact ⟨⟨7,by omega,by go_num,SC,HN2⟩,by simp [intOf]⟩
  ·obtain rfl : i = 7:=by omega
   have d0 : decide (((7 : Nat) : Int) < 7) = false:=by decide
   have HC:=Aside0.mk (show chk (gk k0 k1 k2 k3 k4 k5 k6) = 0 from HI.out)
   clear HI
   go_wp2
   go_ret
   exact ⟨by rw [HC.out];rfl,SI.out.b⟩
/-- The bytes of the first fields. -/
def segs (g : Nat → Int) : List (List Int):=[be 1 (g 0),be 2 (g 1),be 2 (g 2),be 2 (g 3),be 1 (g 4),be 4 (g 5),be 2 (g 6)]
def pre (g : Nat → Int) (i : Nat) : List Int:=((segs g).take i).flatten
theorem pre_len (g : Nat → Int) (i : Nat) : (pre g i).length ≤ 14:=by
 by_cases h : i < 7
 ·have : i = 0 ∨ i = 1 ∨ i = 2 ∨ i = 3 ∨ i = 4 ∨ i = 5 ∨ i = 6:=by omega
  rcases this with rfl|rfl|rfl|rfl|rfl|rfl|rfl <;> simp [pre,segs,be_len]
 ·unfold pre;rw [List.take_of_length_le (by simp [segs];omega)];simp [segs,be_len]
set_option maxHeartbeats 4000000 in
set_option maxRecDepth 100000 in
theorem put_calls (A : Option Addr) (c : Nat) (l : List Int) (k0 k1 k2 k3 k4 k5 k6 : Int) (w : World) (hr : Kd.C (Kd.int .u8) w A l.length l) (hc : l.length ≤ c) (hl : l.length ≤ 100000) :
  Calls Try.prog 49 #[.slice A l.length c,.agg #[.int .i64 k0,.int .i64 k1,.int .i64 k2,.int .i64 k3,.int .i64 k4,.int .i64 k5,.int .i64 k6]] w fun e w'=>∃ v,e = .returned v ∧ Kd.R (Kd.int .u8) 5 w' w.heap.size (fun _=>True) v (if chk (gk k0 k1 k2 k3 k4 k5 k6) = 0 then l ++ bytesC (gk k0 k1 k2 k3 k4 k5 k6) else l) ∧ Below w.heap.size w w':=by
 have hu2:=Try.underlying23
 have hu3:=Try.underlying113
 have HR:=Aside0.mk hr
 obtain ⟨W0,hW0⟩ : ∃ W0,w.alloc (.cells #[.int .i64 k0,.int .i64 k1,.int .i64 k2,.int .i64 k3,.int .i64 k4,.int .i64 k5,.int .i64 k6] 23) = W0:=⟨_,rfl⟩
 have S0:=Aside0.mk (show CS w W0 k0 k1 k2 k3 k4 k5 k6 from by rw [← hW0];exact ⟨blk_new w _,below_alloc (Below.refl _ w) _⟩)
 have HW0:=Aside0.mk hW0
 have HCL:=Aside0.mk (clone_f l (by omega))
 obtain ⟨RES,hRES⟩ : ∃ RES,(if chk (gk k0 k1 k2 k3 k4 k5 k6) = 0 then l ++ bytesC (gk k0 k1 k2 k3 k4 k5 k6) else l) = RES:=⟨_,rfl⟩
 rw [hRES]
 have HRES:=Aside0.mk hRES
 clear hr hW0 hRES
 go_enter Try.func49,Try.ntmps49
 go_wp2_with (fail)
 rw [HW0.out]
 clear HW0
 refine (slices_Clone_byte_byte.calls A c l l _ (Kd.C_below HR.out S0.out.b) hc HCL.out).mono ?_
 rintro e w1 ⟨v1,rfl,hR1,hb⟩
 have S1:=Aside0.mk (S0.out.step hb)
 have R1:=Aside0.mk (Kd.R_lower hR1 (below_size S0.out.b))
 clear hb hR1 S0 HCL
 have q0:=S1.out.c.c0
 have q1:=S1.out.c.c1
 have q2:=S1.out.c.c2
 have q3:=S1.out.c.c3
 have q4:=S1.out.c.c4
 have q5:=S1.out.c.c5
 have q6:=S1.out.c.c6
 go_wp2_with (fail)
 clear q0 q1 q2 q3 q4 q5 q6
 refine (check_calls k0 k1 k2 k3 k4 k5 k6 _).mono ?_
 rintro e w2 ⟨rfl,hb⟩
 have S2:=Aside0.mk (S1.out.step hb)
 have R2:=Aside0.mk (Kd.R_below R1.out hb)
 clear hb S1 R1
 obtain ⟨ck,hck⟩ : ∃ ck,chk (gk k0 k1 k2 k3 k4 k5 k6) = ck:=⟨_,rfl⟩
 have HCK:=Aside0.mk hck
 rw [hck]
 clear hck
 by_cases h0 : ck = 0
 ·subst h0
  obtain ⟨b0,b1,b2,b3,b4,b5,b6,_⟩:=chk_zero HCK.out
  have u0 : IntKind.u64.wrap k0 = k0:=u64_wrap b0.1 (Int.lt_of_le_of_lt b0.2 (by decide))
  have u1 : IntKind.u64.wrap k1 = k1:=u64_wrap b1.1 (Int.lt_of_le_of_lt b1.2 (by decide))
  have u2 : IntKind.u64.wrap k2 = k2:=u64_wrap (Int.le_trans (by decide) b2.1) (Int.lt_of_le_of_lt b2.2 (by decide))
  have u3 : IntKind.u64.wrap k3 = k3:=u64_wrap (Int.le_trans (by decide) b3.1) (Int.lt_of_le_of_lt b3.2 (by decide))
  have u4 : IntKind.u64.wrap k4 = k4:=u64_wrap b4.1 (Int.lt_of_le_of_lt b4.2 (by decide))
  have u5 : IntKind.u64.wrap k5 = k5:=u64_wrap (Int.le_trans (by decide) b5.1) (Int.lt_of_le_of_lt b5.2 (by decide))
  have u6 : IntKind.u64.wrap k6 = k6:=u64_wrap (Int.le_trans (by decide) b6.1) (Int.lt_of_le_of_lt b6.2 (by decide))
  clear b0 b1 b2 b3 b4 b5 b6
  obtain ⟨lo,hlo⟩ : ∃ lo : Int,lo = if k0 = 1 then 0 else 2:=⟨_,rfl⟩
  have HF:=Aside0.mk (fields_f k0 k1 k2 k3 k4 k5 k6 lo hlo)
  clear hlo
  have q0:=S2.out.c.c0
  have q1:=S2.out.c.c1
  have q2:=S2.out.c.c2
  have q3:=S2.out.c.c3
  have q4:=S2.out.c.c4
  have q5:=S2.out.c.c5
  have q6:=S2.out.c.c6
  go_wp2_with (fail)
  clear q0 q1 q2 q3 q4 q5 q6
  refine (config_fields.calls k0 k1 k2 k3 k4 k5 k6 k0 0 1 1 k1 lo 256 2 k2 2 256 2 k3 1 4096 2 k4 0 32 1 k5 1 1048576 4 k6 1 1024 2 _ HF.out).mono ?_
  rintro e w3 ⟨rfl,hb⟩
  have S3:=Aside0.mk (S2.out.step hb)
  have R3:=Aside0.mk (show Kd.R (Kd.int .u8) 5 w3 w.heap.size (fun _=>True) v1 (l ++ pre (gk k0 k1 k2 k3 k4 k5 k6) 0) from by rw [show pre (gk k0 k1 k2 k3 k4 k5 k6) 0 = [] from rfl,List.append_nil];exact Kd.R_below R2.out hb)
  clear hb S2 R2 HF
  go_wp2_with (fail)
  go_loopw [16,5] (fun v16 v5 w'=>∃ i : Nat,i ≤ 7 ∧ v16 = .int .i64 i ∧ Aside0 (CS w w' k0 k1 k2 k3 k4 k5 k6) ∧ Aside0 (Kd.R (Kd.int .u8) 5 w' w.heap.size (fun _=>True) v5 (l ++ pre (gk k0 k1 k2 k3 k4 k5 k6) i))) (fun v _ _=>7 - (intOf v).toNat)
  case atStart=>exact ⟨0,by omega,rfl,S3,R3⟩
  case round =>
   obtain ⟨i,hi,rfl,SI,RI⟩:=hrel
   clear S3 R3
   by_cases hlt : i < 7
   ·have d0 : decide ((i : Int) < 7) = true:=decide_eq_true (by omega)
    have hii : i = 0 ∨ i = 1 ∨ i = 2 ∨ i = 3 ∨ i = 4 ∨ i = 5 ∨ i = 6:=by omega
    have hpl:=pre_len (gk k0 k1 k2 k3 k4 k5 k6) i
    obtain ⟨L5,hL5⟩ : ∃ L5,l ++ pre (gk k0 k1 k2 k3 k4 k5 k6) i = L5:=⟨_,rfl⟩
    have hll : L5.length ≤ 100014:=by rw [← hL5,List.length_append];omega
    rw [hL5] at RI
    have HL5:=Aside0.mk hL5
    have HLL:=Aside0.mk hll
    clear hL5 hpl hll
    obtain ⟨A5,c5,hv5,hc5,hC5⟩:=Kd.R_reads RI.out
    subst hv5
    have HC5:=Aside0.mk (And.intro hc5 hC5)
    clear hi hlt hc5 hC5
    rcases hii with rfl|rfl|rfl|rfl|rfl|rfl|rfl
    ·have hix : ∀ W : World,(Instr.index 114 (.agg #[.int .i64 k0,.int .i64 0,.int .i64 1,.int .i64 1,.int .i64 k1,.int .i64 lo,.int .i64 256,.int .i64 2,.int .i64 k2,.int .i64 2,.int .i64 256,.int .i64 2,.int .i64 k3,.int .i64 1,.int .i64 4096,.int .i64 2,.int .i64 k4,.int .i64 0,.int .i64 32,.int .i64 1,.int .i64 k5,.int .i64 1,.int .i64 1048576,.int .i64 4,.int .i64 k6,.int .i64 1,.int .i64 1024,.int .i64 2]) (.int .i64 0)).run Try.prog W = .ok (.agg #[.int .i64 k0,.int .i64 0,.int .i64 1,.int .i64 1]) W:=fun W=>by first|rfl|kernel_rfl
     have hbx:=below_alloc (Below.refl wr.heap.size wr) (.cells #[.int .i64 k0,.int .i64 0,.int .i64 1,.int .i64 1] 113)
     go_wp2_with (fail)
     have hpf : take_Put.f 20 L5 k0 1 = some (l ++ pre (gk k0 k1 k2 k3 k4 k5 k6) 1):=by
      rw [put_f L5 k0 1 (by have:=HLL.out;omega) 20 (by omega),← HL5.out]
      simp [pre,segs,gk,cnt]
     refine (take_Put.calls 20 A5 c5 L5 k0 1 (l ++ pre (gk k0 k1 k2 k3 k4 k5 k6) 1) _ (Kd.C_below HC5.out.2 hbx) HC5.out.1 hpf).mono ?_
     clear hpf
     rintro e w4 ⟨v4,rfl,hR4,hb⟩
     have hbb:=hbx.trans (hb.mono (by simp))
     have SN:=Aside0.mk (SI.out.step hbb)
     have RN:=Aside0.mk (Kd.R_lower hR4 (Nat.le_trans (below_size SI.out.b) (by simp)))
     clear hb hbb hbx hR4 SI RI HC5
     go_wp2
     exact ⟨⟨1,by omega,by go_num,SN,RN⟩,by simp [intOf]⟩
    ·have hix : ∀ W : World,(Instr.index 114 (.agg #[.int .i64 k0,.int .i64 0,.int .i64 1,.int .i64 1,.int .i64 k1,.int .i64 lo,.int .i64 256,.int .i64 2,.int .i64 k2,.int .i64 2,.int .i64 256,.int .i64 2,.int .i64 k3,.int .i64 1,.int .i64 4096,.int .i64 2,.int .i64 k4,.int .i64 0,.int .i64 32,.int .i64 1,.int .i64 k5,.int .i64 1,.int .i64 1048576,.int .i64 4,.int .i64 k6,.int .i64 1,.int .i64 1024,.int .i64 2]) (.int .i64 1)).run Try.prog W = .ok (.agg #[.int .i64 k1,.int .i64 lo,.int .i64 256,.int .i64 2]) W:=fun W=>by first|rfl|kernel_rfl
     have hbx:=below_alloc (Below.refl wr.heap.size wr) (.cells #[.int .i64 k1,.int .i64 lo,.int .i64 256,.int .i64 2] 113)
     go_wp2_with (fail)
     have hpf : take_Put.f 20 L5 k1 2 = some (l ++ pre (gk k0 k1 k2 k3 k4 k5 k6) 2):=by
      rw [put_f L5 k1 2 (by have:=HLL.out;omega) 20 (by omega),← HL5.out]
      simp [pre,segs,gk,cnt]
     refine (take_Put.calls 20 A5 c5 L5 k1 2 (l ++ pre (gk k0 k1 k2 k3 k4 k5 k6) 2) _ (Kd.C_below HC5.out.2 hbx) HC5.out.1 hpf).mono ?_
     clear hpf
     rintro e w4 ⟨v4,rfl,hR4,hb⟩
     have hbb:=hbx.trans (hb.mono (by simp))
     have SN:=Aside0.mk (SI.out.step hbb)
     have RN:=Aside0.mk (Kd.R_lower hR4 (Nat.le_trans (below_size SI.out.b) (by simp)))
     clear hb hbb hbx hR4 SI RI HC5
     go_wp2
     exact ⟨⟨2,by omega,by go_num,SN,RN⟩,by simp [intOf]⟩
    ·have hix : ∀ W : World,(Instr.index 114 (.agg #[.int .i64 k0,.int .i64 0,.int .i64 1,.int .i64 1,.int .i64 k1,.int .i64 lo,.int .i64 256,.int .i64 2,.int .i64 k2,.int .i64 2,.int .i64 256,.int .i64 2,.int .i64 k3,.int .i64 1,.int .i64 4096,.int .i64 2,.int .i64 k4,.int .i64 0,.int .i64 32,.int .i64 1,.int .i64 k5,.int .i64 1,.int .i64 1048576,.int .i64 4,.int .i64 k6,.int .i64 1,.int .i64 1024,.int .i64 2]) (.int .i64 2)).run Try.prog W = .ok (.agg #[.int .i64 k2,.int .i64 2,.int .i64 256,.int .i64 2]) W:=fun W=>by first|rfl|kernel_rfl
     have hbx:=below_alloc (Below.refl wr.heap.size wr) (.cells #[.int .i64 k2,.int .i64 2,.int .i64 256,.int .i64 2] 113)
     go_wp2_with (fail)
     have hpf : take_Put.f 20 L5 k2 2 = some (l ++ pre (gk k0 k1 k2 k3 k4 k5 k6) 3):=by
      rw [put_f L5 k2 2 (by have:=HLL.out;omega) 20 (by omega),← HL5.out]
      simp [pre,segs,gk,cnt]
     refine (take_Put.calls 20 A5 c5 L5 k2 2 (l ++ pre (gk k0 k1 k2 k3 k4 k5 k6) 3) _ (Kd.C_below HC5.out.2 hbx) HC5.out.1 hpf).mono ?_
     clear hpf
     rintro e w4 ⟨v4,rfl,hR4,hb⟩
     have hbb:=hbx.trans (hb.mono (by simp))
     have SN:=Aside0.mk (SI.out.step hbb)
     have RN:=Aside0.mk (Kd.R_lower hR4 (Nat.le_trans (below_size SI.out.b) (by simp)))
     clear hb hbb hbx hR4 SI RI HC5
     go_wp2
     exact ⟨⟨3,by omega,by go_num,SN,RN⟩,by simp [intOf]⟩
    ·have hix : ∀ W : World,(Instr.index 114 (.agg #[.int .i64 k0,.int .i64 0,.int .i64 1,.int .i64 1,.int .i64 k1,.int .i64 lo,.int .i64 256,.int .i64 2,.int .i64 k2,.int .i64 2,.int .i64 256,.int .i64 2,.int .i64 k3,.int .i64 1,.int .i64 4096,.int .i64 2,.int .i64 k4,.int .i64 0,.int .i64 32,.int .i64 1,.int .i64 k5,.int .i64 1,.int .i64 1048576,.int .i64 4,.int .i64 k6,.int .i64 1,.int .i64 1024,.int .i64 2]) (.int .i64 3)).run Try.prog W = .ok (.agg #[.int .i64 k3,.int .i64 1,.int .i64 4096,.int .i64 2]) W:=fun W=>by first|rfl|kernel_rfl
     have hbx:=below_alloc (Below.refl wr.heap.size wr) (.cells #[.int .i64 k3,.int .i64 1,.int .i64 4096,.int .i64 2] 113)
     go_wp2_with (fail)
     have hpf : take_Put.f 20 L5 k3 2 = some (l ++ pre (gk k0 k1 k2 k3 k4 k5 k6) 4):=by
      rw [put_f L5 k3 2 (by have:=HLL.out;omega) 20 (by omega),← HL5.out]
      simp [pre,segs,gk,cnt]
     refine (take_Put.calls 20 A5 c5 L5 k3 2 (l ++ pre (gk k0 k1 k2 k3 k4 k5 k6) 4) _ (Kd.C_below HC5.out.2 hbx) HC5.out.1 hpf).mono ?_
     clear hpf
     rintro e w4 ⟨v4,rfl,hR4,hb⟩
     have hbb:=hbx.trans (hb.mono (by simp))
     have SN:=Aside0.mk (SI.out.step hbb)
     have RN:=Aside0.mk (Kd.R_lower hR4 (Nat.le_trans (below_size SI.out.b) (by simp)))
     clear hb hbb hbx hR4 SI RI HC5
     go_wp2
     exact ⟨⟨4,by omega,by go_num,SN,RN⟩,by simp [intOf]⟩
    ·have hix : ∀ W : World,(Instr.index 114 (.agg #[.int .i64 k0,.int .i64 0,.int .i64 1,.int .i64 1,.int .i64 k1,.int .i64 lo,.int .i64 256,.int .i64 2,.int .i64 k2,.int .i64 2,.int .i64 256,.int .i64 2,.int .i64 k3,.int .i64 1,.int .i64 4096,.int .i64 2,.int .i64 k4,.int .i64 0,.int .i64 32,.int .i64 1,.int .i64 k5,.int .i64 1,.int .i64 1048576,.int .i64 4,.int .i64 k6,.int .i64 1,.int .i64 1024,.int .i64 2]) (.int .i64 4)).run Try.prog W = .ok (.agg #[.int .i64 k4,.int .i64 0,.int .i64 32,.int .i64 1]) W:=fun W=>by first|rfl|kernel_rfl
     have hbx:=below_alloc (Below.refl wr.heap.size wr) (.cells #[.int .i64 k4,.int .i64 0,.int .i64 32,.int .i64 1] 113)
     go_wp2_with (fail)
     have hpf : take_Put.f 20 L5 k4 1 = some (l ++ pre (gk k0 k1 k2 k3 k4 k5 k6) 5):=by
      rw [put_f L5 k4 1 (by have:=HLL.out;omega) 20 (by omega),← HL5.out]
      simp [pre,segs,gk,cnt]
     refine (take_Put.calls 20 A5 c5 L5 k4 1 (l ++ pre (gk k0 k1 k2 k3 k4 k5 k6) 5) _ (Kd.C_below HC5.out.2 hbx) HC5.out.1 hpf).mono ?_
     clear hpf
     rintro e w4 ⟨v4,rfl,hR4,hb⟩
     have hbb:=hbx.trans (hb.mono (by simp))
     have SN:=Aside0.mk (SI.out.step hbb)
     have RN:=Aside0.mk (Kd.R_lower hR4 (Nat.le_trans (below_size SI.out.b) (by simp)))
     clear hb hbb hbx hR4 SI RI HC5
     go_wp2
     exact ⟨⟨5,by omega,by go_num,SN,RN⟩,by simp [intOf]⟩
    ·have hix : ∀ W : World,(Instr.index 114 (.agg #[.int .i64 k0,.int .i64 0,.int .i64 1,.int .i64 1,.int .i64 k1,.int .i64 lo,.int .i64 256,.int .i64 2,.int .i64 k2,.int .i64 2,.int .i64 256,.int .i64 2,.int .i64 k3,.int .i64 1,.int .i64 4096,.int .i64 2,.int .i64 k4,.int .i64 0,.int .i64 32,.int .i64 1,.int .i64 k5,.int .i64 1,.int .i64 1048576,.int .i64 4,.int .i64 k6,.int .i64 1,.int .i64 1024,.int .i64 2]) (.int .i64 5)).run Try.prog W = .ok (.agg #[.int .i64 k5,.int .i64 1,.int .i64 1048576,.int .i64 4]) W:=fun W=>by first|rfl|kernel_rfl
     have hbx:=below_alloc (Below.refl wr.heap.size wr) (.cells #[.int .i64 k5,.int .i64 1,.int .i64 1048576,.int .i64 4] 113)
     go_wp2_with (fail)
     have hpf : take_Put.f 20 L5 k5 4 = some (l ++ pre (gk k0 k1 k2 k3 k4 k5 k6) 6):=by
      rw [put_f L5 k5 4 (by have:=HLL.out;omega) 20 (by omega),← HL5.out]
      simp [pre,segs,gk,cnt]
     refine (take_Put.calls 20 A5 c5 L5 k5 4 (l ++ pre (gk k0 k1 k2 k3 k4 k5 k6) 6) _ (Kd.C_below HC5.out.2 hbx) HC5.out.1 hpf).mono ?_
     clear hpf
     rintro e w4 ⟨v4,rfl,hR4,hb⟩
     have hbb:=hbx.trans (hb.mono (by simp))
     have SN:=Aside0.mk (SI.out.step hbb)
     have RN:=Aside0.mk (Kd.R_lower hR4 (Nat.le_trans (below_size SI.out.b) (by simp)))
     clear hb hbb hbx hR4 SI RI HC5
     go_wp2
     exact ⟨⟨6,by omega,by go_num,SN,RN⟩,by simp [intOf]⟩
    ·have hix : ∀ W : World,(Instr.index 114 (.agg #[.int .i64 k0,.int .i64 0,.int .i64 1,.int .i64 1,.int .i64 k1,.int .i64 lo,.int .i64 256,.int .i64 2,.int .i64 k2,.int .i64 2,.int .i64 256,.int .i64 2,.int .i64 k3,.int .i64 1,.int .i64 4096,.int .i64 2,.int .i64 k4,.int .i64 0,.int .i64 32,.int .i64 1,.int .i64 k5,.int .i64 1,.int .i64 1048576,.int .i64 4,.int .i64 k6,.int .i64 1,.int .i64 1024,.int .i64 2]) (.int .i64 6)).run Try.prog W = .ok (.agg #[.int .i64 k6,.int .i64 1,.int .i64 1024,.int .i64 2]) W:=fun W=>by first|rfl|kernel_rfl
     have hbx:=below_alloc (Below.refl wr.heap.size wr) (.cells #[.int .i64 k6,.int .i64 1,.int .i64 1024,.int .i64 2] 113)
     go_wp2_with (fail)
     have hpf : take_Put.f 20 L5 k6 2 = some (l ++ pre (gk k0 k1 k2 k3 k4 k5 k6) 7):=by
      rw [put_f L5 k6 2 (by have:=HLL.out;omega) 20 (by omega),← HL5.out]
      simp [pre,segs,gk,cnt]
     refine (take_Put.calls 20 A5 c5 L5 k6 2 (l ++ pre (gk k0 k1 k2 k3 k4 k5 k6) 7) _ (Kd.C_below HC5.out.2 hbx) HC5.out.1 hpf).mono ?_
     clear hpf
     rintro e w4 ⟨v4,rfl,hR4,hb⟩
     have hbb:=hbx.trans (hb.mono (by simp))
     have SN:=Aside0.mk (SI.out.step hbb)
     have RN:=Aside0.mk (Kd.R_lower hR4 (Nat.le_trans (below_size SI.out.b) (by simp)))
     clear hb hbb hbx hR4 SI RI HC5
     go_wp2
     exact ⟨⟨7,by omega,by go_num,SN,RN⟩,by simp [intOf]⟩
   ·obtain rfl : i = 7:=by omega
    have d0 : decide (((7 : Nat) : Int) < 7) = false:=by decide
    have RF:=Aside0.mk (show Kd.R (Kd.int .u8) 5 wr w.heap.size (fun _=>True) u5 RES from by rw [← HRES.out,if_pos HCK.out,show bytesC (gk k0 k1 k2 k3 k4 k5 k6) = pre (gk k0 k1 k2 k3 k4 k5 k6) 7 by simp [bytesC,pre,segs]];exact RI.out)
    clear RI
    go_wp2
    go_ret
    exact ⟨u5,rfl,RF.out,SI.out.b⟩
 ·have d0 : (ck != 0) = true:=bne_iff_ne.mpr h0
  have RF:=Aside0.mk (show Kd.R (Kd.int .u8) 5 w2 w.heap.size (fun _=>True) v1 RES from by rw [← HRES.out,if_neg (by rw [HCK.out];exact h0)];exact R2.out)
  clear h0 R2
  go_wp2
  go_ret
  exact ⟨v1,rfl,RF.out,S2.out.b⟩
/-! The contracts in the print's own shape. -/
def config_Check.f (k : Nat) (k0 k1 k2 k3 k4 k5 k6 : Int) : Option Int:=some (chk (gk k0 k1 k2 k3 k4 k5 k6))
theorem config_Check.calls (k : Nat) (k0 k1 k2 k3 k4 k5 k6 r : Int) (w : World) (h : config_Check.f k k0 k1 k2 k3 k4 k5 k6 = some r) : Calls Try.prog 47 #[.agg #[.int .i64 k0,.int .i64 k1,.int .i64 k2,.int .i64 k3,.int .i64 k4,.int .i64 k5,.int .i64 k6]] w fun e w'=>e = .returned (.int .i64 r) ∧ Below w.heap.size w w':=by
 obtain rfl:=Option.some.inj h
 exact check_calls k0 k1 k2 k3 k4 k5 k6 w
def config_Put.f (k : Nat) (l : List Int) (k0 k1 k2 k3 k4 k5 k6 : Int) : Option (List Int):=if l.length ≤ 100000 then some (if chk (gk k0 k1 k2 k3 k4 k5 k6) = 0 then l ++ bytesC (gk k0 k1 k2 k3 k4 k5 k6) else l) else none
theorem config_Put.calls (k : Nat) (A : Option Addr) (c : Nat) (l : List Int) (k0 k1 k2 k3 k4 k5 k6 : Int) (r : List Int) (w : World) (hr : Kd.C (Kd.int .u8) w A l.length l) (hc : l.length ≤ c) (h : config_Put.f k l k0 k1 k2 k3 k4 k5 k6 = some r) :
  Calls Try.prog 49 #[.slice A l.length c,.agg #[.int .i64 k0,.int .i64 k1,.int .i64 k2,.int .i64 k3,.int .i64 k4,.int .i64 k5,.int .i64 k6]] w fun e w'=>∃ v,e = .returned v ∧ Kd.R (Kd.int .u8) 5 w' w.heap.size (fun _=>True) v r ∧ Below w.heap.size w w':=by
 unfold config_Put.f at h
 by_cases hl : l.length ≤ 100000
 ·rw [if_pos hl] at h
  obtain rfl:=Option.some.inj h
  exact put_calls A c l k0 k1 k2 k3 k4 k5 k6 w hr hc hl
 ·rw [if_neg hl] at h;cases h
theorem check_f (g : Nat → Int) (k : Nat) (hk : 20 ≤ k) : config_Check.f k (g 0) (g 1) (g 2) (g 3) (g 4) (g 5) (g 6) = some (chk g):=rfl
theorem put_c (g : Nat → Int) (l : List Int) (hl : l.length ≤ 100000) (k : Nat) (hk : 30 ≤ k) : config_Put.f k l (g 0) (g 1) (g 2) (g 3) (g 4) (g 5) (g 6) = some (if chk g = 0 then l ++ bytesC g else l):=if_pos hl
end Go.Proofs.Ytnagfbadjbkhmaa.FConfD
