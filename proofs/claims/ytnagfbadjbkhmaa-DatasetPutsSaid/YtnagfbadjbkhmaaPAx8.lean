import Derived.Test.YtnagfbadjbkhmaaPAx0
import Derived.Test.YtnagfbadjbkhmaaPAx5
import Derived.Test.YtnagfbadjbkhmaaPAx6
namespace Go.Proofs.Ytnagfbadjbkhmaa.PA
open Go.RowKit Go.Proofs.YtnagfbadjbkhmaaW.PrintWords Go.Proofs.YtnagfbadjbkhmaaW.PrintLast Go.Proofs.YtnagfbadjbkhmaaW.PrintMore
attribute [local go_sem] max2_int min2_int max_two min_two max_three min_three max_four min_four   -- for this text's walks alone
attribute [local go_sem high] Flt.fold_eq Flt.fold_ne Flt.fold_lt Flt.fold_gt Flt.fold_le Flt.fold_ge Flt.run_bits Flt.run_frombits
set_option linter.unusedVariables false
set_option linter.unusedSimpArgs false

/-! ### hornbeamref08_Put: function 57 -/
def hornbeamref08_Put.f (k : Nat) (a0_0 : Int) (a0_1 : Int) (a0_2 : Int) (a0_3 : Int) (a0_4 : Int) (a0_5 : Int) (a0_6 : Int) : Option (ByteArray):=(hornbeamref08_Check.f k a0_0 a0_1 a0_2 a0_3 a0_4 a0_5 a0_6).bind fun t178=>(if t178 = 0 then ((hornbeamref07_Put.f k (IntKind.u64.wrap (a0_0)) 1).bind fun t179=>((hornbeamref07_Put.f k (IntKind.u64.wrap (a0_1)) 2).bind fun t180=>(if t179.size + t180.size ≤ 9223372036854775807 then ((hornbeamref07_Put.f k (IntKind.u64.wrap (a0_2)) 2).bind fun t181=>(if (t179 ++ t180).size + t181.size ≤ 9223372036854775807 then ((hornbeamref07_Put.f k (IntKind.u64.wrap (a0_3)) 2).bind fun t182=>(if ((t179 ++ t180) ++ t181).size + t182.size ≤ 9223372036854775807 then ((hornbeamref07_Put.f k (IntKind.u64.wrap (a0_4)) 1).bind fun t183=>(if (((t179 ++ t180) ++ t181) ++ t182).size + t183.size ≤ 9223372036854775807 then ((hornbeamref07_Put.f k (IntKind.u64.wrap (a0_5)) 4).bind fun t184=>(if ((((t179 ++ t180) ++ t181) ++ t182) ++ t183).size + t184.size ≤ 9223372036854775807 then ((hornbeamref07_Put.f k (IntKind.u64.wrap (a0_6)) 2).bind fun t185=>(if (((((t179 ++ t180) ++ t181) ++ t182) ++ t183) ++ t184).size + t185.size ≤ 9223372036854775807 then (some ((((((t179 ++ t180) ++ t181) ++ t182) ++ t183) ++ t184) ++ t185)) else (none))) else (none))) else (none))) else (none))) else (none))) else (none)))) else (some (⟨#[]⟩ : ByteArray)))
theorem hornbeamref08_Put.mono : ∀ a0 a1 a2 a3 a4 a5 a6 k,LeO (hornbeamref08_Put.f k a0 a1 a2 a3 a4 a5 a6) (hornbeamref08_Put.f (k + 1) a0 a1 a2 a3 a4 a5 a6):=by
 intro a0 a1 a2 a3 a4 a5 a6 k
 unfold hornbeamref08_Put.f
 repeat' first
   | (with_reducible exact hornbeamref07_Put.mono _ _ _)
   | (with_reducible exact hornbeamref08_Check.mono _ _ _ _ _ _ _ _)
   | (with_reducible exact LeO.refl _)
   | (with_reducible exact LeO.none _)
   | (with_reducible refine LeO.ite ?_ ?_)
   | (with_reducible refine LeO.bind ?_ (fun _=>?_))
   | exact hornbeamref07_Put.mono _ _ _
   | exact hornbeamref08_Check.mono _ _ _ _ _ _ _ _
   | exact LeO.none _
   | refine LeO.ite ?_ ?_
   | refine LeO.bind ?_ (fun _=>?_)
def hornbeamref08_Put.T3 : Bool × List (List Nat × List Nat):=(true,[([],[]),([0],[0]),([1],[1]),([2],[2]),([],[]),([4],[4]),([5],[5]),([6,3],[6]),([3,7],[3,7]),([],[]),([9],[9]),([10],[10]),([11,7],[11]),([8,12],[8,12]),([],[]),([14],[14]),([15],[15]),([16,12],[16]),([13,17],[13,17]),([],[]),([19],[19]),([20],[20]),([21,17],[21]),([18,22],[18,22]),([],[]),([24],[24]),([25],[25]),([26,22],[26]),([23,27],[23,27]),([],[]),([29],[29]),([30],[30]),([31,27],[31]),([28,32],[28,32]),([33,32,0,1,2,3,4,5,6,7,8,9,10,11,12,13,14,15,16,17,18,19,20,21,22,23,24,25,26,27,28,29,30,31,32,33],[33])])
def hornbeamref08_Put.B3 : List Nat:=[0,1,3,7,0,16,48,127,255,0,512,1536,3839,8191,0,16384,49152,122623,262143,0,524288,1572864,3923711,8388607,0,16777216,50331648,125558527,268435455,0,536870912,1610612736,4017872639,8589934591,17179869183]
theorem hornbeamref08_Put.tab3 : rtab .any (opsOf Try.f57 3) = hornbeamref08_Put.T3:=by kernel_rfl
theorem hornbeamref08_Put.bits3 : waitsOk hornbeamref08_Put.T3.2 hornbeamref08_Put.B3 = true:=by kernel_rfl
set_option maxHeartbeats 8000000 in
set_option maxRecDepth 100000 in
theorem hornbeamref08_Put.calls (k : Nat) (a0_0 : Int) (a0_1 : Int) (a0_2 : Int) (a0_3 : Int) (a0_4 : Int) (a0_5 : Int) (a0_6 : Int) (r : ByteArray) (w : World) (h : hornbeamref08_Put.f k a0_0 a0_1 a0_2 a0_3 a0_4 a0_5 a0_6 = some r) :
  Calls Try.prog 57 #[.agg #[.int .i64 a0_0,.int .i64 a0_1,.int .i64 a0_2,.int .i64 a0_3,.int .i64 a0_4,.int .i64 a0_5,.int .i64 a0_6]] w fun e w'=>e = .returned (.string r) ∧ Below w.heap.size w w':=by
 have hu23:=Try.underlying23
 have HB:=Aside0.mk (Below.refl w.heap.size w)
 have H : ((hornbeamref08_Check.f k a0_0 a0_1 a0_2 a0_3 a0_4 a0_5 a0_6).bind fun t178=>(if t178 = 0 then ((hornbeamref07_Put.f k (IntKind.u64.wrap (a0_0)) 1).bind fun t179=>((hornbeamref07_Put.f k (IntKind.u64.wrap (a0_1)) 2).bind fun t180=>(if t179.size + t180.size ≤ 9223372036854775807 then ((hornbeamref07_Put.f k (IntKind.u64.wrap (a0_2)) 2).bind fun t181=>(if (t179 ++ t180).size + t181.size ≤ 9223372036854775807 then ((hornbeamref07_Put.f k (IntKind.u64.wrap (a0_3)) 2).bind fun t182=>(if ((t179 ++ t180) ++ t181).size + t182.size ≤ 9223372036854775807 then ((hornbeamref07_Put.f k (IntKind.u64.wrap (a0_4)) 1).bind fun t183=>(if (((t179 ++ t180) ++ t181) ++ t182).size + t183.size ≤ 9223372036854775807 then ((hornbeamref07_Put.f k (IntKind.u64.wrap (a0_5)) 4).bind fun t184=>(if ((((t179 ++ t180) ++ t181) ++ t182) ++ t183).size + t184.size ≤ 9223372036854775807 then ((hornbeamref07_Put.f k (IntKind.u64.wrap (a0_6)) 2).bind fun t185=>(if (((((t179 ++ t180) ++ t181) ++ t182) ++ t183) ++ t184).size + t185.size ≤ 9223372036854775807 then (some ((((((t179 ++ t180) ++ t181) ++ t182) ++ t183) ++ t184) ++ t185)) else (none))) else (none))) else (none))) else (none))) else (none))) else (none)))) else (some (⟨#[]⟩ : ByteArray)))) = some r:=h
 clear h
 replace H:=Option.bind_eq_some_iff.mp H
 obtain ⟨t178,A20,H⟩:=H
 replace H : (if t178 = 0 then ((hornbeamref07_Put.f k (IntKind.u64.wrap (a0_0)) 1).bind fun t179=>((hornbeamref07_Put.f k (IntKind.u64.wrap (a0_1)) 2).bind fun t180=>(if t179.size + t180.size ≤ 9223372036854775807 then ((hornbeamref07_Put.f k (IntKind.u64.wrap (a0_2)) 2).bind fun t181=>(if (t179 ++ t180).size + t181.size ≤ 9223372036854775807 then ((hornbeamref07_Put.f k (IntKind.u64.wrap (a0_3)) 2).bind fun t182=>(if ((t179 ++ t180) ++ t181).size + t182.size ≤ 9223372036854775807 then ((hornbeamref07_Put.f k (IntKind.u64.wrap (a0_4)) 1).bind fun t183=>(if (((t179 ++ t180) ++ t181) ++ t182).size + t183.size ≤ 9223372036854775807 then ((hornbeamref07_Put.f k (IntKind.u64.wrap (a0_5)) 4).bind fun t184=>(if ((((t179 ++ t180) ++ t181) ++ t182) ++ t183).size + t184.size ≤ 9223372036854775807 then ((hornbeamref07_Put.f k (IntKind.u64.wrap (a0_6)) 2).bind fun t185=>(if (((((t179 ++ t180) ++ t181) ++ t182) ++ t183) ++ t184).size + t185.size ≤ 9223372036854775807 then (some ((((((t179 ++ t180) ++ t181) ++ t182) ++ t183) ++ t184) ++ t185)) else (none))) else (none))) else (none))) else (none))) else (none))) else (none)))) else (some (⟨#[]⟩ : ByteArray))) = some r:=H
 have A2:=Aside0.mk A20
 clear A20
 by_cases c3 : t178 = 0
 ·rw [if_pos c3] at H
  have c3b0 : (t178 == 0) = true:=beq_iff_eq.mpr c3
  have c3b1 : (t178 != 0) = false:=bne_eq_false_iff_eq.mpr c3
  clear c3
  replace H:=Option.bind_eq_some_iff.mp H
  obtain ⟨t179,A40,H⟩:=H
  replace H : ((hornbeamref07_Put.f k (IntKind.u64.wrap (a0_1)) 2).bind fun t180=>(if t179.size + t180.size ≤ 9223372036854775807 then ((hornbeamref07_Put.f k (IntKind.u64.wrap (a0_2)) 2).bind fun t181=>(if (t179 ++ t180).size + t181.size ≤ 9223372036854775807 then ((hornbeamref07_Put.f k (IntKind.u64.wrap (a0_3)) 2).bind fun t182=>(if ((t179 ++ t180) ++ t181).size + t182.size ≤ 9223372036854775807 then ((hornbeamref07_Put.f k (IntKind.u64.wrap (a0_4)) 1).bind fun t183=>(if (((t179 ++ t180) ++ t181) ++ t182).size + t183.size ≤ 9223372036854775807 then ((hornbeamref07_Put.f k (IntKind.u64.wrap (a0_5)) 4).bind fun t184=>(if ((((t179 ++ t180) ++ t181) ++ t182) ++ t183).size + t184.size ≤ 9223372036854775807 then ((hornbeamref07_Put.f k (IntKind.u64.wrap (a0_6)) 2).bind fun t185=>(if (((((t179 ++ t180) ++ t181) ++ t182) ++ t183) ++ t184).size + t185.size ≤ 9223372036854775807 then (some ((((((t179 ++ t180) ++ t181) ++ t182) ++ t183) ++ t184) ++ t185)) else (none))) else (none))) else (none))) else (none))) else (none))) else (none))) = some r:=H
  have A4:=Aside0.mk A40
  clear A40
  replace H:=Option.bind_eq_some_iff.mp H
  obtain ⟨t180,A50,H⟩:=H
  replace H : (if t179.size + t180.size ≤ 9223372036854775807 then ((hornbeamref07_Put.f k (IntKind.u64.wrap (a0_2)) 2).bind fun t181=>(if (t179 ++ t180).size + t181.size ≤ 9223372036854775807 then ((hornbeamref07_Put.f k (IntKind.u64.wrap (a0_3)) 2).bind fun t182=>(if ((t179 ++ t180) ++ t181).size + t182.size ≤ 9223372036854775807 then ((hornbeamref07_Put.f k (IntKind.u64.wrap (a0_4)) 1).bind fun t183=>(if (((t179 ++ t180) ++ t181) ++ t182).size + t183.size ≤ 9223372036854775807 then ((hornbeamref07_Put.f k (IntKind.u64.wrap (a0_5)) 4).bind fun t184=>(if ((((t179 ++ t180) ++ t181) ++ t182) ++ t183).size + t184.size ≤ 9223372036854775807 then ((hornbeamref07_Put.f k (IntKind.u64.wrap (a0_6)) 2).bind fun t185=>(if (((((t179 ++ t180) ++ t181) ++ t182) ++ t183) ++ t184).size + t185.size ≤ 9223372036854775807 then (some ((((((t179 ++ t180) ++ t181) ++ t182) ++ t183) ++ t184) ++ t185)) else (none))) else (none))) else (none))) else (none))) else (none))) else (none)) = some r:=H
  have A5:=Aside0.mk A50
  clear A50
  by_cases c6 : t179.size + t180.size ≤ 9223372036854775807
  ·rw [if_pos c6] at H
   have c6b0:=eq_true c6
   have c6b1 : decide (t179.size + t180.size ≤ 9223372036854775807) = true:=decide_eq_true c6
   try have c6b2 : (9223372036854775807 < t179.size + t180.size) = False:=eq_false (Nat.not_lt.2 c6)
   replace H:=Option.bind_eq_some_iff.mp H
   obtain ⟨t181,A70,H⟩:=H
   replace H : (if (t179 ++ t180).size + t181.size ≤ 9223372036854775807 then ((hornbeamref07_Put.f k (IntKind.u64.wrap (a0_3)) 2).bind fun t182=>(if ((t179 ++ t180) ++ t181).size + t182.size ≤ 9223372036854775807 then ((hornbeamref07_Put.f k (IntKind.u64.wrap (a0_4)) 1).bind fun t183=>(if (((t179 ++ t180) ++ t181) ++ t182).size + t183.size ≤ 9223372036854775807 then ((hornbeamref07_Put.f k (IntKind.u64.wrap (a0_5)) 4).bind fun t184=>(if ((((t179 ++ t180) ++ t181) ++ t182) ++ t183).size + t184.size ≤ 9223372036854775807 then ((hornbeamref07_Put.f k (IntKind.u64.wrap (a0_6)) 2).bind fun t185=>(if (((((t179 ++ t180) ++ t181) ++ t182) ++ t183) ++ t184).size + t185.size ≤ 9223372036854775807 then (some ((((((t179 ++ t180) ++ t181) ++ t182) ++ t183) ++ t184) ++ t185)) else (none))) else (none))) else (none))) else (none))) else (none)) = some r:=H
   have A7:=Aside0.mk A70
   clear A70
   by_cases c8 : (t179 ++ t180).size + t181.size ≤ 9223372036854775807
   ·rw [if_pos c8] at H
    have c8b0:=eq_true c8
    have c8b1 : decide ((t179 ++ t180).size + t181.size ≤ 9223372036854775807) = true:=decide_eq_true c8
    (try (have c8b1z:=c8b1;simp only [ByteArray.size_append] at c8b1z))
    try have c8b2 : (9223372036854775807 < (t179 ++ t180).size + t181.size) = False:=eq_false (Nat.not_lt.2 c8)
    (try (have c8b2z:=c8b2;simp only [ByteArray.size_append] at c8b2z))
    replace H:=Option.bind_eq_some_iff.mp H
    obtain ⟨t182,A90,H⟩:=H
    replace H : (if ((t179 ++ t180) ++ t181).size + t182.size ≤ 9223372036854775807 then ((hornbeamref07_Put.f k (IntKind.u64.wrap (a0_4)) 1).bind fun t183=>(if (((t179 ++ t180) ++ t181) ++ t182).size + t183.size ≤ 9223372036854775807 then ((hornbeamref07_Put.f k (IntKind.u64.wrap (a0_5)) 4).bind fun t184=>(if ((((t179 ++ t180) ++ t181) ++ t182) ++ t183).size + t184.size ≤ 9223372036854775807 then ((hornbeamref07_Put.f k (IntKind.u64.wrap (a0_6)) 2).bind fun t185=>(if (((((t179 ++ t180) ++ t181) ++ t182) ++ t183) ++ t184).size + t185.size ≤ 9223372036854775807 then (some ((((((t179 ++ t180) ++ t181) ++ t182) ++ t183) ++ t184) ++ t185)) else (none))) else (none))) else (none))) else (none)) = some r:=H
    have A9:=Aside0.mk A90
    clear A90
    by_cases c10 : ((t179 ++ t180) ++ t181).size + t182.size ≤ 9223372036854775807
    ·rw [if_pos c10] at H
     have c10b0:=eq_true c10
     have c10b1 : decide (((t179 ++ t180) ++ t181).size + t182.size ≤ 9223372036854775807) = true:=decide_eq_true c10
     (try (have c10b1z:=c10b1;simp only [ByteArray.size_append] at c10b1z))
     try have c10b2 : (9223372036854775807 < ((t179 ++ t180) ++ t181).size + t182.size) = False:=eq_false (Nat.not_lt.2 c10)
     (try (have c10b2z:=c10b2;simp only [ByteArray.size_append] at c10b2z))
     replace H:=Option.bind_eq_some_iff.mp H
     obtain ⟨t183,A110,H⟩:=H
     replace H : (if (((t179 ++ t180) ++ t181) ++ t182).size + t183.size ≤ 9223372036854775807 then ((hornbeamref07_Put.f k (IntKind.u64.wrap (a0_5)) 4).bind fun t184=>(if ((((t179 ++ t180) ++ t181) ++ t182) ++ t183).size + t184.size ≤ 9223372036854775807 then ((hornbeamref07_Put.f k (IntKind.u64.wrap (a0_6)) 2).bind fun t185=>(if (((((t179 ++ t180) ++ t181) ++ t182) ++ t183) ++ t184).size + t185.size ≤ 9223372036854775807 then (some ((((((t179 ++ t180) ++ t181) ++ t182) ++ t183) ++ t184) ++ t185)) else (none))) else (none))) else (none)) = some r:=H
     have A11:=Aside0.mk A110
     clear A110
     by_cases c12 : (((t179 ++ t180) ++ t181) ++ t182).size + t183.size ≤ 9223372036854775807
     ·rw [if_pos c12] at H
      have c12b0:=eq_true c12
      have c12b1 : decide ((((t179 ++ t180) ++ t181) ++ t182).size + t183.size ≤ 9223372036854775807) = true:=decide_eq_true c12
      (try (have c12b1z:=c12b1;simp only [ByteArray.size_append] at c12b1z))
      try have c12b2 : (9223372036854775807 < (((t179 ++ t180) ++ t181) ++ t182).size + t183.size) = False:=eq_false (Nat.not_lt.2 c12)
      (try (have c12b2z:=c12b2;simp only [ByteArray.size_append] at c12b2z))
      replace H:=Option.bind_eq_some_iff.mp H
      obtain ⟨t184,A130,H⟩:=H
      replace H : (if ((((t179 ++ t180) ++ t181) ++ t182) ++ t183).size + t184.size ≤ 9223372036854775807 then ((hornbeamref07_Put.f k (IntKind.u64.wrap (a0_6)) 2).bind fun t185=>(if (((((t179 ++ t180) ++ t181) ++ t182) ++ t183) ++ t184).size + t185.size ≤ 9223372036854775807 then (some ((((((t179 ++ t180) ++ t181) ++ t182) ++ t183) ++ t184) ++ t185)) else (none))) else (none)) = some r:=H
      have A13:=Aside0.mk A130
      clear A130
      by_cases c14 : ((((t179 ++ t180) ++ t181) ++ t182) ++ t183).size + t184.size ≤ 9223372036854775807
      ·rw [if_pos c14] at H
       have c14b0:=eq_true c14
       have c14b1 : decide (((((t179 ++ t180) ++ t181) ++ t182) ++ t183).size + t184.size ≤ 9223372036854775807) = true:=decide_eq_true c14
       (try (have c14b1z:=c14b1;simp only [ByteArray.size_append] at c14b1z))
       try have c14b2 : (9223372036854775807 < ((((t179 ++ t180) ++ t181) ++ t182) ++ t183).size + t184.size) = False:=eq_false (Nat.not_lt.2 c14)
       (try (have c14b2z:=c14b2;simp only [ByteArray.size_append] at c14b2z))
       replace H:=Option.bind_eq_some_iff.mp H
       obtain ⟨t185,A150,H⟩:=H
       replace H : (if (((((t179 ++ t180) ++ t181) ++ t182) ++ t183) ++ t184).size + t185.size ≤ 9223372036854775807 then (some ((((((t179 ++ t180) ++ t181) ++ t182) ++ t183) ++ t184) ++ t185)) else (none)) = some r:=H
       have A15:=Aside0.mk A150
       clear A150
       by_cases c16 : (((((t179 ++ t180) ++ t181) ++ t182) ++ t183) ++ t184).size + t185.size ≤ 9223372036854775807
       ·rw [if_pos c16] at H
        have c16b0:=eq_true c16
        have c16b1 : decide ((((((t179 ++ t180) ++ t181) ++ t182) ++ t183) ++ t184).size + t185.size ≤ 9223372036854775807) = true:=decide_eq_true c16
        (try (have c16b1z:=c16b1;simp only [ByteArray.size_append] at c16b1z))
        try have c16b2 : (9223372036854775807 < (((((t179 ++ t180) ++ t181) ++ t182) ++ t183) ++ t184).size + t185.size) = False:=eq_false (Nat.not_lt.2 c16)
        (try (have c16b2z:=c16b2;simp only [ByteArray.size_append] at c16b2z))
        obtain rfl:=Option.some.inj H
        go_enter Try.func57,Try.ntmps57
        try go_wp2_with (first|((with_reducible refine gate_dst (N:=1) rfl ?_);refine box_event ?hg (N:=1) ?hd (cs:=#[.int .i64 a0_0,.int .i64 a0_1,.int .i64 a0_2,.int .i64 a0_3,.int .i64 a0_4,.int .i64 a0_5,.int .i64 a0_6]) (t:=23) ?hr ?_;(case hd=>rfl);(case hg=>rfl);(case hr=>first|(go_simp;done)|(go_simp;rfl));intro gb177 hg w17 hbox hb;have n0_:=Aside0.mk (below_step (by repeat(first|(with_reducible first|exact HB.out|apply below_alloc|apply pw_below_drewN|apply below_drew1)|exact HB.out)) hb);have n1_:=Aside0.mk (hbox);have n2_:=Aside0.mk ((by rw [hg];exact (below_size (by repeat(first|(with_reducible first|exact HB.out|apply below_alloc|apply pw_below_drewN|apply below_drew1)|exact HB.out))) : w.heap.size ≤ gb177));have n3_:=Aside0.mk ((by rw [hg];exact (below_size (by repeat(first|(with_reducible first|exact HB.out|apply below_alloc|apply pw_below_drewN|apply below_drew1)|exact HB.out))) : w.heap.size ≤ gb177));clear HB;have HB:=n0_;have BK177:=n1_;have GW177:=n2_;have GE177:=n3_;clear n0_ n1_ n2_ n3_;clear hb hbox hg;have hcz18_0 : w17.cell? ⟨gb177,0,none⟩ = some (.int .i64 a0_0):=(blk_cell BK177.out 0).trans rfl;have hcz18_1 : w17.cell? ⟨gb177,1,none⟩ = some (.int .i64 a0_1):=(blk_cell BK177.out 1).trans rfl;have hcz18_2 : w17.cell? ⟨gb177,2,none⟩ = some (.int .i64 a0_2):=(blk_cell BK177.out 2).trans rfl;have hcz18_3 : w17.cell? ⟨gb177,3,none⟩ = some (.int .i64 a0_3):=(blk_cell BK177.out 3).trans rfl;have hcz18_4 : w17.cell? ⟨gb177,4,none⟩ = some (.int .i64 a0_4):=(blk_cell BK177.out 4).trans rfl;have hcz18_5 : w17.cell? ⟨gb177,5,none⟩ = some (.int .i64 a0_5):=(blk_cell BK177.out 5).trans rfl;have hcz18_6 : w17.cell? ⟨gb177,6,none⟩ = some (.int .i64 a0_6):=(blk_cell BK177.out 6).trans rfl;have hfz18_0:=blk_frozen BK177.out 0;have hfz18_1:=blk_frozen BK177.out 1;have hfz18_2:=blk_frozen BK177.out 2;have hfz18_3:=blk_frozen BK177.out 3;have hfz18_4:=blk_frozen BK177.out 4;have hfz18_5:=blk_frozen BK177.out 5;have hfz18_6:=blk_frozen BK177.out 6)|((with_reducible refine gate_callee (f:=56) rfl ?_);refine goesL_ (some 4) rfl rfl Try.func56 (by kernel_rfl) rfl #[.agg #[.int .i64 a0_0,.int .i64 a0_1,.int .i64 a0_2,.int .i64 a0_3,.int .i64 a0_4,.int .i64 a0_5,.int .i64 a0_6]] rfl (by (try simp only [List.map_toArray,List.map_cons,List.map_nil]);first|done|rfl|(simp only [List.length_drop,List.length_take];rfl)) ?_;(with_reducible refine (hornbeamref08_Check.calls k a0_0 a0_1 a0_2 a0_3 a0_4 a0_5 a0_6 t178 _ A2.out).mono ?_);rintro e w19 ⟨rfl,hb⟩;refine ⟨_,rfl,?_⟩;have n0_:=Aside0.mk (blk_below (g:=gb177) (o:=.cells #[.int .i64 a0_0,.int .i64 a0_1,.int .i64 a0_2,.int .i64 a0_3,.int .i64 a0_4,.int .i64 a0_5,.int .i64 a0_6] 23 (0,0)) (by (with_reducible repeat(first|refine blk_drewN ?_ _|refine blk_drew ?_|refine blk_alloc ?_ _));exact BK177.out) hb);have n1_:=Aside0.mk (below_step (by repeat(first|(with_reducible first|exact HB.out|apply below_alloc|apply pw_below_drewN|apply below_drew1|refine below_set ?_ GE177.out)|exact HB.out)) hb);clear BK177;clear HB;have BK177:=n0_;have HB:=n1_;clear n0_ n1_;(try clear hb);(try clear hb2);(try clear hk);(try clear hi)))
        have n0_:=Aside0.mk (blk_drew BK177.out)
        have n1_:=Aside0.mk (below_drew1 HB.out)
        clear BK177
        clear HB
        have BK177:=n0_
        have HB:=n1_
        clear n0_ n1_
        refine start_ (n:=35) (S:=fun w'=>w'.cell? ⟨gb177,0,none⟩ = some (.int .i64 a0_0) ∧ w'.cell? ⟨gb177,1,none⟩ = some (.int .i64 a0_1) ∧ w'.cell? ⟨gb177,2,none⟩ = some (.int .i64 a0_2) ∧ w'.cell? ⟨gb177,3,none⟩ = some (.int .i64 a0_3) ∧ w'.cell? ⟨gb177,4,none⟩ = some (.int .i64 a0_4) ∧ w'.cell? ⟨gb177,5,none⟩ = some (.int .i64 a0_5) ∧ w'.cell? ⟨gb177,6,none⟩ = some (.int .i64 a0_6)) (ds:=[]) #[false,false,false,false,false,false,false,false,false,false,false,false,false,false,false,false,false,false,false,false,false,false,false,false,false,false,false,false,false,false,false,false,false,false,false] (by kernel_rfl) rfl rfl ⟨(blk_cell BK177.out 0).trans rfl,(blk_cell BK177.out 1).trans rfl,(blk_cell BK177.out 2).trans rfl,(blk_cell BK177.out 3).trans rfl,(blk_cell BK177.out 4).trans rfl,(blk_cell BK177.out 5).trans rfl,(blk_cell BK177.out 6).trans rfl⟩ (fun hHeld=>?_);refine with_tabW hornbeamref08_Put.tab3 hornbeamref08_Put.bits3 (fun HT_ HW_=>?_)
        generalize w19.drew = w20 at BK177 HB hHeld ⊢
        refine pure_ (i:=0) (N:=some 6) (v:=?_) (a':=?_) #[true,false,false,false,false,false,false,false,false,false,false,false,false,false,false,false,false,false,false,false,false,false,false,false,false,false,false,false,false,false,false,false,false,false,false] rfl rfl (any_of HT_.out (by kernel_rfl)) (fun _ _ _ h=>h) (Or.inl ⟨by rfl,?_⟩) ?_ ?_
        rotate_left
        ·intro w'
         go_simp
         with_reducible rfl
        rotate_left
        ·simp only [Act.put,List.setIfInBounds_toArray,List.set_cons_zero,List.set_cons_succ,i64_w,i32_w]
         rfl
        refine pure_ (i:=4) (N:=some 10) (v:=?_) (a':=?_) #[true,false,false,false,true,false,false,false,false,false,false,false,false,false,false,false,false,false,false,false,false,false,false,false,false,false,false,false,false,false,false,false,false,false,false] rfl rfl (any_of HT_.out (by kernel_rfl)) (fun _ _ _ h=>h) (Or.inl ⟨by rfl,?_⟩) ?_ ?_
        rotate_left
        ·intro w'
         go_simp
         with_reducible rfl
        rotate_left
        ·simp only [Act.put,List.setIfInBounds_toArray,List.set_cons_zero,List.set_cons_succ,i64_w,i32_w]
         rfl
        refine pure_ (i:=9) (N:=some 15) (v:=?_) (a':=?_) #[true,false,false,false,true,false,false,false,false,true,false,false,false,false,false,false,false,false,false,false,false,false,false,false,false,false,false,false,false,false,false,false,false,false,false] rfl rfl (any_of HT_.out (by kernel_rfl)) (fun _ _ _ h=>h) (Or.inl ⟨by rfl,?_⟩) ?_ ?_
        rotate_left
        ·intro w'
         go_simp
         with_reducible rfl
        rotate_left
        ·simp only [Act.put,List.setIfInBounds_toArray,List.set_cons_zero,List.set_cons_succ,i64_w,i32_w]
         rfl
        refine pure_ (i:=14) (N:=some 20) (v:=?_) (a':=?_) #[true,false,false,false,true,false,false,false,false,true,false,false,false,false,true,false,false,false,false,false,false,false,false,false,false,false,false,false,false,false,false,false,false,false,false] rfl rfl (any_of HT_.out (by kernel_rfl)) (fun _ _ _ h=>h) (Or.inl ⟨by rfl,?_⟩) ?_ ?_
        rotate_left
        ·intro w'
         go_simp
         with_reducible rfl
        rotate_left
        ·simp only [Act.put,List.setIfInBounds_toArray,List.set_cons_zero,List.set_cons_succ,i64_w,i32_w]
         rfl
        refine pure_ (i:=19) (N:=some 25) (v:=?_) (a':=?_) #[true,false,false,false,true,false,false,false,false,true,false,false,false,false,true,false,false,false,false,true,false,false,false,false,false,false,false,false,false,false,false,false,false,false,false] rfl rfl (any_of HT_.out (by kernel_rfl)) (fun _ _ _ h=>h) (Or.inl ⟨by rfl,?_⟩) ?_ ?_
        rotate_left
        ·intro w'
         go_simp
         with_reducible rfl
        rotate_left
        ·simp only [Act.put,List.setIfInBounds_toArray,List.set_cons_zero,List.set_cons_succ,i64_w,i32_w]
         rfl
        refine pure_ (i:=24) (N:=some 30) (v:=?_) (a':=?_) #[true,false,false,false,true,false,false,false,false,true,false,false,false,false,true,false,false,false,false,true,false,false,false,false,true,false,false,false,false,false,false,false,false,false,false] rfl rfl (any_of HT_.out (by kernel_rfl)) (fun _ _ _ h=>h) (Or.inl ⟨by rfl,?_⟩) ?_ ?_
        rotate_left
        ·intro w'
         go_simp
         with_reducible rfl
        rotate_left
        ·simp only [Act.put,List.setIfInBounds_toArray,List.set_cons_zero,List.set_cons_succ,i64_w,i32_w]
         rfl
        refine pure_ (i:=29) (N:=some 35) (v:=?_) (a':=?_) #[true,false,false,false,true,false,false,false,false,true,false,false,false,false,true,false,false,false,false,true,false,false,false,false,true,false,false,false,false,true,false,false,false,false,false] rfl rfl (any_of HT_.out (by kernel_rfl)) (fun _ _ _ h=>h) (Or.inl ⟨by rfl,?_⟩) ?_ ?_
        rotate_left
        ·intro w'
         go_simp
         with_reducible rfl
        rotate_left
        ·simp only [Act.put,List.setIfInBounds_toArray,List.set_cons_zero,List.set_cons_succ,i64_w,i32_w]
         rfl
        refine take_ (i:=1) (N:=some 7) (v:=?_) (a':=?_) #[true,true,false,false,true,false,false,false,false,true,false,false,false,false,true,false,false,false,false,true,false,false,false,false,true,false,false,false,false,true,false,false,false,false,false] rfl rfl (take_ofW HT_.out HW_.out (by kernel_rfl)) (fun _ _ _ h=>h) (Or.inl ⟨by rfl,?_⟩) hHeld ?_ ?_
        rotate_left
        ·rintro w' ⟨s0,s1,s2,s3,s4,s5,s6⟩
         go_simp
         with_reducible rfl
        rotate_left
        ·simp only [Act.put,List.setIfInBounds_toArray,List.set_cons_zero,List.set_cons_succ,i64_w,i32_w]
         rfl
        refine pure_ (i:=2) (N:=some 8) (v:=?_) (a':=?_) #[true,true,true,false,true,false,false,false,false,true,false,false,false,false,true,false,false,false,false,true,false,false,false,false,true,false,false,false,false,true,false,false,false,false,false] rfl rfl (any_of HT_.out (by kernel_rfl)) (fun _ _ _ h=>h) (Or.inl ⟨by rfl,?_⟩) ?_ ?_
        rotate_left
        ·intro w'
         go_simp
         with_reducible rfl
        rotate_left
        ·simp only [Act.put,List.setIfInBounds_toArray,List.set_cons_zero,List.set_cons_succ,i64_w,i32_w]
         rfl
        refine take_ (i:=5) (N:=some 11) (v:=?_) (a':=?_) #[true,true,true,false,true,true,false,false,false,true,false,false,false,false,true,false,false,false,false,true,false,false,false,false,true,false,false,false,false,true,false,false,false,false,false] rfl rfl (take_ofW HT_.out HW_.out (by kernel_rfl)) (fun _ _ _ h=>h) (Or.inl ⟨by rfl,?_⟩) hHeld ?_ ?_
        rotate_left
        ·rintro w' ⟨s0,s1,s2,s3,s4,s5,s6⟩
         go_simp
         with_reducible rfl
        rotate_left
        ·simp only [Act.put,List.setIfInBounds_toArray,List.set_cons_zero,List.set_cons_succ,i64_w,i32_w]
         rfl
        refine pure_ (i:=6) (N:=some 12) (v:=?_) (a':=?_) #[true,true,true,false,true,true,true,false,false,true,false,false,false,false,true,false,false,false,false,true,false,false,false,false,true,false,false,false,false,true,false,false,false,false,false] rfl rfl (any_of HT_.out (by kernel_rfl)) (fun _ _ _ h=>h) (Or.inl ⟨by rfl,?_⟩) ?_ ?_
        rotate_left
        ·intro w'
         go_simp
         with_reducible rfl
        rotate_left
        ·simp only [Act.put,List.setIfInBounds_toArray,List.set_cons_zero,List.set_cons_succ,i64_w,i32_w]
         rfl
        refine take_ (i:=10) (N:=some 16) (v:=?_) (a':=?_) #[true,true,true,false,true,true,true,false,false,true,true,false,false,false,true,false,false,false,false,true,false,false,false,false,true,false,false,false,false,true,false,false,false,false,false] rfl rfl (take_ofW HT_.out HW_.out (by kernel_rfl)) (fun _ _ _ h=>h) (Or.inl ⟨by rfl,?_⟩) hHeld ?_ ?_
        rotate_left
        ·rintro w' ⟨s0,s1,s2,s3,s4,s5,s6⟩
         go_simp
         with_reducible rfl
        rotate_left
        ·simp only [Act.put,List.setIfInBounds_toArray,List.set_cons_zero,List.set_cons_succ,i64_w,i32_w]
         rfl
        refine pure_ (i:=11) (N:=some 17) (v:=?_) (a':=?_) #[true,true,true,false,true,true,true,false,false,true,true,true,false,false,true,false,false,false,false,true,false,false,false,false,true,false,false,false,false,true,false,false,false,false,false] rfl rfl (any_of HT_.out (by kernel_rfl)) (fun _ _ _ h=>h) (Or.inl ⟨by rfl,?_⟩) ?_ ?_
        rotate_left
        ·intro w'
         go_simp
         with_reducible rfl
        rotate_left
        ·simp only [Act.put,List.setIfInBounds_toArray,List.set_cons_zero,List.set_cons_succ,i64_w,i32_w]
         rfl
        refine take_ (i:=15) (N:=some 21) (v:=?_) (a':=?_) #[true,true,true,false,true,true,true,false,false,true,true,true,false,false,true,true,false,false,false,true,false,false,false,false,true,false,false,false,false,true,false,false,false,false,false] rfl rfl (take_ofW HT_.out HW_.out (by kernel_rfl)) (fun _ _ _ h=>h) (Or.inl ⟨by rfl,?_⟩) hHeld ?_ ?_
        rotate_left
        ·rintro w' ⟨s0,s1,s2,s3,s4,s5,s6⟩
         go_simp
         with_reducible rfl
        rotate_left
        ·simp only [Act.put,List.setIfInBounds_toArray,List.set_cons_zero,List.set_cons_succ,i64_w,i32_w]
         rfl
        refine pure_ (i:=16) (N:=some 22) (v:=?_) (a':=?_) #[true,true,true,false,true,true,true,false,false,true,true,true,false,false,true,true,true,false,false,true,false,false,false,false,true,false,false,false,false,true,false,false,false,false,false] rfl rfl (any_of HT_.out (by kernel_rfl)) (fun _ _ _ h=>h) (Or.inl ⟨by rfl,?_⟩) ?_ ?_
        rotate_left
        ·intro w'
         go_simp
         with_reducible rfl
        rotate_left
        ·simp only [Act.put,List.setIfInBounds_toArray,List.set_cons_zero,List.set_cons_succ,i64_w,i32_w]
         rfl
        refine take_ (i:=20) (N:=some 26) (v:=?_) (a':=?_) #[true,true,true,false,true,true,true,false,false,true,true,true,false,false,true,true,true,false,false,true,true,false,false,false,true,false,false,false,false,true,false,false,false,false,false] rfl rfl (take_ofW HT_.out HW_.out (by kernel_rfl)) (fun _ _ _ h=>h) (Or.inl ⟨by rfl,?_⟩) hHeld ?_ ?_
        rotate_left
        ·rintro w' ⟨s0,s1,s2,s3,s4,s5,s6⟩
         go_simp
         with_reducible rfl
        rotate_left
        ·simp only [Act.put,List.setIfInBounds_toArray,List.set_cons_zero,List.set_cons_succ,i64_w,i32_w]
         rfl
        refine pure_ (i:=21) (N:=some 27) (v:=?_) (a':=?_) #[true,true,true,false,true,true,true,false,false,true,true,true,false,false,true,true,true,false,false,true,true,true,false,false,true,false,false,false,false,true,false,false,false,false,false] rfl rfl (any_of HT_.out (by kernel_rfl)) (fun _ _ _ h=>h) (Or.inl ⟨by rfl,?_⟩) ?_ ?_
        rotate_left
        ·intro w'
         go_simp
         with_reducible rfl
        rotate_left
        ·simp only [Act.put,List.setIfInBounds_toArray,List.set_cons_zero,List.set_cons_succ,i64_w,i32_w]
         rfl
        refine take_ (i:=25) (N:=some 31) (v:=?_) (a':=?_) #[true,true,true,false,true,true,true,false,false,true,true,true,false,false,true,true,true,false,false,true,true,true,false,false,true,true,false,false,false,true,false,false,false,false,false] rfl rfl (take_ofW HT_.out HW_.out (by kernel_rfl)) (fun _ _ _ h=>h) (Or.inl ⟨by rfl,?_⟩) hHeld ?_ ?_
        rotate_left
        ·rintro w' ⟨s0,s1,s2,s3,s4,s5,s6⟩
         go_simp
         with_reducible rfl
        rotate_left
        ·simp only [Act.put,List.setIfInBounds_toArray,List.set_cons_zero,List.set_cons_succ,i64_w,i32_w]
         rfl
        refine pure_ (i:=26) (N:=some 32) (v:=?_) (a':=?_) #[true,true,true,false,true,true,true,false,false,true,true,true,false,false,true,true,true,false,false,true,true,true,false,false,true,true,true,false,false,true,false,false,false,false,false] rfl rfl (any_of HT_.out (by kernel_rfl)) (fun _ _ _ h=>h) (Or.inl ⟨by rfl,?_⟩) ?_ ?_
        rotate_left
        ·intro w'
         go_simp
         with_reducible rfl
        rotate_left
        ·simp only [Act.put,List.setIfInBounds_toArray,List.set_cons_zero,List.set_cons_succ,i64_w,i32_w]
         rfl
        refine take_ (i:=30) (N:=some 36) (v:=?_) (a':=?_) #[true,true,true,false,true,true,true,false,false,true,true,true,false,false,true,true,true,false,false,true,true,true,false,false,true,true,true,false,false,true,true,false,false,false,false] rfl rfl (take_ofW HT_.out HW_.out (by kernel_rfl)) (fun _ _ _ h=>h) (Or.inl ⟨by rfl,?_⟩) hHeld ?_ ?_
        rotate_left
        ·rintro w' ⟨s0,s1,s2,s3,s4,s5,s6⟩
         go_simp
         with_reducible rfl
        rotate_left
        ·simp only [Act.put,List.setIfInBounds_toArray,List.set_cons_zero,List.set_cons_succ,i64_w,i32_w]
         rfl
        refine pure_ (i:=31) (N:=some 37) (v:=?_) (a':=?_) #[true,true,true,false,true,true,true,false,false,true,true,true,false,false,true,true,true,false,false,true,true,true,false,false,true,true,true,false,false,true,true,true,false,false,false] rfl rfl (any_of HT_.out (by kernel_rfl)) (fun _ _ _ h=>h) (Or.inl ⟨by rfl,?_⟩) ?_ ?_
        rotate_left
        ·intro w'
         go_simp
         with_reducible rfl
        rotate_left
        ·simp only [Act.put,List.setIfInBounds_toArray,List.set_cons_zero,List.set_cons_succ,i64_w,i32_w]
         rfl
        refine one_ (i:=3) (N:=some 9) #[true,true,true,true,true,true,true,false,false,true,true,true,false,false,true,true,true,false,false,true,true,true,false,false,true,true,true,false,false,true,true,true,false,false,false] rfl rfl (one_of HT_.out (by kernel_rfl)) (by decide) (fun K hK=>?_)
        refine goes_ Try.func58 (by kernel_rfl) rfl #[.int .u64 (IntKind.u64.wrap (a0_0)),.int .i64 1] (by rfl) rfl rfl (by (try simp only [List.map_toArray,List.map_cons,List.map_nil]);first|done|rfl|(simp only [List.length_drop,List.length_take];rfl)) ?_
        with_reducible refine (hornbeamref07_Put.calls k (IntKind.u64.wrap (a0_0)) 1 t179 _ A4.out).mono ?_
        rintro e w21 ⟨rfl,hb⟩
        refine ⟨_,rfl,?_⟩
        have n0_:=Aside0.mk (blk_below (g:=gb177) (o:=.cells #[.int .i64 a0_0,.int .i64 a0_1,.int .i64 a0_2,.int .i64 a0_3,.int .i64 a0_4,.int .i64 a0_5,.int .i64 a0_6] 23 (0,0)) (by (with_reducible repeat(first|refine blk_drewN ?_ _|refine blk_drew ?_|refine blk_alloc ?_ _));exact BK177.out) hb)
        have n1_:=Aside0.mk (below_step (by repeat(first|(with_reducible first|exact HB.out|apply below_alloc|apply pw_below_drewN|apply below_drew1|refine below_set ?_ GE177.out)|exact HB.out)) hb)
        clear BK177
        clear HB
        have BK177:=n0_
        have HB:=n1_
        clear n0_ n1_
        (try clear hb)
        (try clear hb2)
        (try clear hk)
        (try clear hi)
        refine hK.out _ _ ⟨(blk_cell BK177.out 0).trans rfl,(blk_cell BK177.out 1).trans rfl,(blk_cell BK177.out 2).trans rfl,(blk_cell BK177.out 3).trans rfl,(blk_cell BK177.out 4).trans rfl,(blk_cell BK177.out 5).trans rfl,(blk_cell BK177.out 6).trans rfl⟩ (fun hHeld=>?_)
        clear hK K
        refine norm_ (a':=?_) ?_ ?_
        rotate_left
        ·show Act.put _ (some 9) _ = _
         simp only [Act.put,List.setIfInBounds_toArray,List.set_cons_zero,List.set_cons_succ,i64_w,i32_w]
         rfl
        refine one_ (i:=7) (N:=some 13) #[true,true,true,true,true,true,true,true,false,true,true,true,false,false,true,true,true,false,false,true,true,true,false,false,true,true,true,false,false,true,true,true,false,false,false] rfl rfl (one_of HT_.out (by kernel_rfl)) (by decide) (fun K hK=>?_)
        refine goes_ Try.func58 (by kernel_rfl) rfl #[.int .u64 (IntKind.u64.wrap (a0_1)),.int .i64 2] (by rfl) rfl rfl (by (try simp only [List.map_toArray,List.map_cons,List.map_nil]);first|done|rfl|(simp only [List.length_drop,List.length_take];rfl)) ?_
        with_reducible refine (hornbeamref07_Put.calls k (IntKind.u64.wrap (a0_1)) 2 t180 _ A5.out).mono ?_
        rintro e w22 ⟨rfl,hb⟩
        refine ⟨_,rfl,?_⟩
        have n0_:=Aside0.mk (blk_below (g:=gb177) (o:=.cells #[.int .i64 a0_0,.int .i64 a0_1,.int .i64 a0_2,.int .i64 a0_3,.int .i64 a0_4,.int .i64 a0_5,.int .i64 a0_6] 23 (0,0)) (by (with_reducible repeat(first|refine blk_drewN ?_ _|refine blk_drew ?_|refine blk_alloc ?_ _));exact BK177.out) hb)
        have n1_:=Aside0.mk (below_step (by repeat(first|(with_reducible first|exact HB.out|apply below_alloc|apply pw_below_drewN|apply below_drew1|refine below_set ?_ GE177.out)|exact HB.out)) hb)
        clear BK177
        clear HB
        have BK177:=n0_
        have HB:=n1_
        clear n0_ n1_
        (try clear hb)
        (try clear hb2)
        (try clear hk)
        (try clear hi)
        refine hK.out _ _ ⟨(blk_cell BK177.out 0).trans rfl,(blk_cell BK177.out 1).trans rfl,(blk_cell BK177.out 2).trans rfl,(blk_cell BK177.out 3).trans rfl,(blk_cell BK177.out 4).trans rfl,(blk_cell BK177.out 5).trans rfl,(blk_cell BK177.out 6).trans rfl⟩ (fun hHeld=>?_)
        clear hK K
        refine norm_ (a':=?_) ?_ ?_
        rotate_left
        ·show Act.put _ (some 13) _ = _
         simp only [Act.put,List.setIfInBounds_toArray,List.set_cons_zero,List.set_cons_succ,i64_w,i32_w]
         rfl
        refine pure_ (i:=8) (N:=some 14) (v:=?_) (a':=?_) #[true,true,true,true,true,true,true,true,true,true,true,true,false,false,true,true,true,false,false,true,true,true,false,false,true,true,true,false,false,true,true,true,false,false,false] rfl rfl (any_of HT_.out (by kernel_rfl)) (fun _ _ _ h=>h) (Or.inl ⟨by rfl,?_⟩) ?_ ?_
        rotate_left
        ·intro w'
         go_simp
         with_reducible rfl
        rotate_left
        ·simp only [Act.put,List.setIfInBounds_toArray,List.set_cons_zero,List.set_cons_succ,i64_w,i32_w]
         rfl
        refine one_ (i:=12) (N:=some 18) #[true,true,true,true,true,true,true,true,true,true,true,true,true,false,true,true,true,false,false,true,true,true,false,false,true,true,true,false,false,true,true,true,false,false,false] rfl rfl (one_of HT_.out (by kernel_rfl)) (by decide) (fun K hK=>?_)
        refine goes_ Try.func58 (by kernel_rfl) rfl #[.int .u64 (IntKind.u64.wrap (a0_2)),.int .i64 2] (by rfl) rfl rfl (by (try simp only [List.map_toArray,List.map_cons,List.map_nil]);first|done|rfl|(simp only [List.length_drop,List.length_take];rfl)) ?_
        with_reducible refine (hornbeamref07_Put.calls k (IntKind.u64.wrap (a0_2)) 2 t181 _ A7.out).mono ?_
        rintro e w23 ⟨rfl,hb⟩
        refine ⟨_,rfl,?_⟩
        have n0_:=Aside0.mk (blk_below (g:=gb177) (o:=.cells #[.int .i64 a0_0,.int .i64 a0_1,.int .i64 a0_2,.int .i64 a0_3,.int .i64 a0_4,.int .i64 a0_5,.int .i64 a0_6] 23 (0,0)) (by (with_reducible repeat(first|refine blk_drewN ?_ _|refine blk_drew ?_|refine blk_alloc ?_ _));exact BK177.out) hb)
        have n1_:=Aside0.mk (below_step (by repeat(first|(with_reducible first|exact HB.out|apply below_alloc|apply pw_below_drewN|apply below_drew1|refine below_set ?_ GE177.out)|exact HB.out)) hb)
        clear BK177
        clear HB
        have BK177:=n0_
        have HB:=n1_
        clear n0_ n1_
        (try clear hb)
        (try clear hb2)
        (try clear hk)
        (try clear hi)
        refine hK.out _ _ ⟨(blk_cell BK177.out 0).trans rfl,(blk_cell BK177.out 1).trans rfl,(blk_cell BK177.out 2).trans rfl,(blk_cell BK177.out 3).trans rfl,(blk_cell BK177.out 4).trans rfl,(blk_cell BK177.out 5).trans rfl,(blk_cell BK177.out 6).trans rfl⟩ (fun hHeld=>?_)
        clear hK K
        refine norm_ (a':=?_) ?_ ?_
        rotate_left
        ·show Act.put _ (some 18) _ = _
         simp only [Act.put,List.setIfInBounds_toArray,List.set_cons_zero,List.set_cons_succ,i64_w,i32_w]
         rfl
        refine pure_ (i:=13) (N:=some 19) (v:=?_) (a':=?_) #[true,true,true,true,true,true,true,true,true,true,true,true,true,true,true,true,true,false,false,true,true,true,false,false,true,true,true,false,false,true,true,true,false,false,false] rfl rfl (any_of HT_.out (by kernel_rfl)) (fun _ _ _ h=>h) (Or.inl ⟨by rfl,?_⟩) ?_ ?_
        rotate_left
        ·intro w'
         go_simp
         with_reducible rfl
        rotate_left
        ·simp only [Act.put,List.setIfInBounds_toArray,List.set_cons_zero,List.set_cons_succ,i64_w,i32_w]
         rfl
        refine one_ (i:=17) (N:=some 23) #[true,true,true,true,true,true,true,true,true,true,true,true,true,true,true,true,true,true,false,true,true,true,false,false,true,true,true,false,false,true,true,true,false,false,false] rfl rfl (one_of HT_.out (by kernel_rfl)) (by decide) (fun K hK=>?_)
        refine goes_ Try.func58 (by kernel_rfl) rfl #[.int .u64 (IntKind.u64.wrap (a0_3)),.int .i64 2] (by rfl) rfl rfl (by (try simp only [List.map_toArray,List.map_cons,List.map_nil]);first|done|rfl|(simp only [List.length_drop,List.length_take];rfl)) ?_
        with_reducible refine (hornbeamref07_Put.calls k (IntKind.u64.wrap (a0_3)) 2 t182 _ A9.out).mono ?_
        rintro e w24 ⟨rfl,hb⟩
        refine ⟨_,rfl,?_⟩
        have n0_:=Aside0.mk (blk_below (g:=gb177) (o:=.cells #[.int .i64 a0_0,.int .i64 a0_1,.int .i64 a0_2,.int .i64 a0_3,.int .i64 a0_4,.int .i64 a0_5,.int .i64 a0_6] 23 (0,0)) (by (with_reducible repeat(first|refine blk_drewN ?_ _|refine blk_drew ?_|refine blk_alloc ?_ _));exact BK177.out) hb)
        have n1_:=Aside0.mk (below_step (by repeat(first|(with_reducible first|exact HB.out|apply below_alloc|apply pw_below_drewN|apply below_drew1|refine below_set ?_ GE177.out)|exact HB.out)) hb)
        clear BK177
        clear HB
        have BK177:=n0_
        have HB:=n1_
        clear n0_ n1_
        (try clear hb)
        (try clear hb2)
        (try clear hk)
        (try clear hi)
        refine hK.out _ _ ⟨(blk_cell BK177.out 0).trans rfl,(blk_cell BK177.out 1).trans rfl,(blk_cell BK177.out 2).trans rfl,(blk_cell BK177.out 3).trans rfl,(blk_cell BK177.out 4).trans rfl,(blk_cell BK177.out 5).trans rfl,(blk_cell BK177.out 6).trans rfl⟩ (fun hHeld=>?_)
        clear hK K
        refine norm_ (a':=?_) ?_ ?_
        rotate_left
        ·show Act.put _ (some 23) _ = _
         simp only [Act.put,List.setIfInBounds_toArray,List.set_cons_zero,List.set_cons_succ,i64_w,i32_w]
         rfl
        refine pure_ (i:=18) (N:=some 24) (v:=?_) (a':=?_) #[true,true,true,true,true,true,true,true,true,true,true,true,true,true,true,true,true,true,true,true,true,true,false,false,true,true,true,false,false,true,true,true,false,false,false] rfl rfl (any_of HT_.out (by kernel_rfl)) (fun _ _ _ h=>h) (Or.inl ⟨by rfl,?_⟩) ?_ ?_
        rotate_left
        ·intro w'
         go_simp
         with_reducible rfl
        rotate_left
        ·simp only [Act.put,List.setIfInBounds_toArray,List.set_cons_zero,List.set_cons_succ,i64_w,i32_w]
         rfl
        refine one_ (i:=22) (N:=some 28) #[true,true,true,true,true,true,true,true,true,true,true,true,true,true,true,true,true,true,true,true,true,true,true,false,true,true,true,false,false,true,true,true,false,false,false] rfl rfl (one_of HT_.out (by kernel_rfl)) (by decide) (fun K hK=>?_)
        refine goes_ Try.func58 (by kernel_rfl) rfl #[.int .u64 (IntKind.u64.wrap (a0_4)),.int .i64 1] (by rfl) rfl rfl (by (try simp only [List.map_toArray,List.map_cons,List.map_nil]);first|done|rfl|(simp only [List.length_drop,List.length_take];rfl)) ?_
        with_reducible refine (hornbeamref07_Put.calls k (IntKind.u64.wrap (a0_4)) 1 t183 _ A11.out).mono ?_
        rintro e w25 ⟨rfl,hb⟩
        refine ⟨_,rfl,?_⟩
        have n0_:=Aside0.mk (blk_below (g:=gb177) (o:=.cells #[.int .i64 a0_0,.int .i64 a0_1,.int .i64 a0_2,.int .i64 a0_3,.int .i64 a0_4,.int .i64 a0_5,.int .i64 a0_6] 23 (0,0)) (by (with_reducible repeat(first|refine blk_drewN ?_ _|refine blk_drew ?_|refine blk_alloc ?_ _));exact BK177.out) hb)
        have n1_:=Aside0.mk (below_step (by repeat(first|(with_reducible first|exact HB.out|apply below_alloc|apply pw_below_drewN|apply below_drew1|refine below_set ?_ GE177.out)|exact HB.out)) hb)
        clear BK177
        clear HB
        have BK177:=n0_
        have HB:=n1_
        clear n0_ n1_
        (try clear hb)
        (try clear hb2)
        (try clear hk)
        (try clear hi)
        refine hK.out _ _ ⟨(blk_cell BK177.out 0).trans rfl,(blk_cell BK177.out 1).trans rfl,(blk_cell BK177.out 2).trans rfl,(blk_cell BK177.out 3).trans rfl,(blk_cell BK177.out 4).trans rfl,(blk_cell BK177.out 5).trans rfl,(blk_cell BK177.out 6).trans rfl⟩ (fun hHeld=>?_)
        clear hK K
        refine norm_ (a':=?_) ?_ ?_
        rotate_left
        ·show Act.put _ (some 28) _ = _
         simp only [Act.put,List.setIfInBounds_toArray,List.set_cons_zero,List.set_cons_succ,i64_w,i32_w]
         rfl
        refine pure_ (i:=23) (N:=some 29) (v:=?_) (a':=?_) #[true,true,true,true,true,true,true,true,true,true,true,true,true,true,true,true,true,true,true,true,true,true,true,true,true,true,true,false,false,true,true,true,false,false,false] rfl rfl (any_of HT_.out (by kernel_rfl)) (fun _ _ _ h=>h) (Or.inl ⟨by rfl,?_⟩) ?_ ?_
        rotate_left
        ·intro w'
         go_simp
         with_reducible rfl
        rotate_left
        ·simp only [Act.put,List.setIfInBounds_toArray,List.set_cons_zero,List.set_cons_succ,i64_w,i32_w]
         rfl
        refine one_ (i:=27) (N:=some 33) #[true,true,true,true,true,true,true,true,true,true,true,true,true,true,true,true,true,true,true,true,true,true,true,true,true,true,true,true,false,true,true,true,false,false,false] rfl rfl (one_of HT_.out (by kernel_rfl)) (by decide) (fun K hK=>?_)
        refine goes_ Try.func58 (by kernel_rfl) rfl #[.int .u64 (IntKind.u64.wrap (a0_5)),.int .i64 4] (by rfl) rfl rfl (by (try simp only [List.map_toArray,List.map_cons,List.map_nil]);first|done|rfl|(simp only [List.length_drop,List.length_take];rfl)) ?_
        with_reducible refine (hornbeamref07_Put.calls k (IntKind.u64.wrap (a0_5)) 4 t184 _ A13.out).mono ?_
        rintro e w26 ⟨rfl,hb⟩
        refine ⟨_,rfl,?_⟩
        have n0_:=Aside0.mk (blk_below (g:=gb177) (o:=.cells #[.int .i64 a0_0,.int .i64 a0_1,.int .i64 a0_2,.int .i64 a0_3,.int .i64 a0_4,.int .i64 a0_5,.int .i64 a0_6] 23 (0,0)) (by (with_reducible repeat(first|refine blk_drewN ?_ _|refine blk_drew ?_|refine blk_alloc ?_ _));exact BK177.out) hb)
        have n1_:=Aside0.mk (below_step (by repeat(first|(with_reducible first|exact HB.out|apply below_alloc|apply pw_below_drewN|apply below_drew1|refine below_set ?_ GE177.out)|exact HB.out)) hb)
        clear BK177
        clear HB
        have BK177:=n0_
        have HB:=n1_
        clear n0_ n1_
        (try clear hb)
        (try clear hb2)
        (try clear hk)
        (try clear hi)
        refine hK.out _ _ ⟨(blk_cell BK177.out 0).trans rfl,(blk_cell BK177.out 1).trans rfl,(blk_cell BK177.out 2).trans rfl,(blk_cell BK177.out 3).trans rfl,(blk_cell BK177.out 4).trans rfl,(blk_cell BK177.out 5).trans rfl,(blk_cell BK177.out 6).trans rfl⟩ (fun hHeld=>?_)
        clear hK K
        refine norm_ (a':=?_) ?_ ?_
        rotate_left
        ·show Act.put _ (some 33) _ = _
         simp only [Act.put,List.setIfInBounds_toArray,List.set_cons_zero,List.set_cons_succ,i64_w,i32_w]
         rfl
        refine pure_ (i:=28) (N:=some 34) (v:=?_) (a':=?_) #[true,true,true,true,true,true,true,true,true,true,true,true,true,true,true,true,true,true,true,true,true,true,true,true,true,true,true,true,true,true,true,true,false,false,false] rfl rfl (any_of HT_.out (by kernel_rfl)) (fun _ _ _ h=>h) (Or.inl ⟨by rfl,?_⟩) ?_ ?_
        rotate_left
        ·intro w'
         go_simp
         with_reducible rfl
        rotate_left
        ·simp only [Act.put,List.setIfInBounds_toArray,List.set_cons_zero,List.set_cons_succ,i64_w,i32_w]
         rfl
        refine one_ (i:=32) (N:=some 38) #[true,true,true,true,true,true,true,true,true,true,true,true,true,true,true,true,true,true,true,true,true,true,true,true,true,true,true,true,true,true,true,true,true,false,false] rfl rfl (one_of HT_.out (by kernel_rfl)) (by decide) (fun K hK=>?_)
        refine goes_ Try.func58 (by kernel_rfl) rfl #[.int .u64 (IntKind.u64.wrap (a0_6)),.int .i64 2] (by rfl) rfl rfl (by (try simp only [List.map_toArray,List.map_cons,List.map_nil]);first|done|rfl|(simp only [List.length_drop,List.length_take];rfl)) ?_
        with_reducible refine (hornbeamref07_Put.calls k (IntKind.u64.wrap (a0_6)) 2 t185 _ A15.out).mono ?_
        rintro e w27 ⟨rfl,hb⟩
        refine ⟨_,rfl,?_⟩
        have n0_:=Aside0.mk (blk_below (g:=gb177) (o:=.cells #[.int .i64 a0_0,.int .i64 a0_1,.int .i64 a0_2,.int .i64 a0_3,.int .i64 a0_4,.int .i64 a0_5,.int .i64 a0_6] 23 (0,0)) (by (with_reducible repeat(first|refine blk_drewN ?_ _|refine blk_drew ?_|refine blk_alloc ?_ _));exact BK177.out) hb)
        have n1_:=Aside0.mk (below_step (by repeat(first|(with_reducible first|exact HB.out|apply below_alloc|apply pw_below_drewN|apply below_drew1|refine below_set ?_ GE177.out)|exact HB.out)) hb)
        clear BK177
        clear HB
        have BK177:=n0_
        have HB:=n1_
        clear n0_ n1_
        (try clear hb)
        (try clear hb2)
        (try clear hk)
        (try clear hi)
        refine hK.out _ _ ⟨(blk_cell BK177.out 0).trans rfl,(blk_cell BK177.out 1).trans rfl,(blk_cell BK177.out 2).trans rfl,(blk_cell BK177.out 3).trans rfl,(blk_cell BK177.out 4).trans rfl,(blk_cell BK177.out 5).trans rfl,(blk_cell BK177.out 6).trans rfl⟩ (fun hHeld=>?_)
        clear hK K
        refine norm_ (a':=?_) ?_ ?_
        rotate_left
        ·show Act.put _ (some 38) _ = _
         simp only [Act.put,List.setIfInBounds_toArray,List.set_cons_zero,List.set_cons_succ,i64_w,i32_w]
         rfl
        refine pure_ (i:=33) (N:=some 39) (v:=?_) (a':=?_) #[true,true,true,true,true,true,true,true,true,true,true,true,true,true,true,true,true,true,true,true,true,true,true,true,true,true,true,true,true,true,true,true,true,true,false] rfl rfl (any_of HT_.out (by kernel_rfl)) (fun _ _ _ h=>h) (Or.inl ⟨by rfl,?_⟩) ?_ ?_
        rotate_left
        ·intro w'
         go_simp
         with_reducible rfl
        rotate_left
        ·simp only [Act.put,List.setIfInBounds_toArray,List.set_cons_zero,List.set_cons_succ,i64_w,i32_w]
         rfl
        refine pure_ (i:=34) (N:=some 2) (v:=?_) (a':=?_) #[true,true,true,true,true,true,true,true,true,true,true,true,true,true,true,true,true,true,true,true,true,true,true,true,true,true,true,true,true,true,true,true,true,true,true] rfl rfl (any_of HT_.out (by kernel_rfl)) (fun _ _ _ h=>h) (Or.inl ⟨by rfl,?_⟩) ?_ ?_
        rotate_left
        ·intro w'
         go_simp
         with_reducible rfl
        rotate_left
        ·simp only [Act.put,List.setIfInBounds_toArray,List.set_cons_zero,List.set_cons_succ,i64_w,i32_w]
         rfl
        refine done_ (done_of HT_.out (by kernel_rfl)) ?_
        try go_wp2
        go_ret
        exact ⟨by first|rfl|(simp [errW_none,errW_some] <;> rfl)|(simp [*,errW_none,errW_some] <;> rfl),by repeat(first|(with_reducible first|exact HB.out|apply below_alloc|apply pw_below_drewN|apply below_drew1|refine below_set ?_ GE177.out)|exact HB.out)⟩
       ·rw [if_neg c16] at H
        exact absurd H (by simp)
      ·rw [if_neg c14] at H
       exact absurd H (by simp)
     ·rw [if_neg c12] at H
      exact absurd H (by simp)
    ·rw [if_neg c10] at H
     exact absurd H (by simp)
   ·rw [if_neg c8] at H
    exact absurd H (by simp)
  ·rw [if_neg c6] at H
   exact absurd H (by simp)
 ·rw [if_neg c3] at H
  have c3b0 : (t178 == 0) = false:=beq_eq_false_iff_ne.mpr c3
  have c3b1 : (t178 != 0) = true:=bne_iff_ne.mpr c3
  obtain rfl:=Option.some.inj H
  go_enter Try.func57,Try.ntmps57
  go_wp2_with (first|((with_reducible refine gate_dst (N:=1) rfl ?_);refine box_event ?hg (N:=1) ?hd (cs:=#[.int .i64 a0_0,.int .i64 a0_1,.int .i64 a0_2,.int .i64 a0_3,.int .i64 a0_4,.int .i64 a0_5,.int .i64 a0_6]) (t:=23) ?hr ?_;(case hd=>rfl);(case hg=>rfl);(case hr=>first|(go_simp;done)|(go_simp;rfl));intro gb177 hg w28 hbox hb;have n0_:=Aside0.mk (below_step (by repeat(first|(with_reducible first|exact HB.out|apply below_alloc|apply pw_below_drewN|apply below_drew1)|exact HB.out)) hb);have n1_:=Aside0.mk (hbox);have n2_:=Aside0.mk ((by rw [hg];exact (below_size (by repeat(first|(with_reducible first|exact HB.out|apply below_alloc|apply pw_below_drewN|apply below_drew1)|exact HB.out))) : w.heap.size ≤ gb177));have n3_:=Aside0.mk ((by rw [hg];exact (below_size (by repeat(first|(with_reducible first|exact HB.out|apply below_alloc|apply pw_below_drewN|apply below_drew1)|exact HB.out))) : w.heap.size ≤ gb177));clear HB;have HB:=n0_;have BK177:=n1_;have GW177:=n2_;have GE177:=n3_;clear n0_ n1_ n2_ n3_;clear hb hbox hg;have hcz29_0 : w28.cell? ⟨gb177,0,none⟩ = some (.int .i64 a0_0):=(blk_cell BK177.out 0).trans rfl;have hcz29_1 : w28.cell? ⟨gb177,1,none⟩ = some (.int .i64 a0_1):=(blk_cell BK177.out 1).trans rfl;have hcz29_2 : w28.cell? ⟨gb177,2,none⟩ = some (.int .i64 a0_2):=(blk_cell BK177.out 2).trans rfl;have hcz29_3 : w28.cell? ⟨gb177,3,none⟩ = some (.int .i64 a0_3):=(blk_cell BK177.out 3).trans rfl;have hcz29_4 : w28.cell? ⟨gb177,4,none⟩ = some (.int .i64 a0_4):=(blk_cell BK177.out 4).trans rfl;have hcz29_5 : w28.cell? ⟨gb177,5,none⟩ = some (.int .i64 a0_5):=(blk_cell BK177.out 5).trans rfl;have hcz29_6 : w28.cell? ⟨gb177,6,none⟩ = some (.int .i64 a0_6):=(blk_cell BK177.out 6).trans rfl;have hfz29_0:=blk_frozen BK177.out 0;have hfz29_1:=blk_frozen BK177.out 1;have hfz29_2:=blk_frozen BK177.out 2;have hfz29_3:=blk_frozen BK177.out 3;have hfz29_4:=blk_frozen BK177.out 4;have hfz29_5:=blk_frozen BK177.out 5;have hfz29_6:=blk_frozen BK177.out 6)|((with_reducible refine gate_callee (f:=56) rfl ?_);refine goesL_ (some 4) rfl rfl Try.func56 (by kernel_rfl) rfl #[.agg #[.int .i64 a0_0,.int .i64 a0_1,.int .i64 a0_2,.int .i64 a0_3,.int .i64 a0_4,.int .i64 a0_5,.int .i64 a0_6]] rfl (by (try simp only [List.map_toArray,List.map_cons,List.map_nil]);first|done|rfl|(simp only [List.length_drop,List.length_take];rfl)) ?_;(with_reducible refine (hornbeamref08_Check.calls k a0_0 a0_1 a0_2 a0_3 a0_4 a0_5 a0_6 t178 _ A2.out).mono ?_);rintro e w30 ⟨rfl,hb⟩;refine ⟨_,rfl,?_⟩;have n0_:=Aside0.mk (blk_below (g:=gb177) (o:=.cells #[.int .i64 a0_0,.int .i64 a0_1,.int .i64 a0_2,.int .i64 a0_3,.int .i64 a0_4,.int .i64 a0_5,.int .i64 a0_6] 23 (0,0)) (by (with_reducible repeat(first|refine blk_drewN ?_ _|refine blk_drew ?_|refine blk_alloc ?_ _));exact BK177.out) hb);have n1_:=Aside0.mk (below_step (by repeat(first|(with_reducible first|exact HB.out|apply below_alloc|apply pw_below_drewN|apply below_drew1|refine below_set ?_ GE177.out)|exact HB.out)) hb);clear BK177;clear HB;have BK177:=n0_;have HB:=n1_;clear n0_ n1_;(try clear hb);(try clear hb2);(try clear hk);(try clear hi)))
  go_ret
  exact ⟨by first|rfl|(simp [errW_none,errW_some] <;> rfl)|(simp [*,errW_none,errW_some] <;> rfl),by repeat(first|(with_reducible first|exact HB.out|apply below_alloc|apply pw_below_drewN|apply below_drew1|refine below_set ?_ GE177.out)|exact HB.out)⟩

end Go.Proofs.Ytnagfbadjbkhmaa.PA
