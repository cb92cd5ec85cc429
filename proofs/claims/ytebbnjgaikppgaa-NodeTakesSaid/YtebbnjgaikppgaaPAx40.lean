import Derived.Test.YtebbnjgaikppgaaPAx0
import Derived.Test.YtebbnjgaikppgaaPAx39
namespace Go.Proofs.Ytebbnjgaikppgaa.PA
open Go.RowKit Go.Proofs.YtebbnjgaikppgaaW.PrintWords Go.Proofs.YtebbnjgaikppgaaW.PrintLast Go.Proofs.YtebbnjgaikppgaaW.PrintMore
attribute [local go_sem] max2_int min2_int max_two min_two max_three min_three max_four min_four   -- for this text's walks alone
attribute [local go_sem high] Flt.fold_eq Flt.fold_ne Flt.fold_lt Flt.fold_gt Flt.fold_le Flt.fold_ge Flt.run_bits Flt.run_frombits
set_option linter.unusedVariables false
set_option linter.unusedSimpArgs false

/-! ### hornbeamlaw18_fixed: function 42 -/
def hornbeamlaw18_fixed.f (k : Nat)  : Option (Bool):=(node_Put.f k ([] : List Int) (([(⟨(-1),0,0,1,0,0⟩ : S75)] : List (S75))) 1 2 0 2).bind fun t413=>(some ((strOfNums t413).toList == ([0,0,0,1,0,1] : List UInt8)))
theorem hornbeamlaw18_fixed.mono : ∀ k,LeO (hornbeamlaw18_fixed.f k ) (hornbeamlaw18_fixed.f (k + 1) ):=by
 intro  k
 unfold hornbeamlaw18_fixed.f
 repeat' first
   | (with_reducible exact node_Put.mono _ _ _ _ _ _ _)
   | (with_reducible exact LeO.refl _)
   | (with_reducible exact LeO.none _)
   | (with_reducible refine LeO.ite ?_ ?_)
   | (with_reducible refine LeO.bind ?_ (fun _=>?_))
   | exact node_Put.mono _ _ _ _ _ _ _
   | exact LeO.none _
   | refine LeO.ite ?_ ?_
   | refine LeO.bind ?_ (fun _=>?_)
set_option maxHeartbeats 8000000 in
set_option maxRecDepth 100000 in
theorem hornbeamlaw18_fixed.calls (k : Nat)  (r : Bool) (w : World) (h : hornbeamlaw18_fixed.f k  = some r) :
  Calls Try.prog 42 #[] w fun e w'=>e = .returned (.bool r) ∧ Below w.heap.size w w':=by
 have hu75:=Try.underlying75
 have hu72:=Try.underlying72
 have HB:=Aside0.mk (Below.refl w.heap.size w)
 have H : ((node_Put.f k ([] : List Int) (([(⟨(-1),0,0,1,0,0⟩ : S75)] : List (S75))) 1 2 0 2).bind fun t413=>(some ((strOfNums t413).toList == ([0,0,0,1,0,1] : List UInt8)))) = some r:=h
 clear h
 obtain ⟨y410,hy410⟩ : ∃ y_ : List (S75),y_ = (([(⟨(-1),0,0,1,0,0⟩ : S75)] : List (S75))):=⟨_,rfl⟩
 replace H : ((node_Put.f k ([] : List Int) y410 1 2 0 2).bind fun t413=>(some ((strOfNums t413).toList == ([0,0,0,1,0,1] : List UInt8)))) = some r:=by first|(rw [hy410];with_reducible exact H)|(have H2_:=(Option.bind_some _ _).symm.trans H;rw [hy410];with_reducible exact H2_)|(have H2_:=(Option.bind_some _ _).symm.trans H;with_reducible exact H2_)|with_reducible exact H|(rw [hy410];exact H)|exact H
 have Ny410:=Aside0.mk hy410
 clear hy410
 replace H:=Option.bind_eq_some_iff.mp H
 obtain ⟨t413,A10,H⟩:=H
 replace H : (some ((strOfNums t413).toList == ([0,0,0,1,0,1] : List UInt8))) = some r:=H
 have A1:=Aside0.mk A10
 clear A10
 obtain rfl:=Option.some.inj H
 go_enter Try.func42,Try.ntmps42
 go_wp2_with (first|((with_reducible refine gate_dst (N:=2) rfl ?_);refine Kd.R_lit k75 _ 75 ?hg (N:=2) ?hd (xs:=([(⟨(-1),0,0,1,0,0⟩ : S75)] : List (S75))) (inner:=[.int .i64 (-1),.int .i64 0,.int .i64 0,.int .i64 1,.int .i64 0,.int .i64 0]) (ok:=fun _=>True) (okp:=fun _=>True) ?hr ?hp (fun _ hk=>hk) trivial (Below.refl _ _) (Nat.le_refl _) (by simp) ?_;(case hd=>rfl);(case hg=>rfl);(case hr=>first|(go_simp;done)|(go_simp;rfl));(case hp=>exact (Reps.c6 (show Kd.M k75 _ _ _ (⟨(-1),0,0,1,0,0⟩ : S75) [.int .i64 (-1),.int .i64 0,.int .i64 0,.int .i64 1,.int .i64 0,.int .i64 0] from (k75_mkM _ _ _ (⟨(-1),0,0,1,0,0⟩ : S75) )) (Reps.none _ _)));intro v411 w2 ho3 hb hg_ hnew_;clear hg_ hnew_;(first|rw [← Ny410.out] at ho3|(simp only [Int.reduceToNat] at ho3;rw [← Ny410.out] at ho3));have n0_:=Aside0.mk (Kd.R_lower ho3 (below_size (by repeat(first|(with_reducible first|exact HB.out|apply below_alloc|apply pw_below_drewN|apply below_drew1)|exact HB.out))));have n1_:=Aside0.mk (below_step (by repeat(first|(with_reducible first|exact HB.out|apply below_alloc|apply pw_below_drewN|apply below_drew1)|exact HB.out)) hb);clear HB;have HO412:=n0_;have HB:=n1_;clear n0_ n1_;clear hb ho3;obtain ⟨Ao4,co4,eo4⟩:=Kd.R_slice HO412.out;subst eo4)|((with_reducible refine gate_callee (f:=48) rfl ?_);refine goesL_ (some 4) rfl rfl Try.func48 (by kernel_rfl) rfl #[.slice none 0 0,.slice Ao4 y410.length co4,.agg #[.int .i64 1,.int .i64 2,.int .i64 0,.int .i64 2]] rfl (by (try simp only [List.map_toArray,List.map_cons,List.map_nil]);first|done|rfl|(simp only [List.length_drop,List.length_take];rfl)) ?_;(refine (node_Put.calls k _ _ ([] : List Int) _ _ y410 1 2 0 2 t413 _ ?side1 ?side2 ?side3 ?side4 A1.out).mono ?_);(case side1=>exact Kd.C_nil _ _);(case side2=>exact Nat.le_refl _);(case side3=>repeat(first|exact (Kd.R_reads' HO412.out).2.2|(with_reducible refine Kd.C_alloc ?_ _)|(with_reducible refine Kd.C_drewN ?_ _)|(with_reducible refine Kd.C_drew ?_)));(case side4=>exact (Kd.R_reads' HO412.out).2.1);rintro e w5 ⟨v414,rfl,ho0,hb⟩;refine ⟨_,rfl,?_⟩;have n0_:=Aside0.mk (Kd.R_below (by (with_reducible repeat(first|apply Kd.R_alloc|apply Kd.R_drewN|apply Kd.R_drew));exact HO412.out) hb);have n1_:=Aside0.mk (Kd.R_lower ho0 (below_size (by repeat(first|(with_reducible first|exact HB.out|apply below_alloc|apply pw_below_drewN|apply below_drew1)|exact HB.out))));have n2_:=Aside0.mk (below_step (by repeat(first|(with_reducible first|exact HB.out|apply below_alloc|apply pw_below_drewN|apply below_drew1)|exact HB.out)) hb);clear HO412;clear HB;have HO412:=n0_;have HO415:=n1_;have HB:=n2_;clear n0_ n1_ n2_;(try clear hb);(try clear hb2);(try clear hk);(try clear hi);(try clear ho0);have hcv6:=own_string (P:=Try.prog) Try.underlying22 Try.underlying5 Try.underlying9 (Kd.own_of_R HO415.out)))
 go_ret
 exact ⟨by first|rfl|(simp [errW_none,errW_some] <;> rfl)|(simp [*,errW_none,errW_some] <;> rfl),by repeat(first|(with_reducible first|exact HB.out|apply below_alloc|apply pw_below_drewN|apply below_drew1)|exact HB.out)⟩

end Go.Proofs.Ytebbnjgaikppgaa.PA
