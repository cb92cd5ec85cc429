import Derived.Test.YtnagfbadjbkhmaaPAx0
import Derived.Test.YtnagfbadjbkhmaaPAx14
namespace Go.Proofs.Ytnagfbadjbkhmaa.PA
open Go.RowKit Go.Proofs.YtnagfbadjbkhmaaW.PrintWords Go.Proofs.YtnagfbadjbkhmaaW.PrintLast Go.Proofs.YtnagfbadjbkhmaaW.PrintMore
attribute [local go_sem] max2_int min2_int max_two min_two max_three min_three max_four min_four   -- for this text's walks alone
attribute [local go_sem high] Flt.fold_eq Flt.fold_ne Flt.fold_lt Flt.fold_gt Flt.fold_le Flt.fold_ge Flt.run_bits Flt.run_frombits
set_option linter.unusedVariables false
set_option linter.unusedSimpArgs false

/-! ### hornbeamref07_Put: function 58 -/
def hornbeamref07_Put.l0 : Nat → Int → Int → ByteArray → Int → Option (ByteArray)
 | 0,_,_,_,_=>none
 | k + 1,x0,x1,x5,x6=>(hornbeamref07_Count.f x1).bind fun t361=>(if x6 < t361 then ((some (([(Int.tmod x0 256) % 256] : List Int) : List Int)).bind fun y362=>(if (strOfNums y362).size + x5.size ≤ 9223372036854775807 then (hornbeamref07_Put.l0 k (IntKind.u64.wrap (Int.tdiv x0 256)) x1 ((strOfNums y362) ++ x5) (wrap64 (x6 + 1))) else (none))) else (some x5))
def hornbeamref07_Put.f (k : Nat) (a0 : Int) (a1 : Int) : Option (ByteArray):=hornbeamref07_Put.l0 k a0 a1 (⟨#[]⟩ : ByteArray) 0
theorem hornbeamref07_Put.mono_l : ∀ k,(∀ y0 y1 y2 y3,LeO (hornbeamref07_Put.l0 k y0 y1 y2 y3) (hornbeamref07_Put.l0 (k + 1) y0 y1 y2 y3))
 | 0=>fun _ _ _ _ r h=>by simp [hornbeamref07_Put.l0] at h
 | k + 1=>by
  have ih0:=hornbeamref07_Put.mono_l k
  ·intro y0 y1 y2 y3
   unfold hornbeamref07_Put.l0
   repeat' first
   | (with_reducible exact ih0 _ _ _ _)
   | (with_reducible exact LeO.refl _)
   | (with_reducible exact LeO.none _)
   | (with_reducible refine LeO.ite ?_ ?_)
   | (with_reducible refine LeO.bind ?_ (fun _=>?_))
   | exact ih0 _ _ _ _
   | exact LeO.none _
   | refine LeO.ite ?_ ?_
   | refine LeO.bind ?_ (fun _=>?_)
theorem hornbeamref07_Put.mono : ∀ a0 a1 k,LeO (hornbeamref07_Put.f k a0 a1) (hornbeamref07_Put.f (k + 1) a0 a1):=by
 intro a0 a1 k
 have ih0:=hornbeamref07_Put.mono_l k
 unfold hornbeamref07_Put.f
 repeat' first
   | (with_reducible exact ih0 _ _ _ _)
   | (with_reducible exact LeO.refl _)
   | (with_reducible exact LeO.none _)
   | (with_reducible refine LeO.ite ?_ ?_)
   | (with_reducible refine LeO.bind ?_ (fun _=>?_))
   | exact ih0 _ _ _ _
   | exact LeO.none _
   | refine LeO.ite ?_ ?_
   | refine LeO.bind ?_ (fun _=>?_)
set_option maxHeartbeats 8000000 in
set_option maxRecDepth 100000 in
theorem hornbeamref07_Put.calls (k : Nat) (a0 : Int) (a1 : Int) (r : ByteArray) (w : World) (h : hornbeamref07_Put.f k a0 a1 = some r) :
  Calls Try.prog 58 #[.int .u64 a0,.int .i64 a1] w fun e w'=>e = .returned (.string r) ∧ Below w.heap.size w w':=by
 have HB:=Aside0.mk (Below.refl w.heap.size w)
 have H : (hornbeamref07_Put.l0 k a0 a1 (⟨#[]⟩ : ByteArray) 0) = some r:=h
 clear h
 have H':=Aside0.mk H
 clear H
 go_enter Try.func58,Try.ntmps58
 go_wp2
 go_loopg [0,5,6] k (fun kq v0 v5 v6 w'=>∃ (x0_1 : Int) (x5_1 : ByteArray) (x6_1 : Int),v0 = .int .u64 x0_1 ∧ v5 = .string x5_1 ∧ v6 = .int .i64 x6_1 ∧ Aside0 (hornbeamref07_Put.l0 kq x0_1 a1 x5_1 x6_1 = some r) ∧ Aside0 (kq ≤ k) ∧ Aside0 (Below w.heap.size w w'))
 case atStart=>exact ⟨(a0),((⟨#[]⟩ : ByteArray)),(0),(by first|rfl|(simp;done)|(simp [*];done)),(by first|rfl|(simp;done)|(simp [*];done)),(by first|rfl|(simp;done)|(simp [*];done)),H',⟨Nat.le_refl _⟩,⟨by repeat(first|(with_reducible first|exact HB.out|apply below_alloc|apply pw_below_drewN|apply below_drew1)|exact HB.out)⟩⟩
 case round =>
  clear H'
  try clear p2
  obtain ⟨x0_1,x5_1,x6_1,rfl,rfl,rfl,HA,HK1,HB⟩:=hrel
  cases gk with
  | zero=>exact absurd HA.out (by simp [hornbeamref07_Put.l0])
  | succ k1 =>
   have H:=HA.out
   clear HA
   simp only [hornbeamref07_Put.l0] at H
   replace H:=Option.bind_eq_some_iff.mp H
   obtain ⟨t361,A30,H⟩:=H
   replace H : (if x6_1 < t361 then ((some (([(Int.tmod x0_1 256) % 256] : List Int) : List Int)).bind fun y362=>(if (strOfNums y362).size + x5_1.size ≤ 9223372036854775807 then (hornbeamref07_Put.l0 k1 (IntKind.u64.wrap (Int.tdiv x0_1 256)) a1 ((strOfNums y362) ++ x5_1) (wrap64 (x6_1 + 1))) else (none))) else (some x5_1)) = some r:=H
   have A3:=Aside0.mk A30
   clear A30
   by_cases c4 : x6_1 < t361
   ·rw [if_pos c4] at H
    have c4b0 : decide (x6_1 < t361) = true:=decide_eq_true c4
    clear c4
    obtain ⟨y362,hy362⟩ : ∃ y_ : List Int,y_ = (([(Int.tmod x0_1 256) % 256] : List Int)):=⟨_,rfl⟩
    replace H : (if (strOfNums y362).size + x5_1.size ≤ 9223372036854775807 then (hornbeamref07_Put.l0 k1 (IntKind.u64.wrap (Int.tdiv x0_1 256)) a1 ((strOfNums y362) ++ x5_1) (wrap64 (x6_1 + 1))) else (none)) = some r:=by first|(rw [hy362];with_reducible exact H)|(have H2_:=(Option.bind_some _ _).symm.trans H;rw [hy362];with_reducible exact H2_)|(have H2_:=(Option.bind_some _ _).symm.trans H;with_reducible exact H2_)|with_reducible exact H|(rw [hy362];exact H)|exact H
    have Ny362:=Aside0.mk hy362
    clear hy362
    by_cases c5 : (strOfNums y362).size + x5_1.size ≤ 9223372036854775807
    ·rw [if_pos c5] at H
     have c5b0:=eq_true c5
     have c5b1 : decide ((strOfNums y362).size + x5_1.size ≤ 9223372036854775807) = true:=decide_eq_true c5
     try have c5b2 : (9223372036854775807 < (strOfNums y362).size + x5_1.size) = False:=eq_false (Nat.not_lt.2 c5)
     have H':=Aside0.mk H
     clear H
     go_wp2_with (first|((with_reducible refine gate_callee (f:=82) rfl ?_);refine goesL_ (some 9) rfl rfl Try.func82 (by kernel_rfl) rfl #[.int .i64 a1] rfl (by (try simp only [List.map_toArray,List.map_cons,List.map_nil]);first|done|rfl|(simp only [List.length_drop,List.length_take];rfl)) ?_;(with_reducible refine (hornbeamref07_Count.calls a1 t361 _ A3.out).mono ?_);rintro e w' ⟨rfl,⟨nd,rfl⟩⟩;refine ⟨_,rfl,?_⟩)|((with_reducible refine gate_dst (N:=16) rfl ?_);refine Kd.R_lit (Kd.int .u8) _ 5 ?hg (N:=16) ?hd (xs:=([(Int.tmod x0_1 256) % 256] : List Int)) (inner:=[.int .u8 ((Int.tmod x0_1 256) % 256)]) (ok:=fun _=>True) (okp:=fun _=>True) ?hr ?hp (fun _ hk=>hk) trivial (Below.refl _ _) (Nat.le_refl _) (by simp) ?_;(case hd=>rfl);(case hg=>rfl);(case hr=>first|(go_simp;done)|(go_simp;rfl));(case hp=>exact (Reps.one (show Kd.M (Kd.int .u8) _ _ _ ((Int.tmod x0_1 256) % 256) [.int .u8 ((Int.tmod x0_1 256) % 256)] from rfl) (Reps.none _ _)));intro v363 w6 ho7 hb hg_ hnew_;clear hg_ hnew_;(first|rw [← Ny362.out] at ho7|(simp only [Int.reduceToNat] at ho7;rw [← Ny362.out] at ho7));have n0_:=Aside0.mk (Kd.R_lower ho7 (below_size (by repeat(first|(with_reducible first|exact HB.out|apply below_alloc|apply pw_below_drewN|apply below_drew1)|exact HB.out))));have n1_:=Aside0.mk (below_step (by repeat(first|(with_reducible first|exact HB.out|apply below_alloc|apply pw_below_drewN|apply below_drew1)|exact HB.out)) hb);clear HB;have HO364:=n0_;have HB:=n1_;clear n0_ n1_;clear hb ho7;have hcv8:=own_string (P:=Try.prog) Try.underlying42 Try.underlying5 Try.underlying9 (Kd.own_of_R HO364.out)))
     go_roundg k1
     case measure=>have:=HK1.out;omega
     case rel=>exact ⟨(IntKind.u64.wrap (Int.tdiv x0_1 256)),((strOfNums y362) ++ x5_1),(wrap64 (x6_1 + 1)),(by first|rfl|(simp;done)|(simp [*];done)),(by first|rfl|(simp;done)|(simp [*];done)),(by first|rfl|(simp;done)|(simp [*];done)),H',⟨by have:=HK1.out;omega⟩,⟨by repeat(first|(with_reducible first|exact HB.out|apply below_alloc|apply pw_below_drewN|apply below_drew1)|exact HB.out)⟩⟩
    ·rw [if_neg c5] at H
     exact absurd H (by simp)
   ·rw [if_neg c4] at H
    have c4b0 : decide (x6_1 < t361) = false:=decide_eq_false c4
    clear c4
    obtain rfl:=Option.some.inj H
    go_wp2_with (first|((with_reducible refine gate_callee (f:=82) rfl ?_);refine goesL_ (some 9) rfl rfl Try.func82 (by kernel_rfl) rfl #[.int .i64 a1] rfl (by (try simp only [List.map_toArray,List.map_cons,List.map_nil]);first|done|rfl|(simp only [List.length_drop,List.length_take];rfl)) ?_;(with_reducible refine (hornbeamref07_Count.calls a1 t361 _ A3.out).mono ?_);rintro e w' ⟨rfl,⟨nd,rfl⟩⟩;refine ⟨_,rfl,?_⟩))
    go_ret
    exact ⟨by first|rfl|(simp [errW_none,errW_some] <;> rfl)|(simp [*,errW_none,errW_some] <;> rfl),by repeat(first|(with_reducible first|exact HB.out|apply below_alloc|apply pw_below_drewN|apply below_drew1)|exact HB.out)⟩

end Go.Proofs.Ytnagfbadjbkhmaa.PA
