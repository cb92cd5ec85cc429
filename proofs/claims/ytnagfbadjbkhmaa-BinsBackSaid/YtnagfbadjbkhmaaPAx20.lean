import Derived.Test.YtnagfbadjbkhmaaPAx0
namespace Go.Proofs.Ytnagfbadjbkhmaa.PA
open Go.RowKit Go.Proofs.YtnagfbadjbkhmaaW.PrintWords Go.Proofs.YtnagfbadjbkhmaaW.PrintLast Go.Proofs.YtnagfbadjbkhmaaW.PrintMore
attribute [local go_sem] max2_int min2_int max_two min_two max_three min_three max_four min_four   -- for this text's walks alone
attribute [local go_sem high] Flt.fold_eq Flt.fold_ne Flt.fold_lt Flt.fold_gt Flt.fold_le Flt.fold_ge Flt.run_bits Flt.run_frombits
set_option linter.unusedVariables false
set_option linter.unusedSimpArgs false


/-- A state of type 120 at block g of W; what its slices lead to came in by w0. -/
def IsS120 (w0 W : World) (g : Nat) (f0 : List Int) : Prop:=∃ A0 c0,W.heap[g]? = some (.cells #[.slice A0 f0.length c0] 120 (0,0)) ∧ w0.heap.size ≤ g ∧ Kd.C (Kd.int .u8) w0 A0 f0.length f0
theorem IsS120.grown {w0 W : World} {g : Nat} {f0 : List Int} {W1 : World} {row : Option Nat} (h : IsS120 w0 W g f0) (hw : W.grownBy W1 row) (hne : some g ≠ row) : IsS120 w0 W1 g f0:=by
 obtain ⟨A0,c0,hb,hg,hr0⟩:=h
 exact ⟨A0,c0,blk_grown hb hw hne,hg,hr0⟩
theorem IsS120.own_neN {w0 W : World} {g : Nat} {f0 : List Int} {α : Type} {d : Kd α} {e : Nat} {base : Nat} {ok : Nat → Prop} {v : Value} {xs : List α} (h : IsS120 w0 W g f0) (ho : Kd.N d e W base ok v xs) (ht : e ≠ 120) : some g ≠ v.ownBlock:=by
 obtain ⟨A0,c0,hb,hg,hr0⟩:=h
 exact Kd.N_ne ho hb ht
theorem IsS120.fresh {w0 W : World} {g : Nat} {f0 : List Int} (h : IsS120 w0 W g f0) : ∀ k,W.heap.size ≤ k → k ≠ g:=by
 obtain ⟨A0,c0,hb,hg,hr0⟩:=h
 exact Kd.freshB hb
theorem IsS120.kept {w0 W : World} {g : Nat} {f0 : List Int} {W1 : World} {S : Nat → Prop} (h : IsS120 w0 W g f0) (hk : Kept W W1 S) (hne : ¬ S g) : IsS120 w0 W1 g f0:=by
 obtain ⟨A0,c0,hb,hg,hr0⟩:=h
 exact ⟨A0,c0,blk_kept hb hk hne,hg,hr0⟩
theorem IsS120.below {w0 W : World} {g : Nat} {f0 : List Int} {W1 : World} (h : IsS120 w0 W g f0) (hw : Below W.heap.size W W1) : IsS120 w0 W1 g f0:=h.grown (grown_of_below hw none) (by simp)
theorem IsS120.alloc {w0 W : World} {g : Nat} {f0 : List Int} (h : IsS120 w0 W g f0) (o : Obj) : IsS120 w0 (W.alloc o) g f0:=h.below (below_alloc (Below.refl _ _) o)
theorem IsS120.drewN {w0 W : World} {g : Nat} {f0 : List Int} (h : IsS120 w0 W g f0) (m : Nat) : IsS120 w0 (W.drewN m) g f0:=h
theorem IsS120.drew {w0 W : World} {g : Nat} {f0 : List Int} (h : IsS120 w0 W g f0) : IsS120 w0 W.drew g f0:=h
theorem IsS120.at_ {w0 W : World} {g : Nat} {f0 : List Int} {w' : World} {m : Nat} (hq : W.drewN m = w') (h : IsS120 w0 W g f0) : IsS120 w0 w' g f0:=by subst hq;exact IsS120.drewN h m
theorem IsS120.apart {w0 W : World} {g : Nat} {f0 : List Int} {α : Type} {d : Kd α} {e : Nat} {base : Nat} {ok : Nat → Prop} {v : Value} {xs : List α} (h : IsS120 w0 W g f0) (ho : d.R e W base ok v xs) (ht : ∀ q,q ∈ e :: d.E → q ≠ 120) : d.R e W base (fun k=>ok k ∧ k ≠ g) v xs:=by
 obtain ⟨A0,c0,hb,hg,hr0⟩:=h
 exact Kd.R_types ho hb ht
theorem IsS120.own_ne {w0 W : World} {g : Nat} {f0 : List Int} {α : Type} {d : Kd α} {e : Nat} {base : Nat} {ok : Nat → Prop} {v : Value} {xs : List α} (h : IsS120 w0 W g f0) (ho : d.R e W base ok v xs) (ht : e ≠ 120) : some g ≠ v.ownBlock:=by
 obtain ⟨A0,c0,hb,hg,hr0⟩:=h
 exact Kd.R_ne ho hb ht
theorem IsS120.apartQ {w0 W : World} {g : Nat} {f0 : List Int} {α : Type} {d : Kd α} {e : Nat} {base : Nat} {ok : Nat → Prop} {v : Value} {xs : List α} (h : IsS120 w0 W g f0) (ho : d.Q e W base ok v xs) (ht : ∀ q,q ∈ e :: d.E → q ≠ 120) : d.Q e W base (fun k=>ok k ∧ k ≠ g) v xs:=by
 obtain ⟨A0,c0,hb,hg,hr0⟩:=h
 exact Kd.Q_types ho hb ht
theorem IsS120.own_neQ {w0 W : World} {g : Nat} {f0 : List Int} {α : Type} {d : Kd α} {e : Nat} {base : Nat} {ok : Nat → Prop} {v : Value} {xs : List α} (h : IsS120 w0 W g f0) (ho : d.Q e W base ok v xs) (ht : e ≠ 120) : some g ≠ v.ownBlock:=by
 obtain ⟨A0,c0,hb,hg,hr0⟩:=h
 exact Kd.Q_ne ho hb ht
theorem IsS120.apartS {w0 W : World} {g : Nat} {f0 : List Int} {α : Type} {d : Kd α} {e : Nat} {base : Nat} {ok : Nat → Prop} {v : Value} {xs : List α} (h : IsS120 w0 W g f0) (ho : d.S e W base ok v xs) (ht : ∀ q,q ∈ e :: d.E → q ≠ 120) : d.S e W base (fun k=>ok k ∧ k ≠ g) v xs:=by
 obtain ⟨A0,c0,hb,hg,hr0⟩:=h
 exact Kd.S_types ho hb ht
theorem IsS120.own_neS {w0 W : World} {g : Nat} {f0 : List Int} {α : Type} {d : Kd α} {e : Nat} {base : Nat} {ok : Nat → Prop} {v : Value} {xs : List α} (h : IsS120 w0 W g f0) (ho : d.S e W base ok v xs) (ht : e ≠ 120) : some g ≠ v.ownBlock:=by
 obtain ⟨A0,c0,hb,hg,hr0⟩:=h
 exact Kd.S_ne ho hb ht
theorem IsS120.lt {w0 W : World} {g : Nat} {f0 : List Int} (h : IsS120 w0 W g f0) : g < W.heap.size:=by
 obtain ⟨A0,c0,hb,hg,hr0⟩:=h
 exact blk_lt hb
theorem IsS120.ge {w0 W : World} {g : Nat} {f0 : List Int} (h : IsS120 w0 W g f0) : w0.heap.size ≤ g:=by
 obtain ⟨A0,c0,hb,hg,hr0⟩:=h
 exact hg
theorem IsS120.ne_blk {w0 W : World} {g : Nat} {f0 : List Int} {a : Nat} {cs : Array Value} {t : TypeId} {fr : Nat × Nat} (h : IsS120 w0 W g f0) (hb2 : W.heap[a]? = some (.cells cs t fr)) (ht : t ≠ 120) : g ≠ a:=by
 obtain ⟨A0,c0,hb,hg,hr0⟩:=h
 rintro rfl
 rw [hb] at hb2
 injection hb2 with hb2
 injection hb2 with _ ht2
 exact ht ht2.symm
theorem IsS120.far {w0 W : World} {g : Nat} {f0 : List Int} {p : Addr} (h : IsS120 w0 W g f0) (hne : g ≠ p.block) (u : Value) : IsS120 w0 (W.setCell p u) g f0:=by
 obtain ⟨A0,c0,hb,hg,hr0⟩:=h
 exact ⟨A0,c0,blk_far hb hne u,hg,hr0⟩
theorem cellS120_0 {W : World} {g : Nat} {A0 : Option Addr} {c0 : Nat} {f0 : List Int} (h : W.heap[g]? = some (.cells #[.slice A0 f0.length c0] 120 (0,0))) : W.cell? ⟨g,0,none⟩ = some (.slice A0 f0.length c0):=(blk_cell h 0).trans rfl
theorem IsS120.new (w0 W : World) (A0 : Option Addr) (c0 : Nat) (f0 : List Int) (hB : Below w0.heap.size w0 W) (hr0 : Kd.C (Kd.int .u8) w0 A0 f0.length f0) : IsS120 w0 (W.alloc (.cells #[.slice A0 f0.length c0] 120)) W.heap.size f0:=⟨A0,c0,by simpa using heap_alloc_new W _,hB.size,hr0⟩

/-! ### take_Reader_Left: function 84 -/
def take_Reader_Left.f (s0_0 : List Int) : Option (Int):=some (s0_0.length : Int)
set_option maxHeartbeats 8000000 in
set_option maxRecDepth 100000 in
theorem take_Reader_Left.calls (g : Nat) (s0_0 : List Int) (r : Int) (w0 w : World) (hI : IsS120 w0 w g s0_0) (hB : Below w0.heap.size w0 w) (h : take_Reader_Left.f s0_0 = some r) :
  Calls Try.prog 84 #[.pointer (some ⟨g,0,none⟩)] w fun e w'=>e = .returned (.int .i64 r) ∧ IsS120 w0 w' g s0_0 ∧ Below w0.heap.size w0 w' ∧ KeepBut w w' g none:=by
 have HI0:=Aside0.mk hI
 have HK:=Aside0.mk (KeepBut.refl w g none)
 have HL:=Aside0.mk hB.size
 clear hI
 have HW0:=Aside0.mk hB.size
 have HB:=Aside0.mk hB
 clear hB
 have H : (some (s0_0.length : Int)) = some r:=h
 clear h
 obtain rfl:=Option.some.inj H
 obtain ⟨ASz2_0,cSz2_0,HGz2,hgz2,HSz2_0⟩:=HI0.out
 have hcz2_0:=cellS120_0 HGz2
 clear HGz2 hgz2
 go_enter Try.func84,Try.ntmps84
 go_wp2
 go_ret
 exact ⟨by first|rfl|(simp [errW_none,errW_some] <;> rfl)|(simp [*,errW_none,errW_some] <;> rfl),by repeat(first|(with_reducible first|exact HI0.out|apply IsS120.alloc|apply IsS120.drewN|apply IsS120.drew)|exact HI0.out),by repeat(first|(with_reducible first|exact HB.out|apply below_alloc|apply pw_below_drewN|apply below_drew1|refine below_set ?_ (IsS120.ge HI0.out))|exact HB.out),by repeat(first|(with_reducible first|exact HK.out|apply KeepBut.set_|apply keep_drewN|apply keep_drew|apply keep_alloc)|exact HK.out)⟩






/-! ### bins_count: function 75 -/
def bins_count.f (a0 : Int) : Option (Bool):=if a0 ≥ 0 then (some (decide (a0 ≤ 16777216))) else (some false)
set_option maxHeartbeats 8000000 in
set_option maxRecDepth 100000 in
theorem bins_count.calls (a0 : Int) (r : Bool) (w : World) (h : bins_count.f a0 = some r) :
  Calls Try.prog 75 #[.int .i64 a0] w fun e w'=>e = .returned (.bool r) ∧ Drawn0 w w':=by
 have H : (if a0 ≥ 0 then (some (decide (a0 ≤ 16777216))) else (some false)) = some r:=h
 clear h
 by_cases c2 : a0 ≥ 0
 ·rw [if_pos c2] at H
  have c2b0 : decide (0 ≤ a0) = true:=decide_eq_true c2
  clear c2
  obtain rfl:=Option.some.inj H
  go_enter Try.func75,Try.ntmps75
  go_wp2
  go_ret
  exact ⟨by first|rfl|(simp;done)|(simp [*];done),by repeat(first|exact Drawn0.refl _|apply Drawn0.step)⟩
 ·rw [if_neg c2] at H
  have c2b0 : decide (0 ≤ a0) = false:=decide_eq_false c2
  clear c2
  obtain rfl:=Option.some.inj H
  go_enter Try.func75,Try.ntmps75
  go_wp2
  go_ret
  exact ⟨by first|rfl|(simp;done)|(simp [*];done),by repeat(first|exact Drawn0.refl _|apply Drawn0.step)⟩

/-! ### bins_shaped: function 67 -/
def bins_shaped.f (a0_0 : Int) (a0_1 : Int) (a0_2 : Int) (a0_3 : Int) (a0_4 : Int) (a0_5 : Int) (a0_6 : Int) (a0_7 : Int) (a0_8 : Int) (l0_9 : List Nat) (l0_10 : List Int) : Option (Bool):=(bins_count.f a0_7).bind fun t390=>(if t390 = true then ((bins_count.f a0_8).bind fun t391=>(if t391 = true then (some ((l0_9.length : Int) == (wrap64 (a0_7 * a0_8)))) else (some false))) else (some false))
set_option maxHeartbeats 8000000 in
set_option maxRecDepth 100000 in
theorem bins_shaped.calls (a0_0 : Int) (a0_1 : Int) (a0_2 : Int) (a0_3 : Int) (a0_4 : Int) (a0_5 : Int) (a0_6 : Int) (a0_7 : Int) (a0_8 : Int) (A0_9 : Option Addr) (c0_9 : Nat) (l0_9 : List Nat) (A0_10 : Option Addr) (c0_10 : Nat) (l0_10 : List Int) (r : Bool) (w : World) (hr0_9 : Kd.C Flt.kf w A0_9 l0_9.length l0_9) (hc0_9 : l0_9.length ≤ c0_9) (hr0_10 : Kd.C (Kd.int .i64) w A0_10 l0_10.length l0_10) (hc0_10 : l0_10.length ≤ c0_10) (h : bins_shaped.f a0_0 a0_1 a0_2 a0_3 a0_4 a0_5 a0_6 a0_7 a0_8 l0_9 l0_10 = some r) :
  Calls Try.prog 67 #[.agg #[.int .i64 a0_0,.int .i64 a0_1,.int .i64 a0_2,.int .i64 a0_3,.int .i64 a0_4,.int .i64 a0_5,.int .i64 a0_6,.int .i64 a0_7,.int .i64 a0_8,.slice A0_9 l0_9.length c0_9,.slice A0_10 l0_10.length c0_10]] w fun e w'=>e = .returned (.bool r) ∧ Below w.heap.size w w':=by
 have hu32:=Try.underlying32
 have HR0_9:=Aside0.mk hr0_9
 have HC0_9:=Aside0.mk hc0_9
 clear hr0_9 hc0_9
 have HR0_10:=Aside0.mk hr0_10
 have HC0_10:=Aside0.mk hc0_10
 clear hr0_10 hc0_10
 have HB:=Aside0.mk (Below.refl w.heap.size w)
 have H : ((bins_count.f a0_7).bind fun t390=>(if t390 = true then ((bins_count.f a0_8).bind fun t391=>(if t391 = true then (some ((l0_9.length : Int) == (wrap64 (a0_7 * a0_8)))) else (some false))) else (some false))) = some r:=h
 clear h
 replace H:=Option.bind_eq_some_iff.mp H
 obtain ⟨t390,A20,H⟩:=H
 replace H : (if t390 = true then ((bins_count.f a0_8).bind fun t391=>(if t391 = true then (some ((l0_9.length : Int) == (wrap64 (a0_7 * a0_8)))) else (some false))) else (some false)) = some r:=H
 have A2:=Aside0.mk A20
 clear A20
 by_cases c3 : t390 = true
 ·subst c3
  have H1 : ((bins_count.f a0_8).bind fun t391=>(if t391 = true then (some ((l0_9.length : Int) == (wrap64 (a0_7 * a0_8)))) else (some false))) = some r:=by rw [if_pos rfl] at H;exact H
  clear H
  have H:=H1
  clear H1
  replace H:=Option.bind_eq_some_iff.mp H
  obtain ⟨t391,A40,H⟩:=H
  replace H : (if t391 = true then (some ((l0_9.length : Int) == (wrap64 (a0_7 * a0_8)))) else (some false)) = some r:=H
  have A4:=Aside0.mk A40
  clear A40
  by_cases c5 : t391 = true
  ·subst c5
   have H1 : (some ((l0_9.length : Int) == (wrap64 (a0_7 * a0_8)))) = some r:=by rw [if_pos rfl] at H;exact H
   clear H
   have H:=H1
   clear H1
   obtain rfl:=Option.some.inj H
   go_enter Try.func67,Try.ntmps67
   go_wp2_with (first|((with_reducible refine gate_dst (N:=1) rfl ?_);(try (refine gate_guard (by rfl) ?_;dsimp only));refine box_event ?hg (N:=1) ?hd (cs:=#[.int .i64 a0_0,.int .i64 a0_1,.int .i64 a0_2,.int .i64 a0_3,.int .i64 a0_4,.int .i64 a0_5,.int .i64 a0_6,.int .i64 a0_7,.int .i64 a0_8,.slice A0_9 l0_9.length c0_9,.slice A0_10 l0_10.length c0_10]) (t:=32) ?hr ?_;(case hd=>rfl);(case hg=>rfl);(case hr=>first|(go_simp;done)|(go_simp;rfl));intro gb389 hg w6 hbox hb;have n0_:=Aside0.mk (below_step (by repeat(first|(with_reducible first|exact HB.out|apply below_alloc|apply pw_below_drewN|apply below_drew1)|exact HB.out)) hb);have n1_:=Aside0.mk (hbox);have n2_:=Aside0.mk ((by rw [hg];exact (below_size (by repeat(first|(with_reducible first|exact HB.out|apply below_alloc|apply pw_below_drewN|apply below_drew1)|exact HB.out))) : w.heap.size ≤ gb389));have n3_:=Aside0.mk ((by rw [hg];exact (below_size (by repeat(first|(with_reducible first|exact HB.out|apply below_alloc|apply pw_below_drewN|apply below_drew1)|exact HB.out))) : w.heap.size ≤ gb389));clear HB;have HB:=n0_;have BK389:=n1_;have GW389:=n2_;have GE389:=n3_;clear n0_ n1_ n2_ n3_;clear hb hbox hg;have hcz7_0 : w6.cell? ⟨gb389,0,none⟩ = some (.int .i64 a0_0):=(blk_cell BK389.out 0).trans rfl;have hcz7_1 : w6.cell? ⟨gb389,1,none⟩ = some (.int .i64 a0_1):=(blk_cell BK389.out 1).trans rfl;have hcz7_2 : w6.cell? ⟨gb389,2,none⟩ = some (.int .i64 a0_2):=(blk_cell BK389.out 2).trans rfl;have hcz7_3 : w6.cell? ⟨gb389,3,none⟩ = some (.int .i64 a0_3):=(blk_cell BK389.out 3).trans rfl;have hcz7_4 : w6.cell? ⟨gb389,4,none⟩ = some (.int .i64 a0_4):=(blk_cell BK389.out 4).trans rfl;have hcz7_5 : w6.cell? ⟨gb389,5,none⟩ = some (.int .i64 a0_5):=(blk_cell BK389.out 5).trans rfl;have hcz7_6 : w6.cell? ⟨gb389,6,none⟩ = some (.int .i64 a0_6):=(blk_cell BK389.out 6).trans rfl;have hcz7_7 : w6.cell? ⟨gb389,7,none⟩ = some (.int .i64 a0_7):=(blk_cell BK389.out 7).trans rfl;have hcz7_8 : w6.cell? ⟨gb389,8,none⟩ = some (.int .i64 a0_8):=(blk_cell BK389.out 8).trans rfl;have hcz7_9 : w6.cell? ⟨gb389,9,none⟩ = some (.slice A0_9 l0_9.length c0_9):=(blk_cell BK389.out 9).trans rfl;have hcz7_10 : w6.cell? ⟨gb389,10,none⟩ = some (.slice A0_10 l0_10.length c0_10):=(blk_cell BK389.out 10).trans rfl;have hfz7_0:=blk_frozen BK389.out 0;have hfz7_1:=blk_frozen BK389.out 1;have hfz7_2:=blk_frozen BK389.out 2;have hfz7_3:=blk_frozen BK389.out 3;have hfz7_4:=blk_frozen BK389.out 4;have hfz7_5:=blk_frozen BK389.out 5;have hfz7_6:=blk_frozen BK389.out 6;have hfz7_7:=blk_frozen BK389.out 7;have hfz7_8:=blk_frozen BK389.out 8;have hfz7_9:=blk_frozen BK389.out 9;have hfz7_10:=blk_frozen BK389.out 10)|((with_reducible refine gate_callee (f:=75) rfl ?_);refine goesL_ (some 5) rfl rfl Try.func75 (by kernel_rfl) rfl #[.int .i64 a0_7] rfl (by (try simp only [List.map_toArray,List.map_cons,List.map_nil]);first|done|rfl|(simp only [List.length_drop,List.length_take];rfl)) ?_;(with_reducible refine (bins_count.calls a0_7 true _ A2.out).mono ?_);rintro e w' ⟨rfl,⟨nd,rfl⟩⟩;refine ⟨_,rfl,?_⟩)|(go_at_call 75;(with_reducible refine (bins_count.calls a0_8 true _ A4.out).mono ?_);rintro e w' ⟨rfl,⟨nd,rfl⟩⟩))
   go_ret
   exact ⟨by first|rfl|(simp [errW_none,errW_some] <;> rfl)|(simp [*,errW_none,errW_some] <;> rfl),by repeat(first|(with_reducible first|exact HB.out|apply below_alloc|apply pw_below_drewN|apply below_drew1|refine below_set ?_ GE389.out)|exact HB.out)⟩
  ·replace c5:=Bool.eq_false_iff.mpr c5
   subst c5
   have H1 : (some false) = some r:=by rw [if_neg (show ¬ (false = true) by decide)] at H;exact H
   clear H
   have H:=H1
   clear H1
   obtain rfl:=Option.some.inj H
   go_enter Try.func67,Try.ntmps67
   go_wp2_with (first|((with_reducible refine gate_dst (N:=1) rfl ?_);(try (refine gate_guard (by rfl) ?_;dsimp only));refine box_event ?hg (N:=1) ?hd (cs:=#[.int .i64 a0_0,.int .i64 a0_1,.int .i64 a0_2,.int .i64 a0_3,.int .i64 a0_4,.int .i64 a0_5,.int .i64 a0_6,.int .i64 a0_7,.int .i64 a0_8,.slice A0_9 l0_9.length c0_9,.slice A0_10 l0_10.length c0_10]) (t:=32) ?hr ?_;(case hd=>rfl);(case hg=>rfl);(case hr=>first|(go_simp;done)|(go_simp;rfl));intro gb389 hg w8 hbox hb;have n0_:=Aside0.mk (below_step (by repeat(first|(with_reducible first|exact HB.out|apply below_alloc|apply pw_below_drewN|apply below_drew1)|exact HB.out)) hb);have n1_:=Aside0.mk (hbox);have n2_:=Aside0.mk ((by rw [hg];exact (below_size (by repeat(first|(with_reducible first|exact HB.out|apply below_alloc|apply pw_below_drewN|apply below_drew1)|exact HB.out))) : w.heap.size ≤ gb389));have n3_:=Aside0.mk ((by rw [hg];exact (below_size (by repeat(first|(with_reducible first|exact HB.out|apply below_alloc|apply pw_below_drewN|apply below_drew1)|exact HB.out))) : w.heap.size ≤ gb389));clear HB;have HB:=n0_;have BK389:=n1_;have GW389:=n2_;have GE389:=n3_;clear n0_ n1_ n2_ n3_;clear hb hbox hg;have hcz9_0 : w8.cell? ⟨gb389,0,none⟩ = some (.int .i64 a0_0):=(blk_cell BK389.out 0).trans rfl;have hcz9_1 : w8.cell? ⟨gb389,1,none⟩ = some (.int .i64 a0_1):=(blk_cell BK389.out 1).trans rfl;have hcz9_2 : w8.cell? ⟨gb389,2,none⟩ = some (.int .i64 a0_2):=(blk_cell BK389.out 2).trans rfl;have hcz9_3 : w8.cell? ⟨gb389,3,none⟩ = some (.int .i64 a0_3):=(blk_cell BK389.out 3).trans rfl;have hcz9_4 : w8.cell? ⟨gb389,4,none⟩ = some (.int .i64 a0_4):=(blk_cell BK389.out 4).trans rfl;have hcz9_5 : w8.cell? ⟨gb389,5,none⟩ = some (.int .i64 a0_5):=(blk_cell BK389.out 5).trans rfl;have hcz9_6 : w8.cell? ⟨gb389,6,none⟩ = some (.int .i64 a0_6):=(blk_cell BK389.out 6).trans rfl;have hcz9_7 : w8.cell? ⟨gb389,7,none⟩ = some (.int .i64 a0_7):=(blk_cell BK389.out 7).trans rfl;have hcz9_8 : w8.cell? ⟨gb389,8,none⟩ = some (.int .i64 a0_8):=(blk_cell BK389.out 8).trans rfl;have hcz9_9 : w8.cell? ⟨gb389,9,none⟩ = some (.slice A0_9 l0_9.length c0_9):=(blk_cell BK389.out 9).trans rfl;have hcz9_10 : w8.cell? ⟨gb389,10,none⟩ = some (.slice A0_10 l0_10.length c0_10):=(blk_cell BK389.out 10).trans rfl;have hfz9_0:=blk_frozen BK389.out 0;have hfz9_1:=blk_frozen BK389.out 1;have hfz9_2:=blk_frozen BK389.out 2;have hfz9_3:=blk_frozen BK389.out 3;have hfz9_4:=blk_frozen BK389.out 4;have hfz9_5:=blk_frozen BK389.out 5;have hfz9_6:=blk_frozen BK389.out 6;have hfz9_7:=blk_frozen BK389.out 7;have hfz9_8:=blk_frozen BK389.out 8;have hfz9_9:=blk_frozen BK389.out 9;have hfz9_10:=blk_frozen BK389.out 10)|((with_reducible refine gate_callee (f:=75) rfl ?_);refine goesL_ (some 5) rfl rfl Try.func75 (by kernel_rfl) rfl #[.int .i64 a0_7] rfl (by (try simp only [List.map_toArray,List.map_cons,List.map_nil]);first|done|rfl|(simp only [List.length_drop,List.length_take];rfl)) ?_;(with_reducible refine (bins_count.calls a0_7 true _ A2.out).mono ?_);rintro e w' ⟨rfl,⟨nd,rfl⟩⟩;refine ⟨_,rfl,?_⟩)|(go_at_call 75;(with_reducible refine (bins_count.calls a0_8 false _ A4.out).mono ?_);rintro e w' ⟨rfl,⟨nd,rfl⟩⟩))
   go_ret
   exact ⟨by first|rfl|(simp [errW_none,errW_some] <;> rfl)|(simp [*,errW_none,errW_some] <;> rfl),by repeat(first|(with_reducible first|exact HB.out|apply below_alloc|apply pw_below_drewN|apply below_drew1|refine below_set ?_ GE389.out)|exact HB.out)⟩
 ·replace c3:=Bool.eq_false_iff.mpr c3
  subst c3
  have H1 : (some false) = some r:=by rw [if_neg (show ¬ (false = true) by decide)] at H;exact H
  clear H
  have H:=H1
  clear H1
  obtain rfl:=Option.some.inj H
  go_enter Try.func67,Try.ntmps67
  go_wp2_with (first|((with_reducible refine gate_dst (N:=1) rfl ?_);(try (refine gate_guard (by rfl) ?_;dsimp only));refine box_event ?hg (N:=1) ?hd (cs:=#[.int .i64 a0_0,.int .i64 a0_1,.int .i64 a0_2,.int .i64 a0_3,.int .i64 a0_4,.int .i64 a0_5,.int .i64 a0_6,.int .i64 a0_7,.int .i64 a0_8,.slice A0_9 l0_9.length c0_9,.slice A0_10 l0_10.length c0_10]) (t:=32) ?hr ?_;(case hd=>rfl);(case hg=>rfl);(case hr=>first|(go_simp;done)|(go_simp;rfl));intro gb389 hg w10 hbox hb;have n0_:=Aside0.mk (below_step (by repeat(first|(with_reducible first|exact HB.out|apply below_alloc|apply pw_below_drewN|apply below_drew1)|exact HB.out)) hb);have n1_:=Aside0.mk (hbox);have n2_:=Aside0.mk ((by rw [hg];exact (below_size (by repeat(first|(with_reducible first|exact HB.out|apply below_alloc|apply pw_below_drewN|apply below_drew1)|exact HB.out))) : w.heap.size ≤ gb389));have n3_:=Aside0.mk ((by rw [hg];exact (below_size (by repeat(first|(with_reducible first|exact HB.out|apply below_alloc|apply pw_below_drewN|apply below_drew1)|exact HB.out))) : w.heap.size ≤ gb389));clear HB;have HB:=n0_;have BK389:=n1_;have GW389:=n2_;have GE389:=n3_;clear n0_ n1_ n2_ n3_;clear hb hbox hg;have hcz11_0 : w10.cell? ⟨gb389,0,none⟩ = some (.int .i64 a0_0):=(blk_cell BK389.out 0).trans rfl;have hcz11_1 : w10.cell? ⟨gb389,1,none⟩ = some (.int .i64 a0_1):=(blk_cell BK389.out 1).trans rfl;have hcz11_2 : w10.cell? ⟨gb389,2,none⟩ = some (.int .i64 a0_2):=(blk_cell BK389.out 2).trans rfl;have hcz11_3 : w10.cell? ⟨gb389,3,none⟩ = some (.int .i64 a0_3):=(blk_cell BK389.out 3).trans rfl;have hcz11_4 : w10.cell? ⟨gb389,4,none⟩ = some (.int .i64 a0_4):=(blk_cell BK389.out 4).trans rfl;have hcz11_5 : w10.cell? ⟨gb389,5,none⟩ = some (.int .i64 a0_5):=(blk_cell BK389.out 5).trans rfl;have hcz11_6 : w10.cell? ⟨gb389,6,none⟩ = some (.int .i64 a0_6):=(blk_cell BK389.out 6).trans rfl;have hcz11_7 : w10.cell? ⟨gb389,7,none⟩ = some (.int .i64 a0_7):=(blk_cell BK389.out 7).trans rfl;have hcz11_8 : w10.cell? ⟨gb389,8,none⟩ = some (.int .i64 a0_8):=(blk_cell BK389.out 8).trans rfl;have hcz11_9 : w10.cell? ⟨gb389,9,none⟩ = some (.slice A0_9 l0_9.length c0_9):=(blk_cell BK389.out 9).trans rfl;have hcz11_10 : w10.cell? ⟨gb389,10,none⟩ = some (.slice A0_10 l0_10.length c0_10):=(blk_cell BK389.out 10).trans rfl;have hfz11_0:=blk_frozen BK389.out 0;have hfz11_1:=blk_frozen BK389.out 1;have hfz11_2:=blk_frozen BK389.out 2;have hfz11_3:=blk_frozen BK389.out 3;have hfz11_4:=blk_frozen BK389.out 4;have hfz11_5:=blk_frozen BK389.out 5;have hfz11_6:=blk_frozen BK389.out 6;have hfz11_7:=blk_frozen BK389.out 7;have hfz11_8:=blk_frozen BK389.out 8;have hfz11_9:=blk_frozen BK389.out 9;have hfz11_10:=blk_frozen BK389.out 10)|((with_reducible refine gate_callee (f:=75) rfl ?_);refine goesL_ (some 5) rfl rfl Try.func75 (by kernel_rfl) rfl #[.int .i64 a0_7] rfl (by (try simp only [List.map_toArray,List.map_cons,List.map_nil]);first|done|rfl|(simp only [List.length_drop,List.length_take];rfl)) ?_;(with_reducible refine (bins_count.calls a0_7 false _ A2.out).mono ?_);rintro e w' ⟨rfl,⟨nd,rfl⟩⟩;refine ⟨_,rfl,?_⟩))
  go_ret
  exact ⟨by first|rfl|(simp [errW_none,errW_some] <;> rfl)|(simp [*,errW_none,errW_some] <;> rfl),by repeat(first|(with_reducible first|exact HB.out|apply below_alloc|apply pw_below_drewN|apply below_drew1|refine below_set ?_ GE389.out)|exact HB.out)⟩



/-! ### cmp_isNaN_uint64: function 105 -/
def cmp_isNaN_uint64.f (a0 : Int) : Option (Bool):=some (a0 != a0)
set_option maxHeartbeats 8000000 in
set_option maxRecDepth 100000 in
theorem cmp_isNaN_uint64.calls (a0 : Int) (r : Bool) (w : World) (h : cmp_isNaN_uint64.f a0 = some r) :
  Calls Try.prog 105 #[.int .u64 a0] w fun e w'=>e = .returned (.bool r) ∧ Drawn0 w w':=by
 have H : (some (a0 != a0)) = some r:=h
 clear h
 obtain rfl:=Option.some.inj H
 go_enter Try.func105,Try.ntmps105
 go_wp2
 go_ret
 exact ⟨by first|rfl|(simp;done)|(simp [*];done),by repeat(first|exact Drawn0.refl _|apply Drawn0.step)⟩

/-! ### cmp_Compare_uint64: function 100 -/
def cmp_Compare_uint64.f (a0 : Int) (a1 : Int) : Option (Int):=(cmp_isNaN_uint64.f a0).bind fun t392=>((cmp_isNaN_uint64.f a1).bind fun t393=>(if t392 = true then (if t393 = true then (some 0) else (some (-1))) else (if t393 = true then (some 1) else (if a0 < a1 then (some (-1)) else (if a0 > a1 then (some 1) else (some 0))))))
set_option maxHeartbeats 8000000 in
set_option maxRecDepth 100000 in
theorem cmp_Compare_uint64.calls (a0 : Int) (a1 : Int) (r : Int) (w : World) (h : cmp_Compare_uint64.f a0 a1 = some r) :
  Calls Try.prog 100 #[.int .u64 a0,.int .u64 a1] w fun e w'=>e = .returned (.int .i64 r) ∧ Drawn0 w w':=by
 have H : ((cmp_isNaN_uint64.f a0).bind fun t392=>((cmp_isNaN_uint64.f a1).bind fun t393=>(if t392 = true then (if t393 = true then (some 0) else (some (-1))) else (if t393 = true then (some 1) else (if a0 < a1 then (some (-1)) else (if a0 > a1 then (some 1) else (some 0))))))) = some r:=h
 clear h
 replace H:=Option.bind_eq_some_iff.mp H
 obtain ⟨t392,A30,H⟩:=H
 replace H : ((cmp_isNaN_uint64.f a1).bind fun t393=>(if t392 = true then (if t393 = true then (some 0) else (some (-1))) else (if t393 = true then (some 1) else (if a0 < a1 then (some (-1)) else (if a0 > a1 then (some 1) else (some 0)))))) = some r:=H
 have A3:=Aside0.mk A30
 clear A30
 replace H:=Option.bind_eq_some_iff.mp H
 obtain ⟨t393,A40,H⟩:=H
 replace H : (if t392 = true then (if t393 = true then (some 0) else (some (-1))) else (if t393 = true then (some 1) else (if a0 < a1 then (some (-1)) else (if a0 > a1 then (some 1) else (some 0))))) = some r:=H
 have A4:=Aside0.mk A40
 clear A40
 by_cases c5 : t392 = true
 ·subst c5
  have H1 : (if t393 = true then (some 0) else (some (-1))) = some r:=by rw [if_pos rfl] at H;exact H
  clear H
  have H:=H1
  clear H1
  by_cases c6 : t393 = true
  ·subst c6
   have H1 : (some 0) = some r:=by rw [if_pos rfl] at H;exact H
   clear H
   have H:=H1
   clear H1
   obtain rfl:=Option.some.inj H
   go_enter Try.func100,Try.ntmps100
   go_wp2_with (first|((with_reducible refine gate_callee (f:=105) rfl ?_);refine goesL_ (some 8) rfl rfl Try.func105 (by kernel_rfl) rfl #[.int .u64 a0] rfl (by (try simp only [List.map_toArray,List.map_cons,List.map_nil]);first|done|rfl|(simp only [List.length_drop,List.length_take];rfl)) ?_;(with_reducible refine (cmp_isNaN_uint64.calls a0 true _ A3.out).mono ?_);rintro e w' ⟨rfl,⟨nd,rfl⟩⟩;refine ⟨_,rfl,?_⟩)|((with_reducible refine gate_callee (f:=105) rfl ?_);refine goesL_ (some 10) rfl rfl Try.func105 (by kernel_rfl) rfl #[.int .u64 a1] rfl (by (try simp only [List.map_toArray,List.map_cons,List.map_nil]);first|done|rfl|(simp only [List.length_drop,List.length_take];rfl)) ?_;(with_reducible refine (cmp_isNaN_uint64.calls a1 true _ A4.out).mono ?_);rintro e w' ⟨rfl,⟨nd,rfl⟩⟩;refine ⟨_,rfl,?_⟩))
   go_ret
   exact ⟨by first|rfl|(simp;done)|(simp [*];done),by repeat(first|exact Drawn0.refl _|apply Drawn0.step)⟩
  ·replace c6:=Bool.eq_false_iff.mpr c6
   subst c6
   have H1 : (some (-1)) = some r:=by rw [if_neg (show ¬ (false = true) by decide)] at H;exact H
   clear H
   have H:=H1
   clear H1
   obtain rfl:=Option.some.inj H
   go_enter Try.func100,Try.ntmps100
   go_wp2_with (first|((with_reducible refine gate_callee (f:=105) rfl ?_);refine goesL_ (some 8) rfl rfl Try.func105 (by kernel_rfl) rfl #[.int .u64 a0] rfl (by (try simp only [List.map_toArray,List.map_cons,List.map_nil]);first|done|rfl|(simp only [List.length_drop,List.length_take];rfl)) ?_;(with_reducible refine (cmp_isNaN_uint64.calls a0 true _ A3.out).mono ?_);rintro e w' ⟨rfl,⟨nd,rfl⟩⟩;refine ⟨_,rfl,?_⟩)|((with_reducible refine gate_callee (f:=105) rfl ?_);refine goesL_ (some 10) rfl rfl Try.func105 (by kernel_rfl) rfl #[.int .u64 a1] rfl (by (try simp only [List.map_toArray,List.map_cons,List.map_nil]);first|done|rfl|(simp only [List.length_drop,List.length_take];rfl)) ?_;(with_reducible refine (cmp_isNaN_uint64.calls a1 false _ A4.out).mono ?_);rintro e w' ⟨rfl,⟨nd,rfl⟩⟩;refine ⟨_,rfl,?_⟩))
   go_ret
   exact ⟨by first|rfl|(simp;done)|(simp [*];done),by repeat(first|exact Drawn0.refl _|apply Drawn0.step)⟩
 ·replace c5:=Bool.eq_false_iff.mpr c5
  subst c5
  have H1 : (if t393 = true then (some 1) else (if a0 < a1 then (some (-1)) else (if a0 > a1 then (some 1) else (some 0)))) = some r:=by rw [if_neg (show ¬ (false = true) by decide)] at H;exact H
  clear H
  have H:=H1
  clear H1
  by_cases c7 : t393 = true
  ·subst c7
   have H1 : (some 1) = some r:=by rw [if_pos rfl] at H;exact H
   clear H
   have H:=H1
   clear H1
   obtain rfl:=Option.some.inj H
   go_enter Try.func100,Try.ntmps100
   go_wp2_with (first|((with_reducible refine gate_callee (f:=105) rfl ?_);refine goesL_ (some 8) rfl rfl Try.func105 (by kernel_rfl) rfl #[.int .u64 a0] rfl (by (try simp only [List.map_toArray,List.map_cons,List.map_nil]);first|done|rfl|(simp only [List.length_drop,List.length_take];rfl)) ?_;(with_reducible refine (cmp_isNaN_uint64.calls a0 false _ A3.out).mono ?_);rintro e w' ⟨rfl,⟨nd,rfl⟩⟩;refine ⟨_,rfl,?_⟩)|((with_reducible refine gate_callee (f:=105) rfl ?_);refine goesL_ (some 10) rfl rfl Try.func105 (by kernel_rfl) rfl #[.int .u64 a1] rfl (by (try simp only [List.map_toArray,List.map_cons,List.map_nil]);first|done|rfl|(simp only [List.length_drop,List.length_take];rfl)) ?_;(with_reducible refine (cmp_isNaN_uint64.calls a1 true _ A4.out).mono ?_);rintro e w' ⟨rfl,⟨nd,rfl⟩⟩;refine ⟨_,rfl,?_⟩))
   go_ret
   exact ⟨by first|rfl|(simp;done)|(simp [*];done),by repeat(first|exact Drawn0.refl _|apply Drawn0.step)⟩
  ·replace c7:=Bool.eq_false_iff.mpr c7
   subst c7
   have H1 : (if a0 < a1 then (some (-1)) else (if a0 > a1 then (some 1) else (some 0))) = some r:=by rw [if_neg (show ¬ (false = true) by decide)] at H;exact H
   clear H
   have H:=H1
   clear H1
   by_cases c8 : a0 < a1
   ·rw [if_pos c8] at H
    have c8b0 : decide (a0 < a1) = true:=decide_eq_true c8
    clear c8
    obtain rfl:=Option.some.inj H
    go_enter Try.func100,Try.ntmps100
    go_wp2_with (first|((with_reducible refine gate_callee (f:=105) rfl ?_);refine goesL_ (some 8) rfl rfl Try.func105 (by kernel_rfl) rfl #[.int .u64 a0] rfl (by (try simp only [List.map_toArray,List.map_cons,List.map_nil]);first|done|rfl|(simp only [List.length_drop,List.length_take];rfl)) ?_;(with_reducible refine (cmp_isNaN_uint64.calls a0 false _ A3.out).mono ?_);rintro e w' ⟨rfl,⟨nd,rfl⟩⟩;refine ⟨_,rfl,?_⟩)|((with_reducible refine gate_callee (f:=105) rfl ?_);refine goesL_ (some 10) rfl rfl Try.func105 (by kernel_rfl) rfl #[.int .u64 a1] rfl (by (try simp only [List.map_toArray,List.map_cons,List.map_nil]);first|done|rfl|(simp only [List.length_drop,List.length_take];rfl)) ?_;(with_reducible refine (cmp_isNaN_uint64.calls a1 false _ A4.out).mono ?_);rintro e w' ⟨rfl,⟨nd,rfl⟩⟩;refine ⟨_,rfl,?_⟩))
    go_ret
    exact ⟨by first|rfl|(simp;done)|(simp [*];done),by repeat(first|exact Drawn0.refl _|apply Drawn0.step)⟩
   ·rw [if_neg c8] at H
    have c8b0 : decide (a0 < a1) = false:=decide_eq_false c8
    clear c8
    by_cases c9 : a0 > a1
    ·rw [if_pos c9] at H
     have c9b0 : decide (a1 < a0) = true:=decide_eq_true c9
     clear c9
     obtain rfl:=Option.some.inj H
     go_enter Try.func100,Try.ntmps100
     go_wp2_with (first|((with_reducible refine gate_callee (f:=105) rfl ?_);refine goesL_ (some 8) rfl rfl Try.func105 (by kernel_rfl) rfl #[.int .u64 a0] rfl (by (try simp only [List.map_toArray,List.map_cons,List.map_nil]);first|done|rfl|(simp only [List.length_drop,List.length_take];rfl)) ?_;(with_reducible refine (cmp_isNaN_uint64.calls a0 false _ A3.out).mono ?_);rintro e w' ⟨rfl,⟨nd,rfl⟩⟩;refine ⟨_,rfl,?_⟩)|((with_reducible refine gate_callee (f:=105) rfl ?_);refine goesL_ (some 10) rfl rfl Try.func105 (by kernel_rfl) rfl #[.int .u64 a1] rfl (by (try simp only [List.map_toArray,List.map_cons,List.map_nil]);first|done|rfl|(simp only [List.length_drop,List.length_take];rfl)) ?_;(with_reducible refine (cmp_isNaN_uint64.calls a1 false _ A4.out).mono ?_);rintro e w' ⟨rfl,⟨nd,rfl⟩⟩;refine ⟨_,rfl,?_⟩))
     go_ret
     exact ⟨by first|rfl|(simp;done)|(simp [*];done),by repeat(first|exact Drawn0.refl _|apply Drawn0.step)⟩
    ·rw [if_neg c9] at H
     have c9b0 : decide (a1 < a0) = false:=decide_eq_false c9
     clear c9
     obtain rfl:=Option.some.inj H
     go_enter Try.func100,Try.ntmps100
     go_wp2_with (first|((with_reducible refine gate_callee (f:=105) rfl ?_);refine goesL_ (some 8) rfl rfl Try.func105 (by kernel_rfl) rfl #[.int .u64 a0] rfl (by (try simp only [List.map_toArray,List.map_cons,List.map_nil]);first|done|rfl|(simp only [List.length_drop,List.length_take];rfl)) ?_;(with_reducible refine (cmp_isNaN_uint64.calls a0 false _ A3.out).mono ?_);rintro e w' ⟨rfl,⟨nd,rfl⟩⟩;refine ⟨_,rfl,?_⟩)|((with_reducible refine gate_callee (f:=105) rfl ?_);refine goesL_ (some 10) rfl rfl Try.func105 (by kernel_rfl) rfl #[.int .u64 a1] rfl (by (try simp only [List.map_toArray,List.map_cons,List.map_nil]);first|done|rfl|(simp only [List.length_drop,List.length_take];rfl)) ?_;(with_reducible refine (cmp_isNaN_uint64.calls a1 false _ A4.out).mono ?_);rintro e w' ⟨rfl,⟨nd,rfl⟩⟩;refine ⟨_,rfl,?_⟩))
     go_ret
     exact ⟨by first|rfl|(simp;done)|(simp [*];done),by repeat(first|exact Drawn0.refl _|apply Drawn0.step)⟩

end Go.Proofs.Ytnagfbadjbkhmaa.PA
