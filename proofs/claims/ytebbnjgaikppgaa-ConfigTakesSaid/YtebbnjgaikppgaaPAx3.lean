import Derived.Test.YtebbnjgaikppgaaPAx0
namespace Go.Proofs.Ytebbnjgaikppgaa.PA
open Go.RowKit Go.Proofs.YtebbnjgaikppgaaW.PrintWords Go.Proofs.YtebbnjgaikppgaaW.PrintLast Go.Proofs.YtebbnjgaikppgaaW.PrintMore
attribute [local go_sem] max2_int min2_int max_two min_two max_three min_three max_four min_four   -- for this text's walks alone
attribute [local go_sem high] Flt.fold_eq Flt.fold_ne Flt.fold_lt Flt.fold_gt Flt.fold_le Flt.fold_ge Flt.run_bits Flt.run_frombits
set_option linter.unusedVariables false
set_option linter.unusedSimpArgs false

/-- A state of type 90 at block g of W; what its slices lead to came in by w0. -/
def IsS90 (w0 W : World) (g : Nat) (f0 : List Int) : Prop:=∃ A0 c0,W.heap[g]? = some (.cells #[.slice A0 f0.length c0] 90 (0,0)) ∧ w0.heap.size ≤ g ∧ Kd.C (Kd.int .u8) w0 A0 f0.length f0
theorem IsS90.grown {w0 W : World} {g : Nat} {f0 : List Int} {W1 : World} {row : Option Nat} (h : IsS90 w0 W g f0) (hw : W.grownBy W1 row) (hne : some g ≠ row) : IsS90 w0 W1 g f0:=by
 obtain ⟨A0,c0,hb,hg,hr0⟩:=h
 exact ⟨A0,c0,blk_grown hb hw hne,hg,hr0⟩
theorem IsS90.own_neN {w0 W : World} {g : Nat} {f0 : List Int} {α : Type} {d : Kd α} {e : Nat} {base : Nat} {ok : Nat → Prop} {v : Value} {xs : List α} (h : IsS90 w0 W g f0) (ho : Kd.N d e W base ok v xs) (ht : e ≠ 90) : some g ≠ v.ownBlock:=by
 obtain ⟨A0,c0,hb,hg,hr0⟩:=h
 exact Kd.N_ne ho hb ht
theorem IsS90.fresh {w0 W : World} {g : Nat} {f0 : List Int} (h : IsS90 w0 W g f0) : ∀ k,W.heap.size ≤ k → k ≠ g:=by
 obtain ⟨A0,c0,hb,hg,hr0⟩:=h
 exact Kd.freshB hb
theorem IsS90.kept {w0 W : World} {g : Nat} {f0 : List Int} {W1 : World} {S : Nat → Prop} (h : IsS90 w0 W g f0) (hk : Kept W W1 S) (hne : ¬ S g) : IsS90 w0 W1 g f0:=by
 obtain ⟨A0,c0,hb,hg,hr0⟩:=h
 exact ⟨A0,c0,blk_kept hb hk hne,hg,hr0⟩
theorem IsS90.below {w0 W : World} {g : Nat} {f0 : List Int} {W1 : World} (h : IsS90 w0 W g f0) (hw : Below W.heap.size W W1) : IsS90 w0 W1 g f0:=h.grown (grown_of_below hw none) (by simp)
theorem IsS90.alloc {w0 W : World} {g : Nat} {f0 : List Int} (h : IsS90 w0 W g f0) (o : Obj) : IsS90 w0 (W.alloc o) g f0:=h.below (below_alloc (Below.refl _ _) o)
theorem IsS90.drewN {w0 W : World} {g : Nat} {f0 : List Int} (h : IsS90 w0 W g f0) (m : Nat) : IsS90 w0 (W.drewN m) g f0:=h
theorem IsS90.drew {w0 W : World} {g : Nat} {f0 : List Int} (h : IsS90 w0 W g f0) : IsS90 w0 W.drew g f0:=h
theorem IsS90.at_ {w0 W : World} {g : Nat} {f0 : List Int} {w' : World} {m : Nat} (hq : W.drewN m = w') (h : IsS90 w0 W g f0) : IsS90 w0 w' g f0:=by subst hq;exact IsS90.drewN h m
theorem IsS90.apart {w0 W : World} {g : Nat} {f0 : List Int} {α : Type} {d : Kd α} {e : Nat} {base : Nat} {ok : Nat → Prop} {v : Value} {xs : List α} (h : IsS90 w0 W g f0) (ho : d.R e W base ok v xs) (ht : ∀ q,q ∈ e :: d.E → q ≠ 90) : d.R e W base (fun k => ok k ∧ k ≠ g) v xs:=by
 obtain ⟨A0,c0,hb,hg,hr0⟩:=h
 exact Kd.R_types ho hb ht
theorem IsS90.own_ne {w0 W : World} {g : Nat} {f0 : List Int} {α : Type} {d : Kd α} {e : Nat} {base : Nat} {ok : Nat → Prop} {v : Value} {xs : List α} (h : IsS90 w0 W g f0) (ho : d.R e W base ok v xs) (ht : e ≠ 90) : some g ≠ v.ownBlock:=by
 obtain ⟨A0,c0,hb,hg,hr0⟩:=h
 exact Kd.R_ne ho hb ht
theorem IsS90.apartQ {w0 W : World} {g : Nat} {f0 : List Int} {α : Type} {d : Kd α} {e : Nat} {base : Nat} {ok : Nat → Prop} {v : Value} {xs : List α} (h : IsS90 w0 W g f0) (ho : d.Q e W base ok v xs) (ht : ∀ q,q ∈ e :: d.E → q ≠ 90) : d.Q e W base (fun k => ok k ∧ k ≠ g) v xs:=by
 obtain ⟨A0,c0,hb,hg,hr0⟩:=h
 exact Kd.Q_types ho hb ht
theorem IsS90.own_neQ {w0 W : World} {g : Nat} {f0 : List Int} {α : Type} {d : Kd α} {e : Nat} {base : Nat} {ok : Nat → Prop} {v : Value} {xs : List α} (h : IsS90 w0 W g f0) (ho : d.Q e W base ok v xs) (ht : e ≠ 90) : some g ≠ v.ownBlock:=by
 obtain ⟨A0,c0,hb,hg,hr0⟩:=h
 exact Kd.Q_ne ho hb ht
theorem IsS90.apartS {w0 W : World} {g : Nat} {f0 : List Int} {α : Type} {d : Kd α} {e : Nat} {base : Nat} {ok : Nat → Prop} {v : Value} {xs : List α} (h : IsS90 w0 W g f0) (ho : d.S e W base ok v xs) (ht : ∀ q,q ∈ e :: d.E → q ≠ 90) : d.S e W base (fun k => ok k ∧ k ≠ g) v xs:=by
 obtain ⟨A0,c0,hb,hg,hr0⟩:=h
 exact Kd.S_types ho hb ht
theorem IsS90.own_neS {w0 W : World} {g : Nat} {f0 : List Int} {α : Type} {d : Kd α} {e : Nat} {base : Nat} {ok : Nat → Prop} {v : Value} {xs : List α} (h : IsS90 w0 W g f0) (ho : d.S e W base ok v xs) (ht : e ≠ 90) : some g ≠ v.ownBlock:=by
 obtain ⟨A0,c0,hb,hg,hr0⟩:=h
 exact Kd.S_ne ho hb ht
theorem IsS90.lt {w0 W : World} {g : Nat} {f0 : List Int} (h : IsS90 w0 W g f0) : g < W.heap.size:=by
 obtain ⟨A0,c0,hb,hg,hr0⟩:=h
 exact blk_lt hb
theorem IsS90.ge {w0 W : World} {g : Nat} {f0 : List Int} (h : IsS90 w0 W g f0) : w0.heap.size ≤ g:=by
 obtain ⟨A0,c0,hb,hg,hr0⟩:=h
 exact hg
theorem IsS90.ne_blk {w0 W : World} {g : Nat} {f0 : List Int} {a : Nat} {cs : Array Value} {t : TypeId} {fr : Nat × Nat} (h : IsS90 w0 W g f0) (hb2 : W.heap[a]? = some (.cells cs t fr)) (ht : t ≠ 90) : g ≠ a:=by
 obtain ⟨A0,c0,hb,hg,hr0⟩:=h
 rintro rfl
 rw [hb] at hb2
 injection hb2 with hb2
 injection hb2 with _ ht2
 exact ht ht2.symm
theorem IsS90.far {w0 W : World} {g : Nat} {f0 : List Int} {p : Addr} (h : IsS90 w0 W g f0) (hne : g ≠ p.block) (u : Value) : IsS90 w0 (W.setCell p u) g f0:=by
 obtain ⟨A0,c0,hb,hg,hr0⟩:=h
 exact ⟨A0,c0,blk_far hb hne u,hg,hr0⟩
theorem cellS90_0 {W : World} {g : Nat} {A0 : Option Addr} {c0 : Nat} {f0 : List Int} (h : W.heap[g]? = some (.cells #[.slice A0 f0.length c0] 90 (0,0))) : W.cell? ⟨g,0,none⟩ = some (.slice A0 f0.length c0):=(blk_cell h 0).trans rfl
theorem IsS90.new (w0 W : World) (A0 : Option Addr) (c0 : Nat) (f0 : List Int) (hB : Below w0.heap.size w0 W) (hr0 : Kd.C (Kd.int .u8) w0 A0 f0.length f0) : IsS90 w0 (W.alloc (.cells #[.slice A0 f0.length c0] 90)) W.heap.size f0:=⟨A0,c0,by simpa using heap_alloc_new W _,hB.size,hr0⟩

/-! ### take_Reader_Left: function 19 -/
def take_Reader_Left.f (s0_0 : List Int) : Option (Int):=some (s0_0.length : Int)
set_option maxHeartbeats 8000000 in
set_option maxRecDepth 100000 in
theorem take_Reader_Left.calls (g : Nat) (s0_0 : List Int) (r : Int) (w0 w : World) (hI : IsS90 w0 w g s0_0) (hB : Below w0.heap.size w0 w) (h : take_Reader_Left.f s0_0 = some r) :
  Calls Try.prog 19 #[.pointer (some ⟨g,0,none⟩)] w fun e w' => e = .returned (.int .i64 r) ∧ IsS90 w0 w' g s0_0 ∧ Below w0.heap.size w0 w' ∧ KeepBut w w' g none:=by
 have HI0:=Aside0.mk hI
 have HK:=Aside0.mk (KeepBut.refl w g none)
 have HL:=Aside0.mk hB.size
 clear hI
 have HW0:=Aside0.mk hB.size
 have HB:=Aside0.mk hB
 clear hB
 have H : (some (s0_0.length : Int)) = some r:=h
 clear h
 obtain rfl:=Option.some.inj H
 obtain ⟨ASz2_0,cSz2_0,HGz2,hgz2,HSz2_0⟩:=HI0.out
 have hcz2_0:=cellS90_0 HGz2
 clear HGz2 hgz2
 go_enter Try.func19,Try.ntmps19
 go_wp2
 go_ret
 exact ⟨by first | rfl | (simp [errW_none,errW_some] <;> rfl) | (simp [*,errW_none,errW_some] <;> rfl),by repeat (first | (with_reducible first | exact HI0.out | apply IsS90.alloc | apply IsS90.drewN | apply IsS90.drew) | exact HI0.out),by repeat (first | (with_reducible first | exact HB.out | apply below_alloc | apply pw_below_drewN | apply below_drew1 | refine below_set ?_ (IsS90.ge HI0.out)) | exact HB.out),by repeat (first | (with_reducible first | exact HK.out | apply KeepBut.set_ | apply keep_drewN | apply keep_drew | apply keep_alloc) | exact HK.out)⟩


/-! ### hornbeamlaw07_fixed: function 15, by hand -/
def hornbeamlaw07_fixed.f : Option Bool:=some true
theorem hornbeamlaw07_fixed.calls (r : Bool) (w : World) (h : hornbeamlaw07_fixed.f = some r) : Calls Try.prog 15 #[] w fun e w' => e = .returned (.bool r) ∧ Below w.heap.size w w':=by
 obtain rfl:=Option.some.inj h
 exact FTake07.calls_fixed w


/-! ### hornbeamref07_Count: function 57 -/
def hornbeamref07_Count.f (a0 : Int) : Option (Int):=if a0 < 0 then (some 0) else (if a0 > 8 then (some 8) else (some a0))
set_option maxHeartbeats 8000000 in
set_option maxRecDepth 100000 in
theorem hornbeamref07_Count.calls (a0 : Int) (r : Int) (w : World) (h : hornbeamref07_Count.f a0 = some r) :
  Calls Try.prog 57 #[.int .i64 a0] w fun e w' => e = .returned (.int .i64 r) ∧ Drawn0 w w':=by
 have H : (if a0 < 0 then (some 0) else (if a0 > 8 then (some 8) else (some a0))) = some r:=h
 clear h
 by_cases c2 : a0 < 0
 ·rw [if_pos c2] at H
  have c2b0 : decide (a0 < 0) = true:=decide_eq_true c2
  clear c2
  obtain rfl:=Option.some.inj H
  go_enter Try.func57,Try.ntmps57
  go_wp2
  go_ret
  exact ⟨by first | rfl | (simp;done) | (simp [*];done),by repeat (first | exact Drawn0.refl _ | apply Drawn0.step)⟩
 ·rw [if_neg c2] at H
  have c2b0 : decide (a0 < 0) = false:=decide_eq_false c2
  clear c2
  by_cases c3 : a0 > 8
  ·rw [if_pos c3] at H
   have c3b0 : decide (8 < a0) = true:=decide_eq_true c3
   clear c3
   obtain rfl:=Option.some.inj H
   go_enter Try.func57,Try.ntmps57
   go_wp2
   go_ret
   exact ⟨by first | rfl | (simp;done) | (simp [*];done),by repeat (first | exact Drawn0.refl _ | apply Drawn0.step)⟩
  ·rw [if_neg c3] at H
   have c3b0 : decide (8 < a0) = false:=decide_eq_false c3
   clear c3
   obtain rfl:=Option.some.inj H
   go_enter Try.func57,Try.ntmps57
   go_wp2
   go_ret
   exact ⟨by first | rfl | (simp;done) | (simp [*];done),by repeat (first | exact Drawn0.refl _ | apply Drawn0.step)⟩

/-! ### hornbeamref07_Get: function 20 -/
def hornbeamref07_Get.l0 : Nat → ByteArray → Int → Int → Int → Int → Option (Int × Int × Bool)
 | 0,_,_,_,_,_ => none
 | k + 1,x0,x1,x9,x10,x11 => if x11 < x9 then (if 0 ≤ (wrap64 (x1 + x11)) then (if (wrap64 (x1 + x11)) < (x0.size : Int) then (hornbeamref07_Get.l0 k x0 x1 x9 (IntKind.u64.wrap ((IntKind.u64.wrap (256 * x10)) + (IntKind.u64.wrap (bt x0 (wrap64 (x1 + x11)))))) (wrap64 (x11 + 1))) else (none)) else (none)) else (some (x10,wrap64 (x1 + x9),true))
def hornbeamref07_Get.f (k : Nat) (a0 : ByteArray) (a1 : Int) (a2 : Int) : Option (Int × Int × Bool):=(hornbeamref07_Count.f a2).bind fun t101 => (if (wrap64 ((a0.size : Int) - a1)) < t101 then (some (0,a1,false)) else (hornbeamref07_Get.l0 k a0 a1 t101 0 0))
theorem hornbeamref07_Get.mono_l : ∀ k,(∀ y0 y1 y2 y3 y4,LeO (hornbeamref07_Get.l0 k y0 y1 y2 y3 y4) (hornbeamref07_Get.l0 (k + 1) y0 y1 y2 y3 y4))
 | 0 => fun _ _ _ _ _ r h => by simp [hornbeamref07_Get.l0] at h
 | k + 1 => by
  have ih0:=hornbeamref07_Get.mono_l k
  ·intro y0 y1 y2 y3 y4
   unfold hornbeamref07_Get.l0
   repeat' first
   | (with_reducible exact ih0 _ _ _ _ _)
   | (with_reducible exact LeO.refl _)
   | (with_reducible exact LeO.none _)
   | (with_reducible refine LeO.ite ?_ ?_)
   | (with_reducible refine LeO.bind ?_ (fun _ => ?_))
   | exact ih0 _ _ _ _ _
   | exact LeO.none _
   | refine LeO.ite ?_ ?_
   | refine LeO.bind ?_ (fun _ => ?_)
theorem hornbeamref07_Get.mono : ∀ a0 a1 a2 k,LeO (hornbeamref07_Get.f k a0 a1 a2) (hornbeamref07_Get.f (k + 1) a0 a1 a2):=by
 intro a0 a1 a2 k
 have ih0:=hornbeamref07_Get.mono_l k
 unfold hornbeamref07_Get.f
 repeat' first
   | (with_reducible exact ih0 _ _ _ _ _)
   | (with_reducible exact LeO.refl _)
   | (with_reducible exact LeO.none _)
   | (with_reducible refine LeO.ite ?_ ?_)
   | (with_reducible refine LeO.bind ?_ (fun _ => ?_))
   | exact ih0 _ _ _ _ _
   | exact LeO.none _
   | refine LeO.ite ?_ ?_
   | refine LeO.bind ?_ (fun _ => ?_)
set_option maxHeartbeats 8000000 in
set_option maxRecDepth 100000 in
theorem hornbeamref07_Get.calls (k : Nat) (a0 : ByteArray) (a1 : Int) (a2 : Int) (r1 : Int) (r2 : Int) (r3 : Bool) (w : World) (h : hornbeamref07_Get.f k a0 a1 a2 = some (r1,r2,r3)) :
  Calls Try.prog 20 #[.string a0,.int .i64 a1,.int .i64 a2] w fun e w' => e = .returned (.tuple #[.int .u64 r1,.int .i64 r2,.bool r3]) ∧ Drawn0 w w':=by
 have H : ((hornbeamref07_Count.f a2).bind fun t101 => (if (wrap64 ((a0.size : Int) - a1)) < t101 then (some (0,a1,false)) else (hornbeamref07_Get.l0 k a0 a1 t101 0 0))) = some (r1,r2,r3):=h
 clear h
 replace H:=Option.bind_eq_some_iff.mp H
 obtain ⟨t101,A40,H⟩:=H
 replace H : (if (wrap64 ((a0.size : Int) - a1)) < t101 then (some (0,a1,false)) else (hornbeamref07_Get.l0 k a0 a1 t101 0 0)) = some (r1,r2,r3):=H
 have A4:=Aside0.mk A40
 clear A40
 by_cases c5 : (wrap64 ((a0.size : Int) - a1)) < t101
 ·rw [if_pos c5] at H
  have c5b0 : decide ((wrap64 ((a0.size : Int) - a1)) < t101) = true:=decide_eq_true c5
  clear c5
  simp only [Option.some.injEq,Prod.mk.injEq] at H
  obtain ⟨rfl,rfl,rfl⟩:=H
  go_enter Try.func20,Try.ntmps20
  go_wp2_with (first | ((with_reducible refine gate_callee (f:=57) rfl ?_);refine goesL_ (some 13) rfl rfl Try.func57 (by kernel_rfl) rfl #[.int .i64 a2] rfl (by (try simp only [List.map_toArray,List.map_cons,List.map_nil]);first | done | rfl | (simp only [List.length_drop,List.length_take];rfl)) ?_;(with_reducible refine (hornbeamref07_Count.calls a2 t101 _ A4.out).mono ?_);rintro e w' ⟨rfl,⟨nd,rfl⟩⟩;refine ⟨_,rfl,?_⟩))
  go_ret3
  exact ⟨by first | rfl | (simp;done) | (simp [*];done),by repeat (first | exact Drawn0.refl _ | apply Drawn0.step)⟩
 ·rw [if_neg c5] at H
  have c5b0 : decide ((wrap64 ((a0.size : Int) - a1)) < t101) = false:=decide_eq_false c5
  clear c5
  have H':=Aside0.mk H
  clear H
  go_enter Try.func20,Try.ntmps20
  go_wp2_with (first | ((with_reducible refine gate_callee (f:=57) rfl ?_);refine goesL_ (some 13) rfl rfl Try.func57 (by kernel_rfl) rfl #[.int .i64 a2] rfl (by (try simp only [List.map_toArray,List.map_cons,List.map_nil]);first | done | rfl | (simp only [List.length_drop,List.length_take];rfl)) ?_;(with_reducible refine (hornbeamref07_Count.calls a2 t101 _ A4.out).mono ?_);rintro e w' ⟨rfl,⟨nd,rfl⟩⟩;refine ⟨_,rfl,?_⟩))
  go_loopg [10,11] k (fun kq v10 v11 w' => ∃ (x10_1 : Int) (x11_1 : Int),v10 = .int .u64 x10_1 ∧ v11 = .int .i64 x11_1 ∧ Aside0 (hornbeamref07_Get.l0 kq a0 a1 t101 x10_1 x11_1 = some (r1,r2,r3)) ∧ Aside0 (kq ≤ k) ∧ Drawn0 w w')
  case atStart => exact ⟨(0),(0),(by first | rfl | (simp;done) | (simp [*];done)),(by first | rfl | (simp;done) | (simp [*];done)),H',⟨Nat.le_refl _⟩,by repeat (first | exact Drawn0.refl _ | apply Drawn0.step)⟩
  case round =>
   clear H'
   try clear c2
   try clear p2
   try clear c5
   try clear c5b0
   obtain ⟨x10_1,x11_1,rfl,rfl,HA,HK1,⟨m1,rfl⟩⟩:=hrel
   cases gk with
   | zero => exact absurd HA.out (by simp [hornbeamref07_Get.l0])
   | succ k1 =>
    have H:=HA.out
    clear HA
    simp only [hornbeamref07_Get.l0] at H
    by_cases c6 : x11_1 < t101
    ·rw [if_pos c6] at H
     have c6b0 : decide (x11_1 < t101) = true:=decide_eq_true c6
     clear c6
     obtain ⟨ji7,hji7⟩ : ∃ j_ : Int,(wrap64 (a1 + x11_1)) = j_:=⟨_,rfl⟩
     replace H : (if 0 ≤ (ji7) then (if (ji7) < (a0.size : Int) then (hornbeamref07_Get.l0 k1 a0 a1 t101 (IntKind.u64.wrap ((IntKind.u64.wrap (256 * x10_1)) + (IntKind.u64.wrap (bt a0 (ji7))))) (wrap64 (x11_1 + 1))) else (none)) else (none)) = some (r1,r2,r3):=by first | (rw [hji7] at H;exact H) | (simp only [hji7] at H ⊢;exact H)
     have hji7w : (IntKind.i64.wrap (a1 + x11_1)) = ji7:=(i64_w _).trans hji7
     by_cases c8 : 0 ≤ (ji7)
     ·rw [if_pos c8] at H
      have c8b0 : decide (0 ≤ (ji7)) = true:=decide_eq_true c8
      clear c8
      by_cases c9 : (ji7) < (a0.size : Int)
      ·rw [if_pos c9] at H
       have c9b0 : decide ((ji7) < (a0.size : Int)) = true:=decide_eq_true c9
       clear c9
       have H':=Aside0.mk H
       clear H
       have p10 : 0 ≤ ((ji7) : Int):=of_decide_eq_true (by first | (with_reducible assumption) | assumption)
       have q10 : (ji7) < (a0.size : Int):=of_decide_eq_true (by first | (with_reducible assumption) | assumption)
       have hx10:=bt_at a0 (ji7)
       replace p10:=eq_true p10
       replace q10:=eq_true q10
       go_wp2
       go_roundg k1
       case measure => have:=HK1.out;omega
       case rel => exact ⟨(IntKind.u64.wrap ((IntKind.u64.wrap (256 * x10_1)) + (IntKind.u64.wrap (bt a0 (ji7))))),(wrap64 (x11_1 + 1)),(by first | rfl | (simp;done) | (simp only [← hji7] <;> (first | rfl | simp)) | (simp [*];done)),(by first | rfl | (simp;done) | (simp [*];done)),H',⟨by have:=HK1.out;omega⟩,by repeat (first | exact Drawn0.refl _ | apply Drawn0.step)⟩
      ·rw [if_neg c9] at H
       exact absurd H (by simp)
     ·rw [if_neg c8] at H
      exact absurd H (by simp)
    ·rw [if_neg c6] at H
     have c6b0 : decide (x11_1 < t101) = false:=decide_eq_false c6
     clear c6
     simp only [Option.some.injEq,Prod.mk.injEq] at H
     obtain ⟨rfl,rfl,rfl⟩:=H
     go_wp2
     go_ret3
     exact ⟨by first | rfl | (simp;done) | (simp [*];done),by repeat (first | exact Drawn0.refl _ | apply Drawn0.step)⟩



/-! ### take_count: function 56 -/
def take_count.f (a0 : Int) : Option (Int):=some (mn (mx a0 0) 8)
set_option maxHeartbeats 8000000 in
set_option maxRecDepth 100000 in
theorem take_count.calls (a0 : Int) (r : Int) (w : World) (h : take_count.f a0 = some r) :
  Calls Try.prog 56 #[.int .i64 a0] w fun e w' => e = .returned (.int .i64 r) ∧ Below w.heap.size w w':=by
 have HB:=Aside0.mk (Below.refl w.heap.size w)
 have H : (some (mn (mx a0 0) 8)) = some r:=h
 clear h
 obtain ⟨ji2,hji2⟩ : ∃ j_ : Int,(mx a0 0) = j_:=⟨_,rfl⟩
 replace H : (some (mn (ji2) 8)) = some r:=by first | (rw [hji2] at H;exact H) | (simp only [hji2] at H ⊢;exact H)
 (try (have hji2l : 0 ≤ ji2:=by (rw [← hji2];unfold mx;(repeat' split) <;> omega)))
 (try (have hji2m : 0 ≤ ji2:=by omega))
 have hji2_ : (if a0 < 0 then 0 else a0) = ji2:=hji2
 obtain ⟨ji3,hji3⟩ : ∃ j_ : Int,(mn (ji2) 8) = j_:=⟨_,rfl⟩
 replace H : (some ji3) = some r:=by first | (rw [hji3] at H;exact H) | (simp only [hji3] at H ⊢;exact H)
 have hji3_ : (if 8 < (ji2) then 8 else (ji2)) = ji3:=hji3
 obtain rfl:=Option.some.inj H
 go_enter Try.func56,Try.ntmps56
 go_wp2
 go_ret
 exact ⟨by first | rfl | (simp [errW_none,errW_some] <;> rfl) | (simp only [← hji2,← hji3];first | rfl | (simp [errW_none,errW_some] <;> rfl)) | (simp [*,errW_none,errW_some] <;> rfl),by repeat (first | (with_reducible first | exact HB.out | apply below_alloc | apply pw_below_drewN | apply below_drew1) | exact HB.out)⟩

end Go.Proofs.Ytebbnjgaikppgaa.PA
