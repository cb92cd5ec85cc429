-- Written by a program of this session (wip/hp) out of the translation of seat Ytnagfbadjbkhmaa.
import Derived.Test.YtnagfbadjbkhmaaPBx0
import Derived.Test.YtnagfbadjbkhmaaPBx2
namespace Go.Proofs.Ytnagfbadjbkhmaa.PB
open Go.RowKit Go.Proofs.YtnagfbadjbkhmaaW.PrintWords Go.Proofs.YtnagfbadjbkhmaaW.PrintLast Go.Proofs.YtnagfbadjbkhmaaW.PrintMore
attribute [local go_sem] max2_int min2_int max_two min_two max_three min_three max_four min_four   -- for this text's walks alone
attribute [local go_sem high] Flt.fold_eq Flt.fold_ne Flt.fold_lt Flt.fold_gt Flt.fold_le Flt.fold_ge Flt.run_bits Flt.run_frombits
set_option linter.unusedVariables false
set_option linter.unusedSimpArgs false

/-! ### edges_Of: function 68, by hand -/
section
open Go.Shelf
theorem edges_Of.run_store_float {P : Program} {w : World} {a : Addr} {m : Mode} (k : FloatKind) (x : Nat) : (store a (.float k x) m).run P w = stored P w a (.float k x) m := run_store P w a _ m rfl
attribute [local go_sem] edges_Of.run_store_float Oper.semAt_some
def edges_Of.miss (x : Nat) : Bool := (rank_Missing.f x).getD false
theorem edges_Of.miss_calls (x : Nat) (W : World) : Calls Try.prog 93 #[.float .f64 x] W fun e w' => e = .returned (.bool (edges_Of.miss x)) ∧ ∃ q, w' = W.drewN q := by
  refine (rank_Missing.calls x (edges_Of.miss x) W rfl).mono ?_
  rintro e w' ⟨rfl, ⟨nd, rfl⟩⟩
  exact ⟨rfl, nd, rfl⟩
theorem edges_Of.miss_enters : ∀ args w, (callFunc 93 args).run Try.prog w = .ok (.enter 93 args) w := enters_of Try.func93 (by kernel_rfl) rfl
theorem edges_Of.cmp_in (n : Nat) (x y : Nat) (W : World) (k : Nat) : CallsIn Fence.wide n Try.prog 95 #[.float .f64 x, .float .f64 y] (W.drewN k) fun e w'' => e = .returned (.int .i64 (SortF.cf x y)) ∧ ∃ m, w'' = W.drewN m :=
  (callsIn_wide.2 (SortF.calls x y (W.drewN k))).mono fun e w' ⟨he, m, hm⟩ => ⟨he, k + m, by rw [hm, World.drewN_drewN]⟩
/-- One place more. -/
def edges_Of.step (s : List Nat) (z : Nat × List Nat) (i : Nat) : Nat × List Nat := if SortF.cf (s.getD i 0) z.1 > 0 then (s.getD i 0, z.2 ++ [s.getD i 0]) else z
def edges_Of.run (s : List Nat) (ps : List (Fin s.length)) : Nat × List Nat := ps.foldl (fun z i => edges_Of.step s z i.1) (s.getD 0 0, [])
theorem edges_Of.run_snoc (s : List Nat) (ps : List (Fin s.length)) (i : Fin s.length) : edges_Of.run s (ps ++ [i]) = edges_Of.step s (edges_Of.run s ps) i.1 := by simp [edges_Of.run]
theorem edges_Of.fold_len (s : List Nat) : ∀ (ps : List (Fin s.length)) (z : Nat × List Nat), (ps.foldl (fun z i => edges_Of.step s z i.1) z).2.length ≤ z.2.length + ps.length
  | [], z => by simp
  | i :: ps, z => by
    have := edges_Of.fold_len s ps (edges_Of.step s z i.1)
    have h2 : (edges_Of.step s z i.1).2.length ≤ z.2.length + 1 := by unfold edges_Of.step; split <;> simp
    simp only [List.foldl_cons, List.length_cons]; omega
theorem edges_Of.run_len (s : List Nat) (ps : List (Fin s.length)) : (edges_Of.run s ps).2.length ≤ ps.length := by
  have := edges_Of.fold_len s ps (s.getD 0 0, []); simpa [edges_Of.run] using this
def edges_Of.cut (s : List Nat) (bins : Nat) : List Nat := if h : 0 < s.length then (edges_Of.run s (FPlaces.places s.length bins h)).2 else []
def edges_Of.f (l0 : List Nat) (a1 : Int) : Option (List Nat) := if a1 < 2 ∨ 256 < a1 then some [] else (rank_Sort.f (l0.length + 1) l0).bind fun s =>
  if (FDel.kept edges_Of.miss s).length ≤ 1000000 then some (edges_Of.cut (FDel.kept edges_Of.miss s) a1.toNat) else none
theorem edges_Of.info : (Try.prog.info? 36).map (fun i => (i.zero, i.size, i.bytes)) = some (some (.float .f64 0), 1, 8) := by kernel_rfl
theorem edges_Of.row_nil (w : World) : Kd.R Flt.kf 36 w w.heap.size (fun _ => True) (.slice none 0 0) [] := Kd.R_nil _ _ _ _ _
theorem edges_Of.keeps_drewN (B : Nat) (W : World) (n : Nat) : KeepsFrom B W (W.drewN n) := KeepsOthers.from (W := W) (W' := W.drewN n) ⟨Nat.le_refl W.heap.size, fun _ _ h _ => h⟩ B
theorem edges_Of.row_ge {W : World} {base : Nat} {e : TypeId} {size k : Nat} {v : Value} {xs : List Value} (h : W.ownsRow base e size v k xs) (b : Nat) (hb : b < base) : v.ownBlock ≠ some b := by
  rcases h.2 with ⟨rfl, _⟩ | ⟨g, cap, cur, rfl, hg, _⟩
  · simp [Value.ownBlock]
  · simp [Value.ownBlock]; omega
theorem edges_Of.row_less {W : World} {base b' : Nat} {e : TypeId} {size k : Nat} {v : Value} {xs : List Value} (h : W.ownsRow base e size v k xs) (hb : b' ≤ base) : W.ownsRow b' e size v k xs := by
  refine ⟨h.1, ?_⟩
  rcases h.2 with q | ⟨g, cap, cur, e1, hg, r⟩
  · exact .inl q
  · exact .inr ⟨g, cap, cur, e1, by omega, r⟩
set_option maxRecDepth 100000 in
set_option maxHeartbeats 4000000 in
theorem edges_Of.calls (A0 : Option Addr) (c0 : Nat) (l0 : List Nat) (a1 : Int) (r : List Nat) (w : World) (hr0 : Kd.C Flt.kf w A0 l0.length l0) (hc0 : l0.length ≤ c0) (h : edges_Of.f l0 a1 = some r) :
    Calls Try.prog 68 #[.slice A0 l0.length c0, .int .i64 a1] w fun e w' => ∃ v0_ : Value, e = .returned (v0_) ∧ Kd.R Flt.kf 36 w' w.heap.size (fun _ => True) v0_ r ∧ Below w.heap.size w w' := by
  obtain ⟨i0, hi, hz0, hz1, hz2⟩ := info_parts edges_Of.info
  refine (callsIn_wide (n := 5)).1 ?_
  refine callsIn_of_wp_marks Try.func68 rfl trivial ?_ rfl
  simp only [Try.ntmps68, List.size_toArray, List.length_cons, List.length_nil, Nat.reduceAdd, Nat.reduceSub, Array.replicate_succ, Array.replicate_zero, List.push_toArray, List.append_toArray, List.nil_append, List.cons_append]
  unfold edges_Of.f at h
  by_cases hb : a1 < 2
  · rw [if_pos (Or.inl hb)] at h
    obtain rfl := Option.some.inj h
    have d0 : decide (a1 < 2) = true := decide_eq_true hb
    gi_wp2
    exact ⟨_, results_tmp rfl _ _ _, _, rfl, edges_Of.row_nil _, Below.refl _ _⟩
  by_cases hb2 : 256 < a1
  · rw [if_pos (Or.inr hb2)] at h
    obtain rfl := Option.some.inj h
    have d0 : decide (a1 < 2) = false := decide_eq_false hb
    have d1 : decide (a1 > 256) = true := decide_eq_true hb2
    gi_wp2
    exact ⟨_, results_tmp rfl _ _ _, _, rfl, edges_Of.row_nil _, Below.refl _ _⟩
  have d0 : decide (a1 < 2) = false := decide_eq_false hb
  have d1 : decide (a1 > 256) = false := decide_eq_false hb2
  rw [if_neg (by omega)] at h
  replace h := Option.bind_eq_some_iff.mp h
  obtain ⟨s0, hs0, h⟩ := h
  gi_wp2_with (refine ⟨trivial, ?_⟩; gi_at_call 92; refine (callsIn_wide.2 (rank_Sort.calls (l0.length + 1) A0 c0 l0 s0 w hr0 hc0 hs0)).mono ?_; rintro e w1 ⟨v1, rfl, hR1, hB1⟩; obtain ⟨A1, c1, rfl⟩ := Kd.R_slice hR1; clear hs0)
  refine ⟨trivial, ?_⟩
  gi_at_call 91; refine (callsIn_wide.2 (FDel.del_calls edges_Of.miss 93 edges_Of.miss_enters edges_Of.miss_calls hR1)).mono ?_; rintro e w2 ⟨A2, c2, rfl, hc2, hC2, hB2⟩; clear hR1
  generalize FDel.kept edges_Of.miss s0 = s at *
  by_cases hne : s.length = 0
  · have dn : (((s.length : Nat) : Int) == 0) = true := beq_iff_eq.2 (by omega)
    have HN := Lib.hid hne; clear hne
    have hr : r = [] := by
      have hn := HN.out
      rw [if_pos (by omega)] at h
      have := Option.some.inj h
      rw [← this, edges_Of.cut, dif_neg (by omega)]
    subst hr
    gi_wp2
    refine ⟨_, results_tmp rfl _ _ _, _, rfl, Kd.R_nil _ _ _ _ _, ?_⟩
    exact (hB1.trans hB2).trans (((Below.refl _ w2).alloc (Nat.le_refl _) _).mono (by have := hB1.size; have := hB2.size; omega))
  have dn : (((s.length : Nat) : Int) == 0) = false := beq_eq_false_iff_ne.2 (by omega)
  obtain ⟨ad, rfl, hx0⟩ := Flt.at_kf hC2 0 (by omega) (by omega)
  rw [show ad.add (0 : Int).toNat = ad by cases ad with | mk b o q => cases q <;> simp [Addr.add]] at hx0
  have hx1 : ∀ o, (w2.alloc o).cell? ad = some (.float .f64 (rdOf (0 : Nat) s 0)) := fun o => (World.cell?_alloc_lt w2 o _ (World.block_lt_of_cell? w2 _ hx0)).trans hx0
  have hx2 : ∀ o o', ((w2.alloc o).alloc o').cell? ad = some (.float .f64 (rdOf (0 : Nat) s 0)) := fun o o' => (World.cell?_alloc_lt _ o' _ (World.block_lt_of_cell? _ _ (hx1 o))).trans (hx1 o)
  have p0 : (0 : Int) < (s.length : Int) := by omega
  have HN := Lib.hid hne; clear hne
  gi_wp2_with (refine ⟨trivial, ?_⟩; gi_at_call 94; refine (FPlaces.places_in 4 _ _ _).mono ?_; rintro e w3 ⟨rfl, rfl⟩)
  obtain ⟨W0, hW0⟩ : ∃ W0, (((((w2.alloc (Obj.cells #[Value.slice (some ad) s.length c2] 30)).alloc (Obj.cells #[Value.slice none 0 0] 30)).alloc (Obj.cells #[Value.float FloatKind.f64 (rdOf 0 s 0)] 36)).alloc (Obj.cells #[Value.int IntKind.i64 s.length] 3)).alloc (Obj.cells #[Value.int IntKind.i64 a1] 3)) = W0 := ⟨_, rfl⟩
  have bS := (((Boxed.new w2 30 (.slice (some ad) s.length c2)).alloc (Obj.cells #[Value.slice none 0 0] 30)).alloc (Obj.cells #[Value.float FloatKind.f64 (rdOf 0 s 0)] 36)).alloc (Obj.cells #[Value.int IntKind.i64 s.length] 3) |>.alloc (Obj.cells #[Value.int IntKind.i64 a1] 3)
  have bO := ((Boxed.new (w2.alloc (Obj.cells #[Value.slice (some ad) s.length c2] 30)) 30 (.slice none 0 0)).alloc (Obj.cells #[Value.float FloatKind.f64 (rdOf 0 s 0)] 36)).alloc (Obj.cells #[Value.int IntKind.i64 s.length] 3) |>.alloc (Obj.cells #[Value.int IntKind.i64 a1] 3)
  have bL := ((Boxed.new ((w2.alloc (Obj.cells #[Value.slice (some ad) s.length c2] 30)).alloc (Obj.cells #[Value.slice none 0 0] 30)) 36 (.float .f64 (rdOf 0 s 0))).alloc (Obj.cells #[Value.int IntKind.i64 s.length] 3)).alloc (Obj.cells #[Value.int IntKind.i64 a1] 3)
  have bN := (Boxed.new (((w2.alloc (Obj.cells #[Value.slice (some ad) s.length c2] 30)).alloc (Obj.cells #[Value.slice none 0 0] 30)).alloc (Obj.cells #[Value.float FloatKind.f64 (rdOf 0 s 0)] 36)) 3 (.int .i64 s.length)).alloc (Obj.cells #[Value.int IntKind.i64 a1] 3)
  have bB := Boxed.new ((((w2.alloc (Obj.cells #[Value.slice (some ad) s.length c2] 30)).alloc (Obj.cells #[Value.slice none 0 0] 30)).alloc (Obj.cells #[Value.float FloatKind.f64 (rdOf 0 s 0)] 36)).alloc (Obj.cells #[Value.int IntKind.i64 s.length] 3)) 3 (.int .i64 a1)
  have hB0 : Below w2.heap.size w2 W0 := by rw [← hW0]; exact (((((Below.refl _ w2).alloc (Nat.le_refl _) _).alloc (by simp) _).alloc (by simp; omega) _).alloc (by simp; omega) _).alloc (by simp; omega) _
  have hzW : W0.heap.size = w2.heap.size + 5 := by rw [← hW0]; simp
  rw [hW0] at bS bO bL bN bB
  simp only [World.size_alloc] at bO bL bN bB
  rw [hW0]
  clear hW0 hx1 hx2
  have hlen : 0 < s.length := by have := HN.out; omega
  by_cases hbig : s.length ≤ 1000000
  case neg => rw [if_neg hbig] at h; cases h
  rw [if_pos hbig] at h
  obtain rfl := Option.some.inj h
  have hcells : ∀ (i : Fin s.length) W, Below (w2.heap.size + 1) W0 W → W.cell? (ad.add i.1) = some (.float .f64 (s.getD i.1 0)) := by
    intro i W hb
    obtain ⟨ad', e, hx⟩ := Flt.at_kf hC2 (i.1 : Int) (by omega) (by have := i.2; omega)
    cases e
    simp only [Int.toNat_natCast, rdOf] at hx
    have hlt := World.block_lt_of_cell? w2 _ hx
    exact (hb.cell (p := ad.add i.1) (by omega)).trans ((hB0.cell (p := ad.add i.1) hlt).trans hx)
  have hbin : ((a1.toNat : Nat) : Int) = a1 := by omega
  have hseq : SeqStopsK Fence.wide 4 Try.prog 99 #[.pointer (some ⟨w2.heap.size + 1 + 1 + 1 + 1, 0, none⟩), .pointer (some ⟨w2.heap.size + 1 + 1 + 1, 0, none⟩)] (fun x : Fin s.length => #[Value.int .i64 (x.1 : Int)])
      (FPlaces.Keep2 (w2.heap.size + 4) (w2.heap.size + 3)) (fun ys => ys = FPlaces.places s.length a1.toNat hlen) (fun pre => pre <+: FPlaces.places s.length a1.toNat hlen) a1.toNat W0 := fun l J Jx W hW hJ hJx hY h0 =>
    FPlaces.places1_in 4 (by omega) l (w2.heap.size + 4) (w2.heap.size + 3) s.length a1.toNat hlen (by omega) (by omega) (by omega) J Jx hY W
      (by rw [hbin]; exact (hW.cell (p := ⟨w2.heap.size + 4, 0, none⟩) (by simp; omega)).trans bB.cell) ((hW.cell (p := ⟨w2.heap.size + 3, 0, none⟩) (by simp; omega)).trans bN.cell) h0
  refine wpIn_rangeFunc_ownG rfl (show 1 ≤ 5 by omega) (gf := 99) (lb := #[.pointer (some ⟨w2.heap.size + 1 + 1 + 1 + 1, 0, none⟩), .pointer (some ⟨w2.heap.size + 1 + 1 + 1, 0, none⟩)]) rfl trivial (enters_of Try.func99 (by kernel_rfl) rfl)
    hseq FPlaces.Keep2.trans (fun W l o o' h1 h2 h3 h4 => FPlaces.Keep2.put (w := W0) (by omega) (by omega) W l o o' h1 h2 h3 h4) (Below.refl _ _) (fun _ => rfl)
    (fun pre W => (∃ v, Boxed W (w2.heap.size + 1) 30 v ∧ W.ownsRow W0.heap.size 36 1 v (edges_Of.run s pre).2.length ((edges_Of.run s pre).2.map (Value.float .f64)) ∧ Boxed W (w2.heap.size + 2) 36 (.float .f64 (edges_Of.run s pre).1)) ∧ Below (w2.heap.size + 1) W0 W)
    (fun _ _ _ => False)
    ?own
    (fun _ _ _ _ _ hs _ _ => hs)
    ⟨⟨_, bO, World.ownsRow_nil _ _ _ _, by simpa [edges_Of.run, rdOf] using bL⟩, Below.refl _ _⟩
    (fun x => { tmps :=
        #[Value.slice A0 l0.length c0, Value.int IntKind.i64 a1, undef, undef, Value.slice none 0 0,
          Value.pointer (some { block := w2.heap.size, off := 0 }),
          Value.pointer (some { block := w2.heap.size + 1, off := 0 }),
          Value.pointer (some { block := w2.heap.size + 1 + 1, off := 0 }), Value.int .i64 (x.1 : Int), Value.int IntKind.i64 a1,
          Value.bool false, Value.bool false, Value.int IntKind.i64 a1, Value.bool false, Value.bool false,
          Value.slice A0 l0.length c0, Value.slice A1 s0.length c1, Value.slice (some ad) s.length c2,
          Value.slice (some ad) s.length c2, Value.int IntKind.i64 ↑s.length, Value.bool false,
          Value.slice (some ad) s.length c2, Value.pointer (some ad), Value.float FloatKind.f64 (rdOf 0 s 0),
          Value.slice (some ad) s.length c2, Value.int IntKind.i64 ↑s.length, Value.int IntKind.i64 a1,
          Value.func (Fn.func 99) #[]
            #[Value.pointer (some { block := w2.heap.size + 1 + 1 + 1 + 1, off := 0 }),
              Value.pointer (some { block := w2.heap.size + 1 + 1 + 1, off := 0 })],
          Value.int .i64 (x.1 : Int), undef, undef, undef, undef, undef, undef, undef, undef, undef, undef, undef, undef, undef, undef,
          undef, undef], defers := [] }) ?assign ?body ?done ?stop
  case own =>
    rintro pre X Y row ⟨⟨v, h1, h2, h3⟩, h4⟩ hg hr
    have hne : ∀ k : Nat, k < W0.heap.size → some k ≠ row := fun k hk e => by have := (hr k e.symm).1; omega
    refine ⟨⟨v, h1.kept hg (hne _ (by omega)), h2.kept hg ?_, h3.kept hg (hne _ (by omega))⟩, h4.grown hg (by have := h4.size; omega) (fun k e => by have := (hr k e).1; omega)⟩
    rcases h2.2 with ⟨rfl, _⟩ | ⟨g, cap, cur, rfl, _, hgb, _⟩
    · exact .inl rfl
    · refine .inr fun e' => ?_
      obtain ⟨_, o, ho, hc⟩ := hr g (by simpa [Value.ownBlock] using e'.symm)
      rw [hgb] at ho; cases ho; cases hc
  case assign =>
    intro l x W K hK
    gi_wp2
    exact hK
  case body =>
    rintro l pre ⟨i, hi'⟩ W ⟨⟨v, hv, hrow, hL⟩, hB⟩ hpl
    have hct := (hB.cell (p := ⟨w2.heap.size, 0, none⟩) (by simp)).trans bS.cell
    have hci := hcells ⟨i, hi'⟩ W hB
    have hcl := hL.cell
    have hfl := hL.frozen
    have hrs := edges_Of.run_snoc s pre ⟨i, hi'⟩
    have hrl := edges_Of.run_len s pre
    have q0 : (0 : Int) ≤ (i : Int) := by omega
    have q1 : (i : Int) < (s.length : Int) := by omega
    dsimp only at hci hrs
    have hm : Try.prog.follows .mixedOrders = true := by kernel_rfl
    have hn1 : 1 ≤ 3 := by omega
    clear hseq hcells hx0 hC2 hc2 bS bO bL bN bB hB0 p0
    generalize hz : edges_Of.run s pre = z at *
    generalize hxv : s.getD i 0 = xv at *
    by_cases hgt : SortF.cf xv z.1 > 0
    · have d2 : decide (SortF.cf xv z.1 > 0) = true := decide_eq_true hgt
      have Hrs : Hid (edges_Of.run s (pre ++ [⟨i, hi'⟩]) = (xv, z.2 ++ [xv])) := by unfold Hid; rw [hrs, edges_Of.step, hxv, if_pos hgt]
      clear hrs hgt
      gi_wp2
      gi_region_with_o (refine ⟨trivial, ?_⟩; gi_at_call 95; refine (CallsIn.inRound l (callsIn_wide.2 (SortF.calls xv z.1 _))).mono ?_; rintro e w' ⟨rfl, m, rfl⟩)
      all_goals
        obtain ⟨W1, hW1⟩ : ∃ W1, W.drewN (1 + m) = W1 := ⟨_, rfl⟩
        have hv1 : Boxed W1 (w2.heap.size + 1) 30 v := by rw [← hW1]; exact hv
        have hL1 : Boxed W1 (w2.heap.size + 2) 36 (.float .f64 z.1) := by rw [← hW1]; exact hL
        have hrow1 : W1.ownsRow W0.heap.size 36 1 v z.2.length (z.2.map (Value.float .f64)) := by rw [← hW1]; exact hrow
        have hB1 : Below (w2.heap.size + 1) W0 W1 := by rw [← hW1]; exact below_drewN hB _
        have hk1 : KeepsOthers W W1 := by rw [← hW1]; exact ⟨Nat.le_refl _, fun _ _ h _ => h⟩
        have hct1 : W1.cell? ⟨w2.heap.size, 0, none⟩ = some (.slice (some ad) s.length c2) := by rw [← hW1]; exact hct
        have hci1 : W1.cell? (ad.add i) = some (.float .f64 xv) := by rw [← hW1]; exact hci
        have hq : ∀ k : Nat, W1.heap[k]? = W.heap[k]? := by rw [← hW1]; exact fun _ => rfl
        rw [hW1]
        clear hW1 hct hci hfl hcl hv hL hrow hB
        have hcl1 := hL1.cell
        have hfl1 := hL1.frozen
        have hv2 := hv1.kept (grownBy_setCell' W1 (w2.heap.size + 2) (.float .f64 xv)) (by simp)
        have hL2 := hL1.set (.float .f64 xv)
        have hrow2 := hrow1.kept (grownBy_setCell' W1 (w2.heap.size + 2) (.float .f64 xv)) (.inr (edges_Of.row_ge hrow1 _ (by omega)))
        have hB2' := hB1.setCell (p := ⟨w2.heap.size + 2, 0, none⟩) (by simp) (.float .f64 xv)
        have hk2 := hk1.trans (KeepsOthers.setCell W1 ⟨w2.heap.size + 2, 0, none⟩ (.float .f64 xv))
        have hq2 : ∀ k : Nat, k ≠ w2.heap.size + 2 → (W1.setCell ⟨w2.heap.size + 2, 0, none⟩ (.float .f64 xv)).heap[k]? = W.heap[k]? := fun k hk => (Below.heap_setCell _ _ _ k hk).trans (hq k)
        have hc2' := hv2.cell
        have hcl2 := hL2.cell
        have hsz : (W1.setCell ⟨w2.heap.size + 2, 0, none⟩ (.float .f64 xv)).heap.size = W1.heap.size := by simp [World.setCell]
        have hnew : ∀ (j : Nat) (u : Value), [Value.float .f64 xv][j]? = some u → ((W1.setCell ⟨w2.heap.size + 2, 0, none⟩ (.float .f64 xv)).alloc (.cells #[.float .f64 xv] 36)).cell? ((⟨W1.heap.size, 0, none⟩ : Addr).add j) = some u := by
          rw [← hsz]; exact cell_one_new _ _ _
        have hzl : W0.heap.size ≤ W1.heap.size := hB1.size
        have hml : z.2.length + 1 ≤ maxLen := by unfold maxLen; omega
        gi_wp2_with (gi_at_builtin; refine wpListIn_append_own _ rfl _ _ 30 rfl W0.heap.size 36 i0 (.float .f64 0) 1 8 Try.underlying30 hi hz0 hz1 hz2 rfl (by decide) _ _ _ rfl (hrow2.alloc _) ⟨W1.heap.size, 0, none⟩ 1 1 [.float .f64 xv] rfl rfl hnew (by simp [Value.oneCell']) hml (by omega) (by simp; omega) ?_; intro v' w4 hown' hgrow _; obtain ⟨g', cap', rfl⟩ := ownsRow_succ hown'; obtain ⟨hv3, hv4, _, hk4, hb4⟩ := hv2.appended (by decide) (edges_Of.row_less hrow2 (b' := w2.heap.size + 1) (by omega)) (by simp; omega) (Nat.le_refl _) (edges_Of.row_less hown' (b' := w2.heap.size + 1) (by omega)) hgrow; have hc3 := hv3.cell; have hf3 := hv3.frozen)
        have hk5 : ∀ k : Nat, k < W0.heap.size → k ≠ w2.heap.size + 1 → (w4.setCell ⟨w2.heap.size + 1, 0, none⟩ (.slice (some ⟨g', 0, none⟩) (z.2.length + 1) cap')).heap[k]? = (W1.setCell ⟨w2.heap.size + 2, 0, none⟩ (.float .f64 xv)).heap[k]? := fun k hk hne =>
          (Below.heap_setCell _ _ _ k hne).trans ((hgrow.block k (by simp; omega) (fun e => edges_Of.row_ge hrow2 k hk e.symm)).trans (Below.heap_alloc _ _ _ (by simp; omega)))
        refine ⟨(hk2.trans hk4).from _, ⟨(hk5 _ (by omega) (by omega)).trans (hq2 _ (by omega)), (hk5 _ (by omega) (by omega)).trans (hq2 _ (by omega))⟩, ⟨_, hv4, ?_, ?_⟩, hB2'.trans hb4⟩
        · rw [Hrs.out]
          simpa using hown'.kept (grownBy_setCell' w4 (w2.heap.size + 1) _) (.inr (edges_Of.row_ge hown' _ (by omega)))
        · rw [Hrs.out]
          exact (hk5 _ (by omega) (by omega)).trans hL2
    · have d2 : decide (SortF.cf xv z.1 > 0) = false := decide_eq_false hgt
      have Hrs : Hid (edges_Of.run s (pre ++ [⟨i, hi'⟩]) = z) := by unfold Hid; rw [hrs, edges_Of.step, hxv, if_neg hgt]
      clear hrs hgt
      gi_wp2
      gi_region_with_o (refine ⟨trivial, ?_⟩; gi_at_call 95; refine (CallsIn.inRound l (callsIn_wide.2 (SortF.calls xv z.1 _))).mono ?_; rintro e w' ⟨rfl, m, rfl⟩)
      all_goals gi_wp2
      all_goals exact ⟨edges_Of.keeps_drewN _ _ _, ⟨rfl, rfl⟩, ⟨v, hv, by rw [Hrs.out]; exact hrow, by rw [Hrs.out]; exact hL⟩, below_drewN hB _⟩
  case done =>
    rintro D ys W hD rfl ⟨⟨v, hv, hrow, hL⟩, hB⟩ hK
    have hc := hv.cell
    gi_wp2
    refine ⟨by simp, .inl ⟨_, _, rfl, run_takeDeferred hK, ?_⟩⟩
    refine ⟨_, results_tmp rfl _ _ _, v, rfl, ?_, ?_⟩
    · rw [edges_Of.cut, dif_pos hlen]
      exact Kd.R_of_own (edges_Of.row_less (ownsRow_putObj hrow _ hK rfl) (by have := hB1.size; have := hB2.size; omega)) (fun _ _ => trivial)
    · refine (((hB1.trans hB2).trans (hB0.mono (by have := hB1.size; have := hB2.size; omega))).trans (hB.mono (by have := hB1.size; have := hB2.size; omega))).trans ?_
      exact belowK_b (w := w) (Nat.le_refl _) W D _ _ (by have := hB1.size; have := hB2.size; omega) hK rfl rfl
  case stop =>
    rintro D c pre W _ _ h _
    exact h.elim
end


/-! ### bins_Edges: function 26 -/
def bins_Edges.l0 : Nat → List (List Nat) → Int → Int → Int → Int → Int → Int → Int → Int → Int → Int → Int → List Nat → List Int → Option ((List (List Nat)))
  | 0, _, _, _, _, _, _, _, _, _, _, _, _, _, _ => none
  | k + 1, x3, x9, x10, x150000, x150001, x150002, x150003, x150004, x150005, x150006, x150007, x150008, x150009, x150010 => if x10 < x9 then ((dataset_Column.f x150000 x150001 x150002 x150003 x150004 x150005 x150006 x150007 x150008 x150009 x150010 x10).bind fun t151 => ((edges_Of.f t151 x150002).bind fun t154 => (if x3.length < 5864062014805 then (bins_Edges.l0 k (x3 ++ [t154]) x9 (wrap64 (x10 + 1)) x150000 x150001 x150002 x150003 x150004 x150005 x150006 x150007 x150008 x150009 x150010) else (none)))) else (some x3)
def bins_Edges.f (k : Nat) (a0_0 : Int) (a0_1 : Int) (a0_2 : Int) (a0_3 : Int) (a0_4 : Int) (a0_5 : Int) (a0_6 : Int) (a0_7 : Int) (a0_8 : Int) (l0_9 : List Nat) (l0_10 : List Int) : Option ((List (List Nat))) := (bins_shaped.f a0_0 a0_1 a0_2 a0_3 a0_4 a0_5 a0_6 a0_7 a0_8 l0_9 l0_10).bind fun t150 => (if t150 = true then (bins_Edges.l0 k ([] : List (List Nat)) a0_8 0 a0_0 a0_1 a0_2 a0_3 a0_4 a0_5 a0_6 a0_7 a0_8 l0_9 l0_10) else (some ([] : List (List Nat))))
theorem bins_Edges.mono_l : ∀ k, (∀ y0 y1 y2 y3 y4 y5 y6 y7 y8 y9 y10 y11 y12 y13, LeO (bins_Edges.l0 k y0 y1 y2 y3 y4 y5 y6 y7 y8 y9 y10 y11 y12 y13) (bins_Edges.l0 (k + 1) y0 y1 y2 y3 y4 y5 y6 y7 y8 y9 y10 y11 y12 y13))
  | 0 => fun _ _ _ _ _ _ _ _ _ _ _ _ _ _ r h => by simp [bins_Edges.l0] at h
  | k + 1 => by
    have ih0 := bins_Edges.mono_l k
    · intro y0 y1 y2 y3 y4 y5 y6 y7 y8 y9 y10 y11 y12 y13
      unfold bins_Edges.l0
      repeat' first
      | (with_reducible exact ih0 _ _ _ _ _ _ _ _ _ _ _ _ _ _)
      | (with_reducible exact LeO.refl _)
      | (with_reducible exact LeO.none _)
      | (with_reducible refine LeO.ite ?_ ?_)
      | (with_reducible refine LeO.bind ?_ (fun _ => ?_))
      | exact ih0 _ _ _ _ _ _ _ _ _ _ _ _ _ _
      | exact LeO.none _
      | refine LeO.ite ?_ ?_
      | refine LeO.bind ?_ (fun _ => ?_)
theorem bins_Edges.mono : ∀ a0 a1 a2 a3 a4 a5 a6 a7 a8 a9 a10 k, LeO (bins_Edges.f k a0 a1 a2 a3 a4 a5 a6 a7 a8 a9 a10) (bins_Edges.f (k + 1) a0 a1 a2 a3 a4 a5 a6 a7 a8 a9 a10) := by
  intro a0 a1 a2 a3 a4 a5 a6 a7 a8 a9 a10 k
  have ih0 := bins_Edges.mono_l k
  unfold bins_Edges.f
  repeat' first
      | (with_reducible exact ih0 _ _ _ _ _ _ _ _ _ _ _ _ _ _)
      | (with_reducible exact LeO.refl _)
      | (with_reducible exact LeO.none _)
      | (with_reducible refine LeO.ite ?_ ?_)
      | (with_reducible refine LeO.bind ?_ (fun _ => ?_))
      | exact ih0 _ _ _ _ _ _ _ _ _ _ _ _ _ _
      | exact LeO.none _
      | refine LeO.ite ?_ ?_
      | refine LeO.bind ?_ (fun _ => ?_)
def bins_Edges.T7 : Bool × List (List Nat × List Nat) := (true, [([], []), ([], []), ([], []), ([1, 2], [1, 2]), ([], []), ([4], [4]), ([5], [5]), ([3, 6, 3], [3, 6]), ([7], [7]), ([0, 8, 7], [0, 8]), ([9, 9, 0, 1, 2, 3, 4, 5, 6, 7, 8, 9], [0, 9])])
def bins_Edges.B7 : List Nat := [0, 0, 0, 6, 0, 16, 48, 126, 254, 511, 1023]
theorem bins_Edges.tab7 : rtab .any (opsOf Try.f26 7) = bins_Edges.T7 := by kernel_rfl
theorem bins_Edges.bits7 : waitsOk bins_Edges.T7.2 bins_Edges.B7 = true := by kernel_rfl
set_option maxHeartbeats 8000000 in
set_option maxRecDepth 100000 in
theorem bins_Edges.calls (k : Nat) (a0_0 : Int) (a0_1 : Int) (a0_2 : Int) (a0_3 : Int) (a0_4 : Int) (a0_5 : Int) (a0_6 : Int) (a0_7 : Int) (a0_8 : Int) (A0_9 : Option Addr) (c0_9 : Nat) (l0_9 : List Nat) (A0_10 : Option Addr) (c0_10 : Nat) (l0_10 : List Int) (r : List (List Nat)) (w : World) (hr0_9 : Kd.C Flt.kf w A0_9 l0_9.length l0_9) (hc0_9 : l0_9.length ≤ c0_9) (hr0_10 : Kd.C (Kd.int .i64) w A0_10 l0_10.length l0_10) (hc0_10 : l0_10.length ≤ c0_10) (h : bins_Edges.f k a0_0 a0_1 a0_2 a0_3 a0_4 a0_5 a0_6 a0_7 a0_8 l0_9 l0_10 = some r) :
    Calls Try.prog 26 #[.agg #[.int .i64 a0_0, .int .i64 a0_1, .int .i64 a0_2, .int .i64 a0_3, .int .i64 a0_4, .int .i64 a0_5, .int .i64 a0_6, .int .i64 a0_7, .int .i64 a0_8, .slice A0_9 l0_9.length c0_9, .slice A0_10 l0_10.length c0_10]] w fun e w' => ∃ v0_ : Value, e = .returned (v0_) ∧ Kd.S (Kd.slice 36 Flt.kf) 30 w' w.heap.size (fun _ => True) v0_ r ∧ Below w.heap.size w w' := by
  have hu32 := Try.underlying32
  have HR0_9 := Aside0.mk hr0_9
  have HC0_9 := Aside0.mk hc0_9
  clear hr0_9 hc0_9
  have HR0_10 := Aside0.mk hr0_10
  have HC0_10 := Aside0.mk hc0_10
  clear hr0_10 hc0_10
  have HB := Aside0.mk (Below.refl w.heap.size w)
  have H : ((bins_shaped.f a0_0 a0_1 a0_2 a0_3 a0_4 a0_5 a0_6 a0_7 a0_8 l0_9 l0_10).bind fun t150 => (if t150 = true then (bins_Edges.l0 k ([] : List (List Nat)) a0_8 0 a0_0 a0_1 a0_2 a0_3 a0_4 a0_5 a0_6 a0_7 a0_8 l0_9 l0_10) else (some ([] : List (List Nat))))) = some r := h
  clear h
  replace H := Option.bind_eq_some_iff.mp H
  obtain ⟨t150, A20, H⟩ := H
  replace H : (if t150 = true then (bins_Edges.l0 k ([] : List (List Nat)) a0_8 0 a0_0 a0_1 a0_2 a0_3 a0_4 a0_5 a0_6 a0_7 a0_8 l0_9 l0_10) else (some ([] : List (List Nat)))) = some r := H
  have A2 := Aside0.mk A20
  clear A20
  by_cases c3 : t150 = true
  · subst c3
    have H1 : (bins_Edges.l0 k ([] : List (List Nat)) a0_8 0 a0_0 a0_1 a0_2 a0_3 a0_4 a0_5 a0_6 a0_7 a0_8 l0_9 l0_10) = some r := by rw [if_pos rfl] at H; exact H
    clear H
    have H := H1
    clear H1
    have H' := Aside0.mk H
    clear H
    go_enter Try.func26, Try.ntmps26
    go_wp2_with (first | ((with_reducible refine gate_dst (N := 1) rfl ?_); refine box_event ?hg (N := 1) ?hd (cs := #[.int .i64 a0_0, .int .i64 a0_1, .int .i64 a0_2, .int .i64 a0_3, .int .i64 a0_4, .int .i64 a0_5, .int .i64 a0_6, .int .i64 a0_7, .int .i64 a0_8, .slice A0_9 l0_9.length c0_9, .slice A0_10 l0_10.length c0_10]) (t := 32) ?hr ?_; (case hd => rfl); (case hg => rfl); (case hr => first | (go_simp; done) | (go_simp; rfl)); intro gb149 hg w4 hbox hb; have n0_ := Aside0.mk (below_step (by repeat (first | (with_reducible first | exact HB.out | apply below_alloc | apply pw_below_drewN | apply below_drew1) | exact HB.out)) hb); have n1_ := Aside0.mk (hbox); have n2_ := Aside0.mk ((by rw [hg]; exact (below_size (by repeat (first | (with_reducible first | exact HB.out | apply below_alloc | apply pw_below_drewN | apply below_drew1) | exact HB.out))) : w.heap.size ≤ gb149)); have n3_ := Aside0.mk ((by rw [hg]; exact (below_size (by repeat (first | (with_reducible first | exact HB.out | apply below_alloc | apply pw_below_drewN | apply below_drew1) | exact HB.out))) : w.heap.size ≤ gb149)); clear HB; have HB := n0_; have BK149 := n1_; have GW149 := n2_; have GE149 := n3_; clear n0_ n1_ n2_ n3_; clear hb hbox hg; have hcz5_0 : w4.cell? ⟨gb149, 0, none⟩ = some (.int .i64 a0_0) := (blk_cell BK149.out 0).trans rfl; have hcz5_1 : w4.cell? ⟨gb149, 1, none⟩ = some (.int .i64 a0_1) := (blk_cell BK149.out 1).trans rfl; have hcz5_2 : w4.cell? ⟨gb149, 2, none⟩ = some (.int .i64 a0_2) := (blk_cell BK149.out 2).trans rfl; have hcz5_3 : w4.cell? ⟨gb149, 3, none⟩ = some (.int .i64 a0_3) := (blk_cell BK149.out 3).trans rfl; have hcz5_4 : w4.cell? ⟨gb149, 4, none⟩ = some (.int .i64 a0_4) := (blk_cell BK149.out 4).trans rfl; have hcz5_5 : w4.cell? ⟨gb149, 5, none⟩ = some (.int .i64 a0_5) := (blk_cell BK149.out 5).trans rfl; have hcz5_6 : w4.cell? ⟨gb149, 6, none⟩ = some (.int .i64 a0_6) := (blk_cell BK149.out 6).trans rfl; have hcz5_7 : w4.cell? ⟨gb149, 7, none⟩ = some (.int .i64 a0_7) := (blk_cell BK149.out 7).trans rfl; have hcz5_8 : w4.cell? ⟨gb149, 8, none⟩ = some (.int .i64 a0_8) := (blk_cell BK149.out 8).trans rfl; have hcz5_9 : w4.cell? ⟨gb149, 9, none⟩ = some (.slice A0_9 l0_9.length c0_9) := (blk_cell BK149.out 9).trans rfl; have hcz5_10 : w4.cell? ⟨gb149, 10, none⟩ = some (.slice A0_10 l0_10.length c0_10) := (blk_cell BK149.out 10).trans rfl; have hfz5_0 := blk_frozen BK149.out 0; have hfz5_1 := blk_frozen BK149.out 1; have hfz5_2 := blk_frozen BK149.out 2; have hfz5_3 := blk_frozen BK149.out 3; have hfz5_4 := blk_frozen BK149.out 4; have hfz5_5 := blk_frozen BK149.out 5; have hfz5_6 := blk_frozen BK149.out 6; have hfz5_7 := blk_frozen BK149.out 7; have hfz5_8 := blk_frozen BK149.out 8; have hfz5_9 := blk_frozen BK149.out 9; have hfz5_10 := blk_frozen BK149.out 10) | ((with_reducible refine gate_callee (f := 67) rfl ?_); refine goesL_ (some 6) rfl rfl Try.func67 (by kernel_rfl) rfl #[.agg #[.int .i64 a0_0, .int .i64 a0_1, .int .i64 a0_2, .int .i64 a0_3, .int .i64 a0_4, .int .i64 a0_5, .int .i64 a0_6, .int .i64 a0_7, .int .i64 a0_8, .slice A0_9 l0_9.length c0_9, .slice A0_10 l0_10.length c0_10]] rfl (by (try simp only [List.map_toArray, List.map_cons, List.map_nil]); first | done | rfl | (simp only [List.length_drop, List.length_take]; rfl)) ?_; (with_reducible refine (bins_shaped.calls a0_0 a0_1 a0_2 a0_3 a0_4 a0_5 a0_6 a0_7 a0_8 _ _ l0_9 _ _ l0_10 true _ ?side1 ?side2 ?side3 ?side4 A2.out).mono ?_); (case side1 => repeat (first | exact (Kd.C_below HR0_9.out HB.out) | (with_reducible refine Kd.C_alloc ?_ _) | (with_reducible refine Kd.C_drewN ?_ _) | (with_reducible refine Kd.C_drew ?_))); (case side2 => exact HC0_9.out); (case side3 => repeat (first | exact (Kd.C_below HR0_10.out HB.out) | (with_reducible refine Kd.C_alloc ?_ _) | (with_reducible refine Kd.C_drewN ?_ _) | (with_reducible refine Kd.C_drew ?_))); (case side4 => exact HC0_10.out); rintro e w6 ⟨rfl, hb⟩; refine ⟨_, rfl, ?_⟩; have n0_ := Aside0.mk (blk_below (g := gb149) (o := .cells #[.int .i64 a0_0, .int .i64 a0_1, .int .i64 a0_2, .int .i64 a0_3, .int .i64 a0_4, .int .i64 a0_5, .int .i64 a0_6, .int .i64 a0_7, .int .i64 a0_8, .slice A0_9 l0_9.length c0_9, .slice A0_10 l0_10.length c0_10] 32 (0, 0)) (by (with_reducible repeat (first | refine blk_drewN ?_ _ | refine blk_drew ?_ | refine blk_alloc ?_ _)); exact BK149.out) hb); have n1_ := Aside0.mk (below_step (by repeat (first | (with_reducible first | exact HB.out | apply below_alloc | apply pw_below_drewN | apply below_drew1 | refine below_set ?_ GE149.out) | exact HB.out)) hb); clear BK149; clear HB; have BK149 := n0_; have HB := n1_; clear n0_ n1_; (try clear hb); (try clear hb2); (try clear hk); (try clear hi); have hcz7_0 : w6.cell? ⟨gb149, 0, none⟩ = some (.int .i64 a0_0) := (blk_cell BK149.out 0).trans rfl; have hcz7_1 : w6.cell? ⟨gb149, 1, none⟩ = some (.int .i64 a0_1) := (blk_cell BK149.out 1).trans rfl; have hcz7_2 : w6.cell? ⟨gb149, 2, none⟩ = some (.int .i64 a0_2) := (blk_cell BK149.out 2).trans rfl; have hcz7_3 : w6.cell? ⟨gb149, 3, none⟩ = some (.int .i64 a0_3) := (blk_cell BK149.out 3).trans rfl; have hcz7_4 : w6.cell? ⟨gb149, 4, none⟩ = some (.int .i64 a0_4) := (blk_cell BK149.out 4).trans rfl; have hcz7_5 : w6.cell? ⟨gb149, 5, none⟩ = some (.int .i64 a0_5) := (blk_cell BK149.out 5).trans rfl; have hcz7_6 : w6.cell? ⟨gb149, 6, none⟩ = some (.int .i64 a0_6) := (blk_cell BK149.out 6).trans rfl; have hcz7_7 : w6.cell? ⟨gb149, 7, none⟩ = some (.int .i64 a0_7) := (blk_cell BK149.out 7).trans rfl; have hcz7_8 : w6.cell? ⟨gb149, 8, none⟩ = some (.int .i64 a0_8) := (blk_cell BK149.out 8).trans rfl; have hcz7_9 : w6.cell? ⟨gb149, 9, none⟩ = some (.slice A0_9 l0_9.length c0_9) := (blk_cell BK149.out 9).trans rfl; have hcz7_10 : w6.cell? ⟨gb149, 10, none⟩ = some (.slice A0_10 l0_10.length c0_10) := (blk_cell BK149.out 10).trans rfl; have hfz7_0 := blk_frozen BK149.out 0; have hfz7_1 := blk_frozen BK149.out 1; have hfz7_2 := blk_frozen BK149.out 2; have hfz7_3 := blk_frozen BK149.out 3; have hfz7_4 := blk_frozen BK149.out 4; have hfz7_5 := blk_frozen BK149.out 5; have hfz7_6 := blk_frozen BK149.out 6; have hfz7_7 := blk_frozen BK149.out 7; have hfz7_8 := blk_frozen BK149.out 8; have hfz7_9 := blk_frozen BK149.out 9; have hfz7_10 := blk_frozen BK149.out 10))
    go_loopg [3, 10] k (fun kq v3 v10 w' => ∃ (x3_1 : List (List Nat)) (x10_1 : Int), v10 = .int .i64 x10_1 ∧ Aside0 (bins_Edges.l0 kq x3_1 a0_8 x10_1 a0_0 a0_1 a0_2 a0_3 a0_4 a0_5 a0_6 a0_7 a0_8 l0_9 l0_10 = some r) ∧ Aside0 (kq ≤ k) ∧ Aside0 (Kd.S (Kd.slice 36 Flt.kf) 30 w' w.heap.size (fun _ => True) v3 x3_1) ∧ Aside0 (w'.heap[gb149]? = some (.cells #[.int .i64 a0_0, .int .i64 a0_1, .int .i64 a0_2, .int .i64 a0_3, .int .i64 a0_4, .int .i64 a0_5, .int .i64 a0_6, .int .i64 a0_7, .int .i64 a0_8, (.slice A0_9 l0_9.length c0_9), (.slice A0_10 l0_10.length c0_10)] 32 (0, 0))) ∧ Aside0 (Below w.heap.size w w'))
    case atStart => exact ⟨(([] : List (List Nat))), (0), (by first | rfl | (simp; done) | (simp [*]; done)), H', ⟨Nat.le_refl _⟩, ⟨by first | exact Kd.S_nil _ _ _ _ _ | exact Kd.N_nil _ _ _ _ _ | exact Kd.V_nil _ _ _ _ _ | exact Kd.Q_nil _ _ _ _ _ | exact Kd.R_nil _ _ _ _ _⟩, ⟨by (with_reducible repeat (first | refine blk_drewN ?_ _ | refine blk_drew ?_ | refine blk_alloc ?_ _)); exact BK149.out⟩, ⟨by repeat (first | (with_reducible first | exact HB.out | apply below_alloc | apply pw_below_drewN | apply below_drew1 | refine below_set ?_ GE149.out) | exact HB.out)⟩⟩
    case round =>
      clear H'
      try clear c2
      try clear p2
      try clear c3
      try clear c6
      try clear hcz5_0
      try clear hcz5_1
      try clear hcz5_10
      try clear hcz5_2
      try clear hcz5_3
      try clear hcz5_4
      try clear hcz5_5
      try clear hcz5_6
      try clear hcz5_7
      try clear hcz5_8
      try clear hcz5_9
      try clear hcz7_0
      try clear hcz7_1
      try clear hcz7_10
      try clear hcz7_2
      try clear hcz7_3
      try clear hcz7_4
      try clear hcz7_5
      try clear hcz7_6
      try clear hcz7_7
      try clear hcz7_8
      try clear hcz7_9
      try clear hfz5_0
      try clear hfz5_1
      try clear hfz5_10
      try clear hfz5_2
      try clear hfz5_3
      try clear hfz5_4
      try clear hfz5_5
      try clear hfz5_6
      try clear hfz5_7
      try clear hfz5_8
      try clear hfz5_9
      try clear hfz7_0
      try clear hfz7_1
      try clear hfz7_10
      try clear hfz7_2
      try clear hfz7_3
      try clear hfz7_4
      try clear hfz7_5
      try clear hfz7_6
      try clear hfz7_7
      try clear hfz7_8
      try clear hfz7_9
      obtain ⟨x3_1, x10_1, rfl, HA, HK1, HO_3, BK149, HB⟩ := hrel
      cases gk with
      | zero => exact absurd HA.out (by simp [bins_Edges.l0])
      | succ k1 =>
        have H := HA.out
        clear HA
        simp only [bins_Edges.l0] at H
        by_cases c8 : x10_1 < a0_8
        · rw [if_pos c8] at H
          have c8b0 : decide (x10_1 < a0_8) = true := decide_eq_true c8
          clear c8
          replace H := Option.bind_eq_some_iff.mp H
          obtain ⟨t151, A90, H⟩ := H
          replace H : ((edges_Of.f t151 a0_2).bind fun t154 => (if x3_1.length < 5864062014805 then (bins_Edges.l0 k1 (x3_1 ++ [t154]) a0_8 (wrap64 (x10_1 + 1)) a0_0 a0_1 a0_2 a0_3 a0_4 a0_5 a0_6 a0_7 a0_8 l0_9 l0_10) else (none))) = some r := H
          have A9 := Aside0.mk A90
          clear A90
          replace H := Option.bind_eq_some_iff.mp H
          obtain ⟨t154, A100, H⟩ := H
          replace H : (if x3_1.length < 5864062014805 then (bins_Edges.l0 k1 (x3_1 ++ [t154]) a0_8 (wrap64 (x10_1 + 1)) a0_0 a0_1 a0_2 a0_3 a0_4 a0_5 a0_6 a0_7 a0_8 l0_9 l0_10) else (none)) = some r := H
          have A10 := Aside0.mk A100
          clear A100
          by_cases c11 : x3_1.length < 5864062014805
          · rw [if_pos c11] at H
            have LMc11 := Aside0.mk c11
            clear c11
            obtain ⟨y157, hy157⟩ : ∃ y_ : List (List Nat), y_ = (x3_1 ++ [t154]) := ⟨_, rfl⟩
            replace H : (bins_Edges.l0 k1 y157 a0_8 (wrap64 (x10_1 + 1)) a0_0 a0_1 a0_2 a0_3 a0_4 a0_5 a0_6 a0_7 a0_8 l0_9 l0_10) = some r := by first | (rw [hy157]; with_reducible exact H) | (have H2_ := (Option.bind_some _ _).symm.trans H; rw [hy157]; with_reducible exact H2_) | (have H2_ := (Option.bind_some _ _).symm.trans H; with_reducible exact H2_) | with_reducible exact H | (rw [hy157]; exact H) | exact H
            have Ny157 := Aside0.mk hy157
            clear hy157
            have H' := Aside0.mk H
            clear H
            try go_wp2
            have n0_ := Aside0.mk (Kd.S_drew HO_3.out)
            have n1_ := Aside0.mk (blk_drew BK149.out)
            have n2_ := Aside0.mk (below_drew1 HB.out)
            clear HO_3
            clear BK149
            clear HB
            have HO_3 := n0_
            have BK149 := n1_
            have HB := n2_
            clear n0_ n1_ n2_
            refine start_ (n := 11) (S := fun w' => w'.cell? ⟨gb149, 0, none⟩ = some (.int .i64 a0_0) ∧ w'.cell? ⟨gb149, 1, none⟩ = some (.int .i64 a0_1) ∧ w'.cell? ⟨gb149, 2, none⟩ = some (.int .i64 a0_2) ∧ w'.cell? ⟨gb149, 3, none⟩ = some (.int .i64 a0_3) ∧ w'.cell? ⟨gb149, 4, none⟩ = some (.int .i64 a0_4) ∧ w'.cell? ⟨gb149, 5, none⟩ = some (.int .i64 a0_5) ∧ w'.cell? ⟨gb149, 6, none⟩ = some (.int .i64 a0_6) ∧ w'.cell? ⟨gb149, 7, none⟩ = some (.int .i64 a0_7) ∧ w'.cell? ⟨gb149, 8, none⟩ = some (.int .i64 a0_8) ∧ w'.cell? ⟨gb149, 9, none⟩ = some (.slice A0_9 l0_9.length c0_9) ∧ w'.cell? ⟨gb149, 10, none⟩ = some (.slice A0_10 l0_10.length c0_10)) (ds := []) #[false, false, false, false, false, false, false, false, false, false, false] (by kernel_rfl) rfl rfl ⟨(blk_cell BK149.out 0).trans rfl, (blk_cell BK149.out 1).trans rfl, (blk_cell BK149.out 2).trans rfl, (blk_cell BK149.out 3).trans rfl, (blk_cell BK149.out 4).trans rfl, (blk_cell BK149.out 5).trans rfl, (blk_cell BK149.out 6).trans rfl, (blk_cell BK149.out 7).trans rfl, (blk_cell BK149.out 8).trans rfl, (blk_cell BK149.out 9).trans rfl, (blk_cell BK149.out 10).trans rfl⟩ (fun hHeld => ?_); refine with_tabW bins_Edges.tab7 bins_Edges.bits7 (fun HT_ HW_ => ?_)
            generalize wr.drew = w12 at HO_3 BK149 HB hHeld ⊢
            refine pure_ (i := 0) (N := some 13) (v := ?_) (a' := ?_) #[true, false, false, false, false, false, false, false, false, false, false] rfl rfl (any_of HT_.out (by kernel_rfl)) (fun _ _ _ h => h) (Or.inl ⟨by rfl, ?_⟩) ?_ ?_
            rotate_left
            · intro w'
              go_simp
              with_reducible rfl
            rotate_left
            · simp only [Act.put, List.setIfInBounds_toArray, List.set_cons_zero, List.set_cons_succ, i64_w, i32_w]
              rfl
            refine pure_ (i := 2) (N := some 15) (v := ?_) (a' := ?_) #[true, false, true, false, false, false, false, false, false, false, false] rfl rfl (any_of HT_.out (by kernel_rfl)) (fun _ _ _ h => h) (Or.inl ⟨by rfl, ?_⟩) ?_ ?_
            rotate_left
            · intro w'
              go_simp
              with_reducible rfl
            rotate_left
            · simp only [Act.put, List.setIfInBounds_toArray, List.set_cons_zero, List.set_cons_succ, i64_w, i32_w]
              rfl
            refine pure_ (i := 4) (N := some 17) (v := ?_) (a' := ?_) #[true, false, true, false, true, false, false, false, false, false, false] rfl rfl (any_of HT_.out (by kernel_rfl)) (fun _ _ _ h => h) (Or.inl ⟨by rfl, ?_⟩) ?_ ?_
            rotate_left
            · intro w'
              go_simp
              with_reducible rfl
            rotate_left
            · simp only [Act.put, List.setIfInBounds_toArray, List.set_cons_zero, List.set_cons_succ, i64_w, i32_w]
              rfl
            refine pure_ (i := 5) (N := some 18) (v := ?_) (a' := ?_) #[true, false, true, false, true, true, false, false, false, false, false] rfl rfl (any_of HT_.out (by kernel_rfl)) (fun _ _ _ h => h) (Or.inl ⟨by rfl, ?_⟩) ?_ ?_
            rotate_left
            · intro w'
              go_simp
              with_reducible rfl
            rotate_left
            · simp only [Act.put, List.setIfInBounds_toArray, List.set_cons_zero, List.set_cons_succ, i64_w, i32_w]
              rfl
            refine take_ (i := 1) (N := some 14) (v := ?_) (a' := ?_) #[true, true, true, false, true, true, false, false, false, false, false] rfl rfl (take_ofW HT_.out HW_.out (by kernel_rfl)) (fun _ _ _ h => h) (Or.inl ⟨by rfl, ?_⟩) hHeld ?_ ?_
            rotate_left
            · rintro w' ⟨s0, s1, s2, s3, s4, s5, s6, s7, s8, s9, s10⟩
              go_simp
              with_reducible rfl
            rotate_left
            · simp only [Act.put, List.setIfInBounds_toArray, List.set_cons_zero, List.set_cons_succ, i64_w, i32_w]
              rfl
            refine take_ (i := 6) (N := some 19) (v := ?_) (a' := ?_) #[true, true, true, false, true, true, true, false, false, false, false] rfl rfl (take_ofW HT_.out HW_.out (by kernel_rfl)) (fun _ _ _ h => h) (Or.inl ⟨by rfl, ?_⟩) hHeld ?_ ?_
            rotate_left
            · rintro w' ⟨s0, s1, s2, s3, s4, s5, s6, s7, s8, s9, s10⟩
              go_simp
              with_reducible rfl
            rotate_left
            · simp only [Act.put, List.setIfInBounds_toArray, List.set_cons_zero, List.set_cons_succ, i64_w, i32_w]
              rfl
            refine one_ (i := 3) (N := some 16) #[true, true, true, true, true, true, true, false, false, false, false] rfl rfl (one_of HT_.out (by kernel_rfl)) (by decide) (fun K hK => ?_)
            refine goes_ Try.func15 (by kernel_rfl) rfl #[.agg #[.int .i64 a0_0, .int .i64 a0_1, .int .i64 a0_2, .int .i64 a0_3, .int .i64 a0_4, .int .i64 a0_5, .int .i64 a0_6, .int .i64 a0_7, .int .i64 a0_8, .slice A0_9 l0_9.length c0_9, .slice A0_10 l0_10.length c0_10], .int .i64 x10_1] (by rfl) rfl rfl (by (try simp only [List.map_toArray, List.map_cons, List.map_nil]); first | done | rfl | (simp only [List.length_drop, List.length_take]; rfl)) ?_
            with_reducible refine (dataset_Column.calls a0_0 a0_1 a0_2 a0_3 a0_4 a0_5 a0_6 a0_7 a0_8 _ _ l0_9 _ _ l0_10 x10_1 t151 _ ?side1 ?side2 ?side3 ?side4 A9.out).mono ?_
            (case side1 => repeat (first | exact (Kd.C_below HR0_9.out HB.out) | (with_reducible refine Kd.C_alloc ?_ _) | (with_reducible refine Kd.C_drewN ?_ _) | (with_reducible refine Kd.C_drew ?_)))
            (case side2 => exact HC0_9.out)
            (case side3 => repeat (first | exact (Kd.C_below HR0_10.out HB.out) | (with_reducible refine Kd.C_alloc ?_ _) | (with_reducible refine Kd.C_drewN ?_ _) | (with_reducible refine Kd.C_drew ?_)))
            (case side4 => exact HC0_10.out)
            rintro e w13 ⟨v152, rfl, ho0, hb⟩
            refine ⟨_, rfl, ?_⟩
            have n0_ := Aside0.mk (Kd.S_elder' (by (with_reducible repeat (first | apply Kd.S_alloc | apply Kd.S_drewN | apply Kd.S_drew)); exact HO_3.out) (Kd.R_base ho0) hb)
            have n1_ := Aside0.mk (Kd.R_lower ho0 (below_size (by repeat (first | (with_reducible first | exact HB.out | apply below_alloc | apply pw_below_drewN | apply below_drew1 | refine below_set ?_ GE149.out) | exact HB.out))))
            have n2_ := Aside0.mk (blk_below (g := gb149) (o := .cells #[.int .i64 a0_0, .int .i64 a0_1, .int .i64 a0_2, .int .i64 a0_3, .int .i64 a0_4, .int .i64 a0_5, .int .i64 a0_6, .int .i64 a0_7, .int .i64 a0_8, .slice A0_9 l0_9.length c0_9, .slice A0_10 l0_10.length c0_10] 32 (0, 0)) (by (with_reducible repeat (first | refine blk_drewN ?_ _ | refine blk_drew ?_ | refine blk_alloc ?_ _)); exact BK149.out) hb)
            have n3_ := Aside0.mk (below_step (by repeat (first | (with_reducible first | exact HB.out | apply below_alloc | apply pw_below_drewN | apply below_drew1 | refine below_set ?_ GE149.out) | exact HB.out)) hb)
            clear HO_3
            clear BK149
            clear HB
            have HO_3 := n0_
            have HO153 := n1_
            have BK149 := n2_
            have HB := n3_
            clear n0_ n1_ n2_ n3_
            (try clear hb)
            (try clear hb2)
            (try clear hk)
            (try clear hi)
            (try clear ho0)
            obtain ⟨Ao14, co14, eo14⟩ := Kd.R_slice HO153.out
            (first | subst eo14 | (injection eo14 with f1_ f2_ f3_; have f4_ := f1_.symm; have f5_ := f3_.symm; clear f1_ f2_ f3_; subst f4_; subst f5_))
            refine hK.out _ _ ⟨(blk_cell BK149.out 0).trans rfl, (blk_cell BK149.out 1).trans rfl, (blk_cell BK149.out 2).trans rfl, (blk_cell BK149.out 3).trans rfl, (blk_cell BK149.out 4).trans rfl, (blk_cell BK149.out 5).trans rfl, (blk_cell BK149.out 6).trans rfl, (blk_cell BK149.out 7).trans rfl, (blk_cell BK149.out 8).trans rfl, (blk_cell BK149.out 9).trans rfl, (blk_cell BK149.out 10).trans rfl⟩ (fun hHeld => ?_)
            clear hK K
            refine norm_ (a' := ?_) ?_ ?_
            rotate_left
            · show Act.put _ (some 16) _ = _
              simp only [Act.put, List.setIfInBounds_toArray, List.set_cons_zero, List.set_cons_succ, i64_w, i32_w]
              rfl
            refine one_ (i := 7) (N := some 20) #[true, true, true, true, true, true, true, true, false, false, false] rfl rfl (one_of HT_.out (by kernel_rfl)) (by decide) (fun K hK => ?_)
            refine goes_ Try.func68 (by kernel_rfl) rfl #[.slice Ao14 t151.length co14, .int .i64 a0_2] (by rfl) rfl rfl (by (try simp only [List.map_toArray, List.map_cons, List.map_nil]); first | done | rfl | (simp only [List.length_drop, List.length_take]; rfl)) ?_
            with_reducible refine (edges_Of.calls _ _ t151 a0_2 t154 _ ?side1 ?side2 A10.out).mono ?_
            (case side1 => repeat (first | exact (Kd.R_reads' HO153.out).2.2 | (with_reducible refine Kd.C_alloc ?_ _) | (with_reducible refine Kd.C_drewN ?_ _) | (with_reducible refine Kd.C_drew ?_)))
            (case side2 => exact (Kd.R_reads' HO153.out).2.1)
            rintro e w15 ⟨v155, rfl, ho0, hb⟩
            refine ⟨_, rfl, ?_⟩
            have n0_ := Aside0.mk (Kd.S_elder' (by (with_reducible repeat (first | apply Kd.S_alloc | apply Kd.S_drewN | apply Kd.S_drew)); exact HO_3.out) (Kd.R_base ho0) hb)
            have n1_ := Aside0.mk (Kd.R_elder' (by (with_reducible repeat (first | apply Kd.R_alloc | apply Kd.R_drewN | apply Kd.R_drew)); exact HO153.out) (Kd.R_base ho0) hb)
            have n2_ := Aside0.mk (Kd.R_lower (Kd.R_new' ho0 (Kd.R_lt (by (with_reducible repeat (first | apply Kd.R_alloc | apply Kd.R_drewN | apply Kd.R_drew)); exact HO153.out))) (below_size (by repeat (first | (with_reducible first | exact HB.out | apply below_alloc | apply pw_below_drewN | apply below_drew1 | refine below_set ?_ GE149.out) | exact HB.out))))
            have n3_ := Aside0.mk (blk_below (g := gb149) (o := .cells #[.int .i64 a0_0, .int .i64 a0_1, .int .i64 a0_2, .int .i64 a0_3, .int .i64 a0_4, .int .i64 a0_5, .int .i64 a0_6, .int .i64 a0_7, .int .i64 a0_8, .slice A0_9 l0_9.length c0_9, .slice A0_10 l0_10.length c0_10] 32 (0, 0)) (by (with_reducible repeat (first | refine blk_drewN ?_ _ | refine blk_drew ?_ | refine blk_alloc ?_ _)); exact BK149.out) hb)
            have n4_ := Aside0.mk (below_step (by repeat (first | (with_reducible first | exact HB.out | apply below_alloc | apply pw_below_drewN | apply below_drew1 | refine below_set ?_ GE149.out) | exact HB.out)) hb)
            clear HO_3
            clear HO153
            clear BK149
            clear HB
            have HO_3 := n0_
            have HO153 := n1_
            have HO156 := n2_
            have BK149 := n3_
            have HB := n4_
            clear n0_ n1_ n2_ n3_ n4_
            (try clear hb)
            (try clear hb2)
            (try clear hk)
            (try clear hi)
            (try clear ho0)
            obtain ⟨Ao17, co17, eo17⟩ := Kd.R_slice HO156.out
            (first | subst eo17 | (injection eo17 with f1_ f2_ f3_; have f4_ := f1_.symm; have f5_ := f3_.symm; clear f1_ f2_ f3_; subst f4_; subst f5_))
            refine hK.out _ _ ⟨(blk_cell BK149.out 0).trans rfl, (blk_cell BK149.out 1).trans rfl, (blk_cell BK149.out 2).trans rfl, (blk_cell BK149.out 3).trans rfl, (blk_cell BK149.out 4).trans rfl, (blk_cell BK149.out 5).trans rfl, (blk_cell BK149.out 6).trans rfl, (blk_cell BK149.out 7).trans rfl, (blk_cell BK149.out 8).trans rfl, (blk_cell BK149.out 9).trans rfl, (blk_cell BK149.out 10).trans rfl⟩ (fun hHeld => ?_)
            clear hK K
            refine norm_ (a' := ?_) ?_ ?_
            rotate_left
            · show Act.put _ (some 20) _ = _
              simp only [Act.put, List.setIfInBounds_toArray, List.set_cons_zero, List.set_cons_succ, i64_w, i32_w]
              rfl
            refine one_ (i := 8) (N := some 21) #[true, true, true, true, true, true, true, true, true, false, false] rfl rfl (one_of HT_.out (by kernel_rfl)) (by decide) (fun K hK => ?_)
            refine value_ (w1 := ?_) (v := ?_) (by rfl) rfl ?_ ?_
            rotate_left 2
            · go_simp
              constructor
              · rfl
              · rfl
            refine hK.out _ _ ⟨(blk_cell (blk_alloc BK149.out _) 0).trans rfl, (blk_cell (blk_alloc BK149.out _) 1).trans rfl, (blk_cell (blk_alloc BK149.out _) 2).trans rfl, (blk_cell (blk_alloc BK149.out _) 3).trans rfl, (blk_cell (blk_alloc BK149.out _) 4).trans rfl, (blk_cell (blk_alloc BK149.out _) 5).trans rfl, (blk_cell (blk_alloc BK149.out _) 6).trans rfl, (blk_cell (blk_alloc BK149.out _) 7).trans rfl, (blk_cell (blk_alloc BK149.out _) 8).trans rfl, (blk_cell (blk_alloc BK149.out _) 9).trans rfl, (blk_cell (blk_alloc BK149.out _) 10).trans rfl⟩ (fun hHeld => ?_)
            clear hK K
            refine norm_ (a' := ?_) ?_ ?_
            rotate_left
            · show Act.put _ (some 21) _ = _
              simp only [Act.put, List.setIfInBounds_toArray, List.set_cons_zero, List.set_cons_succ, i64_w, i32_w]
              rfl
            refine one_ (i := 9) (N := some 22) #[true, true, true, true, true, true, true, true, true, true, false] rfl rfl (one_of HT_.out (by kernel_rfl)) (by decide) (fun K hK => ?_)
            refine Kd.S_append_step (Kd.slice 36 Flt.kf) (w0 := w) w.heap.size (by rfl) (.tmp 13) (.tmp 21) 56 30 (.slice none 0 0) 24 rfl Try.underlying56 info30 rfl (by decide) (by omega) u3 x3_1 t154 [.slice Ao17 t154.length co17] (fun k_ => some k_ ≠ (.slice Ao14 t151.length co14 : Value).ownBlock) (fun k_ => some k_ = (.slice Ao17 t154.length co17 : Value).ownBlock) rfl rfl ?aP (fun k_ hk_ => ((Kd.R_mono (ok' := fun k_ => ((fun k_ => some k_ ≠ (.slice Ao14 t151.length co14 : Value).ownBlock)) k_ ∧ some k_ ≠ (u3 : Value).ownBlock) (Kd.R_apart' (HO156.out) (Kd.S_typed HO_3.out) (by decide)) (fun k_ hk => ⟨hk.1.2, hk.2⟩))).1 k_ hk_.symm) ?aF ?aO ?aB ?aS ?aL ?_
            (case aP => exact Kd.M_row (Kd.R_mono (Kd.R_tight rfl (Kd.R_mono (ok' := fun k_ => ((fun k_ => some k_ ≠ (.slice Ao14 t151.length co14 : Value).ownBlock)) k_ ∧ some k_ ≠ (u3 : Value).ownBlock) (Kd.R_apart' (HO156.out) (Kd.S_typed HO_3.out) (by decide)) (fun k_ hk => ⟨hk.1.2, hk.2⟩))) (fun _ h_ => h_)))
            (case aB => exact (by repeat (first | (with_reducible first | exact HB.out | apply below_alloc | apply pw_below_drewN | apply below_drew1 | refine below_set ?_ GE149.out) | exact HB.out)))
            (case aF => exact (fun k_ hk => Kd.fresh' (Kd.R_lt (by (with_reducible repeat (first | apply Kd.R_alloc | apply Kd.R_drewN | apply Kd.R_drew)); exact HO153.out)) k_ hk))
            (case aO => exact (by (with_reducible repeat (first | apply Kd.S_alloc | apply Kd.S_drewN | apply Kd.S_drew)); exact Kd.S_mono HO_3.out (fun k_ hk => ⟨hk.1.2, fun e_ => hk.2 e_⟩)))
            (case aS => exact (below_size (by repeat (first | (with_reducible first | exact HB.out | apply below_alloc | apply pw_below_drewN | apply below_drew1 | refine below_set ?_ GE149.out) | exact HB.out))))
            (case aL => have := LMc11.out; omega)
            intro v158 w16 ho hb hg hat
            rw [← Ny157.out] at ho
            have n0_ := Aside0.mk (blk_grown (g := gb149) (o := .cells #[.int .i64 a0_0, .int .i64 a0_1, .int .i64 a0_2, .int .i64 a0_3, .int .i64 a0_4, .int .i64 a0_5, .int .i64 a0_6, .int .i64 a0_7, .int .i64 a0_8, .slice A0_9 l0_9.length c0_9, .slice A0_10 l0_10.length c0_10] 32 (0, 0)) (by (with_reducible repeat (first | refine blk_drewN ?_ _ | refine blk_drew ?_ | refine blk_alloc ?_ _)); exact BK149.out) hg (Kd.S_ne HO_3.out BK149.out (by decide)))
            have n1_ := Aside0.mk (Kd.R_over' (by (with_reducible repeat (first | apply Kd.R_alloc | apply Kd.R_drewN | apply Kd.R_drew)); exact HO153.out) (Kd.S_typed (by (with_reducible repeat (first | apply Kd.S_alloc | apply Kd.S_drewN | apply Kd.S_drew)); exact HO_3.out)) (by decide) hg)
            have n2_ := Aside0.mk (hb)
            have n3_ := Aside0.mk (ho)
            clear BK149
            clear HO153
            clear HB
            clear HO_3
            clear HO156
            have BK149 := n0_
            have HO153 := n1_
            have HB := n2_
            have HO159 := n3_
            clear n0_ n1_ n2_ n3_
            clear ho hb hg hat
            refine hK.out _ _ ⟨(blk_cell BK149.out 0).trans rfl, (blk_cell BK149.out 1).trans rfl, (blk_cell BK149.out 2).trans rfl, (blk_cell BK149.out 3).trans rfl, (blk_cell BK149.out 4).trans rfl, (blk_cell BK149.out 5).trans rfl, (blk_cell BK149.out 6).trans rfl, (blk_cell BK149.out 7).trans rfl, (blk_cell BK149.out 8).trans rfl, (blk_cell BK149.out 9).trans rfl, (blk_cell BK149.out 10).trans rfl⟩ (fun hHeld => ?_)
            clear hK K
            refine norm_ (a' := ?_) ?_ ?_
            rotate_left
            · show Act.put _ (some 22) _ = _
              simp only [Act.put, List.setIfInBounds_toArray, List.set_cons_zero, List.set_cons_succ, i64_w, i32_w]
              rfl
            refine pure_ (i := 10) (N := some 3) (v := ?_) (a' := ?_) #[true, true, true, true, true, true, true, true, true, true, true] rfl rfl (any_of HT_.out (by kernel_rfl)) (fun _ _ _ h => h) (Or.inl ⟨by rfl, ?_⟩) ?_ ?_
            rotate_left
            · intro w'
              go_simp
              with_reducible rfl
            rotate_left
            · simp only [Act.put, List.setIfInBounds_toArray, List.set_cons_zero, List.set_cons_succ, i64_w, i32_w]
              rfl
            refine done_ (done_of HT_.out (by kernel_rfl)) ?_
            try go_wp2
            go_roundg k1
            case measure => have := HK1.out; omega
            case rel => exact ⟨(y157), (wrap64 (x10_1 + 1)), (by first | rfl | (simp; done) | (simp [*]; done)), H', ⟨by have := HK1.out; omega⟩, ⟨by (with_reducible repeat (first | apply Kd.S_alloc | apply Kd.S_drewN | apply Kd.S_drew)); exact Kd.S_mono HO159.out (fun _ hk => trivial)⟩, ⟨by (with_reducible repeat (first | refine blk_drewN ?_ _ | refine blk_drew ?_ | refine blk_alloc ?_ _)); exact BK149.out⟩, ⟨by repeat (first | (with_reducible first | exact HB.out | apply below_alloc | apply pw_below_drewN | apply below_drew1 | refine below_set ?_ GE149.out) | exact HB.out)⟩⟩
          · rw [if_neg c11] at H
            exact absurd H (by simp)
        · rw [if_neg c8] at H
          have c8b0 : decide (x10_1 < a0_8) = false := decide_eq_false c8
          clear c8
          obtain rfl := Option.some.inj H
          go_wp2
          go_ret
          exact ⟨_, by first | rfl | (simp [errW_none, errW_some] <;> rfl) | (simp [*, errW_none, errW_some] <;> rfl), by (with_reducible repeat (first | apply Kd.S_alloc | apply Kd.S_drewN | apply Kd.S_drew)); exact HO_3.out, by repeat (first | (with_reducible first | exact HB.out | apply below_alloc | apply pw_below_drewN | apply below_drew1 | refine below_set ?_ GE149.out) | exact HB.out)⟩
  · replace c3 := Bool.eq_false_iff.mpr c3
    subst c3
    have H1 : (some ([] : List (List Nat))) = some r := by rw [if_neg (show ¬ (false = true) by decide)] at H; exact H
    clear H
    have H := H1
    clear H1
    obtain rfl := Option.some.inj H
    go_enter Try.func26, Try.ntmps26
    go_wp2_with (first | ((with_reducible refine gate_dst (N := 1) rfl ?_); refine box_event ?hg (N := 1) ?hd (cs := #[.int .i64 a0_0, .int .i64 a0_1, .int .i64 a0_2, .int .i64 a0_3, .int .i64 a0_4, .int .i64 a0_5, .int .i64 a0_6, .int .i64 a0_7, .int .i64 a0_8, .slice A0_9 l0_9.length c0_9, .slice A0_10 l0_10.length c0_10]) (t := 32) ?hr ?_; (case hd => rfl); (case hg => rfl); (case hr => first | (go_simp; done) | (go_simp; rfl)); intro gb149 hg w18 hbox hb; have n0_ := Aside0.mk (below_step (by repeat (first | (with_reducible first | exact HB.out | apply below_alloc | apply pw_below_drewN | apply below_drew1) | exact HB.out)) hb); have n1_ := Aside0.mk (hbox); have n2_ := Aside0.mk ((by rw [hg]; exact (below_size (by repeat (first | (with_reducible first | exact HB.out | apply below_alloc | apply pw_below_drewN | apply below_drew1) | exact HB.out))) : w.heap.size ≤ gb149)); have n3_ := Aside0.mk ((by rw [hg]; exact (below_size (by repeat (first | (with_reducible first | exact HB.out | apply below_alloc | apply pw_below_drewN | apply below_drew1) | exact HB.out))) : w.heap.size ≤ gb149)); clear HB; have HB := n0_; have BK149 := n1_; have GW149 := n2_; have GE149 := n3_; clear n0_ n1_ n2_ n3_; clear hb hbox hg; have hcz19_0 : w18.cell? ⟨gb149, 0, none⟩ = some (.int .i64 a0_0) := (blk_cell BK149.out 0).trans rfl; have hcz19_1 : w18.cell? ⟨gb149, 1, none⟩ = some (.int .i64 a0_1) := (blk_cell BK149.out 1).trans rfl; have hcz19_2 : w18.cell? ⟨gb149, 2, none⟩ = some (.int .i64 a0_2) := (blk_cell BK149.out 2).trans rfl; have hcz19_3 : w18.cell? ⟨gb149, 3, none⟩ = some (.int .i64 a0_3) := (blk_cell BK149.out 3).trans rfl; have hcz19_4 : w18.cell? ⟨gb149, 4, none⟩ = some (.int .i64 a0_4) := (blk_cell BK149.out 4).trans rfl; have hcz19_5 : w18.cell? ⟨gb149, 5, none⟩ = some (.int .i64 a0_5) := (blk_cell BK149.out 5).trans rfl; have hcz19_6 : w18.cell? ⟨gb149, 6, none⟩ = some (.int .i64 a0_6) := (blk_cell BK149.out 6).trans rfl; have hcz19_7 : w18.cell? ⟨gb149, 7, none⟩ = some (.int .i64 a0_7) := (blk_cell BK149.out 7).trans rfl; have hcz19_8 : w18.cell? ⟨gb149, 8, none⟩ = some (.int .i64 a0_8) := (blk_cell BK149.out 8).trans rfl; have hcz19_9 : w18.cell? ⟨gb149, 9, none⟩ = some (.slice A0_9 l0_9.length c0_9) := (blk_cell BK149.out 9).trans rfl; have hcz19_10 : w18.cell? ⟨gb149, 10, none⟩ = some (.slice A0_10 l0_10.length c0_10) := (blk_cell BK149.out 10).trans rfl; have hfz19_0 := blk_frozen BK149.out 0; have hfz19_1 := blk_frozen BK149.out 1; have hfz19_2 := blk_frozen BK149.out 2; have hfz19_3 := blk_frozen BK149.out 3; have hfz19_4 := blk_frozen BK149.out 4; have hfz19_5 := blk_frozen BK149.out 5; have hfz19_6 := blk_frozen BK149.out 6; have hfz19_7 := blk_frozen BK149.out 7; have hfz19_8 := blk_frozen BK149.out 8; have hfz19_9 := blk_frozen BK149.out 9; have hfz19_10 := blk_frozen BK149.out 10) | ((with_reducible refine gate_callee (f := 67) rfl ?_); refine goesL_ (some 6) rfl rfl Try.func67 (by kernel_rfl) rfl #[.agg #[.int .i64 a0_0, .int .i64 a0_1, .int .i64 a0_2, .int .i64 a0_3, .int .i64 a0_4, .int .i64 a0_5, .int .i64 a0_6, .int .i64 a0_7, .int .i64 a0_8, .slice A0_9 l0_9.length c0_9, .slice A0_10 l0_10.length c0_10]] rfl (by (try simp only [List.map_toArray, List.map_cons, List.map_nil]); first | done | rfl | (simp only [List.length_drop, List.length_take]; rfl)) ?_; (with_reducible refine (bins_shaped.calls a0_0 a0_1 a0_2 a0_3 a0_4 a0_5 a0_6 a0_7 a0_8 _ _ l0_9 _ _ l0_10 false _ ?side1 ?side2 ?side3 ?side4 A2.out).mono ?_); (case side1 => repeat (first | exact (Kd.C_below HR0_9.out HB.out) | (with_reducible refine Kd.C_alloc ?_ _) | (with_reducible refine Kd.C_drewN ?_ _) | (with_reducible refine Kd.C_drew ?_))); (case side2 => exact HC0_9.out); (case side3 => repeat (first | exact (Kd.C_below HR0_10.out HB.out) | (with_reducible refine Kd.C_alloc ?_ _) | (with_reducible refine Kd.C_drewN ?_ _) | (with_reducible refine Kd.C_drew ?_))); (case side4 => exact HC0_10.out); rintro e w20 ⟨rfl, hb⟩; refine ⟨_, rfl, ?_⟩; have n0_ := Aside0.mk (blk_below (g := gb149) (o := .cells #[.int .i64 a0_0, .int .i64 a0_1, .int .i64 a0_2, .int .i64 a0_3, .int .i64 a0_4, .int .i64 a0_5, .int .i64 a0_6, .int .i64 a0_7, .int .i64 a0_8, .slice A0_9 l0_9.length c0_9, .slice A0_10 l0_10.length c0_10] 32 (0, 0)) (by (with_reducible repeat (first | refine blk_drewN ?_ _ | refine blk_drew ?_ | refine blk_alloc ?_ _)); exact BK149.out) hb); have n1_ := Aside0.mk (below_step (by repeat (first | (with_reducible first | exact HB.out | apply below_alloc | apply pw_below_drewN | apply below_drew1 | refine below_set ?_ GE149.out) | exact HB.out)) hb); clear BK149; clear HB; have BK149 := n0_; have HB := n1_; clear n0_ n1_; (try clear hb); (try clear hb2); (try clear hk); (try clear hi)))
    go_ret
    exact ⟨_, by first | rfl | (simp [errW_none, errW_some] <;> rfl) | (simp [*, errW_none, errW_some] <;> rfl), by first | exact Kd.S_nil _ _ _ _ _ | exact Kd.N_nil _ _ _ _ _ | exact Kd.V_nil _ _ _ _ _ | exact Kd.Q_nil _ _ _ _ _ | exact Kd.R_nil _ _ _ _ _, by repeat (first | (with_reducible first | exact HB.out | apply below_alloc | apply pw_below_drewN | apply below_drew1 | refine below_set ?_ GE149.out) | exact HB.out)⟩

end Go.Proofs.Ytnagfbadjbkhmaa.PB
