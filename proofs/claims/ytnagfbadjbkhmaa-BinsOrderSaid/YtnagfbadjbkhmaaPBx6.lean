-- Written by a program of this session (wip/hp) out of the translation of seat Ytnagfbadjbkhmaa.
import Derived.Test.YtnagfbadjbkhmaaPBx0
import Derived.Test.YtnagfbadjbkhmaaPBx4
import Derived.Test.YtnagfbadjbkhmaaPBx5
namespace Go.Proofs.Ytnagfbadjbkhmaa.PB
open Go.RowKit Go.Proofs.YtnagfbadjbkhmaaW.PrintWords Go.Proofs.YtnagfbadjbkhmaaW.PrintLast Go.Proofs.YtnagfbadjbkhmaaW.PrintMore
attribute [local go_sem] max2_int min2_int max_two min_two max_three min_three max_four min_four   -- for this text's walks alone
attribute [local go_sem high] Flt.fold_eq Flt.fold_ne Flt.fold_lt Flt.fold_gt Flt.fold_le Flt.fold_ge Flt.run_bits Flt.run_frombits
set_option linter.unusedVariables false
set_option linter.unusedSimpArgs false

/-! ### edges_Of: function 68, by hand -/
section
open Go.Shelf
theorem edges_Of.run_store_float {P : Program} {w : World} {a : Addr} {m : Mode} (k : FloatKind) (x : Nat) : (store a (.float k x) m).run P w = stored P w a (.float k x) m := run_store P w a _ m rfl
attribute [local go_sem] edges_Of.run_store_float Oper.semAt_some
def edges_Of.miss (x : Nat) : Bool := (rank_Missing.f x).getD false
theorem edges_Of.miss_calls (x : Nat) (W : World) : Calls Try.prog 93 #[.float .f64 x] W fun e w' => e = .returned (.bool (edges_Of.miss x)) ∧ ∃ q, w' = W.drewN q := by
  refine (rank_Missing.calls x (edges_Of.miss x) W rfl).mono ?_
  rintro e w' ⟨rfl, ⟨nd, rfl⟩⟩
  exact ⟨rfl, nd, rfl⟩
theorem edges_Of.miss_enters : ∀ args w, (callFunc 93 args).run Try.prog w = .ok (.enter 93 args) w := enters_of Try.func93 (by kernel_rfl) rfl
theorem edges_Of.cmp_in (n : Nat) (x y : Nat) (W : World) (k : Nat) : CallsIn Fence.wide n Try.prog 95 #[.float .f64 x, .float .f64 y] (W.drewN k) fun e w'' => e = .returned (.int .i64 (SortF.cf x y)) ∧ ∃ m, w'' = W.drewN m :=
  (callsIn_wide.2 (SortF.calls x y (W.drewN k))).mono fun e w' ⟨he, m, hm⟩ => ⟨he, k + m, by rw [hm, World.drewN_drewN]⟩
/-- One place more. -/
def edges_Of.step (s : List Nat) (z : Nat × List Nat) (i : Nat) : Nat × List Nat := if SortF.cf (s.getD i 0) z.1 > 0 then (s.getD i 0, z.2 ++ [s.getD i 0]) else z
def edges_Of.run (s : List Nat) (ps : List (Fin s.length)) : Nat × List Nat := ps.foldl (fun z i => edges_Of.step s z i.1) (s.getD 0 0, [])
theorem edges_Of.run_snoc (s : List Nat) (ps : List (Fin s.length)) (i : Fin s.length) : edges_Of.run s (ps ++ [i]) = edges_Of.step s (edges_Of.run s ps) i.1 := by simp [edges_Of.run]
theorem edges_Of.fold_len (s : List Nat) : ∀ (ps : List (Fin s.length)) (z : Nat × List Nat), (ps.foldl (fun z i => edges_Of.step s z i.1) z).2.length ≤ z.2.length + ps.length
  | [], z => by simp
  | i :: ps, z => by
    have := edges_Of.fold_len s ps (edges_Of.step s z i.1)
    have h2 : (edges_Of.step s z i.1).2.length ≤ z.2.length + 1 := by unfold edges_Of.step; split <;> simp
    simp only [List.foldl_cons, List.length_cons]; omega
theorem edges_Of.run_len (s : List Nat) (ps : List (Fin s.length)) : (edges_Of.run s ps).2.length ≤ ps.length := by
  have := edges_Of.fold_len s ps (s.getD 0 0, []); simpa [edges_Of.run] using this
def edges_Of.cut (s : List Nat) (bins : Nat) : List Nat := if h : 0 < s.length then (edges_Of.run s (FPlaces.places s.length bins h)).2 else []
def edges_Of.f (l0 : List Nat) (a1 : Int) : Option (List Nat) := if a1 < 2 ∨ 256 < a1 then some [] else (rank_Sort.f (l0.length + 1) l0).bind fun s =>
  if (FDel.kept edges_Of.miss s).length ≤ 1000000 then some (edges_Of.cut (FDel.kept edges_Of.miss s) a1.toNat) else none
theorem edges_Of.info : (Try.prog.info? 36).map (fun i => (i.zero, i.size, i.bytes)) = some (some (.float .f64 0), 1, 8) := by kernel_rfl
theorem edges_Of.row_nil (w : World) : Kd.R Flt.kf 36 w w.heap.size (fun _ => True) (.slice none 0 0) [] := Kd.R_nil _ _ _ _ _
theorem edges_Of.keeps_drewN (B : Nat) (W : World) (n : Nat) : KeepsFrom B W (W.drewN n) := KeepsOthers.from (W := W) (W' := W.drewN n) ⟨Nat.le_refl W.heap.size, fun _ _ h _ => h⟩ B
theorem edges_Of.row_ge {W : World} {base : Nat} {e : TypeId} {size k : Nat} {v : Value} {xs : List Value} (h : W.ownsRow base e size v k xs) (b : Nat) (hb : b < base) : v.ownBlock ≠ some b := by
  rcases h.2 with ⟨rfl, _⟩ | ⟨g, cap, cur, rfl, hg, _⟩
  · simp [Value.ownBlock]
  · simp [Value.ownBlock]; omega
theorem edges_Of.row_less {W : World} {base b' : Nat} {e : TypeId} {size k : Nat} {v : Value} {xs : List Value} (h : W.ownsRow base e size v k xs) (hb : b' ≤ base) : W.ownsRow b' e size v k xs := by
  refine ⟨h.1, ?_⟩
  rcases h.2 with q | ⟨g, cap, cur, e1, hg, r⟩
  · exact .inl q
  · exact .inr ⟨g, cap, cur, e1, by omega, r⟩
set_option maxRecDepth 100000 in
set_option maxHeartbeats 4000000 in
theorem edges_Of.calls (A0 : Option Addr) (c0 : Nat) (l0 : List Nat) (a1 : Int) (r : List Nat) (w : World) (hr0 : Kd.C Flt.kf w A0 l0.length l0) (hc0 : l0.length ≤ c0) (h : edges_Of.f l0 a1 = some r) :
    Calls Try.prog 68 #[.slice A0 l0.length c0, .int .i64 a1] w fun e w' => ∃ v0_ : Value, e = .returned (v0_) ∧ Kd.R Flt.kf 36 w' w.heap.size (fun _ => True) v0_ r ∧ Below w.heap.size w w' := by
  obtain ⟨i0, hi, hz0, hz1, hz2⟩ := info_parts edges_Of.info
  refine (callsIn_wide (n := 5)).1 ?_
  refine callsIn_of_wp_marks Try.func68 rfl trivial ?_ rfl
  simp only [Try.ntmps68, List.size_toArray, List.length_cons, List.length_nil, Nat.reduceAdd, Nat.reduceSub, Array.replicate_succ, Array.replicate_zero, List.push_toArray, List.append_toArray, List.nil_append, List.cons_append]
  unfold edges_Of.f at h
  by_cases hb : a1 < 2
  · rw [if_pos (Or.inl hb)] at h
    obtain rfl := Option.some.inj h
    have d0 : decide (a1 < 2) = true := decide_eq_true hb
    gi_wp2
    exact ⟨_, results_tmp rfl _ _ _, _, rfl, edges_Of.row_nil _, Below.refl _ _⟩
  by_cases hb2 : 256 < a1
  · rw [if_pos (Or.inr hb2)] at h
    obtain rfl := Option.some.inj h
    have d0 : decide (a1 < 2) = false := decide_eq_false hb
    have d1 : decide (a1 > 256) = true := decide_eq_true hb2
    gi_wp2
    exact ⟨_, results_tmp rfl _ _ _, _, rfl, edges_Of.row_nil _, Below.refl _ _⟩
  have d0 : decide (a1 < 2) = false := decide_eq_false hb
  have d1 : decide (a1 > 256) = false := decide_eq_false hb2
  rw [if_neg (by omega)] at h
  replace h := Option.bind_eq_some_iff.mp h
  obtain ⟨s0, hs0, h⟩ := h
  gi_wp2_with (refine ⟨trivial, ?_⟩; gi_at_call 92; refine (callsIn_wide.2 (rank_Sort.calls (l0.length + 1) A0 c0 l0 s0 w hr0 hc0 hs0)).mono ?_; rintro e w1 ⟨v1, rfl, hR1, hB1⟩; obtain ⟨A1, c1, rfl⟩ := Kd.R_slice hR1; clear hs0)
  refine ⟨trivial, ?_⟩
  gi_at_call 91; refine (callsIn_wide.2 (FDel.del_calls edges_Of.miss 93 edges_Of.miss_enters edges_Of.miss_calls hR1)).mono ?_; rintro e w2 ⟨A2, c2, rfl, hc2, hC2, hB2⟩; clear hR1
  generalize FDel.kept edges_Of.miss s0 = s at *
  by_cases hne : s.length = 0
  · have dn : (((s.length : Nat) : Int) == 0) = true := beq_iff_eq.2 (by omega)
    have HN := Lib.hid hne; clear hne
    have hr : r = [] := by
      have hn := HN.out
      rw [if_pos (by omega)] at h
      have := Option.some.inj h
      rw [← this, edges_Of.cut, dif_neg (by omega)]
    subst hr
    gi_wp2
    refine ⟨_, results_tmp rfl _ _ _, _, rfl, Kd.R_nil _ _ _ _ _, ?_⟩
    exact (hB1.trans hB2).trans (((Below.refl _ w2).alloc (Nat.le_refl _) _).mono (by have := hB1.size; have := hB2.size; omega))
  have dn : (((s.length : Nat) : Int) == 0) = false := beq_eq_false_iff_ne.2 (by omega)
  obtain ⟨ad, rfl, hx0⟩ := Flt.at_kf hC2 0 (by omega) (by omega)
  rw [show ad.add (0 : Int).toNat = ad by cases ad with | mk b o q => cases q <;> simp [Addr.add]] at hx0
  have hx1 : ∀ o, (w2.alloc o).cell? ad = some (.float .f64 (rdOf (0 : Nat) s 0)) := fun o => (World.cell?_alloc_lt w2 o _ (World.block_lt_of_cell? w2 _ hx0)).trans hx0
  have hx2 : ∀ o o', ((w2.alloc o).alloc o').cell? ad = some (.float .f64 (rdOf (0 : Nat) s 0)) := fun o o' => (World.cell?_alloc_lt _ o' _ (World.block_lt_of_cell? _ _ (hx1 o))).trans (hx1 o)
  have p0 : (0 : Int) < (s.length : Int) := by omega
  have HN := Lib.hid hne; clear hne
  gi_wp2_with (refine ⟨trivial, ?_⟩; gi_at_call 94; refine (FPlaces.places_in 4 _ _ _).mono ?_; rintro e w3 ⟨rfl, rfl⟩)
  obtain ⟨W0, hW0⟩ : ∃ W0, (((((w2.alloc (Obj.cells #[Value.slice (some ad) s.length c2] 30)).alloc (Obj.cells #[Value.slice none 0 0] 30)).alloc (Obj.cells #[Value.float FloatKind.f64 (rdOf 0 s 0)] 36)).alloc (Obj.cells #[Value.int IntKind.i64 s.length] 3)).alloc (Obj.cells #[Value.int IntKind.i64 a1] 3)) = W0 := ⟨_, rfl⟩
  have bS := (((Boxed.new w2 30 (.slice (some ad) s.length c2)).alloc (Obj.cells #[Value.slice none 0 0] 30)).alloc (Obj.cells #[Value.float FloatKind.f64 (rdOf 0 s 0)] 36)).alloc (Obj.cells #[Value.int IntKind.i64 s.length] 3) |>.alloc (Obj.cells #[Value.int IntKind.i64 a1] 3)
  have bO := ((Boxed.new (w2.alloc (Obj.cells #[Value.slice (some ad) s.length c2] 30)) 30 (.slice none 0 0)).alloc (Obj.cells #[Value.float FloatKind.f64 (rdOf 0 s 0)] 36)).alloc (Obj.cells #[Value.int IntKind.i64 s.length] 3) |>.alloc (Obj.cells #[Value.int IntKind.i64 a1] 3)
  have bL := ((Boxed.new ((w2.alloc (Obj.cells #[Value.slice (some ad) s.length c2] 30)).alloc (Obj.cells #[Value.slice none 0 0] 30)) 36 (.float .f64 (rdOf 0 s 0))).alloc (Obj.cells #[Value.int IntKind.i64 s.length] 3)).alloc (Obj.cells #[Value.int IntKind.i64 a1] 3)
  have bN := (Boxed.new (((w2.alloc (Obj.cells #[Value.slice (some ad) s.length c2] 30)).alloc (Obj.cells #[Value.slice none 0 0] 30)).alloc (Obj.cells #[Value.float FloatKind.f64 (rdOf 0 s 0)] 36)) 3 (.int .i64 s.length)).alloc (Obj.cells #[Value.int IntKind.i64 a1] 3)
  have bB := Boxed.new ((((w2.alloc (Obj.cells #[Value.slice (some ad) s.length c2] 30)).alloc (Obj.cells #[Value.slice none 0 0] 30)).alloc (Obj.cells #[Value.float FloatKind.f64 (rdOf 0 s 0)] 36)).alloc (Obj.cells #[Value.int IntKind.i64 s.length] 3)) 3 (.int .i64 a1)
  have hB0 : Below w2.heap.size w2 W0 := by rw [← hW0]; exact (((((Below.refl _ w2).alloc (Nat.le_refl _) _).alloc (by simp) _).alloc (by simp; omega) _).alloc (by simp; omega) _).alloc (by simp; omega) _
  have hzW : W0.heap.size = w2.heap.size + 5 := by rw [← hW0]; simp
  rw [hW0] at bS bO bL bN bB
  simp only [World.size_alloc] at bO bL bN bB
  rw [hW0]
  clear hW0 hx1 hx2
  have hlen : 0 < s.length := by have := HN.out; omega
  by_cases hbig : s.length ≤ 1000000
  case neg => rw [if_neg hbig] at h; cases h
  rw [if_pos hbig] at h
  obtain rfl := Option.some.inj h
  have hcells : ∀ (i : Fin s.length) W, Below (w2.heap.size + 1) W0 W → W.cell? (ad.add i.1) = some (.float .f64 (s.getD i.1 0)) := by
    intro i W hb
    obtain ⟨ad', e, hx⟩ := Flt.at_kf hC2 (i.1 : Int) (by omega) (by have := i.2; omega)
    cases e
    simp only [Int.toNat_natCast, rdOf] at hx
    have hlt := World.block_lt_of_cell? w2 _ hx
    exact (hb.cell (p := ad.add i.1) (by omega)).trans ((hB0.cell (p := ad.add i.1) hlt).trans hx)
  have hbin : ((a1.toNat : Nat) : Int) = a1 := by omega
  have hseq : SeqStopsK Fence.wide 4 Try.prog 99 #[.pointer (some ⟨w2.heap.size + 1 + 1 + 1 + 1, 0, none⟩), .pointer (some ⟨w2.heap.size + 1 + 1 + 1, 0, none⟩)] (fun x : Fin s.length => #[Value.int .i64 (x.1 : Int)])
      (FPlaces.Keep2 (w2.heap.size + 4) (w2.heap.size + 3)) (fun ys => ys = FPlaces.places s.length a1.toNat hlen) (fun pre => pre <+: FPlaces.places s.length a1.toNat hlen) a1.toNat W0 := fun l J Jx W hW hJ hJx hY h0 =>
    FPlaces.places1_in 4 (by omega) l (w2.heap.size + 4) (w2.heap.size + 3) s.length a1.toNat hlen (by omega) (by omega) (by omega) J Jx hY W
      (by rw [hbin]; exact (hW.cell (p := ⟨w2.heap.size + 4, 0, none⟩) (by simp; omega)).trans bB.cell) ((hW.cell (p := ⟨w2.heap.size + 3, 0, none⟩) (by simp; omega)).trans bN.cell) h0
  refine wpIn_rangeFunc_ownG rfl (show 1 ≤ 5 by omega) (gf := 99) (lb := #[.pointer (some ⟨w2.heap.size + 1 + 1 + 1 + 1, 0, none⟩), .pointer (some ⟨w2.heap.size + 1 + 1 + 1, 0, none⟩)]) rfl trivial (enters_of Try.func99 (by kernel_rfl) rfl)
    hseq FPlaces.Keep2.trans (fun W l o o' h1 h2 h3 h4 => FPlaces.Keep2.put (w := W0) (by omega) (by omega) W l o o' h1 h2 h3 h4) (Below.refl _ _) (fun _ => rfl)
    (fun pre W => (∃ v, Boxed W (w2.heap.size + 1) 30 v ∧ W.ownsRow W0.heap.size 36 1 v (edges_Of.run s pre).2.length ((edges_Of.run s pre).2.map (Value.float .f64)) ∧ Boxed W (w2.heap.size + 2) 36 (.float .f64 (edges_Of.run s pre).1)) ∧ Below (w2.heap.size + 1) W0 W)
    (fun _ _ _ => False)
    ?own
    (fun _ _ _ _ _ hs _ _ => hs)
    ⟨⟨_, bO, World.ownsRow_nil _ _ _ _, by simpa [edges_Of.run, rdOf] using bL⟩, Below.refl _ _⟩
    (fun x => { tmps :=
        #[Value.slice A0 l0.length c0, Value.int IntKind.i64 a1, undef, undef, Value.slice none 0 0,
          Value.pointer (some { block := w2.heap.size, off := 0 }),
          Value.pointer (some { block := w2.heap.size + 1, off := 0 }),
          Value.pointer (some { block := w2.heap.size + 1 + 1, off := 0 }), Value.int .i64 (x.1 : Int), Value.int IntKind.i64 a1,
          Value.bool false, Value.bool false, Value.int IntKind.i64 a1, Value.bool false, Value.bool false,
          Value.slice A0 l0.length c0, Value.slice A1 s0.length c1, Value.slice (some ad) s.length c2,
          Value.slice (some ad) s.length c2, Value.int IntKind.i64 ↑s.length, Value.bool false,
          Value.slice (some ad) s.length c2, Value.pointer (some ad), Value.float FloatKind.f64 (rdOf 0 s 0),
          Value.slice (some ad) s.length c2, Value.int IntKind.i64 ↑s.length, Value.int IntKind.i64 a1,
          Value.func (Fn.func 99) #[]
            #[Value.pointer (some { block := w2.heap.size + 1 + 1 + 1 + 1, off := 0 }),
              Value.pointer (some { block := w2.heap.size + 1 + 1 + 1, off := 0 })],
          Value.int .i64 (x.1 : Int), undef, undef, undef, undef, undef, undef, undef, undef, undef, undef, undef, undef, undef, undef,
          undef, undef], defers := [] }) ?assign ?body ?done ?stop
  case own =>
    rintro pre X Y row ⟨⟨v, h1, h2, h3⟩, h4⟩ hg hr
    have hne : ∀ k : Nat, k < W0.heap.size → some k ≠ row := fun k hk e => by have := (hr k e.symm).1; omega
    refine ⟨⟨v, h1.kept hg (hne _ (by omega)), h2.kept hg ?_, h3.kept hg (hne _ (by omega))⟩, h4.grown hg (by have := h4.size; omega) (fun k e => by have := (hr k e).1; omega)⟩
    rcases h2.2 with ⟨rfl, _⟩ | ⟨g, cap, cur, rfl, _, hgb, _⟩
    · exact .inl rfl
    · refine .inr fun e' => ?_
      obtain ⟨_, o, ho, hc⟩ := hr g (by simpa [Value.ownBlock] using e'.symm)
      rw [hgb] at ho; cases ho; cases hc
  case assign =>
    intro l x W K hK
    gi_wp2
    exact hK
  case body =>
    rintro l pre ⟨i, hi'⟩ W ⟨⟨v, hv, hrow, hL⟩, hB⟩ hpl
    have hct := (hB.cell (p := ⟨w2.heap.size, 0, none⟩) (by simp)).trans bS.cell
    have hci := hcells ⟨i, hi'⟩ W hB
    have hcl := hL.cell
    have hfl := hL.frozen
    have hrs := edges_Of.run_snoc s pre ⟨i, hi'⟩
    have hrl := edges_Of.run_len s pre
    have q0 : (0 : Int) ≤ (i : Int) := by omega
    have q1 : (i : Int) < (s.length : Int) := by omega
    dsimp only at hci hrs
    have hm : Try.prog.follows .mixedOrders = true := by kernel_rfl
    have hn1 : 1 ≤ 3 := by omega
    clear hseq hcells hx0 hC2 hc2 bS bO bL bN bB hB0 p0
    generalize hz : edges_Of.run s pre = z at *
    generalize hxv : s.getD i 0 = xv at *
    by_cases hgt : SortF.cf xv z.1 > 0
    · have d2 : decide (SortF.cf xv z.1 > 0) = true := decide_eq_true hgt
      have Hrs : Hid (edges_Of.run s (pre ++ [⟨i, hi'⟩]) = (xv, z.2 ++ [xv])) := by unfold Hid; rw [hrs, edges_Of.step, hxv, if_pos hgt]
      clear hrs hgt
      gi_wp2
      gi_region_with_o (refine ⟨trivial, ?_⟩; gi_at_call 95; refine (CallsIn.inRound l (callsIn_wide.2 (SortF.calls xv z.1 _))).mono ?_; rintro e w' ⟨rfl, m, rfl⟩)
      all_goals
        obtain ⟨W1, hW1⟩ : ∃ W1, W.drewN (1 + m) = W1 := ⟨_, rfl⟩
        have hv1 : Boxed W1 (w2.heap.size + 1) 30 v := by rw [← hW1]; exact hv
        have hL1 : Boxed W1 (w2.heap.size + 2) 36 (.float .f64 z.1) := by rw [← hW1]; exact hL
        have hrow1 : W1.ownsRow W0.heap.size 36 1 v z.2.length (z.2.map (Value.float .f64)) := by rw [← hW1]; exact hrow
        have hB1 : Below (w2.heap.size + 1) W0 W1 := by rw [← hW1]; exact below_drewN hB _
        have hk1 : KeepsOthers W W1 := by rw [← hW1]; exact ⟨Nat.le_refl _, fun _ _ h _ => h⟩
        have hct1 : W1.cell? ⟨w2.heap.size, 0, none⟩ = some (.slice (some ad) s.length c2) := by rw [← hW1]; exact hct
        have hci1 : W1.cell? (ad.add i) = some (.float .f64 xv) := by rw [← hW1]; exact hci
        have hq : ∀ k : Nat, W1.heap[k]? = W.heap[k]? := by rw [← hW1]; exact fun _ => rfl
        rw [hW1]
        clear hW1 hct hci hfl hcl hv hL hrow hB
        have hcl1 := hL1.cell
        have hfl1 := hL1.frozen
        have hv2 := hv1.kept (grownBy_setCell' W1 (w2.heap.size + 2) (.float .f64 xv)) (by simp)
        have hL2 := hL1.set (.float .f64 xv)
        have hrow2 := hrow1.kept (grownBy_setCell' W1 (w2.heap.size + 2) (.float .f64 xv)) (.inr (edges_Of.row_ge hrow1 _ (by omega)))
        have hB2' := hB1.setCell (p := ⟨w2.heap.size + 2, 0, none⟩) (by simp) (.float .f64 xv)
        have hk2 := hk1.trans (KeepsOthers.setCell W1 ⟨w2.heap.size + 2, 0, none⟩ (.float .f64 xv))
        have hq2 : ∀ k : Nat, k ≠ w2.heap.size + 2 → (W1.setCell ⟨w2.heap.size + 2, 0, none⟩ (.float .f64 xv)).heap[k]? = W.heap[k]? := fun k hk => (Below.heap_setCell _ _ _ k hk).trans (hq k)
        have hc2' := hv2.cell
        have hcl2 := hL2.cell
        have hsz : (W1.setCell ⟨w2.heap.size + 2, 0, none⟩ (.float .f64 xv)).heap.size = W1.heap.size := by simp [World.setCell]
        have hnew : ∀ (j : Nat) (u : Value), [Value.float .f64 xv][j]? = some u → ((W1.setCell ⟨w2.heap.size + 2, 0, none⟩ (.float .f64 xv)).alloc (.cells #[.float .f64 xv] 36)).cell? ((⟨W1.heap.size, 0, none⟩ : Addr).add j) = some u := by
          rw [← hsz]; exact cell_one_new _ _ _
        have hzl : W0.heap.size ≤ W1.heap.size := hB1.size
        have hml : z.2.length + 1 ≤ maxLen := by unfold maxLen; omega
        gi_wp2_with (gi_at_builtin; refine wpListIn_append_own _ rfl _ _ 30 rfl W0.heap.size 36 i0 (.float .f64 0) 1 8 Try.underlying30 hi hz0 hz1 hz2 rfl (by decide) _ _ _ rfl (hrow2.alloc _) ⟨W1.heap.size, 0, none⟩ 1 1 [.float .f64 xv] rfl rfl hnew (by simp [Value.oneCell']) hml (by omega) (by simp; omega) ?_; intro v' w4 hown' hgrow _; obtain ⟨g', cap', rfl⟩ := ownsRow_succ hown'; obtain ⟨hv3, hv4, _, hk4, hb4⟩ := hv2.appended (by decide) (edges_Of.row_less hrow2 (b' := w2.heap.size + 1) (by omega)) (by simp; omega) (Nat.le_refl _) (edges_Of.row_less hown' (b' := w2.heap.size + 1) (by omega)) hgrow; have hc3 := hv3.cell; have hf3 := hv3.frozen)
        have hk5 : ∀ k : Nat, k < W0.heap.size → k ≠ w2.heap.size + 1 → (w4.setCell ⟨w2.heap.size + 1, 0, none⟩ (.slice (some ⟨g', 0, none⟩) (z.2.length + 1) cap')).heap[k]? = (W1.setCell ⟨w2.heap.size + 2, 0, none⟩ (.float .f64 xv)).heap[k]? := fun k hk hne =>
          (Below.heap_setCell _ _ _ k hne).trans ((hgrow.block k (by simp; omega) (fun e => edges_Of.row_ge hrow2 k hk e.symm)).trans (Below.heap_alloc _ _ _ (by simp; omega)))
        refine ⟨(hk2.trans hk4).from _, ⟨(hk5 _ (by omega) (by omega)).trans (hq2 _ (by omega)), (hk5 _ (by omega) (by omega)).trans (hq2 _ (by omega))⟩, ⟨_, hv4, ?_, ?_⟩, hB2'.trans hb4⟩
        · rw [Hrs.out]
          simpa using hown'.kept (grownBy_setCell' w4 (w2.heap.size + 1) _) (.inr (edges_Of.row_ge hown' _ (by omega)))
        · rw [Hrs.out]
          exact (hk5 _ (by omega) (by omega)).trans hL2
    · have d2 : decide (SortF.cf xv z.1 > 0) = false := decide_eq_false hgt
      have Hrs : Hid (edges_Of.run s (pre ++ [⟨i, hi'⟩]) = z) := by unfold Hid; rw [hrs, edges_Of.step, hxv, if_neg hgt]
      clear hrs hgt
      gi_wp2
      gi_region_with_o (refine ⟨trivial, ?_⟩; gi_at_call 95; refine (CallsIn.inRound l (callsIn_wide.2 (SortF.calls xv z.1 _))).mono ?_; rintro e w' ⟨rfl, m, rfl⟩)
      all_goals gi_wp2
      all_goals exact ⟨edges_Of.keeps_drewN _ _ _, ⟨rfl, rfl⟩, ⟨v, hv, by rw [Hrs.out]; exact hrow, by rw [Hrs.out]; exact hL⟩, below_drewN hB _⟩
  case done =>
    rintro D ys W hD rfl ⟨⟨v, hv, hrow, hL⟩, hB⟩ hK
    have hc := hv.cell
    gi_wp2
    refine ⟨by simp, .inl ⟨_, _, rfl, run_takeDeferred hK, ?_⟩⟩
    refine ⟨_, results_tmp rfl _ _ _, v, rfl, ?_, ?_⟩
    · rw [edges_Of.cut, dif_pos hlen]
      exact Kd.R_of_own (edges_Of.row_less (ownsRow_putObj hrow _ hK rfl) (by have := hB1.size; have := hB2.size; omega)) (fun _ _ => trivial)
    · refine (((hB1.trans hB2).trans (hB0.mono (by have := hB1.size; have := hB2.size; omega))).trans (hB.mono (by have := hB1.size; have := hB2.size; omega))).trans ?_
      exact belowK_b (w := w) (Nat.le_refl _) W D _ _ (by have := hB1.size; have := hB2.size; omega) hK rfl rfl
  case stop =>
    rintro D c pre W _ _ h _
    exact h.elim
end


end Go.Proofs.Ytnagfbadjbkhmaa.PB
