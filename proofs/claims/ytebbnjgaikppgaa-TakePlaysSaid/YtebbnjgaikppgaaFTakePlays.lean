/- The law TakePlays by a walk: numbers are taken in parts, and what is left is told, by rows that lie in boxes. -/
import Derived.Test.YtebbnjgaikppgaaFTake07
import Derived.Test.YtebbnjgaikppgaaPureGet
import Derived.Deep.AppendLies
namespace Go.Proofs.Ytebbnjgaikppgaa.FTakePlays
open Go.RowKit Go.Shelf Go.Proofs.YtebbnjgaikppgaaW.PrintWords Go.Proofs.YtebbnjgaikppgaaW.PrintLast Go.Proofs.YtebbnjgaikppgaaW.PrintMore Go.Proofs.Ytebbnjgaikppgaa.FTake
attribute [local go_sem high] Flt.run_bits Flt.run_frombits
set_option linter.unusedVariables false
set_option linter.unusedSimpArgs false

/-- What is taken, and how it ends. -/
def play : List Int → List Int → List Int → List Int → Except Int (List Int) × List Int × List Int
  | [], r, gs, ls => (.ok r, gs, ls)
  | n :: ps, r, gs, ls => match number n r with
    | .error c => (.error c, gs, ls)
    | .ok (a, r') => play ps r' (gs ++ [a]) (ls ++ [(r'.length : Int)])

section
variable {P : Program} {ops : Array Oper} {Q : Exit → Act → World → Prop}
/-- A call that answers or fails, in a region that draws. -/
theorem callq_ {oi : Oper} {N : Option Tmp} {a : Act} {w : World} {K : Act → World → Prop} {f : FuncId} {fn : Func} {xs_ : Array Operand} {ts : Array TypeId} (hf : P.funcs[f]? = some fn) (hname : (fn.name == "runtime.NumGoroutine") = false) (hb : fn.body.isSome = true) (args : Array Value)
    (hw : Region.wanted oi (yielded ops a.tmps) = true) (hN : oi.dst = N) (hop : oi.op = .call { callee := .value (.func f), args := xs_, argTypes := ts }) (hargs : xs_.map a.eval = args)
    (h : Calls P f args w fun e w' => (∃ v, e = .returned v ∧ K (a.put N v) w') ∨ ∃ c, e = .panicked c ∧ Q (.panic c) a w') : if Region.wanted oi (yielded ops a.tmps) = true then Oper.wp P oi a w K Q else K (a.put N undef) w := by
  rw [if_pos hw]
  subst hN
  have he := enters_ hf hname hb args w
  have hrun : (execOp a.eval oi).run P w = .ok (.enter f args) w := by
    unfold execOp
    simp [hop, resolve, Deferred.ofValue, invoke, Act.eval, hargs, he]
  unfold Oper.wp
  rw [hrun, Oper.upon_enter]
  refine h.mono fun e w'' hh => ?_
  rcases hh with ⟨v, rfl, hk⟩ | ⟨c, rfl, hq⟩
  · exact hk
  · exact hq
end

theorem row_ge {w : World} {base : Nat} {e : TypeId} {size : Nat} {v : Value} {n : Nat} {xs : List Value} (h : w.ownsRow base e size v n xs) (k : Nat) (hk : k < base) : some k ≠ v.ownBlock := fun he => by have := (h.lt k he.symm).1; omega
theorem row_ne {w : World} {b1 b2 : Nat} {e1 e2 : TypeId} {s1 s2 : Nat} {v1 v2 : Value} {n1 n2 : Nat} {x1 x2 : List Value} (h1 : w.ownsRow b1 e1 s1 v1 n1 x1) (h2 : w.ownsRow b2 e2 s2 v2 n2 x2) (he : e1 ≠ e2) : v1.ownBlock = none ∨ v1.ownBlock ≠ v2.ownBlock := by
  rcases h1.2 with ⟨rfl, _⟩ | ⟨g, cap, cur, rfl, _, hgb, _⟩
  · exact .inl rfl
  · refine .inr fun e' => ?_
    rcases h2.2 with ⟨rfl, _⟩ | ⟨g2, cap2, cur2, rfl, _, hgb2, _⟩
    · simp [Value.ownBlock] at e'
    · simp only [Value.ownBlock, Option.some.injEq] at e'
      obtain rfl : g = g2 := by simpa using e'
      rw [hgb] at hgb2
      cases hgb2
      exact he rfl

/-- A row in a box. -/
def InBox (n₀ B : Nat) (t e : TypeId) (W : World) (xs : List Value) : Prop := ∃ v, Boxed W B t v ∧ W.ownsRow n₀ e 1 v xs.length xs

/-- Behind an append to one box's row. -/
theorem grow_facts {n₀ X : Nat} {t e : TypeId} {W w1 : World} {v v' : Value} {xs ys : List Value} {tmp : Obj} (hX : X < n₀) (hn : n₀ ≤ W.heap.size) (hrow : W.ownsRow n₀ e 1 v xs.length xs)
    (hown' : w1.ownsRow n₀ e 1 v' ys.length ys) (hgrow : (W.alloc tmp).grownBy w1 v.ownBlock) (hv : Boxed W X t v) :
    InBox n₀ X t e (w1.setCell ⟨X, 0, none⟩ v') ys ∧ (∀ k, k < n₀ → k ≠ X → (w1.setCell ⟨X, 0, none⟩ v').heap[k]? = W.heap[k]?) ∧ (∀ (Y : Nat) (t2 e2 : TypeId) (zs : List Value), Y < n₀ → Y ≠ X → e2 ≠ e → InBox n₀ Y t2 e2 W zs → InBox n₀ Y t2 e2 (w1.setCell ⟨X, 0, none⟩ v') zs) ∧
      Below 0 W (w1.setCell ⟨X, 0, none⟩ v') := by
  have hk : ∀ k, k < n₀ → k ≠ X → (w1.setCell ⟨X, 0, none⟩ v').heap[k]? = W.heap[k]? := fun k hk hne =>
    (Below.heap_setCell _ _ _ k hne).trans ((hgrow.block k (by simp; omega) (row_ge hrow k hk)).trans (Below.heap_alloc _ _ _ (by omega)))
  have hv1 : Boxed w1 X t v := (hv.alloc tmp).kept hgrow (row_ge hrow X hX)
  refine ⟨⟨v', hv1.set v', hown'.kept (grownBy_setCell' w1 X v') (.inr (row_ge hown' X hX).symm)⟩, hk, ?_, ?_⟩
  · rintro Y t2 e2 zs hY hYX he ⟨u, hu, hrow2⟩
    refine ⟨u, (hk Y hY hYX).trans hu, ?_⟩
    have h1 := (hrow2.alloc tmp).kept hgrow (row_ne hrow2 hrow he)
    exact h1.kept (grownBy_setCell' w1 X v') (.inr (row_ge h1 X hX).symm)
  · exact (((Below.refl 0 W).alloc (Nat.zero_le _) tmp).grown hgrow (Nat.zero_le _) (fun _ _ => Nat.zero_le _)).setCell (p := ⟨X, 0, none⟩) (Nat.zero_le _) v'
theorem Rdr_keep {ok : Nat → Prop} {w w' : World} {B : Nat} {l : List Int} (h : Rdr ok w B l) (hB : w'.heap[B]? = w.heap[B]?) (hk : ∀ k, ok k → k < w.heap.size → w'.heap[k]? = w.heap[k]?) : Rdr ok w' B l := by
  obtain ⟨A, c, hbx, hl, hF, hx⟩ := h
  exact ⟨A, c, hB.trans hbx, hl, Kd.F_step hF hk, hx⟩

theorem row_off {W W1 : World} {n₀ B : Nat} {e : TypeId} {v : Value} {n : Nat} {xs : List Value} (h : W.ownsRow n₀ e 1 v n xs) (ho : Off B W W1) (hB : B < n₀) : W1.ownsRow n₀ e 1 v n xs :=
  h.kept (w' := W1) (row := some B) ⟨ho.os, ho.tape, ho.output, ho.size, fun k hk hne => ho.block k hk (fun e => hne (by rw [e]))⟩ (.inr (fun e => row_ge h B hB e.symm))
theorem info_u64 : (Try.prog.info? 31).map (fun i => (i.zero, i.size, i.bytes)) = some (some (.int .u64 0), 1, 8) := by kernel_rfl
theorem info_int : (Try.prog.info? 3).map (fun i => (i.zero, i.size, i.bytes)) = some (some (.int .i64 0), 1, 8) := by kernel_rfl
/-- How far the taking is. -/
structure PS (ok : Nat → Prop) (B X Y : Nat) (w wr : World) (r gs ls : List Int) : Prop where
  ho : Offs (fun k => k = B ∨ k = X ∨ k = Y) w wr
  hr : Rdr ok wr B r
  hX : InBox w.heap.size X 25 31 wr (gs.map (Value.int .u64))
  hY : InBox w.heap.size Y 26 3 wr (ls.map (Value.int .i64))
/-- What it leaves. -/
def PEnd (ok : Nat → Prop) (B X Y : Nat) (w : World) (z : Except Int (List Int) × List Int × List Int) (e : Ending) (W : World) : Prop :=
  Offs (fun k => k = B ∨ k = X ∨ k = Y) w W ∧ InBox w.heap.size X 25 31 W (z.2.1.map (Value.int .u64)) ∧ InBox w.heap.size Y 26 3 W (z.2.2.map (Value.int .i64)) ∧
    match z.1 with
    | .ok r => Rdr ok W B r ∧ e = .returned (.tuple #[])
    | .error c => e = .panicked (fault c)

theorem PS.grow {ok : Nat → Prop} {B X Y : Nat} {w w1 w2 : World} {r gs ls : List Int} (Z : Nat) (h : PS ok B X Y w w1 r gs ls) (hZ : Z = X ∨ Z = Y) (hB : Z ≠ B) (hok : ∀ k, ok k → k < w.heap.size ∧ k ≠ Z) (ltB : B < w.heap.size)
    (hk : ∀ k, k < w.heap.size → k ≠ Z → w2.heap[k]? = w1.heap[k]?) (hb : Below 0 w1 w2) : Offs (fun k => k = B ∨ k = X ∨ k = Y) w w2 ∧ Rdr ok w2 B r :=
  ⟨⟨hb.os.trans h.ho.os, hb.tape.trans h.ho.tape, hb.output.trans h.ho.output, Nat.le_trans h.ho.size hb.size, fun k hlt hs => (hk k hlt (fun e => hs (Or.inr (by rw [e]; exact hZ)))).trans (h.ho.block k hlt hs)⟩,
    Rdr_keep h.hr (hk B ltB (Ne.symm hB)) (fun k ho _ => hk k (hok k ho).1 (hok k ho).2)⟩
set_option maxHeartbeats 8000000 in
set_option maxRecDepth 100000 in
theorem plays_calls (ok : Nat → Prop) (B D X Y : Nat) (l ps : List Int) (Ap : Option Addr) (cp : Nat) (w : World) (h : Rdr ok w B l) (hn : ∀ k, ok k → k ≠ B) (hok : ∀ k, ok k → k < w.heap.size) (hX : ∀ k, ok k → k ≠ X) (hY : ∀ k, ok k → k ≠ Y)
    (hD : Boxed w D 23 (.slice Ap ps.length cp)) (hFp : Kd.F (Kd.int .i8) w (fun k => k ≠ B ∧ k ≠ X ∧ k ≠ Y) Ap ps.length ps) (hxp : ∀ x ∈ ps, wrap64 x = x) (hl : ps.length ≤ 60)
    (bX : InBox w.heap.size X 25 31 w []) (bY : InBox w.heap.size Y 26 3 w [])
    (dX : X ≠ B) (dY : Y ≠ B) (dXY : Y ≠ X) (dD : ¬ (D = B ∨ D = X ∨ D = Y)) :
    Calls Try.prog 17 #[.pointer (some ⟨B, 0, none⟩), .pointer (some ⟨D, 0, none⟩), .pointer (some ⟨X, 0, none⟩), .pointer (some ⟨Y, 0, none⟩)] w
      (PEnd ok B X Y w (play ps l [] [])) := by
  have ltB : B < w.heap.size := by obtain ⟨_, _, hb, _⟩ := h; exact hb.lt
  have ltX : X < w.heap.size := by obtain ⟨_, hb, _⟩ := bX; exact hb.lt
  have ltY : Y < w.heap.size := by obtain ⟨_, hb, _⟩ := bY; exact hb.lt
  have P0 := Aside0.mk (show PS ok B X Y w w l [] [] from ⟨Offs.refl _ _, h, bX, bY⟩)
  have HFP := Aside0.mk hFp
  have HXP := Aside0.mk hxp
  have HN := Aside0.mk hn
  have HOK := Aside0.mk hok
  have HX := Aside0.mk hX
  have HY := Aside0.mk hY
  have kD := hD.cell
  clear h hn hok hX hY hD hFp hxp bX bY
  go_enter Try.func17, Try.ntmps17
  go_wp2
  clear kD
  go_loopw [9] (fun v9 w' => ∃ (j : Nat) (r gs ls : List Int), j ≤ ps.length ∧ v9 = .int .i64 j ∧ gs.length = j ∧ ls.length = j ∧ Aside0 (PS ok B X Y w w' r gs ls) ∧ Aside0 (play (ps.drop j) r gs ls = play ps l [] [])) (fun v _ => ps.length - (intOf v).toNat)
  case atStart => exact ⟨0, l, [], [], by omega, rfl, rfl, rfl, P0, ⟨rfl⟩⟩
  case round =>
    obtain ⟨j, r, gs, ls, hj, rfl, hgl, hll, HP, HE⟩ := hrel
    clear P0
    by_cases hlt : j < ps.length
    · have d0 : decide ((j : Int) < (ps.length : Int)) = true := decide_eq_true (by omega)
      obtain ⟨ad, e0, hx1⟩ := Kd.at_int (Kd.F_now (Kd.F_step HFP.out (fun k hk hlt => HP.out.ho.block k hlt (fun hs => hs.elim hk.1 (fun h => h.elim hk.2.1 hk.2.2))))) j (by omega) (by omega)
      cases e0
      simp only [Int.toNat_natCast] at hx1
      have hw := HXP.out (rd ps j) (Pure.rd_mem (by omega) (by omega))
      obtain ⟨n, hnn⟩ : ∃ n, rd ps (j : Int) = n := ⟨_, rfl⟩
      have hpl : play (ps.drop j) r gs ls = play (n :: ps.drop (j + 1)) r gs ls := by rw [Pure.drop_rd ps j hlt, hnn]
      have HPL := Aside0.mk (hpl.symm.trans HE.out)
      rw [hnn] at hx1 hw
      clear hpl hnn HE
      obtain ⟨v, hvX, hrX⟩ := HP.out.hX
      have HVX := Aside0.mk hvX
      have HRX := Aside0.mk hrX
      clear hvX hrX
      go_wp2_with (fail)
      have NC := number_calls ok B n r wr.drew (HP.out.hr.below (below_drew (Below.refl _ _))) HN.out
      have HNC := Aside0.mk NC
      clear NC
      refine start_ (n := 8) (S := fun w' => Boxed w' X 25 v) (ds := [7]) #[false, false, false, false, false, false, false, false] (by kernel_rfl) rfl rfl HVX.out (fun hHeld => ?_)
      refine take_ (i := 0) (N := some 13) (v := ?_) (a' := ?_) #[true, false, false, false, false, false, false, false] rfl rfl (by kernel_rfl) (fun _ _ _ h => h) (Or.inl ⟨by rfl, ?_⟩) hHeld ?_ ?_
      rotate_left
      · intro w' s
        have s0 := s.cell
        clear s
        go_simp
        with_reducible rfl
      rotate_left
      · simp only [Act.put, List.setIfInBounds_toArray, List.set_cons_zero, List.set_cons_succ, i64_w, i32_w]
        rfl
      refine take_ (i := 1) (N := some 14) (v := ?_) (a' := ?_) #[true, true, false, false, false, false, false, false] rfl rfl (by kernel_rfl) (fun _ _ _ h => h) (Or.inl ⟨by rfl, ?_⟩) hHeld ?_ ?_
      rotate_left
      · intro w' s
        have s0 := s.cell
        clear s
        go_simp
        with_reducible rfl
      rotate_left
      · simp only [Act.put, List.setIfInBounds_toArray, List.set_cons_zero, List.set_cons_succ, i64_w, i32_w]
        rfl
      refine take_ (i := 2) (N := some 15) (v := ?_) (a' := ?_) #[true, true, true, false, false, false, false, false] rfl rfl (by kernel_rfl) (fun _ _ _ h => h) (Or.inl ⟨by rfl, ?_⟩) hHeld ?_ ?_
      rotate_left
      · intro w' s
        have s0 := s.cell
        clear s
        go_simp
        with_reducible rfl
      rotate_left
      · simp only [Act.put, List.setIfInBounds_toArray, List.set_cons_zero, List.set_cons_succ, i64_w, i32_w]
        rfl
      refine take_ (i := 3) (N := some 16) (v := ?_) (a' := ?_) #[true, true, true, true, false, false, false, false] rfl rfl (by kernel_rfl) (fun _ _ _ h => h) (Or.inl ⟨by rfl, ?_⟩) hHeld ?_ ?_
      rotate_left
      · intro w' s
        have s0 := s.cell
        clear s
        go_simp
        with_reducible rfl
      rotate_left
      · simp only [Act.put, List.setIfInBounds_toArray, List.set_cons_zero, List.set_cons_succ, i64_w, i32_w]
        rfl
      rw [hw]
      refine one_ (i := 4) (N := some 17) #[true, true, true, true, true, false, false, false] rfl rfl (by kernel_rfl) (by decide) (fun K hK => ?_)
      refine callq_ Try.func18 (by kernel_rfl) rfl #[.pointer (some ⟨B, 0, none⟩), .int .i64 n] (by rfl) rfl rfl (by simp only [List.map_toArray, List.map_cons, List.map_nil]; rfl) ?_
      refine HNC.out.mono ?_
      cases hnum : number n r with
      | error c =>
        rintro e w1 ⟨ho0, rfl⟩
        have ho : Off B wr w1 := ⟨ho0.os, ho0.tape, ho0.output, ho0.size, ho0.block⟩
        refine .inr ⟨_, rfl, ?_⟩
        have hpl := HPL.out
        simp only [play, hnum] at hpl
        have hO : Offs (fun k => k = B ∨ k = X ∨ k = Y) w w1 := HP.out.ho.trans (Offs.of_off ho (Or.inl rfl))
        have hE : PEnd ok B X Y w (play ps l [] []) (.panicked (fault c)) w1 := by
          rw [← hpl]
          refine ⟨hO, ?_, ?_, rfl⟩
          · exact ⟨v, ho.boxed HVX.out dX, row_off HRX.out ho ltB⟩
          · obtain ⟨u, hu, hru⟩ := HP.out.hY
            exact ⟨u, ho.boxed hu dY, row_off hru ho ltB⟩
        exact ⟨rfl, hE⟩
      | ok q =>
        obtain ⟨x, r1⟩ := q
        rintro e w1 ⟨ho, hr1, _, rfl, rfl⟩
        refine .inl ⟨_, rfl, ?_⟩
        have hXw : Boxed w1 X 25 v := (ho.boxed (show Boxed wr.drew X _ _ from HVX.out) dX)
        have ho' : Off B wr w1 := ⟨ho.os, ho.tape, ho.output, ho.size, ho.block⟩
        have P1 := Aside0.mk (show PS ok B X Y w w1 r1 gs ls from ⟨HP.out.ho.trans (Offs.of_off ho' (Or.inl rfl)), hr1, ⟨v, hXw, row_off HRX.out ho' ltB⟩, by
          obtain ⟨u, hu, hru⟩ := HP.out.hY
          exact ⟨u, ho'.boxed hu dY, row_off hru ho' ltB⟩⟩)
        have RX1 := Aside0.mk (row_off HRX.out ho' ltB)
        have HS1 := Aside0.mk (Nat.le_trans HP.out.ho.size ho'.size)
        have hpl := HPL.out
        simp only [play, hnum] at hpl
        have HPL1 := Aside0.mk hpl
        clear ho ho' hr1 HP HNC HRX HVX HPL hnum hpl
        refine hK.out _ _ hXw (fun hHeld => ?_)
        clear hK K hXw
        refine norm_ (a' := ?_) ?_ ?_
        rotate_left
        · show Act.put _ (some 17) _ = _
          simp only [Act.put, List.setIfInBounds_toArray, List.set_cons_zero, List.set_cons_succ, i64_w, i32_w]
          rfl
        refine one_ (i := 5) (N := some 18) #[true, true, true, true, true, true, false, false] rfl rfl (by kernel_rfl) (by decide) (fun K hK => ?_)
        refine value_ (w1 := w1.alloc (.cells #[.int .u64 x] 31)) (v := .slice (some ⟨w1.heap.size, 0, none⟩) 1 1) (by rfl) rfl (by go_simp) ?_
        have hXw : Boxed (w1.alloc (.cells #[.int .u64 x] 31)) X 25 v := hHeld.alloc _
        refine hK.out _ _ hXw (fun hHeld2 => ?_)
        clear hK K hXw
        refine norm_ (a' := ?_) ?_ ?_
        rotate_left
        · show Act.put _ (some 18) _ = _
          simp only [Act.put, List.setIfInBounds_toArray, List.set_cons_zero, List.set_cons_succ, i64_w, i32_w]
          rfl
        obtain ⟨i0, hi, hz0, hz1, hz2⟩ := info_parts info_u64
        refine one_ (i := 6) (N := some 19) #[true, true, true, true, true, true, true, false] rfl rfl (by kernel_rfl) (by decide) (fun K hK => ?_)
        refine step_append_lies _ rfl (.tmp 13) (.tmp 18) 25 (by rfl) w.heap.size 31 i0 (.int .u64 0) 1 8 Try.underlying25 hi hz0 hz1 hz2 rfl (by decide) v _ _ (by rfl) (RX1.out.alloc _) ⟨w1.heap.size, 0, none⟩ 1 1 [.int .u64 x] (by rfl) rfl
          (World.news_of_block (World.alloc_heap_new w1 _)) (by simp [Value.oneCell']) (by decide) (by unfold maxLen; simp; omega) (by simp; omega) (by have := HS1.out; simp; omega) (w1.heap.size + 1) (by simp) ?_
        intro g cap w2 hown hgrow hat hglt
        have hgf := grow_facts ltX (by have := HS1.out; omega) RX1.out (v' := .slice (some ⟨g, 0, none⟩) (gs.map (Value.int .u64) ++ [Value.int .u64 x]).length cap) (ys := gs.map (Value.int .u64) ++ [Value.int .u64 x]) (by simpa using hown) hgrow hHeld
        have hX2 : Boxed w2 X 25 v := (hHeld.alloc _).kept hgrow (row_ge RX1.out X ltX)
        refine hK.out _ _ hX2 (fun hHeld3 => ?_)
        clear hK K hHeld2 hX2
        refine norm_ (a' := ?_) ?_ ?_
        rotate_left
        · show Act.put _ (some 19) _ = _
          simp only [Act.put, List.setIfInBounds_toArray, List.set_cons_zero, List.set_cons_succ, i64_w, i32_w]
          rfl
        refine last_ (i := 7) (N := none) #[true, true, true, true, true, true, true, true] rfl rfl (by kernel_rfl) (by decide) (fun K hK => ?_)
        have c2 := hHeld3.cell
        have f2 := hHeld3.frozen
        refine skip_ (w1 := w2.setCell ⟨X, 0, none⟩ (.slice (some ⟨g, 0, none⟩) (gs.map (Value.int .u64) ++ [Value.int .u64 x]).length cap)) (by rfl) rfl (by simp only [List.length_append, List.length_map, List.length_singleton]; go_simp) ?_
        refine hK.out _ _ ?_
        clear hK K c2 f2
        refine done_ (by kernel_rfl) ?_
        obtain ⟨w3, hw3⟩ : ∃ w3, w2.setCell ⟨X, 0, none⟩ (.slice (some ⟨g, 0, none⟩) (gs.map (Value.int .u64) ++ [Value.int .u64 x]).length cap) = w3 := ⟨_, rfl⟩
        have e1 : (gs.map (Value.int .u64) ++ [Value.int .u64 x]).length = (gs.map (Value.int .u64)).length + 1 := by simp
        rw [hw3] at hgf
        obtain ⟨gf1, gf2, gf3, gf4⟩ := hgf
        have hg := P1.out.grow X (Or.inl rfl) dX (fun k hk => ⟨HOK.out k hk, HX.out k hk⟩) ltB gf2 gf4
        have P3 := Aside0.mk (show PS ok B X Y w w3 r1 (gs ++ [x]) ls from ⟨hg.1, hg.2, by rw [List.map_append]; exact gf1, gf3 Y _ _ _ ltY dXY (by decide) P1.out.hY⟩)
        rw [hw3]
        clear gf1 gf2 gf3 gf4 hg hw3 e1 P1 RX1 HS1 hown hgrow hat hglt hi hz0 hz1 hz2 hHeld hHeld3
        obtain ⟨v3, hvY, hrY⟩ := P3.out.hY
        have HVY := Aside0.mk hvY
        have HRY := Aside0.mk hrY
        clear hvY hrY
        go_wp2_with (fail)
        have HLC := Aside0.mk (left_calls ok B r1 w3.drew (P3.out.hr.below (below_drew (Below.refl _ _))))
        refine start_ (n := 6) (S := fun w' => Boxed w' Y 26 v3) (ds := [5]) #[false, false, false, false, false, false] (by kernel_rfl) rfl rfl HVY.out (fun hHeld => ?_)
        refine take_ (i := 0) (N := some 20) (v := ?_) (a' := ?_) #[true, false, false, false, false, false] rfl rfl (by kernel_rfl) (fun _ _ _ h => h) (Or.inl ⟨by rfl, ?_⟩) hHeld ?_ ?_
        rotate_left
        · intro w' s
          have s0 := s.cell
          clear s
          go_simp
          with_reducible rfl
        rotate_left
        · simp only [Act.put, List.setIfInBounds_toArray, List.set_cons_zero, List.set_cons_succ, i64_w, i32_w]
          rfl
        refine take_ (i := 1) (N := some 21) (v := ?_) (a' := ?_) #[true, true, false, false, false, false] rfl rfl (by kernel_rfl) (fun _ _ _ h => h) (Or.inl ⟨by rfl, ?_⟩) hHeld ?_ ?_
        rotate_left
        · intro w' s
          have s0 := s.cell
          clear s
          go_simp
          with_reducible rfl
        rotate_left
        · simp only [Act.put, List.setIfInBounds_toArray, List.set_cons_zero, List.set_cons_succ, i64_w, i32_w]
          rfl
        refine one_ (i := 2) (N := some 22) #[true, true, true, false, false, false] rfl rfl (by kernel_rfl) (by decide) (fun K hK => ?_)
        refine callq_ Try.func19 (by kernel_rfl) rfl #[.pointer (some ⟨B, 0, none⟩)] (by rfl) rfl rfl (by simp only [List.map_toArray, List.map_cons, List.map_nil]; rfl) ?_
        refine HLC.out.mono ?_
        rintro e w4 ⟨rfl, rfl⟩
        refine .inl ⟨_, rfl, ?_⟩
        refine hK.out _ _ hHeld (fun _ => ?_)
        clear hK K HLC
        refine norm_ (a' := ?_) ?_ ?_
        rotate_left
        · show Act.put _ (some 22) _ = _
          simp only [Act.put, List.setIfInBounds_toArray, List.set_cons_zero, List.set_cons_succ, i64_w, i32_w]
          rfl
        have RY1 := Aside0.mk (show w3.drew.ownsRow w.heap.size 3 1 v3 _ _ from HRY.out)
        have P4 := Aside0.mk (show PS ok B X Y w w3.drew r1 (gs ++ [x]) ls from ⟨P3.out.ho.drewN 1, P3.out.hr.below (below_drew (Below.refl _ _)), P3.out.hX, P3.out.hY⟩)
        have HS4 := Aside0.mk (show w.heap.size ≤ w3.drew.heap.size from P3.out.ho.size)
        clear P3 HVY HRY
        generalize w3.drew = w4 at *
        refine one_ (i := 3) (N := some 23) #[true, true, true, true, false, false] rfl rfl (by kernel_rfl) (by decide) (fun K hK => ?_)
        refine value_ (w1 := w4.alloc (.cells #[.int .i64 r1.length] 3)) (v := .slice (some ⟨w4.heap.size, 0, none⟩) 1 1) (by rfl) rfl (by go_simp) ?_
        have hXw : Boxed (w4.alloc (.cells #[.int .i64 r1.length] 3)) Y 26 v3 := hHeld.alloc _
        refine hK.out _ _ hXw (fun hHeld2 => ?_)
        clear hK K hXw
        refine norm_ (a' := ?_) ?_ ?_
        rotate_left
        · show Act.put _ (some 23) _ = _
          simp only [Act.put, List.setIfInBounds_toArray, List.set_cons_zero, List.set_cons_succ, i64_w, i32_w]
          rfl
        obtain ⟨i0, hi, hz0, hz1, hz2⟩ := info_parts info_int
        refine one_ (i := 4) (N := some 24) #[true, true, true, true, true, false] rfl rfl (by kernel_rfl) (by decide) (fun K hK => ?_)
        refine step_append_lies _ rfl (.tmp 20) (.tmp 23) 26 (by rfl) w.heap.size 3 i0 (.int .i64 0) 1 8 Try.underlying26 hi hz0 hz1 hz2 rfl (by decide) v3 _ _ (by rfl) (RY1.out.alloc _) ⟨w4.heap.size, 0, none⟩ 1 1 [.int .i64 r1.length] (by rfl) rfl
          (World.news_of_block (World.alloc_heap_new w4 _)) (by simp [Value.oneCell']) (by decide) (by unfold maxLen; simp; omega) (by simp; omega) (by have := HS4.out; simp; omega) (w4.heap.size + 1) (by simp) ?_
        intro g4 cap4 w5 hown hgrow hat hglt
        have hgf := grow_facts ltY (by have := HS4.out; omega) RY1.out (v' := .slice (some ⟨g4, 0, none⟩) (ls.map (Value.int .i64) ++ [Value.int .i64 r1.length]).length cap4) (ys := ls.map (Value.int .i64) ++ [Value.int .i64 r1.length]) (by simpa using hown) hgrow hHeld
        have hX2 : Boxed w5 Y 26 v3 := (hHeld.alloc _).kept hgrow (row_ge RY1.out Y ltY)
        refine hK.out _ _ hX2 (fun hHeld3 => ?_)
        clear hK K hHeld2 hX2
        refine norm_ (a' := ?_) ?_ ?_
        rotate_left
        · show Act.put _ (some 24) _ = _
          simp only [Act.put, List.setIfInBounds_toArray, List.set_cons_zero, List.set_cons_succ, i64_w, i32_w]
          rfl
        refine last_ (i := 5) (N := none) #[true, true, true, true, true, true] rfl rfl (by kernel_rfl) (by decide) (fun K hK => ?_)
        have c2 := hHeld3.cell
        have f2 := hHeld3.frozen
        refine skip_ (w1 := w5.setCell ⟨Y, 0, none⟩ (.slice (some ⟨g4, 0, none⟩) (ls.map (Value.int .i64) ++ [Value.int .i64 r1.length]).length cap4)) (by rfl) rfl (by simp only [List.length_append, List.length_map, List.length_singleton]; go_simp) ?_
        refine hK.out _ _ ?_
        clear hK K c2 f2
        refine done_ (by kernel_rfl) ?_
        obtain ⟨w6, hw6⟩ : ∃ w6, w5.setCell ⟨Y, 0, none⟩ (.slice (some ⟨g4, 0, none⟩) (ls.map (Value.int .i64) ++ [Value.int .i64 r1.length]).length cap4) = w6 := ⟨_, rfl⟩
        have e1 : (ls.map (Value.int .i64) ++ [Value.int .i64 r1.length]).length = (ls.map (Value.int .i64)).length + 1 := by simp
        rw [hw6] at hgf
        obtain ⟨gf1, gf2, gf3, gf4⟩ := hgf
        have hg := P4.out.grow Y (Or.inr rfl) dY (fun k hk => ⟨HOK.out k hk, HY.out k hk⟩) ltB gf2 gf4
        have P6 := Aside0.mk (show PS ok B X Y w w6 r1 (gs ++ [x]) (ls ++ [(r1.length : Int)]) from ⟨hg.1, hg.2, gf3 X _ _ _ ltX (Ne.symm dXY) (by decide) P4.out.hX, by rw [List.map_append]; exact gf1⟩)
        rw [hw6]
        clear gf1 gf2 gf3 gf4 hg hw6 e1 P4 RY1 HS4 hown hgrow hat hglt hi hz0 hz1 hz2 hHeld hHeld3
        go_wp2_with (fail)
        exact ⟨⟨j + 1, r1, gs ++ [x], ls ++ [(r1.length : Int)], by omega, by go_num, by simp; omega, by simp; omega, P6, HPL1⟩, by simp [intOf]; omega⟩
    · obtain rfl : j = ps.length := by omega
      have d0 : decide ((ps.length : Int) < (ps.length : Int)) = false := by simp
      go_wp2
      go_end0
      have hpl := HE.out
      rw [List.drop_length] at hpl
      rw [← hpl]
      exact ⟨HP.out.ho, HP.out.hX, HP.out.hY, HP.out.hr, rfl⟩
theorem play_prefix : ∀ (ps r gs ls : List Int), gs <+: (play ps r gs ls).2.1 ∧ ls <+: (play ps r gs ls).2.2
  | [], r, gs, ls => ⟨List.prefix_rfl, List.prefix_rfl⟩
  | n :: ps, r, gs, ls => by
    simp only [play]
    cases number n r with
    | error c => exact ⟨List.prefix_rfl, List.prefix_rfl⟩
    | ok q =>
      obtain ⟨h1, h2⟩ := play_prefix ps q.2 (gs ++ [q.1]) (ls ++ [(q.2.length : Int)])
      exact ⟨(List.prefix_append gs _).trans h1, (List.prefix_append ls _).trans h2⟩
theorem at_prefix {gs GS : List Int} {x : Int} {j : Nat} (h : gs ++ [x] <+: GS) (hj : gs.length = j) : GS[j]? = some x ∧ j < GS.length := by
  obtain ⟨t, rfl⟩ := h
  subst hj
  exact ⟨by simp, by simp⟩
/-- How it ends. -/
def endc : Except Int (List Int) → Int
  | .ok r => if r.length > 0 then 3 else 0
  | .error c => c
theorem row_slice {w : World} {base : Nat} {e : TypeId} {v : Value} {n : Nat} {xs : List Value} (h : w.ownsRow base e 1 v n xs) : ∃ A c, v = .slice A n c ∧ ∀ j u, xs[j]? = some u → ∃ ad, A = some ad ∧ w.cell? (ad.add j) = some u := by
  have hl := h.1
  rcases h.2 with ⟨rfl, hn⟩ | ⟨g, cap, cur, rfl, _⟩
  · obtain rfl : n = 0 := hn
    refine ⟨none, 0, rfl, fun j u hu => ?_⟩
    have : xs = [] := List.eq_nil_of_length_eq_zero (by simpa using hl)
    subst this
    simp at hu
  · exact ⟨_, _, rfl, fun j u hu => ⟨_, rfl, h.cells rfl j u hu⟩⟩
theorem num_drop (l : List Int) (a : Nat) (n x : Int) (r : List Int) (ha : a ≤ l.length) (h : number n (l.drop a) = .ok (x, r)) : r = l.drop (a + PureTake.cnt n) ∧ a + PureTake.cnt n ≤ l.length := by
  unfold number at h
  split at h
  · rename_i hc
    simp only [Except.ok.injEq, Prod.mk.injEq] at h
    simp only [List.length_drop] at hc
    rw [← h.2, List.drop_drop]
    have e : PureTake.cnt n = cnt n := rfl
    exact ⟨by rw [e], by rw [e]; omega⟩
  · cases h
theorem num_err (l : List Int) (n c : Int) (h : number n l = .error c) : c = 2 := by
  unfold number at h
  split at h
  · cases h
  · cases h; rfl

set_option maxHeartbeats 8000000 in
set_option maxRecDepth 100000 in
theorem law_calls (A Ap : Option Addr) (c cp : Nat) (l ps : List Int) (w : World) (hrl : Kd.C (Kd.int .u8) w A l.length l) (hcl : l.length ≤ c) (hrp : Kd.C (Kd.int .i8) w Ap ps.length ps) (hcp : ps.length ≤ cp)
    (hxl : ∀ x ∈ l, 0 ≤ x ∧ x < 256) (hxp : ∀ x ∈ ps, wrap64 x = x) :
    Calls Try.prog 3 #[.slice A l.length c, .slice Ap ps.length cp] w fun e w' => e = .returned (.bool true) ∧ Below w.heap.size w w' := by
  have hmf : ∀ (fn : Fn) (first cap : Array Value) (W : World), (Instr.makeFunc fn first cap).run Try.prog W = .ok (.func fn first cap) W := fun _ _ _ _ => rfl
  have HRL := Aside0.mk hrl
  have HRP := Aside0.mk hrp
  have HXL := Aside0.mk hxl
  have HXP := Aside0.mk hxp
  clear hrl hrp hxl hxp
  by_cases h1 : l.length > 300
  · have d1 : decide ((l.length : Int) > 300) = true := decide_eq_true (by omega)
    go_enter Try.func3, Try.ntmps3
    go_wp2_with (fail)
    refine (FTake07.calls_fixed _).mono ?_
    rintro e w1 ⟨rfl, hb⟩
    have HB1 := Aside0.mk ((below_alloc (Below.refl w.heap.size w) _).trans (hb.mono (by simp)))
    clear hb
    go_wp2
    go_ret
    exact ⟨rfl, HB1.out⟩
  have d1 : decide ((l.length : Int) > 300) = false := decide_eq_false (by omega)
  by_cases h2 : ps.length > 60
  · have d2 : decide ((ps.length : Int) > 60) = true := decide_eq_true (by omega)
    go_enter Try.func3, Try.ntmps3
    go_wp2_with (fail)
    refine (FTake07.calls_fixed _).mono ?_
    rintro e w1 ⟨rfl, hb⟩
    have HB1 := Aside0.mk ((below_alloc (Below.refl w.heap.size w) _).trans (hb.mono (by simp)))
    clear hb
    go_wp2
    go_ret
    exact ⟨rfl, HB1.out⟩
  have d2 : decide ((ps.length : Int) > 60) = false := decide_eq_false (by omega)
  obtain ⟨W1, hW1⟩ : ∃ W1, ((w.alloc (.cells #[.slice Ap ps.length cp] 23)).alloc (.cells #[.slice none 0 0] 25)).alloc (.cells #[.slice none 0 0] 26) = W1 := ⟨_, rfl⟩
  have hz1 : W1.heap.size = w.heap.size + 3 := by rw [← hW1]; simp
  have hb1 : Below w.heap.size w W1 := by rw [← hW1]; exact below_alloc (below_alloc (below_alloc (Below.refl _ w) _) _) _
  have bD : Boxed W1 w.heap.size 23 (.slice Ap ps.length cp) := by rw [← hW1]; exact ((Boxed.new w _ _).alloc _).alloc _
  have bX : Boxed W1 (w.heap.size + 1) 25 (.slice none 0 0) := by
    rw [← hW1]
    have := Boxed.new (w.alloc (.cells #[.slice Ap ps.length cp] 23)) 25 (.slice none 0 0)
    rw [World.size_alloc] at this
    exact this.alloc _
  have bY : Boxed W1 (w.heap.size + 2) 26 (.slice none 0 0) := by
    rw [← hW1]
    have := Boxed.new ((w.alloc (.cells #[.slice Ap ps.length cp] 23)).alloc (.cells #[.slice none 0 0] 25)) 26 (.slice none 0 0)
    rw [World.size_alloc, World.size_alloc] at this
    exact this
  have sb := start_below A l.length c W1
  have sz := start_size A l.length c W1
  have hst : ∀ {k t v}, Boxed W1 k t v → Boxed (FTake.begun W1 A l.length c) k t v := fun {k t v} hk => (sb.block k hk.lt).trans hk
  have hFl := Kd.F_below (Kd.C_F (Kd.heap_int .u8) HRL.out) hb1
  have hFp := Kd.F_below (Kd.F_below (Kd.C_F (Kd.heap_int .i8) HRP.out) hb1) sb
  obtain ⟨z, hz⟩ : ∃ z, play ps l [] [] = z := ⟨_, rfl⟩
  have T := try_calls 17 #[.pointer (some ⟨w.heap.size, 0, none⟩), .pointer (some ⟨w.heap.size + 1, 0, none⟩), .pointer (some ⟨w.heap.size + 2, 0, none⟩)]
    (fun k => k < w.heap.size) A c l W1 (enters_of Try.func17 (by kernel_rfl) rfl)
    (fun r W => z.1 = .ok r ∧ Below w.heap.size w W ∧ InBox (w.heap.size + 5) (w.heap.size + 1) 25 31 W (z.2.1.map (Value.int .u64)) ∧ InBox (w.heap.size + 5) (w.heap.size + 2) 26 3 W (z.2.2.map (Value.int .i64)) ∧ Boxed W w.heap.size 23 (.slice Ap ps.length cp))
    (fun c W => z.1 = .error c ∧ Below w.heap.size w W ∧ InBox (w.heap.size + 5) (w.heap.size + 1) 25 31 W (z.2.1.map (Value.int .u64)) ∧ InBox (w.heap.size + 5) (w.heap.size + 2) 26 3 W (z.2.2.map (Value.int .i64)) ∧ Boxed W w.heap.size 23 (.slice Ap ps.length cp)) (by
      refine (plays_calls (fun k => k < w.heap.size) (W1.heap.size + 1) w.heap.size (w.heap.size + 1) (w.heap.size + 2) l ps Ap cp _ (start_rdr _ A c l W1 hFl hcl HXL.out) (fun k hk => by omega) (fun k hk => by rw [sz]; omega) (fun k hk => by omega) (fun k hk => by omega)
        (hst bD) (Kd.F_mono hFp (fun k hk => by omega)) HXP.out (by omega) ⟨_, hst bX, World.ownsRow_nil _ _ _ _⟩ ⟨_, hst bY, World.ownsRow_nil _ _ _ _⟩ (by omega) (by omega) (by omega) (by omega)).mono ?_
      rw [hz]
      rintro e W ⟨ho, hX, hY, hE⟩
      rw [show (FTake.begun W1 A l.length c).heap.size = w.heap.size + 5 by rw [sz, hz1]] at hX hY
      have hbW : Below w.heap.size w W := (hb1.trans (sb.mono (by omega))).trans (ho.below (by rw [sz]; omega) (by omega))
      have hDW := ho.boxed (hst bD) (by omega)
      refine ⟨ho.boxed (start_err A l.length c W1) (by omega), ?_⟩
      cases hz1' : z.1 with
      | ok r => rw [hz1'] at hE; exact .inl ⟨_, r, hE.2, hE.1, rfl, hbW, hX, hY, hDW⟩
      | error c => rw [hz1'] at hE; exact .inr ⟨c, hE, rfl, hbW, hX, hY, hDW⟩)
  have HT := Aside0.mk T
  have HW1 := Aside0.mk hW1
  have HZ1 := Aside0.mk hz1
  have HZ := Aside0.mk hz
  clear T hb1 hz1 bD bX bY sb sz hst hFl hFp hW1 hz
  go_enter Try.func3, Try.ntmps3
  go_wp2_with (fail)
  rw [HW1.out]
  refine HT.out.mono ?_
  intro e w2 hTr
  have hz1 := HZ1.out
  obtain ⟨ce, hce, rfl, hB2, hX2, hY2, hD2⟩ : ∃ ce : Int, ce = endc z.1 ∧ e = .returned (.int .i64 ce) ∧ Below w.heap.size w w2 ∧ InBox (w.heap.size + 5) (w.heap.size + 1) 25 31 w2 (z.2.1.map (Value.int .u64)) ∧ InBox (w.heap.size + 5) (w.heap.size + 2) 26 3 w2 (z.2.2.map (Value.int .i64)) ∧ Boxed w2 w.heap.size 23 (.slice Ap ps.length cp) := by
    obtain ⟨c2, W, rfl, ho, ⟨r, ⟨hz1', hb, ⟨v1, hx1, hx2⟩, ⟨v2, hy1, hy2⟩, hd⟩, hc⟩ | ⟨hz1', hb, ⟨v1, hx1, hx2⟩, ⟨v2, hy1, hy2⟩, hd⟩⟩ := hTr
    · refine ⟨_, ?_, rfl, hb.trans (ho.below (by have := hb.size; omega) (by omega)), ⟨v1, ho.boxed hx1 (by omega), row_off hx2 ho (by omega)⟩, ⟨v2, ho.boxed hy1 (by omega), row_off hy2 ho (by omega)⟩, ho.boxed hd (by omega)⟩
      rw [hz1', hc]; rfl
    · refine ⟨_, ?_, rfl, hb.trans (ho.below (by have := hb.size; omega) (by omega)), ⟨v1, ho.boxed hx1 (by omega), row_off hx2 ho (by omega)⟩, ⟨v2, ho.boxed hy1 (by omega), row_off hy2 ho (by omega)⟩, ho.boxed hd (by omega)⟩
      rw [hz1']; rfl
  clear hTr HT HW1 HZ1 hz1
  obtain ⟨vX, hvX, hrX⟩ := hX2
  obtain ⟨vY, hvY, hrY⟩ := hY2
  obtain ⟨AX, cX, rfl, hcX⟩ := row_slice hrX
  obtain ⟨AY, cY, rfl, hcY⟩ := row_slice hrY
  have HCX := Aside0.mk hcX
  have HCY := Aside0.mk hcY
  have kX := hvX.cell
  have kY := hvY.cell
  have kD := hD2.cell
  have HVX := Aside0.mk hvX
  have HVY := Aside0.mk hvY
  have HCE := Aside0.mk hce
  have HB2 := Aside0.mk hB2
  clear hcX hcY hvX hvY hce hB2 hrX hrY hD2
  simp only [List.length_map] at kX kY HVX HVY
  go_wp2_with (fail)
  go_loopw [30, 8, 9, 10] (fun v30 v8 v9 v10 w' => ∃ (j a : Nat) (gs ls : List Int), j ≤ ps.length ∧ a ≤ l.length ∧ v30 = .int .i64 j ∧ v9 = .int .i64 j ∧ v8 = .int .i64 a ∧ v10 = .int .i64 0 ∧ gs.length = j ∧ ls.length = j ∧ Aside0 (play (ps.drop j) (l.drop a) gs ls = z) ∧ Drawn0 w2 w') (fun v _ _ _ _ => ps.length - (intOf v).toNat)
  case atStart => exact ⟨0, 0, [], [], by omega, by omega, rfl, rfl, rfl, rfl, rfl, rfl, HZ, Drawn0.refl _⟩
  case round =>
    obtain ⟨j, a, gs, ls, hj, ha, rfl, rfl, rfl, rfl, hgl, hll, HP, ⟨nd, rfl⟩⟩ := hrel
    have hcv := Kd.C_string (P := Try.prog) (A := A) (c := c) Try.underlying22 Try.underlying5 Try.underlying9 (Kd.C_below HRL.out (show Below w.heap.size w (w2.drewN nd) from below_drewN HB2.out nd))
    by_cases hlt : j < ps.length
    · have d0 : decide ((j : Int) < (ps.length : Int)) = true := decide_eq_true (by omega)
      obtain ⟨ad, e0, hx1⟩ := Kd.at_int (Kd.C_below HRP.out (show Below w.heap.size w (w2.drewN nd) from below_drewN HB2.out nd)) j (by omega) (by omega)
      cases e0
      simp only [Int.toNat_natCast] at hx1
      have hw := HXP.out (rd ps j) (Pure.rd_mem (by omega) (by omega))
      obtain ⟨n, hnn⟩ : ∃ n, rd ps (j : Int) = n := ⟨_, rfl⟩
      have hpl : play (ps.drop j) (l.drop a) gs ls = play (n :: ps.drop (j + 1)) (l.drop a) gs ls := by rw [Pure.drop_rd ps j hlt, hnn]
      have hpl2 := hpl.symm.trans HP.out
      rw [hnn] at hx1 hw
      clear hpl hnn HP
      cases hnum : number n (l.drop a) with
      | error c1 =>
        have hrf := PureGet.ref_get_f l HXL.out a n ha (by omega) 20 (by omega)
        rw [hnum] at hrf
        simp only [play, hnum] at hpl2
        obtain rfl := num_err _ _ _ hnum
        have HGC := Aside0.mk (fun W => PA.hornbeamref07_Get.calls 20 (strOfNums l) a n _ _ _ W hrf)
        have HZ2 := Aside0.mk hpl2
        clear hrf hpl2 hnum
        go_wp2_with (fail)
        rw [hw]
        refine (HGC.out _).mono ?_
        rintro e w3 ⟨rfl, ⟨nd2, rfl⟩⟩
        clear HGC hcv hx1
        go_wp2_with (fail)
        obtain rfl := HZ2.out
        obtain rfl : ce = 2 := HCE.out
        clear HZ2 HCE HCX HCY kX kY kD
        simp only at HVX HVY
        refine (FTake07.calls_fixed _).mono ?_
        rintro e w5 ⟨rfl, hb⟩
        have HB5 := Aside0.mk (HB2.out.trans (show Below w.heap.size w2 w5 from (show Below w2.heap.size w2 w5 from ⟨hb.os, hb.tape, hb.output, hb.size, hb.block⟩).mono HB2.out.size))
        have cX5 := (show Boxed w5 _ _ _ from (hb.block _ HVX.out.lt).trans HVX.out).cell
        have cY5 := (show Boxed w5 _ _ _ from (hb.block _ HVY.out.lt).trans HVY.out).cell
        clear hb
        go_wp2
        go_ret
        exact ⟨by simp, HB5.out⟩
      | ok q =>
        obtain ⟨x, r1⟩ := q
        obtain ⟨rfl, hal⟩ := num_drop _ _ _ _ _ ha hnum
        have hrf := PureGet.ref_get_f l HXL.out a n ha (by omega) 20 (by omega)
        rw [hnum] at hrf
        simp only [play, hnum] at hpl2
        have HGC := Aside0.mk (fun W => PA.hornbeamref07_Get.calls 20 (strOfNums l) a n _ _ _ W hrf)
        obtain ⟨hp1, hp2⟩ := play_prefix (ps.drop (j + 1)) (l.drop (a + PureTake.cnt n)) (gs ++ [x]) (ls ++ [((l.drop (a + PureTake.cnt n)).length : Int)])
        rw [hpl2] at hp1 hp2
        obtain ⟨hg1, hg2⟩ := at_prefix hp1 hgl
        obtain ⟨hl1, hl2⟩ := at_prefix hp2 hll
        obtain ⟨adX, e1, hxX⟩ := HCX.out j (.int .u64 x) (by rw [List.getElem?_map, hg1]; rfl)
        obtain ⟨adY, e2, hxY⟩ := HCY.out j (.int .i64 ((l.drop (a + PureTake.cnt n)).length : Int)) (by rw [List.getElem?_map, hl1]; rfl)
        cases e1
        cases e2
        rw [List.length_drop] at hxY
        have HZ2 := Aside0.mk hpl2
        generalize a + PureTake.cnt n = a2 at *
        have dk1 : decide ((j : Int) ≥ (z.2.1.length : Int)) = false := decide_eq_false (by omega)
        have dk1' : decide ((z.2.1.length : Int) ≤ (j : Int)) = false := decide_eq_false (by omega)
        have dk2 : (((l.length - a2 : Nat) : Int) != wrap64 ((l.length : Int) - (a2 : Int))) = false := by
          rw [bne_eq_false_iff_eq, Pure.wrap_in (by omega) (by omega)]; omega
        clear hrf hpl2 hnum hp1 hp2 hg1 hl1
        go_wp2_with (fail)
        rw [hw]
        refine (HGC.out _).mono ?_
        rintro e w3 ⟨rfl, ⟨nd2, rfl⟩⟩
        clear HGC hcv hx1
        go_wp2_with (fail)
        · exfalso
          rename_i hh
          rcases hh with hh | hh
          · omega
          · rw [bne_iff_ne] at hh; omega
        · exact ⟨⟨j + 1, a2, gs ++ [x], ls ++ [((l.drop a2).length : Int)], by omega, by omega, by go_num, by go_num, rfl, rfl, by simp; omega, by simp; omega, HZ2, ⟨_, rfl⟩⟩, by simp [intOf]; omega⟩
    · obtain rfl : j = ps.length := by omega
      have d0 : decide ((ps.length : Int) < (ps.length : Int)) = false := by simp
      have hpl := HP.out
      rw [List.drop_length] at hpl
      simp only [play] at hpl
      subst hpl
      by_cases hend : a < l.length
      · have d3 : decide ((a : Int) < (l.length : Int)) = true := decide_eq_true (by omega)
        obtain rfl : ce = 3 := by rw [HCE.out]; simp only [endc]; rw [if_pos (by rw [List.length_drop]; omega)]
        clear HP HCE HCX HCY kX kY kD hcv
        simp only at HVX HVY
        go_wp2_with (fail)
        refine (FTake07.calls_fixed _).mono ?_
        rintro e w5 ⟨rfl, hb⟩
        have HB5 := Aside0.mk (HB2.out.trans (show Below w.heap.size w2 w5 from (show Below w2.heap.size w2 w5 from ⟨hb.os, hb.tape, hb.output, hb.size, hb.block⟩).mono HB2.out.size))
        have cX5 := (show Boxed w5 _ _ _ from (hb.block _ HVX.out.lt).trans HVX.out).cell
        have cY5 := (show Boxed w5 _ _ _ from (hb.block _ HVY.out.lt).trans HVY.out).cell
        clear hb
        go_wp2
        go_ret
        exact ⟨by simp, HB5.out⟩
      · have d3 : decide ((a : Int) < (l.length : Int)) = false := decide_eq_false (by omega)
        obtain rfl : ce = 0 := by rw [HCE.out]; simp only [endc]; rw [if_neg (by rw [List.length_drop]; omega)]
        clear HP HCE HCX HCY kX kY kD hcv
        simp only at HVX HVY
        go_wp2_with (fail)
        refine (FTake07.calls_fixed _).mono ?_
        rintro e w5 ⟨rfl, hb⟩
        have HB5 := Aside0.mk (HB2.out.trans (show Below w.heap.size w2 w5 from (show Below w2.heap.size w2 w5 from ⟨hb.os, hb.tape, hb.output, hb.size, hb.block⟩).mono HB2.out.size))
        have cX5 := (show Boxed w5 _ _ _ from (hb.block _ HVX.out.lt).trans HVX.out).cell
        have cY5 := (show Boxed w5 _ _ _ from (hb.block _ HVY.out.lt).trans HVY.out).cell
        clear hb
        go_wp2
        go_ret
        exact ⟨by simp, HB5.out⟩
theorem wf_i8 {x : Int} (h : (Lit.int .i8 x).wf = true) : wrap64 x = x := by
  simp [Lit.wf, IntKind.min, IntKind.max, IntKind.signed, IntKind.bits] at h; unfold wrap64; omega
end Go.Proofs.Ytebbnjgaikppgaa.FTakePlays
