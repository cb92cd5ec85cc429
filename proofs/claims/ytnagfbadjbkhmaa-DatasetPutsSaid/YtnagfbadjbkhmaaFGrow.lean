/- slices.Grow by a walk: a row of bytes keeps what it has. -/
import Derived.Test.YtnagfbadjbkhmaaFTake
namespace Go.Proofs.Ytnagfbadjbkhmaa.FGrow
open Go.RowKit Go.Shelf Go.Proofs.YtnagfbadjbkhmaaW.PrintWords Go.Proofs.YtnagfbadjbkhmaaW.PrintLast Go.Proofs.YtnagfbadjbkhmaaW.PrintMore
set_option linter.unusedVariables false
set_option linter.unusedSimpArgs false
section
variable {P : Program} {ops : Array Oper} {rest : List Oper} {o : Oper} {a : Act} {Q : Exit → Act → World → Prop}
/-- append(v, make([]T, m)...) to a row of which nothing but its cells is known. -/
theorem own_zeros {W : World} (base : Nat) (hgd : o.guard = none) (s x : Operand) (t ti e : TypeId) {i : TypeInfo} (z : Value) (bytes : Nat)
  (ho : o.op = .call { callee:=.builtin .append,args:=#[s,x],argTypes:=#[t,ti] })
  (ht : P.underlying t = some (.slice e)) {k : IntKind} (hti : P.underlying ti = some (.int k)) (hi : P.info? e = some i) (hz0 : i.zero = some z) (hz1 : i.size = 1) (hz2 : i.bytes = bytes) (hz : z.cells.size = 1) (hb0 : 0 < bytes) (hone : ∀ m,∀ u ∈ (Builtin.zeroCells z.cells m).toList,u.oneCell' = true)
  (v : Value) (n : Nat) (xs : List Value) {kx : IntKind} (m : Nat) (hs : a.eval s = v) (hx : a.eval x = .int kx m)
  (hown : W.ownsRow base e 1 v n xs) (hbase : base ≤ W.heap.size) (hl : (n + m) * bytes ≤ 140737488355328)
  (h : ∀ v1 w1,w1.ownsRow base e 1 v1 (n + m) (xs ++ (Builtin.zeroCells z.cells m).toList) → W.grownBy w1 v.ownBlock → wpList P ops Q rest (a.put o.dst v1) w1) :
  wpList P ops Q (o :: rest) a W:=by
 obtain ⟨v1,w1,hrun,h2,hg,hat⟩:=run_append_zeros (P:=P) W base t ti o.type e i z 1 bytes ht hti hi hz0 hz1 hz2 hz (by decide) hb0 v n xs hown kx m (hone m) hl hbase
 refine wpList_plain hgd fun K hK=>?_
 unfold Oper.wp execOp
 simp only [ho,resolve,invoke,builtin,Sem.run_bind,Sem.run_pure,Result.andThen_ok,List.map_toArray,List.map_cons,List.map_nil,hs,hx,hrun]
 exact hK _ _ (h v1 w1 h2 hg)
end
theorem info_u8 : (Try.prog.info? 5).map (fun i=>(i.zero,i.size,i.bytes)) = some (some (.int .u8 0),1,1):=by kernel_rfl
theorem zeros_one (m : Nat) : ∀ u ∈ (Builtin.zeroCells (Value.int .u8 0).cells m).toList,u.oneCell' = true:=by
 intro u hu
 have : u = .int .u8 0:=by
  simp [Builtin.zeroCells,Value.cells] at hu
  obtain ⟨j,_,hj⟩:=hu
  rw [show j % 1 = 0 from Nat.mod_one j] at hj
  exact hj.symm
 rw [this];rfl
set_option maxHeartbeats 2000000 in
set_option maxRecDepth 100000 in
theorem grow_calls (base : Nat) (v : Value) (xs : List Int) (n : Int) (W : World) (hR : Kd.R (Kd.int .u8) 5 W base (fun _=>True) v xs) (hb : base ≤ W.heap.size) (h0 : 0 ≤ n) (hn : n ≤ 1000000000) (hx : xs.length ≤ 1000000000) (hne : xs ≠ []) :
  Calls Try.prog 51 #[v,.int .i64 n] W fun e w'=>∃ v1,e = .returned v1 ∧ Kd.R (Kd.int .u8) 5 w' base (fun _=>True) v1 xs ∧ Below base W w':=by
 have hown:=Kd.own_of_R hR
 have hlen:=hown.1
 rcases hown.2 with ⟨rfl,hz⟩|⟨g,cap,cur0,rfl,hgb,hcell,hnc,hcm,hcs,htk⟩
 ·exact absurd (List.eq_nil_of_length_eq_zero hz) hne
 have HR:=Aside0.mk hR
 have hpos : 0 < xs.length:=List.length_pos_iff.2 hne
 have hmx : cap ≤ 9223372036854775807:=hcm
 obtain ⟨i0,hi,hz0,hz1,hz2⟩:=info_parts info_u8
 have hown2 : W.ownsRow base 5 1 (.slice (some ⟨g,0,none⟩) cap cap) cap cur0.toList:=⟨by rw [Array.length_toList];exact hcs,.inr ⟨g,cap,cur0,rfl,hgb,hcell,Nat.le_refl _,hcm,hcs,List.take_of_length_le (by rw [Array.length_toList];omega)⟩⟩
 have d0 : decide (n < 0) = false:=decide_eq_false (by omega)
 obtain ⟨m,hm⟩ : ∃ m,n - ((cap : Int) - xs.length) = m:=⟨_,rfl⟩
 have hw1 : wrap64 ((cap : Int) - xs.length) = (cap : Int) - xs.length:=by unfold wrap64;omega
 have hw2 : wrap64 (n - ((cap : Int) - xs.length)) = m:=by rw [hm];unfold wrap64;omega
 have HOWN2:=Aside0.mk hown2
 clear hR hown hcell hcm
 by_cases hgt : m > 0
 ·have d1 : decide (m > 0) = true:=decide_eq_true hgt
  obtain ⟨mm,rfl⟩:=Int.eq_ofNat_of_zero_le (show 0 ≤ m by omega)
  go_enter Try.func51,Try.ntmps51
  go_wp2_with ((with_reducible refine gate_builtin (b:=.append) (xs:=#[.tmp 20,.tmp 21]) rfl ?_);at_builtin;refine own_zeros base rfl (.tmp 20) (.tmp 21) 42 3 5 (.int .u8 0) 1 rfl Try.underlying42 Try.underlying3 hi hz0 hz1 hz2 rfl (by decide) zeros_one (.slice (some ⟨g,0,none⟩) cap cap) cap cur0.toList mm rfl rfl HOWN2.out hb (by omega) ?_;intro v1 w1 hown3 hg3;obtain ⟨g1,cap1,cur1,rfl,hg1,hc1,hn1,hm1,hs1,ht1⟩ : ∃ g cap1 cur,v1 = .slice (some ⟨g,0,none⟩) (cap + mm) cap1 ∧ base ≤ g ∧ w1.heap[g]? = some (.cells cur 5 (0,0)) ∧ cap + mm ≤ cap1 ∧ cap1 ≤ maxLen ∧ cur.size = cap1 * 1 ∧ cur.toList.take ((cap + mm) * 1) = cur0.toList ++ (Builtin.zeroCells (Value.int .u8 0).cells mm).toList:=(by rcases hown3.2 with ⟨_,hz⟩|hq;(exfalso;omega);exact hq))
  have HG3:=Aside0.mk hg3
  have HC1:=Aside0.mk hc1
  have HT1:=Aside0.mk ht1
  clear hg3 hc1 ht1 hown3
  have hle : xs.length ≤ cap1:=by omega
  go_wp2_with (fail)
  go_ret
  have hB : Below base W w1:=(Below.refl base W).grown HG3.out hb (fun k e=>by simp [Value.ownBlock] at e;omega)
  refine ⟨_,rfl,Kd.R_of_own (enc:=Value.int .u8) (h1:=fun _=>rfl) ⟨hlen,.inr ⟨g1,cap1,cur1,rfl,hg1,HC1.out,hle,hm1,hs1,?_⟩⟩ (fun _ _=>trivial),hB⟩
  have e1:=congrArg (List.take (xs.length * 1)) HT1.out
  rw [List.take_take,Nat.min_eq_left (by omega),List.take_append_of_le_length (by have hz:=Array.length_toList (xs:=cur0);omega),htk] at e1
  exact e1
 ·have d1 : decide (m > 0) = false:=decide_eq_false hgt
  go_enter Try.func51,Try.ntmps51
  go_wp2
  go_ret
  exact ⟨_,rfl,HR.out,Below.refl _ _⟩
end Go.Proofs.Ytnagfbadjbkhmaa.FGrow
