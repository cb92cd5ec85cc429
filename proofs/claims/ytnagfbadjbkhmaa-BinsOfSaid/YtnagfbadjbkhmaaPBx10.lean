import Derived.Test.YtnagfbadjbkhmaaPBx0
import Derived.Test.YtnagfbadjbkhmaaPBx6
import Derived.Test.YtnagfbadjbkhmaaPBx9
namespace Go.Proofs.Ytnagfbadjbkhmaa.PB
open Go.RowKit Go.Proofs.YtnagfbadjbkhmaaW.PrintWords Go.Proofs.YtnagfbadjbkhmaaW.PrintLast Go.Proofs.YtnagfbadjbkhmaaW.PrintMore
attribute [local go_sem] max2_int min2_int max_two min_two max_three min_three max_four min_four   -- for this text's walks alone
attribute [local go_sem high] Flt.fold_eq Flt.fold_ne Flt.fold_lt Flt.fold_gt Flt.fold_le Flt.fold_ge Flt.run_bits Flt.run_frombits
set_option linter.unusedVariables false
set_option linter.unusedSimpArgs false

/-! ### hornbeamref06_Sort: function 102 -/
mutual
def hornbeamref06_Sort.l0 : Nat → List Nat → List Nat → Int → Option (List Nat)
 | 0,_,_,_=>none
 | k + 1,x0,x3,x4=>if x4 < (x0.length : Int) then (hornbeamref06_Sort.l1 k x0 x3 x4 (x3.length : Int)) else (some x3)
def hornbeamref06_Sort.l1 : Nat → List Nat → List Nat → Int → Int → Option (List Nat)
 | 0,_,_,_,_=>none
 | k + 1,x0,x3,x4,x5=>if x5 > 0 then (if 0 ≤ (wrap64 (x5 - 1)) then (if (wrap64 (x5 - 1)) < (x3.length : Int) then (if 0 ≤ x4 then (if x4 < (x0.length : Int) then ((hornbeamref06_Cmp.f k (rdOf (0 : Nat) x3 (wrap64 (x5 - 1))) (rdOf (0 : Nat) x0 x4)).bind fun t214=>(if t214 > 0 then (hornbeamref06_Sort.l1 k x0 x3 x4 (wrap64 (x5 - 1))) else ((some (([] : List Nat) : List Nat)).bind fun y215=>(if 0 ≤ x5 then (if x5 ≤ (x3.length : Int) then ((some (x3.drop (x5 : Int).toNat : List Nat)).bind fun y218=>(if y215.length + y218.length < 17592186044416 then ((some (y215 ++ y218 : List Nat)).bind fun y222=>((some (x3.take (x5 : Int).toNat : List Nat)).bind fun y225=>((hornbeamref06_Clean.f (rdOf (0 : Nat) x0 x4)).bind fun t229=>(if y225.length < 17592186044416 then ((some (y225 ++ [t229] : List Nat)).bind fun y230=>(if y230.length + y222.length < 17592186044416 then (hornbeamref06_Sort.l0 k x0 (y230 ++ y222) (wrap64 (x4 + 1))) else (none))) else (none))))) else (none))) else (none)) else (none))))) else (none)) else (none)) else (none)) else (none)) else ((some (([] : List Nat) : List Nat)).bind fun y236=>(if 0 ≤ x5 then (if x5 ≤ (x3.length : Int) then ((some (x3.drop (x5 : Int).toNat : List Nat)).bind fun y239=>(if y236.length + y239.length < 17592186044416 then ((some (y236 ++ y239 : List Nat)).bind fun y243=>((some (x3.take (x5 : Int).toNat : List Nat)).bind fun y246=>(if 0 ≤ x4 then (if x4 < (x0.length : Int) then ((hornbeamref06_Clean.f (rdOf (0 : Nat) x0 x4)).bind fun t250=>(if y246.length < 17592186044416 then ((some (y246 ++ [t250] : List Nat)).bind fun y251=>(if y251.length + y243.length < 17592186044416 then (hornbeamref06_Sort.l0 k x0 (y251 ++ y243) (wrap64 (x4 + 1))) else (none))) else (none))) else (none)) else (none)))) else (none))) else (none)) else (none)))
end
def hornbeamref06_Sort.f (k : Nat) (l0 : List Nat) : Option (List Nat):=hornbeamref06_Sort.l0 k l0 (([] : List Nat)) 0
theorem hornbeamref06_Sort.mono_l : ∀ k,(∀ y0 y1 y2,LeO (hornbeamref06_Sort.l0 k y0 y1 y2) (hornbeamref06_Sort.l0 (k + 1) y0 y1 y2)) ∧ (∀ y0 y1 y2 y3,LeO (hornbeamref06_Sort.l1 k y0 y1 y2 y3) (hornbeamref06_Sort.l1 (k + 1) y0 y1 y2 y3))
 | 0=>⟨fun _ _ _ r h=>by simp [hornbeamref06_Sort.l0] at h,fun _ _ _ _ r h=>by simp [hornbeamref06_Sort.l1] at h⟩
 | k + 1=>by
  obtain ⟨ih0,ih1⟩:=hornbeamref06_Sort.mono_l k
  refine ⟨?_,?_⟩
  ·intro y0 y1 y2
   unfold hornbeamref06_Sort.l0
   repeat' first
   | (with_reducible exact ih0 _ _ _)
   | (with_reducible exact ih1 _ _ _ _)
   | (with_reducible exact hornbeamref06_Cmp.mono _ _ _)
   | (with_reducible exact LeO.refl _)
   | (with_reducible exact LeO.none _)
   | (with_reducible refine LeO.ite ?_ ?_)
   | (with_reducible refine LeO.bind ?_ (fun _=>?_))
   | exact ih0 _ _ _
   | exact ih1 _ _ _ _
   | exact hornbeamref06_Cmp.mono _ _ _
   | exact LeO.none _
   | refine LeO.ite ?_ ?_
   | refine LeO.bind ?_ (fun _=>?_)
  ·intro y0 y1 y2 y3
   unfold hornbeamref06_Sort.l1
   repeat' first
   | (with_reducible exact ih0 _ _ _)
   | (with_reducible exact ih1 _ _ _ _)
   | (with_reducible exact hornbeamref06_Cmp.mono _ _ _)
   | (with_reducible exact LeO.refl _)
   | (with_reducible exact LeO.none _)
   | (with_reducible refine LeO.ite ?_ ?_)
   | (with_reducible refine LeO.bind ?_ (fun _=>?_))
   | exact ih0 _ _ _
   | exact ih1 _ _ _ _
   | exact hornbeamref06_Cmp.mono _ _ _
   | exact LeO.none _
   | refine LeO.ite ?_ ?_
   | refine LeO.bind ?_ (fun _=>?_)
theorem hornbeamref06_Sort.mono : ∀ a0 k,LeO (hornbeamref06_Sort.f k a0) (hornbeamref06_Sort.f (k + 1) a0):=by
 intro a0 k
 obtain ⟨ih0,ih1⟩:=hornbeamref06_Sort.mono_l k
 unfold hornbeamref06_Sort.f
 repeat' first
   | (with_reducible exact ih0 _ _ _)
   | (with_reducible exact ih1 _ _ _ _)
   | (with_reducible exact hornbeamref06_Cmp.mono _ _ _)
   | (with_reducible exact LeO.refl _)
   | (with_reducible exact LeO.none _)
   | (with_reducible refine LeO.ite ?_ ?_)
   | (with_reducible refine LeO.bind ?_ (fun _=>?_))
   | exact ih0 _ _ _
   | exact ih1 _ _ _ _
   | exact hornbeamref06_Cmp.mono _ _ _
   | exact LeO.none _
   | refine LeO.ite ?_ ?_
   | refine LeO.bind ?_ (fun _=>?_)
def hornbeamref06_Sort.T6 : Bool × List (List Nat × List Nat):=(true,[([],[]),([0],[0]),([1],[1]),([2],[2]),([2],[2]),([4,2],[2,4]),([3,5,2],[2,3,5]),([6,2],[2,6]),([2],[2]),([2],[2]),([8,9,2],[2,8,9]),([10,2],[2,10]),([7,11,2,2],[2,7,11]),([12,2],[2,12]),([2,13],[2,13])])
def hornbeamref06_Sort.B6 : List Nat:=[0,1,3,7,7,23,63,127,7,7,775,1799,4095,8191,16383]
theorem hornbeamref06_Sort.tab6 : rtab .any (opsOf Try.f102 6) = hornbeamref06_Sort.T6:=by kernel_rfl
theorem hornbeamref06_Sort.bits6 : waitsOk hornbeamref06_Sort.T6.2 hornbeamref06_Sort.B6 = true:=by kernel_rfl
def hornbeamref06_Sort.T9 : Bool × List (List Nat × List Nat):=(true,[([],[]),([],[]),([0,1],[0,1]),([],[]),([],[]),([3,4],[3,4]),([5],[5]),([6],[6]),([7],[7]),([2,8,7],[2,8]),([],[]),([9,10,9],[9,10]),([11,11,0,1,2,3,4,5,6,7,8,9,10,11],[0,11])])
def hornbeamref06_Sort.B9 : List Nat:=[0,0,3,0,0,24,56,120,248,511,0,2047,4095]
theorem hornbeamref06_Sort.tab9 : rtab .any (opsOf Try.f102 9) = hornbeamref06_Sort.T9:=by kernel_rfl
theorem hornbeamref06_Sort.bits9 : waitsOk hornbeamref06_Sort.T9.2 hornbeamref06_Sort.B9 = true:=by kernel_rfl
set_option maxHeartbeats 8000000 in
set_option maxRecDepth 100000 in
theorem hornbeamref06_Sort.calls (k : Nat) (A0 : Option Addr) (c0 : Nat) (l0 : List Nat) (r : List Nat) (w : World) (hr0 : Kd.C Flt.kf w A0 l0.length l0) (hc0 : l0.length ≤ c0) (h : hornbeamref06_Sort.f k l0 = some r) :
  Calls Try.prog 102 #[.slice A0 l0.length c0] w fun e w'=>∃ v0_ : Value,e = .returned (v0_) ∧ Kd.R Flt.kf 36 w' w.heap.size (fun _=>True) v0_ r ∧ Below w.heap.size w w':=by
 have HR0:=Aside0.mk hr0
 have HC0:=Aside0.mk hc0
 clear hr0 hc0
 have HB:=Aside0.mk (Below.refl w.heap.size w)
 have H : (hornbeamref06_Sort.l0 k l0 (([] : List Nat)) 0) = some r:=h
 clear h
 obtain ⟨y209,hy209⟩ : ∃ y_ : List Nat,y_ = (([] : List Nat)):=⟨_,rfl⟩
 replace H : (hornbeamref06_Sort.l0 k l0 y209 0) = some r:=by first|(rw [hy209];with_reducible exact H)|(have H2_:=(Option.bind_some _ _).symm.trans H;rw [hy209];with_reducible exact H2_)|(have H2_:=(Option.bind_some _ _).symm.trans H;with_reducible exact H2_)|with_reducible exact H|(rw [hy209];exact H)|exact H
 have Ny209:=Aside0.mk hy209
 clear hy209
 have H':=Aside0.mk H
 clear H
 go_enter Try.func102,Try.ntmps102
 go_wp2_with (first|((with_reducible refine gate_dst (N:=7) rfl ?_);refine Kd.R_lit Flt.kf _ 36 ?hg (N:=7) ?hd (xs:=([] : List Nat)) (inner:=[]) (ok:=fun _=>True) (okp:=fun _=>True) ?hr ?hp (fun _ hk=>hk) trivial (Below.refl _ _) (Nat.le_refl _) (by simp) ?_;(case hd=>rfl);(case hg=>rfl);(case hr=>first|(go_simp;done)|(go_simp;rfl));(case hp=>exact (Reps.none _ _));intro v210 w2 ho3 hb hg_ hnew_;clear hg_ hnew_;(first|rw [← Ny209.out] at ho3|(simp only [Int.reduceToNat] at ho3;rw [← Ny209.out] at ho3));have n0_:=Aside0.mk (Kd.R_lower ho3 (below_size (by repeat(first|(with_reducible first|exact HB.out|apply below_alloc|apply pw_below_drewN|apply below_drew1)|exact HB.out))));have n1_:=Aside0.mk (below_step (by repeat(first|(with_reducible first|exact HB.out|apply below_alloc|apply pw_below_drewN|apply below_drew1)|exact HB.out)) hb);clear HB;have HO211:=n0_;have HB:=n1_;clear n0_ n1_;clear hb ho3))
 go_loopg [3,4] k (fun kq v3 v4 w'=>∃ (x3_1 : List Nat) (x4_1 : Int),v4 = .int .i64 x4_1 ∧ Aside0 (hornbeamref06_Sort.l0 kq l0 x3_1 x4_1 = some r) ∧ Aside0 (kq ≤ k) ∧ Aside0 (Kd.R Flt.kf 36 w' w.heap.size (fun _=>True) v3 x3_1) ∧ Aside0 (Below w.heap.size w w'))
 case atStart=>exact ⟨(y209),(0),(by first|rfl|(simp;done)|(simp [*];done)),H',⟨Nat.le_refl _⟩,⟨by (with_reducible repeat(first|apply Kd.R_alloc|apply Kd.R_drewN|apply Kd.R_drew));exact HO211.out⟩,⟨by repeat(first|(with_reducible first|exact HB.out|apply below_alloc|apply pw_below_drewN|apply below_drew1)|exact HB.out)⟩⟩
 case round =>
  clear H'
  try clear c1
  try clear p2
  obtain ⟨x3_1,x4_1,rfl,HA,HK1,HO_3,HB⟩:=hrel
  cases gk with
  | zero=>exact absurd HA.out (by simp [hornbeamref06_Sort.l0])
  | succ k1 =>
   have H:=HA.out
   clear HA
   simp only [hornbeamref06_Sort.l0] at H
   by_cases c4 : x4_1 < (l0.length : Int)
   ·rw [if_pos c4] at H
    have c4b0 : decide (x4_1 < (l0.length : Int)) = true:=decide_eq_true c4
    clear c4
    have H':=Aside0.mk H
    clear H
    obtain ⟨Ao5,co5,eo5⟩:=Kd.R_slice HO_3.out
    subst eo5
    go_wp2
    go_loopg [5] k1 (fun kq v5 w'=>∃ (x5_2 : Int),v5 = .int .i64 x5_2 ∧ Aside0 (hornbeamref06_Sort.l1 kq l0 x3_1 x4_1 x5_2 = some r) ∧ Aside0 (kq ≤ k1) ∧ Aside0 (Kd.R Flt.kf 36 w' w.heap.size (fun _=>True) (.slice Ao5 x3_1.length co5) x3_1) ∧ Aside0 (Below w.heap.size w w'))
    case atStart=>exact ⟨((x3_1.length : Int)),(by first|rfl|(simp;done)|(simp [*];done)),H',⟨Nat.le_refl _⟩,⟨by (with_reducible repeat(first|apply Kd.R_alloc|apply Kd.R_drewN|apply Kd.R_drew));exact HO_3.out⟩,⟨by repeat(first|(with_reducible first|exact HB.out|apply below_alloc|apply pw_below_drewN|apply below_drew1)|exact HB.out)⟩⟩
    case round =>
     clear H'
     try clear c1
     try clear p2
     try clear c4
     try clear c4b0
     try clear p2
     obtain ⟨x5_2,rfl,HA,HK2,HO_3,HB⟩:=hrel
     cases gk with
     | zero=>exact absurd HA.out (by simp [hornbeamref06_Sort.l1])
     | succ k2 =>
      have H:=HA.out
      clear HA
      simp only [hornbeamref06_Sort.l1] at H
      by_cases c6 : x5_2 > 0
      ·rw [if_pos c6] at H
       have c6b0 : decide (0 < x5_2) = true:=decide_eq_true c6
       clear c6
       obtain ⟨ji7,hji7⟩ : ∃ j_ : Int,(wrap64 (x5_2 - 1)) = j_:=⟨_,rfl⟩
       replace H : (if 0 ≤ (ji7) then (if (ji7) < (x3_1.length : Int) then (if 0 ≤ x4_1 then (if x4_1 < (l0.length : Int) then ((hornbeamref06_Cmp.f k2 (rdOf (0 : Nat) x3_1 (ji7)) (rdOf (0 : Nat) l0 x4_1)).bind fun t214=>(if t214 > 0 then (hornbeamref06_Sort.l1 k2 l0 x3_1 x4_1 ji7) else ((some (([] : List Nat) : List Nat)).bind fun y215=>(if 0 ≤ x5_2 then (if x5_2 ≤ (x3_1.length : Int) then ((some (x3_1.drop (x5_2 : Int).toNat : List Nat)).bind fun y218=>(if y215.length + y218.length < 17592186044416 then ((some (y215 ++ y218 : List Nat)).bind fun y222=>((some (x3_1.take (x5_2 : Int).toNat : List Nat)).bind fun y225=>((hornbeamref06_Clean.f (rdOf (0 : Nat) l0 x4_1)).bind fun t229=>(if y225.length < 17592186044416 then ((some (y225 ++ [t229] : List Nat)).bind fun y230=>(if y230.length + y222.length < 17592186044416 then (hornbeamref06_Sort.l0 k2 l0 (y230 ++ y222) (wrap64 (x4_1 + 1))) else (none))) else (none))))) else (none))) else (none)) else (none))))) else (none)) else (none)) else (none)) else (none)) = some r:=by first|(rw [hji7] at H;exact H)|(simp only [hji7] at H ⊢;exact H)
       have hji7w : (IntKind.i64.wrap (x5_2 - 1)) = ji7:=(i64_w _).trans hji7
       by_cases c8 : 0 ≤ (ji7)
       ·rw [if_pos c8] at H
        have c8b0 : decide (0 ≤ (ji7)) = true:=decide_eq_true c8
        clear c8
        by_cases c9 : (ji7) < (x3_1.length : Int)
        ·rw [if_pos c9] at H
         have c9b0 : decide ((ji7) < (x3_1.length : Int)) = true:=decide_eq_true c9
         clear c9
         by_cases c10 : 0 ≤ x4_1
         ·rw [if_pos c10] at H
          have c10b0 : decide (0 ≤ x4_1) = true:=decide_eq_true c10
          clear c10
          by_cases c11 : x4_1 < (l0.length : Int)
          ·rw [if_pos c11] at H
           have c11b0 : decide (x4_1 < (l0.length : Int)) = true:=decide_eq_true c11
           clear c11
           replace H:=Option.bind_eq_some_iff.mp H
           obtain ⟨t214,A120,H⟩:=H
           replace H : (if t214 > 0 then (hornbeamref06_Sort.l1 k2 l0 x3_1 x4_1 ji7) else ((some (([] : List Nat) : List Nat)).bind fun y215=>(if 0 ≤ x5_2 then (if x5_2 ≤ (x3_1.length : Int) then ((some (x3_1.drop (x5_2 : Int).toNat : List Nat)).bind fun y218=>(if y215.length + y218.length < 17592186044416 then ((some (y215 ++ y218 : List Nat)).bind fun y222=>((some (x3_1.take (x5_2 : Int).toNat : List Nat)).bind fun y225=>((hornbeamref06_Clean.f (rdOf (0 : Nat) l0 x4_1)).bind fun t229=>(if y225.length < 17592186044416 then ((some (y225 ++ [t229] : List Nat)).bind fun y230=>(if y230.length + y222.length < 17592186044416 then (hornbeamref06_Sort.l0 k2 l0 (y230 ++ y222) (wrap64 (x4_1 + 1))) else (none))) else (none))))) else (none))) else (none)) else (none)))) = some r:=H
           have A12:=Aside0.mk A120
           clear A120
           by_cases c13 : t214 > 0
           ·rw [if_pos c13] at H
            have c13b0 : decide (0 < t214) = true:=decide_eq_true c13
            clear c13
            have H':=Aside0.mk H
            clear H
            try go_wp2
            have n0_:=Aside0.mk (Kd.R_drew HO_3.out)
            have n1_:=Aside0.mk (below_drew1 HB.out)
            clear HO_3
            clear HB
            have HO_3:=n0_
            have HB:=n1_
            clear n0_ n1_
            have p212 : 0 ≤ ((ji7) : Int):=of_decide_eq_true (by first|(with_reducible assumption)|assumption)
            have q212 : (ji7) < (x3_1.length : Int):=of_decide_eq_true (by first|(with_reducible assumption)|assumption)
            obtain ⟨ad212,e212,hx212_0⟩:=Flt.at_kf (Kd.R_reads' HO_3.out).2.2 (ji7) p212 q212
            cases e212
            replace p212:=eq_true p212
            replace q212:=eq_true q212
            have p213 : 0 ≤ (x4_1 : Int):=of_decide_eq_true (by first|(with_reducible assumption)|assumption)
            have q213 : x4_1 < (l0.length : Int):=of_decide_eq_true (by first|(with_reducible assumption)|assumption)
            obtain ⟨ad213,e213,hx213_0⟩:=Flt.at_kf HR0.out x4_1 p213 q213
            have hw213_0:=hx213_0
            cases e213
            replace hx213_0:=(HB.out.cell (World.block_lt_of_cell? w _ hx213_0)).trans hx213_0
            replace p213:=eq_true p213
            replace q213:=eq_true q213
            refine start_ (n:=15) (S:=fun w'=>w'.cell? (ad212.add ((ji7)).toNat) = some (.float .f64 (rdOf (0 : Nat) x3_1 (ji7))) ∧ w'.cell? (ad213.add (x4_1).toNat) = some (.float .f64 (rdOf (0 : Nat) l0 x4_1))) (ds:=[]) #[false,false,false,false,false,false,false,false,false,false,false,false,false,false,false] (by kernel_rfl) rfl rfl ⟨hx212_0,((HB.out.cell (World.block_lt_of_cell? w _ hw213_0)).trans hw213_0)⟩ (fun hHeld=>?_);refine with_tabW hornbeamref06_Sort.tab6 hornbeamref06_Sort.bits6 (fun HT_ HW_=>?_)
            generalize wr.drew = w14 at HO_3 HB hx212_0 hx213_0 hHeld ⊢
            refine pure_ (i:=0) (N:=some 16) (v:=?_) (a':=?_) #[true,false,false,false,false,false,false,false,false,false,false,false,false,false,false] rfl rfl (any_of HT_.out (by kernel_rfl)) (fun _ _ _ h=>h) (Or.inl ⟨by rfl,?_⟩) ?_ ?_
            rotate_left
            ·intro w'
             go_simp
             with_reducible rfl
            rotate_left
            ·simp only [Act.put,List.setIfInBounds_toArray,List.set_cons_zero,List.set_cons_succ,i64_w,i32_w]
             rfl
            refine pure_ (i:=1) (N:=some 17) (v:=?_) (a':=?_) #[true,true,false,false,false,false,false,false,false,false,false,false,false,false,false] rfl rfl (any_of HT_.out (by kernel_rfl)) (fun _ _ _ h=>h) (Or.inl ⟨by rfl,?_⟩) ?_ ?_
            rotate_left
            ·intro w'
             go_simp
             with_reducible rfl
            rotate_left
            ·simp only [Act.put,List.setIfInBounds_toArray,List.set_cons_zero,List.set_cons_succ,i64_w,i32_w]
             rfl
            refine pure_ (i:=2) (N:=some 18) (v:=?_) (a':=?_) #[true,true,true,false,false,false,false,false,false,false,false,false,false,false,false] rfl rfl (any_of HT_.out (by kernel_rfl)) (fun _ _ _ h=>h) (Or.inl ⟨by rfl,?_⟩) ?_ ?_
            rotate_left
            ·intro w'
             go_simp
             with_reducible rfl
            rotate_left
            ·simp only [Act.put,List.setIfInBounds_toArray,List.set_cons_zero,List.set_cons_succ,i64_w,i32_w]
             rfl
            refine pure_ (i:=3) (N:=some 19) (v:=?_) (a':=?_) #[true,true,true,true,false,false,false,false,false,false,false,false,false,false,false] rfl rfl (any_of HT_.out (by kernel_rfl)) (fun _ _ _ h=>h) (Or.inl ⟨by rfl,?_⟩) ?_ ?_
            rotate_left
            ·intro w'
             go_simp
             with_reducible rfl
            rotate_left
            ·simp only [Act.put,List.setIfInBounds_toArray,List.set_cons_zero,List.set_cons_succ,i64_w,i32_w]
             rfl
            refine pure_ (i:=4) (N:=some 20) (v:=?_) (a':=?_) #[true,true,true,true,true,false,false,false,false,false,false,false,false,false,false] rfl rfl (any_of HT_.out (by kernel_rfl)) (fun _ _ _ h=>h) (Or.inl ⟨by rfl,?_⟩) ?_ ?_
            rotate_left
            ·intro w'
             go_simp
             with_reducible rfl
            rotate_left
            ·simp only [Act.put,List.setIfInBounds_toArray,List.set_cons_zero,List.set_cons_succ,i64_w,i32_w]
             rfl
            refine pure_ (i:=5) (N:=some 21) (v:=?_) (a':=?_) #[true,true,true,true,true,true,false,false,false,false,false,false,false,false,false] rfl rfl (any_of HT_.out (by kernel_rfl)) (fun _ _ _ h=>h) (Or.inl ⟨by rfl,?_⟩) ?_ ?_
            rotate_left
            ·intro w'
             go_simp
             with_reducible rfl
            rotate_left
            ·simp only [Act.put,List.setIfInBounds_toArray,List.set_cons_zero,List.set_cons_succ,i64_w,i32_w]
             rfl
            refine pure_ (i:=6) (N:=some 22) (v:=?_) (a':=?_) #[true,true,true,true,true,true,true,false,false,false,false,false,false,false,false] rfl rfl (any_of HT_.out (by kernel_rfl)) (fun _ _ _ h=>h) (Or.inl ⟨by rfl,?_⟩) ?_ ?_
            rotate_left
            ·intro w'
             go_simp
             with_reducible rfl
            rotate_left
            ·simp only [Act.put,List.setIfInBounds_toArray,List.set_cons_zero,List.set_cons_succ,i64_w,i32_w]
             rfl
            refine pure_ (i:=8) (N:=some 24) (v:=?_) (a':=?_) #[true,true,true,true,true,true,true,false,true,false,false,false,false,false,false] rfl rfl (any_of HT_.out (by kernel_rfl)) (fun _ _ _ h=>h) (Or.inl ⟨by rfl,?_⟩) ?_ ?_
            rotate_left
            ·intro w'
             go_simp
             with_reducible rfl
            rotate_left
            ·simp only [Act.put,List.setIfInBounds_toArray,List.set_cons_zero,List.set_cons_succ,i64_w,i32_w]
             rfl
            refine pure_ (i:=9) (N:=some 25) (v:=?_) (a':=?_) #[true,true,true,true,true,true,true,false,true,true,false,false,false,false,false] rfl rfl (any_of HT_.out (by kernel_rfl)) (fun _ _ _ h=>h) (Or.inl ⟨by rfl,?_⟩) ?_ ?_
            rotate_left
            ·intro w'
             go_simp
             with_reducible rfl
            rotate_left
            ·simp only [Act.put,List.setIfInBounds_toArray,List.set_cons_zero,List.set_cons_succ,i64_w,i32_w]
             rfl
            refine pure_ (i:=10) (N:=some 26) (v:=?_) (a':=?_) #[true,true,true,true,true,true,true,false,true,true,true,false,false,false,false] rfl rfl (any_of HT_.out (by kernel_rfl)) (fun _ _ _ h=>h) (Or.inl ⟨by rfl,?_⟩) ?_ ?_
            rotate_left
            ·intro w'
             go_simp
             with_reducible rfl
            rotate_left
            ·simp only [Act.put,List.setIfInBounds_toArray,List.set_cons_zero,List.set_cons_succ,i64_w,i32_w]
             rfl
            refine take_ (i:=7) (N:=some 23) (v:=?_) (a':=?_) #[true,true,true,true,true,true,true,true,true,true,true,false,false,false,false] rfl rfl (take_ofW HT_.out HW_.out (by kernel_rfl)) (fun _ _ _ h=>h) (Or.inl ⟨by rfl,?_⟩) hHeld ?_ ?_
            rotate_left
            ·rintro w' ⟨s0,s1⟩
             go_simp
             with_reducible rfl
            rotate_left
            ·simp only [Act.put,List.setIfInBounds_toArray,List.set_cons_zero,List.set_cons_succ,i64_w,i32_w]
             rfl
            refine take_ (i:=11) (N:=some 27) (v:=?_) (a':=?_) #[true,true,true,true,true,true,true,true,true,true,true,true,false,false,false] rfl rfl (take_ofW HT_.out HW_.out (by kernel_rfl)) (fun _ _ _ h=>h) (Or.inl ⟨by rfl,?_⟩) hHeld ?_ ?_
            rotate_left
            ·rintro w' ⟨s0,s1⟩
             go_simp
             with_reducible rfl
            rotate_left
            ·simp only [Act.put,List.setIfInBounds_toArray,List.set_cons_zero,List.set_cons_succ,i64_w,i32_w]
             rfl
            refine one_ (i:=12) (N:=some 28) #[true,true,true,true,true,true,true,true,true,true,true,true,true,false,false] rfl rfl (one_of HT_.out (by kernel_rfl)) (by decide) (fun K hK=>?_)
            refine goes_ Try.func39 (by kernel_rfl) rfl #[.float .f64 (rdOf (0 : Nat) x3_1 (ji7)),.float .f64 (rdOf (0 : Nat) l0 x4_1)] (by rfl) rfl rfl (by (try simp only [List.map_toArray,List.map_cons,List.map_nil]);first|done|(simp only [hji7];rfl)|rfl|(simp only [List.length_drop,List.length_take];rfl)) ?_
            with_reducible refine (hornbeamref06_Cmp.calls k2 (rdOf (0 : Nat) x3_1 (ji7)) (rdOf (0 : Nat) l0 x4_1) t214 _ A12.out).mono ?_
            rintro e w' ⟨rfl,⟨nd,rfl⟩⟩
            refine ⟨_,rfl,?_⟩
            refine hK.out _ _ ⟨hHeld.1,((HB.out.cell (World.block_lt_of_cell? w _ hw213_0)).trans hw213_0)⟩ (fun hHeld=>?_)
            clear hK K
            refine norm_ (a':=?_) ?_ ?_
            rotate_left
            ·show Act.put _ (some 28) _ = _
             simp only [Act.put,List.setIfInBounds_toArray,List.set_cons_zero,List.set_cons_succ,i64_w,i32_w]
             rfl
            refine pure_ (i:=13) (N:=some 29) (v:=?_) (a':=?_) #[true,true,true,true,true,true,true,true,true,true,true,true,true,true,false] rfl rfl (any_of HT_.out (by kernel_rfl)) (fun _ _ _ h=>h) (Or.inl ⟨by rfl,?_⟩) ?_ ?_
            rotate_left
            ·intro w'
             go_simp
             with_reducible rfl
            rotate_left
            ·simp only [Act.put,List.setIfInBounds_toArray,List.set_cons_zero,List.set_cons_succ,i64_w,i32_w]
             rfl
            refine pure_ (i:=14) (N:=some 30) (v:=?_) (a':=?_) #[true,true,true,true,true,true,true,true,true,true,true,true,true,true,true] rfl rfl (any_of HT_.out (by kernel_rfl)) (fun _ _ _ h=>h) (Or.inl ⟨by rfl,?_⟩) ?_ ?_
            rotate_left
            ·intro w'
             go_simp
             with_reducible rfl
            rotate_left
            ·simp only [Act.put,List.setIfInBounds_toArray,List.set_cons_zero,List.set_cons_succ,i64_w,i32_w]
             rfl
            refine done_ (done_of HT_.out (by kernel_rfl)) ?_
            try go_wp2
            go_roundg k2
            case measure=>have:=HK1.out;have:=HK2.out;omega
            case rel=>exact ⟨(ji7),(by first|rfl|(simp;done)|(simp only [← hji7] <;> (first|rfl|simp))|(simp [*];done)),H',⟨by have:=HK1.out;have:=HK2.out;omega⟩,⟨by (with_reducible repeat(first|apply Kd.R_alloc|apply Kd.R_drewN|apply Kd.R_drew));exact HO_3.out⟩,⟨by repeat(first|(with_reducible first|exact HB.out|apply below_alloc|apply pw_below_drewN|apply below_drew1)|exact HB.out)⟩⟩
           ·rw [if_neg c13] at H
            have c13b0 : decide (0 < t214) = false:=decide_eq_false c13
            clear c13
            obtain ⟨y215,hy215⟩ : ∃ y_ : List Nat,y_ = (([] : List Nat)):=⟨_,rfl⟩
            replace H : (if 0 ≤ x5_2 then (if x5_2 ≤ (x3_1.length : Int) then ((some (x3_1.drop (x5_2 : Int).toNat : List Nat)).bind fun y218=>(if y215.length + y218.length < 17592186044416 then ((some (y215 ++ y218 : List Nat)).bind fun y222=>((some (x3_1.take (x5_2 : Int).toNat : List Nat)).bind fun y225=>((hornbeamref06_Clean.f (rdOf (0 : Nat) l0 x4_1)).bind fun t229=>(if y225.length < 17592186044416 then ((some (y225 ++ [t229] : List Nat)).bind fun y230=>(if y230.length + y222.length < 17592186044416 then (hornbeamref06_Sort.l0 k2 l0 (y230 ++ y222) (wrap64 (x4_1 + 1))) else (none))) else (none))))) else (none))) else (none)) else (none)) = some r:=by first|(rw [hy215];with_reducible exact H)|(have H2_:=(Option.bind_some _ _).symm.trans H;rw [hy215];with_reducible exact H2_)|(have H2_:=(Option.bind_some _ _).symm.trans H;with_reducible exact H2_)|with_reducible exact H|(rw [hy215];exact H)|exact H
            have Ny215:=Aside0.mk hy215
            clear hy215
            by_cases c15 : 0 ≤ x5_2
            ·rw [if_pos c15] at H
             have c15b0:=eq_true c15
             have c15b1 : decide (0 ≤ x5_2) = true:=decide_eq_true c15
             clear c15
             by_cases c16 : x5_2 ≤ (x3_1.length : Int)
             ·rw [if_pos c16] at H
              have c16b0:=eq_true c16
              have c16b1 : decide (x5_2 ≤ (x3_1.length : Int)) = true:=decide_eq_true c16
              clear c16
              obtain ⟨y218,hy218⟩ : ∃ y_ : List Nat,y_ = (x3_1.drop (x5_2 : Int).toNat):=⟨_,rfl⟩
              replace H : (if y215.length + y218.length < 17592186044416 then ((some (y215 ++ y218 : List Nat)).bind fun y222=>((some (x3_1.take (x5_2 : Int).toNat : List Nat)).bind fun y225=>((hornbeamref06_Clean.f (rdOf (0 : Nat) l0 x4_1)).bind fun t229=>(if y225.length < 17592186044416 then ((some (y225 ++ [t229] : List Nat)).bind fun y230=>(if y230.length + y222.length < 17592186044416 then (hornbeamref06_Sort.l0 k2 l0 (y230 ++ y222) (wrap64 (x4_1 + 1))) else (none))) else (none))))) else (none)) = some r:=by first|(rw [hy218];with_reducible exact H)|(have H2_:=(Option.bind_some _ _).symm.trans H;rw [hy218];with_reducible exact H2_)|(have H2_:=(Option.bind_some _ _).symm.trans H;with_reducible exact H2_)|with_reducible exact H|(rw [hy218];exact H)|exact H
              have Ny218:=Aside0.mk hy218
              clear hy218
              by_cases c17 : y215.length + y218.length < 17592186044416
              ·rw [if_pos c17] at H
               have LMc17:=Aside0.mk c17
               clear c17
               obtain ⟨y222,hy222⟩ : ∃ y_ : List Nat,y_ = (y215 ++ y218):=⟨_,rfl⟩
               replace H : ((some (x3_1.take (x5_2 : Int).toNat : List Nat)).bind fun y225=>((hornbeamref06_Clean.f (rdOf (0 : Nat) l0 x4_1)).bind fun t229=>(if y225.length < 17592186044416 then ((some (y225 ++ [t229] : List Nat)).bind fun y230=>(if y230.length + y222.length < 17592186044416 then (hornbeamref06_Sort.l0 k2 l0 (y230 ++ y222) (wrap64 (x4_1 + 1))) else (none))) else (none)))) = some r:=by first|(rw [hy222];with_reducible exact H)|(have H2_:=(Option.bind_some _ _).symm.trans H;rw [hy222];with_reducible exact H2_)|(have H2_:=(Option.bind_some _ _).symm.trans H;with_reducible exact H2_)|with_reducible exact H|(rw [hy222];exact H)|exact H
               have Ny222:=Aside0.mk hy222
               clear hy222
               have c18b0:=eq_true (of_decide_eq_true (by first|(with_reducible assumption)|assumption) : x5_2 ≤ (x3_1.length : Int))
               obtain ⟨y225,hy225⟩ : ∃ y_ : List Nat,y_ = (x3_1.take (x5_2 : Int).toNat):=⟨_,rfl⟩
               replace H : ((hornbeamref06_Clean.f (rdOf (0 : Nat) l0 x4_1)).bind fun t229=>(if y225.length < 17592186044416 then ((some (y225 ++ [t229] : List Nat)).bind fun y230=>(if y230.length + y222.length < 17592186044416 then (hornbeamref06_Sort.l0 k2 l0 (y230 ++ y222) (wrap64 (x4_1 + 1))) else (none))) else (none))) = some r:=by first|(rw [hy225];with_reducible exact H)|(have H2_:=(Option.bind_some _ _).symm.trans H;rw [hy225];with_reducible exact H2_)|(have H2_:=(Option.bind_some _ _).symm.trans H;with_reducible exact H2_)|with_reducible exact H|(rw [hy225];exact H)|exact H
               have Ny225:=Aside0.mk hy225
               clear hy225
               replace H:=Option.bind_eq_some_iff.mp H
               obtain ⟨t229,A190,H⟩:=H
               replace H : (if y225.length < 17592186044416 then ((some (y225 ++ [t229] : List Nat)).bind fun y230=>(if y230.length + y222.length < 17592186044416 then (hornbeamref06_Sort.l0 k2 l0 (y230 ++ y222) (wrap64 (x4_1 + 1))) else (none))) else (none)) = some r:=H
               have A19:=Aside0.mk A190
               clear A190
               by_cases c20 : y225.length < 17592186044416
               ·rw [if_pos c20] at H
                have LMc20:=Aside0.mk c20
                clear c20
                obtain ⟨y230,hy230⟩ : ∃ y_ : List Nat,y_ = (y225 ++ [t229]):=⟨_,rfl⟩
                replace H : (if y230.length + y222.length < 17592186044416 then (hornbeamref06_Sort.l0 k2 l0 (y230 ++ y222) (wrap64 (x4_1 + 1))) else (none)) = some r:=by first|(rw [hy230];with_reducible exact H)|(have H2_:=(Option.bind_some _ _).symm.trans H;rw [hy230];with_reducible exact H2_)|(have H2_:=(Option.bind_some _ _).symm.trans H;with_reducible exact H2_)|with_reducible exact H|(rw [hy230];exact H)|exact H
                have Ny230:=Aside0.mk hy230
                clear hy230
                by_cases c21 : y230.length + y222.length < 17592186044416
                ·rw [if_pos c21] at H
                 have LMc21:=Aside0.mk c21
                 clear c21
                 obtain ⟨y233,hy233⟩ : ∃ y_ : List Nat,y_ = (y230 ++ y222):=⟨_,rfl⟩
                 replace H : (hornbeamref06_Sort.l0 k2 l0 y233 (wrap64 (x4_1 + 1))) = some r:=by first|(rw [hy233];with_reducible exact H)|(have H2_:=(Option.bind_some _ _).symm.trans H;rw [hy233];with_reducible exact H2_)|(have H2_:=(Option.bind_some _ _).symm.trans H;with_reducible exact H2_)|with_reducible exact H|(rw [hy233];exact H)|exact H
                 have Ny233:=Aside0.mk hy233
                 clear hy233
                 have H':=Aside0.mk H
                 clear H
                 try go_wp2
                 have n0_:=Aside0.mk (Kd.R_drew HO_3.out)
                 have n1_:=Aside0.mk (below_drew1 HB.out)
                 clear HO_3
                 clear HB
                 have HO_3:=n0_
                 have HB:=n1_
                 clear n0_ n1_
                 have p212 : 0 ≤ ((ji7) : Int):=of_decide_eq_true (by first|(with_reducible assumption)|assumption)
                 have q212 : (ji7) < (x3_1.length : Int):=of_decide_eq_true (by first|(with_reducible assumption)|assumption)
                 obtain ⟨ad212,e212,hx212_0⟩:=Flt.at_kf (Kd.R_reads' HO_3.out).2.2 (ji7) p212 q212
                 cases e212
                 replace p212:=eq_true p212
                 replace q212:=eq_true q212
                 have p213 : 0 ≤ (x4_1 : Int):=of_decide_eq_true (by first|(with_reducible assumption)|assumption)
                 have q213 : x4_1 < (l0.length : Int):=of_decide_eq_true (by first|(with_reducible assumption)|assumption)
                 obtain ⟨ad213,e213,hx213_0⟩:=Flt.at_kf HR0.out x4_1 p213 q213
                 have hw213_0:=hx213_0
                 cases e213
                 replace hx213_0:=(HB.out.cell (World.block_lt_of_cell? w _ hx213_0)).trans hx213_0
                 replace p213:=eq_true p213
                 replace q213:=eq_true q213
                 refine start_ (n:=15) (S:=fun w'=>w'.cell? (ad212.add ((ji7)).toNat) = some (.float .f64 (rdOf (0 : Nat) x3_1 (ji7))) ∧ w'.cell? (ad213.add (x4_1).toNat) = some (.float .f64 (rdOf (0 : Nat) l0 x4_1))) (ds:=[]) #[false,false,false,false,false,false,false,false,false,false,false,false,false,false,false] (by kernel_rfl) rfl rfl ⟨hx212_0,((HB.out.cell (World.block_lt_of_cell? w _ hw213_0)).trans hw213_0)⟩ (fun hHeld=>?_);refine with_tabW hornbeamref06_Sort.tab6 hornbeamref06_Sort.bits6 (fun HT_ HW_=>?_)
                 generalize wr.drew = w22 at HO_3 HB hx212_0 hx213_0 hHeld ⊢
                 refine pure_ (i:=0) (N:=some 16) (v:=?_) (a':=?_) #[true,false,false,false,false,false,false,false,false,false,false,false,false,false,false] rfl rfl (any_of HT_.out (by kernel_rfl)) (fun _ _ _ h=>h) (Or.inl ⟨by rfl,?_⟩) ?_ ?_
                 rotate_left
                 ·intro w'
                  go_simp
                  with_reducible rfl
                 rotate_left
                 ·simp only [Act.put,List.setIfInBounds_toArray,List.set_cons_zero,List.set_cons_succ,i64_w,i32_w]
                  rfl
                 refine pure_ (i:=1) (N:=some 17) (v:=?_) (a':=?_) #[true,true,false,false,false,false,false,false,false,false,false,false,false,false,false] rfl rfl (any_of HT_.out (by kernel_rfl)) (fun _ _ _ h=>h) (Or.inl ⟨by rfl,?_⟩) ?_ ?_
                 rotate_left
                 ·intro w'
                  go_simp
                  with_reducible rfl
                 rotate_left
                 ·simp only [Act.put,List.setIfInBounds_toArray,List.set_cons_zero,List.set_cons_succ,i64_w,i32_w]
                  rfl
                 refine pure_ (i:=2) (N:=some 18) (v:=?_) (a':=?_) #[true,true,true,false,false,false,false,false,false,false,false,false,false,false,false] rfl rfl (any_of HT_.out (by kernel_rfl)) (fun _ _ _ h=>h) (Or.inl ⟨by rfl,?_⟩) ?_ ?_
                 rotate_left
                 ·intro w'
                  go_simp
                  with_reducible rfl
                 rotate_left
                 ·simp only [Act.put,List.setIfInBounds_toArray,List.set_cons_zero,List.set_cons_succ,i64_w,i32_w]
                  rfl
                 refine pure_ (i:=3) (N:=some 19) (v:=?_) (a':=?_) #[true,true,true,true,false,false,false,false,false,false,false,false,false,false,false] rfl rfl (any_of HT_.out (by kernel_rfl)) (fun _ _ _ h=>h) (Or.inl ⟨by rfl,?_⟩) ?_ ?_
                 rotate_left
                 ·intro w'
                  go_simp
                  with_reducible rfl
                 rotate_left
                 ·simp only [Act.put,List.setIfInBounds_toArray,List.set_cons_zero,List.set_cons_succ,i64_w,i32_w]
                  rfl
                 refine pure_ (i:=4) (N:=some 20) (v:=?_) (a':=?_) #[true,true,true,true,true,false,false,false,false,false,false,false,false,false,false] rfl rfl (any_of HT_.out (by kernel_rfl)) (fun _ _ _ h=>h) (Or.inl ⟨by rfl,?_⟩) ?_ ?_
                 rotate_left
                 ·intro w'
                  go_simp
                  with_reducible rfl
                 rotate_left
                 ·simp only [Act.put,List.setIfInBounds_toArray,List.set_cons_zero,List.set_cons_succ,i64_w,i32_w]
                  rfl
                 refine pure_ (i:=5) (N:=some 21) (v:=?_) (a':=?_) #[true,true,true,true,true,true,false,false,false,false,false,false,false,false,false] rfl rfl (any_of HT_.out (by kernel_rfl)) (fun _ _ _ h=>h) (Or.inl ⟨by rfl,?_⟩) ?_ ?_
                 rotate_left
                 ·intro w'
                  go_simp
                  with_reducible rfl
                 rotate_left
                 ·simp only [Act.put,List.setIfInBounds_toArray,List.set_cons_zero,List.set_cons_succ,i64_w,i32_w]
                  rfl
                 refine pure_ (i:=6) (N:=some 22) (v:=?_) (a':=?_) #[true,true,true,true,true,true,true,false,false,false,false,false,false,false,false] rfl rfl (any_of HT_.out (by kernel_rfl)) (fun _ _ _ h=>h) (Or.inl ⟨by rfl,?_⟩) ?_ ?_
                 rotate_left
                 ·intro w'
                  go_simp
                  with_reducible rfl
                 rotate_left
                 ·simp only [Act.put,List.setIfInBounds_toArray,List.set_cons_zero,List.set_cons_succ,i64_w,i32_w]
                  rfl
                 refine pure_ (i:=8) (N:=some 24) (v:=?_) (a':=?_) #[true,true,true,true,true,true,true,false,true,false,false,false,false,false,false] rfl rfl (any_of HT_.out (by kernel_rfl)) (fun _ _ _ h=>h) (Or.inl ⟨by rfl,?_⟩) ?_ ?_
                 rotate_left
                 ·intro w'
                  go_simp
                  with_reducible rfl
                 rotate_left
                 ·simp only [Act.put,List.setIfInBounds_toArray,List.set_cons_zero,List.set_cons_succ,i64_w,i32_w]
                  rfl
                 refine pure_ (i:=9) (N:=some 25) (v:=?_) (a':=?_) #[true,true,true,true,true,true,true,false,true,true,false,false,false,false,false] rfl rfl (any_of HT_.out (by kernel_rfl)) (fun _ _ _ h=>h) (Or.inl ⟨by rfl,?_⟩) ?_ ?_
                 rotate_left
                 ·intro w'
                  go_simp
                  with_reducible rfl
                 rotate_left
                 ·simp only [Act.put,List.setIfInBounds_toArray,List.set_cons_zero,List.set_cons_succ,i64_w,i32_w]
                  rfl
                 refine pure_ (i:=10) (N:=some 26) (v:=?_) (a':=?_) #[true,true,true,true,true,true,true,false,true,true,true,false,false,false,false] rfl rfl (any_of HT_.out (by kernel_rfl)) (fun _ _ _ h=>h) (Or.inl ⟨by rfl,?_⟩) ?_ ?_
                 rotate_left
                 ·intro w'
                  go_simp
                  with_reducible rfl
                 rotate_left
                 ·simp only [Act.put,List.setIfInBounds_toArray,List.set_cons_zero,List.set_cons_succ,i64_w,i32_w]
                  rfl
                 refine take_ (i:=7) (N:=some 23) (v:=?_) (a':=?_) #[true,true,true,true,true,true,true,true,true,true,true,false,false,false,false] rfl rfl (take_ofW HT_.out HW_.out (by kernel_rfl)) (fun _ _ _ h=>h) (Or.inl ⟨by rfl,?_⟩) hHeld ?_ ?_
                 rotate_left
                 ·rintro w' ⟨s0,s1⟩
                  go_simp
                  with_reducible rfl
                 rotate_left
                 ·simp only [Act.put,List.setIfInBounds_toArray,List.set_cons_zero,List.set_cons_succ,i64_w,i32_w]
                  rfl
                 refine take_ (i:=11) (N:=some 27) (v:=?_) (a':=?_) #[true,true,true,true,true,true,true,true,true,true,true,true,false,false,false] rfl rfl (take_ofW HT_.out HW_.out (by kernel_rfl)) (fun _ _ _ h=>h) (Or.inl ⟨by rfl,?_⟩) hHeld ?_ ?_
                 rotate_left
                 ·rintro w' ⟨s0,s1⟩
                  go_simp
                  with_reducible rfl
                 rotate_left
                 ·simp only [Act.put,List.setIfInBounds_toArray,List.set_cons_zero,List.set_cons_succ,i64_w,i32_w]
                  rfl
                 refine one_ (i:=12) (N:=some 28) #[true,true,true,true,true,true,true,true,true,true,true,true,true,false,false] rfl rfl (one_of HT_.out (by kernel_rfl)) (by decide) (fun K hK=>?_)
                 refine goes_ Try.func39 (by kernel_rfl) rfl #[.float .f64 (rdOf (0 : Nat) x3_1 (ji7)),.float .f64 (rdOf (0 : Nat) l0 x4_1)] (by rfl) rfl rfl (by (try simp only [List.map_toArray,List.map_cons,List.map_nil]);first|done|(simp only [hji7];rfl)|rfl|(simp only [List.length_drop,List.length_take];rfl)) ?_
                 with_reducible refine (hornbeamref06_Cmp.calls k2 (rdOf (0 : Nat) x3_1 (ji7)) (rdOf (0 : Nat) l0 x4_1) t214 _ A12.out).mono ?_
                 rintro e w' ⟨rfl,⟨nd,rfl⟩⟩
                 refine ⟨_,rfl,?_⟩
                 refine hK.out _ _ ⟨hHeld.1,((HB.out.cell (World.block_lt_of_cell? w _ hw213_0)).trans hw213_0)⟩ (fun hHeld=>?_)
                 clear hK K
                 refine norm_ (a':=?_) ?_ ?_
                 rotate_left
                 ·show Act.put _ (some 28) _ = _
                  simp only [Act.put,List.setIfInBounds_toArray,List.set_cons_zero,List.set_cons_succ,i64_w,i32_w]
                  rfl
                 refine pure_ (i:=13) (N:=some 29) (v:=?_) (a':=?_) #[true,true,true,true,true,true,true,true,true,true,true,true,true,true,false] rfl rfl (any_of HT_.out (by kernel_rfl)) (fun _ _ _ h=>h) (Or.inl ⟨by rfl,?_⟩) ?_ ?_
                 rotate_left
                 ·intro w'
                  go_simp
                  with_reducible rfl
                 rotate_left
                 ·simp only [Act.put,List.setIfInBounds_toArray,List.set_cons_zero,List.set_cons_succ,i64_w,i32_w]
                  rfl
                 refine pure_ (i:=14) (N:=some 30) (v:=?_) (a':=?_) #[true,true,true,true,true,true,true,true,true,true,true,true,true,true,true] rfl rfl (any_of HT_.out (by kernel_rfl)) (fun _ _ _ h=>h) (Or.inl ⟨by rfl,?_⟩) ?_ ?_
                 rotate_left
                 ·intro w'
                  go_simp
                  with_reducible rfl
                 rotate_left
                 ·simp only [Act.put,List.setIfInBounds_toArray,List.set_cons_zero,List.set_cons_succ,i64_w,i32_w]
                  rfl
                 refine done_ (done_of HT_.out (by kernel_rfl)) ?_
                 try go_wp2_with (first|((with_reducible refine gate_dst (N:=33) rfl ?_);refine Kd.R_lit Flt.kf _ 36 ?hg (N:=33) ?hd (xs:=([] : List Nat)) (inner:=[]) (ok:=fun _=>True) (okp:=fun _=>True) ?hr ?hp (fun _ hk=>hk) trivial (Below.refl _ _) (Nat.le_refl _) (by simp) ?_;(case hd=>rfl);(case hg=>rfl);(case hr=>first|(go_simp;done)|(go_simp;rfl));(case hp=>exact (Reps.none _ _));intro v216 w23 ho24 hb hg_ hnew_;clear hg_ hnew_;(first|rw [← Ny215.out] at ho24|(simp only [Int.reduceToNat] at ho24;rw [← Ny215.out] at ho24));have n0_:=Aside0.mk (Kd.R_elder' (by (with_reducible repeat(first|apply Kd.R_alloc|apply Kd.R_drewN|apply Kd.R_drew));exact HO_3.out) (Kd.R_base ho24) hb);have n1_:=Aside0.mk (Kd.R_lower (Kd.R_new' ho24 (Kd.R_lt (by (with_reducible repeat(first|apply Kd.R_alloc|apply Kd.R_drewN|apply Kd.R_drew));exact HO_3.out))) (below_size (by repeat(first|(with_reducible first|exact HB.out|apply below_alloc|apply pw_below_drewN|apply below_drew1)|exact HB.out))));have n2_:=Aside0.mk (below_step (by repeat(first|(with_reducible first|exact HB.out|apply below_alloc|apply pw_below_drewN|apply below_drew1)|exact HB.out)) hb);clear HO_3;clear HB;have HO_3:=n0_;have HO217:=n1_;have HB:=n2_;clear n0_ n1_ n2_;clear hb ho24;have q25 : (x5_2 : Int) ≤ ((x3_1.length : Int) : Int):=of_decide_eq_true (by first|(with_reducible assumption)|assumption);obtain ⟨i025,hi025,_,hsz25,_⟩:=info_parts info36;have hroom25 : x3_1.length ≤ co5:=(Kd.R_reads' HO_3.out).2.1;have hC25 : Kd.C Flt.kf _ (some ad212) x3_1.length x3_1:=(Kd.R_reads' HO_3.out).2.2;have q025 : (0 : Int) ≤ (x5_2 : Int):=of_decide_eq_true (by first|(with_reducible assumption)|assumption);have hcut25:=cut_from (P:=Try.prog) 30 36 .i64 Try.underlying30 hi025 1 hsz25 (some ad212) x3_1.length co5 x5_2 q025 q25;have hr25:=Kd.C_drop (m:=(x5_2 : Int).toNat) (c:=co5) hC25 (by omega) hroom25;obtain ⟨A25,hA25⟩ : ∃ A1,A1 = (if co5 = (x5_2 : Int).toNat then (some ad212) else ((some ad212) : Option Addr).map (·.add ((x5_2 : Int).toNat * 1))):=⟨_,rfl⟩;obtain ⟨c25,hc25⟩ : ∃ c1,c1 = co5 - (x5_2 : Int).toNat:=⟨_,rfl⟩;have hy25 : y218.length = x3_1.length - (x5_2 : Int).toNat:=(by rw [Ny218.out,List.length_drop] <;> omega);rw [show (x3_1).drop (x5_2 : Int).toNat = y218 from Ny218.out.symm] at hr25;replace hr25 : Kd.C Flt.kf _ A25 y218.length y218:=(by rw [hA25];exact hr25);rw [← hy25,← hA25,← hc25] at hcut25;have HR221:=Aside0.mk hr25;have HC221:=Aside0.mk (show y218.length ≤ c25 from by rw [hy25,hc25];exact Nat.sub_le_sub_right hroom25 _);clear hr25 hC25 hroom25 hi025 hsz25 hc25;have KY25:=Aside0.mk hy25;have KA25:=Aside0.mk hA25;clear hy25 hA25;have KL25:=Aside0.mk (show (x5_2 : Int).toNat ≤ x3_1.length from by omega);replace q25:=eq_true q25)|((with_reducible refine gate_builtin (b:=.append) (xs:=#[.tmp 33,.tmp 36]) rfl ?_);at_builtin;refine Kd.R_append_rows Flt.kf (w0:=w) w.heap.size rfl (.tmp 33) (.tmp 36) 30 36 (.float .f64 0) 8 rfl Try.underlying30 info36 rfl (by decide) (by omega) v216 y215 y218 _ _ _ (fun k_=>some k_ ≠ (.slice (some ad212) x3_1.length co5 : Value).ownBlock) (fun _=>False) rfl rfl ?aO ?aR (fun _ _ h=>h) (fun _ h=>h.elim) ?aF ?aB ?aS ?aL ?_;(case aR=>repeat(first|exact (by repeat(first|(with_reducible exact HR221.out)|(with_reducible refine Kd.C_alloc ?_ _)|(with_reducible refine Kd.C_drewN ?_ _)|(with_reducible refine Kd.C_drew ?_)|exact HR221.out))|(with_reducible refine Kd.C_alloc ?_ _)|(with_reducible refine Kd.C_drewN ?_ _)|(with_reducible refine Kd.C_drew ?_)));(case aB=>exact (by repeat(first|(with_reducible first|exact HB.out|apply below_alloc|apply pw_below_drewN|apply below_drew1)|exact HB.out)));(case aF=>exact (fun k_ hk=>Kd.fresh' (Kd.R_lt (by (with_reducible repeat(first|apply Kd.R_alloc|apply Kd.R_drewN|apply Kd.R_drew));exact HO_3.out)) k_ hk));(case aO=>exact (by (with_reducible repeat(first|apply Kd.R_alloc|apply Kd.R_drewN|apply Kd.R_drew));exact Kd.R_mono HO217.out (fun _ hk=>hk.2)));(case aS=>exact (below_size (by repeat(first|(with_reducible first|exact HB.out|apply below_alloc|apply pw_below_drewN|apply below_drew1)|exact HB.out))));(case aL=>have:=LMc17.out;omega);intro v223 w26 ho hb hg hat;rw [← Ny222.out] at ho;have n0_:=Aside0.mk (Kd.R_after (ok:=(fun _=>True)) (by (with_reducible repeat(first|apply Kd.R_alloc|apply Kd.R_drewN|apply Kd.R_drew));exact HO_3.out) hg hat);have n1_:=Aside0.mk (hb);have n2_:=Aside0.mk ((show Kd.C Flt.kf w26 A25 y218.length y218 from by rw [Ny218.out,KA25.out];exact Kd.C_drop (m:=(x5_2 : Int).toNat) (c:=co5) ((Kd.R_reads' (Kd.R_after (ok:=(fun _=>True)) (by (with_reducible repeat(first|apply Kd.R_alloc|apply Kd.R_drewN|apply Kd.R_drew));exact HO_3.out) hg hat)).2.2) KL25.out ((Kd.R_reads' (Kd.R_after (ok:=(fun _=>True)) (by (with_reducible repeat(first|apply Kd.R_alloc|apply Kd.R_drewN|apply Kd.R_drew));exact HO_3.out) hg hat)).2.1)));have n3_:=Aside0.mk (ho);clear HO_3;clear HB;clear HR221;clear HO217;have HO_3:=n0_;have HB:=n1_;have HR221:=n2_;have HO224:=n3_;clear n0_ n1_ n2_ n3_;clear ho hb hg hat))
                 have n0_:=Aside0.mk (Kd.R_drew HO_3.out)
                 have n1_:=Aside0.mk (Kd.R_drew HO224.out)
                 have n2_:=Aside0.mk (Kd.C_drew HR221.out)
                 have n3_:=Aside0.mk (below_drew1 HB.out)
                 clear HO_3
                 clear HO224
                 clear HR221
                 clear HB
                 have HO_3:=n0_
                 have HO224:=n1_
                 have HR221:=n2_
                 have HB:=n3_
                 clear n0_ n1_ n2_ n3_
                 have q28 : (x5_2 : Int) ≤ ((x3_1.length : Int) : Int):=of_decide_eq_true (by first|(with_reducible assumption)|assumption)
                 obtain ⟨i028,hi028,_,hsz28,_⟩:=info_parts info36
                 have hcut28:=cut_to (P:=Try.prog) 30 36 .i64 Try.underlying30 hi028 (some ad212) x3_1.length co5 x5_2 (of_decide_eq_true (by first|(with_reducible assumption)|assumption)) q28 (Kd.R_reads' HO_3.out).2.1
                 have hr28:=Kd.R_take (m:=(x5_2 : Int).toNat) HO_3.out (by omega)
                 have hy28 : y225.length = (x5_2 : Int).toNat:=(by rw [Ny225.out,List.length_take];omega)
                 rw [← Ny225.out] at hr28
                 rw [← hy28] at hr28 hcut28
                 clear hy28 hi028 hsz28 HO_3
                 have HO227:=Aside0.mk hr28
                 clear hr28
                 replace q28:=eq_true q28
                 have p228 : 0 ≤ (x4_1 : Int):=of_decide_eq_true (by first|(with_reducible assumption)|assumption)
                 have q228 : x4_1 < (l0.length : Int):=of_decide_eq_true (by first|(with_reducible assumption)|assumption)
                 obtain ⟨ad228,e228,hx228_0⟩:=Flt.at_kf HR0.out x4_1 p228 q228
                 have hw228_0:=hx228_0
                 obtain rfl : ad213 = ad228:=(by injection e228)
                 replace hx228_0:=(HB.out.cell (World.block_lt_of_cell? w _ hx228_0)).trans hx228_0
                 replace p228:=eq_true p228
                 replace q228:=eq_true q228
                 refine start_ (n:=13) (S:=fun w'=>w'.cell? (ad213.add (x4_1).toNat) = some (.float .f64 (rdOf (0 : Nat) l0 x4_1))) (ds:=[]) #[false,false,false,false,false,false,false,false,false,false,false,false,false] (by kernel_rfl) rfl rfl (((HB.out.cell (World.block_lt_of_cell? w _ hw228_0)).trans hw228_0)) (fun hHeld=>?_);refine with_tabW hornbeamref06_Sort.tab9 hornbeamref06_Sort.bits9 (fun HT_ HW_=>?_)
                 generalize w26.drew = w27 at HO_3 HO224 HR221 HB HO227 hx228_0 hHeld ⊢
                 refine pure_ (i:=0) (N:=some 38) (v:=?_) (a':=?_) #[true,false,false,false,false,false,false,false,false,false,false,false,false] rfl rfl (any_of HT_.out (by kernel_rfl)) (fun _ _ _ h=>h) (Or.inl ⟨by rfl,?_⟩) ?_ ?_
                 rotate_left
                 ·intro w'
                  go_simp
                  with_reducible rfl
                 rotate_left
                 ·simp only [Act.put,List.setIfInBounds_toArray,List.set_cons_zero,List.set_cons_succ,i64_w,i32_w]
                  rfl
                 refine pure_ (i:=1) (N:=some 39) (v:=?_) (a':=?_) #[true,true,false,false,false,false,false,false,false,false,false,false,false] rfl rfl (any_of HT_.out (by kernel_rfl)) (fun _ _ _ h=>h) (Or.inl ⟨by rfl,?_⟩) ?_ ?_
                 rotate_left
                 ·intro w'
                  go_simp
                  with_reducible rfl
                 rotate_left
                 ·simp only [Act.put,List.setIfInBounds_toArray,List.set_cons_zero,List.set_cons_succ,i64_w,i32_w]
                  rfl
                 refine pure_ (i:=2) (N:=some 40) (v:=?_) (a':=?_) #[true,true,true,false,false,false,false,false,false,false,false,false,false] rfl rfl (any_of HT_.out (by kernel_rfl)) (fun _ _ _ h=>h) (Or.inl ⟨by rfl,?_⟩) ?_ ?_
                 rotate_left
                 ·intro w'
                  go_simp
                  with_reducible rfl
                 rotate_left
                 ·simp only [Act.put,List.setIfInBounds_toArray,List.set_cons_zero,List.set_cons_succ,i64_w,i32_w]
                  rfl
                 refine pure_ (i:=3) (N:=some 41) (v:=?_) (a':=?_) #[true,true,true,true,false,false,false,false,false,false,false,false,false] rfl rfl (any_of HT_.out (by kernel_rfl)) (fun _ _ _ h=>h) (Or.inl ⟨by rfl,?_⟩) ?_ ?_
                 rotate_left
                 ·intro w'
                  go_simp
                  with_reducible rfl
                 rotate_left
                 ·simp only [Act.put,List.setIfInBounds_toArray,List.set_cons_zero,List.set_cons_succ,i64_w,i32_w]
                  rfl
                 refine pure_ (i:=4) (N:=some 42) (v:=?_) (a':=?_) #[true,true,true,true,true,false,false,false,false,false,false,false,false] rfl rfl (any_of HT_.out (by kernel_rfl)) (fun _ _ _ h=>h) (Or.inl ⟨by rfl,?_⟩) ?_ ?_
                 rotate_left
                 ·intro w'
                  go_simp
                  with_reducible rfl
                 rotate_left
                 ·simp only [Act.put,List.setIfInBounds_toArray,List.set_cons_zero,List.set_cons_succ,i64_w,i32_w]
                  rfl
                 refine pure_ (i:=5) (N:=some 43) (v:=?_) (a':=?_) #[true,true,true,true,true,true,false,false,false,false,false,false,false] rfl rfl (any_of HT_.out (by kernel_rfl)) (fun _ _ _ h=>h) (Or.inl ⟨by rfl,?_⟩) ?_ ?_
                 rotate_left
                 ·intro w'
                  go_simp
                  with_reducible rfl
                 rotate_left
                 ·simp only [Act.put,List.setIfInBounds_toArray,List.set_cons_zero,List.set_cons_succ,i64_w,i32_w]
                  rfl
                 refine pure_ (i:=10) (N:=some 48) (v:=?_) (a':=?_) #[true,true,true,true,true,true,false,false,false,false,true,false,false] rfl rfl (any_of HT_.out (by kernel_rfl)) (fun _ _ _ h=>h) (Or.inl ⟨by rfl,?_⟩) ?_ ?_
                 rotate_left
                 ·intro w'
                  go_simp
                  with_reducible rfl
                 rotate_left
                 ·simp only [Act.put,List.setIfInBounds_toArray,List.set_cons_zero,List.set_cons_succ,i64_w,i32_w]
                  rfl
                 refine take_ (i:=6) (N:=some 44) (v:=?_) (a':=?_) #[true,true,true,true,true,true,true,false,false,false,true,false,false] rfl rfl (take_ofW HT_.out HW_.out (by kernel_rfl)) (fun _ _ _ h=>h) (Or.inl ⟨by rfl,?_⟩) hHeld ?_ ?_
                 rotate_left
                 ·intro w' s0
                  go_simp
                  with_reducible rfl
                 rotate_left
                 ·simp only [Act.put,List.setIfInBounds_toArray,List.set_cons_zero,List.set_cons_succ,i64_w,i32_w]
                  rfl
                 refine one_ (i:=7) (N:=some 45) #[true,true,true,true,true,true,true,true,false,false,true,false,false] rfl rfl (one_of HT_.out (by kernel_rfl)) (by decide) (fun K hK=>?_)
                 refine goes_ Try.func43 (by kernel_rfl) rfl #[.float .f64 (rdOf (0 : Nat) l0 x4_1)] (by rfl) rfl rfl (by (try simp only [List.map_toArray,List.map_cons,List.map_nil]);first|done|rfl|(simp only [List.length_drop,List.length_take];rfl)) ?_
                 with_reducible refine (hornbeamref06_Clean.calls (rdOf (0 : Nat) l0 x4_1) t229 _ A19.out).mono ?_
                 rintro e w' ⟨rfl,⟨nd,rfl⟩⟩
                 refine ⟨_,rfl,?_⟩
                 refine hK.out _ _ (((HB.out.cell (World.block_lt_of_cell? w _ hw228_0)).trans hw228_0)) (fun hHeld=>?_)
                 clear hK K
                 refine norm_ (a':=?_) ?_ ?_
                 rotate_left
                 ·show Act.put _ (some 45) _ = _
                  simp only [Act.put,List.setIfInBounds_toArray,List.set_cons_zero,List.set_cons_succ,i64_w,i32_w]
                  rfl
                 refine one_ (i:=8) (N:=some 46) #[true,true,true,true,true,true,true,true,true,false,true,false,false] rfl rfl (one_of HT_.out (by kernel_rfl)) (by decide) (fun K hK=>?_)
                 refine value_ (w1:=?_) (v:=?_) (by rfl) rfl ?_ ?_
                 rotate_left 2
                 ·go_simp
                  constructor
                  ·rfl
                  ·rfl
                 refine hK.out _ _ ((World.cell?_alloc_lt _ _ _ (World.block_lt_of_cell? _ _ (((HB.out.cell (World.block_lt_of_cell? w _ hw228_0)).trans hw228_0)))).trans (((HB.out.cell (World.block_lt_of_cell? w _ hw228_0)).trans hw228_0))) (fun hHeld=>?_)
                 clear hK K
                 refine norm_ (a':=?_) ?_ ?_
                 rotate_left
                 ·show Act.put _ (some 46) _ = _
                  simp only [Act.put,List.setIfInBounds_toArray,List.set_cons_zero,List.set_cons_succ,i64_w,i32_w]
                  rfl
                 refine one_ (i:=9) (N:=some 47) #[true,true,true,true,true,true,true,true,true,true,true,false,false] rfl rfl (one_of HT_.out (by kernel_rfl)) (by decide) (fun K hK=>?_)
                 refine Kd.R_append_step Flt.kf (w0:=w) w.heap.size (by rfl) (.tmp 40) (.tmp 46) 30 36 (.float .f64 0) 8 rfl Try.underlying30 info36 rfl (by decide) (by omega) (.slice (some ad212) y225.length co5) y225 t229 [.float .f64 t229] (fun k_=>some k_ ≠ (v223 : Value).ownBlock) (fun _=>False) rfl rfl ?aP (fun _ hk=>hk.elim) ?aF ?aO ?aB ?aS ?aL ?_
                 (case aP=>exact rfl)
                 (case aB=>exact (by repeat(first|(with_reducible first|exact HB.out|apply below_alloc|apply pw_below_drewN|apply below_drew1)|exact HB.out)))
                 (case aF=>exact (fun k_ hk=>Kd.fresh' (Kd.R_lt (by (with_reducible repeat(first|apply Kd.R_alloc|apply Kd.R_drewN|apply Kd.R_drew));exact HO224.out)) k_ hk))
                 (case aO=>exact (by (with_reducible repeat(first|apply Kd.R_alloc|apply Kd.R_drewN|apply Kd.R_drew));exact Kd.R_mono HO227.out (fun _ hk=>hk.2)))
                 (case aS=>exact (below_size (by repeat(first|(with_reducible first|exact HB.out|apply below_alloc|apply pw_below_drewN|apply below_drew1)|exact HB.out))))
                 (case aL=>have:=LMc20.out;omega)
                 intro v231 w29 ho hb hg hat
                 rw [← Ny230.out] at ho
                 have n0_:=Aside0.mk (Kd.R_after (ok:=(fun _=>True)) (by (with_reducible repeat(first|apply Kd.R_alloc|apply Kd.R_drewN|apply Kd.R_drew));exact Kd.R_mono HO224.out (fun _ hk=>⟨trivial,(by first|exact hk|exact fun he_=>hk (he_.trans (Flt.own_len _ _ _ _ _)))⟩)) hg hat)
                 have n1_:=Aside0.mk (hb)
                 have n2_:=Aside0.mk (ho)
                 clear HO224
                 clear HB
                 clear HO227
                 have HO224:=n0_
                 have HB:=n1_
                 have HO232:=n2_
                 clear n0_ n1_ n2_
                 clear ho hb hg hat
                 obtain ⟨Ao31,co31,eo31⟩:=Kd.R_slice HO224.out
                 (first|subst eo31|(injection eo31 with f1_ f2_ f3_;have f4_:=f1_.symm;have f5_:=f3_.symm;clear f1_ f2_ f3_;subst f4_;subst f5_))
                 refine hK.out _ _ (((HB.out.cell (World.block_lt_of_cell? w _ hw228_0)).trans hw228_0)) (fun hHeld=>?_)
                 clear hK K
                 refine norm_ (a':=?_) ?_ ?_
                 rotate_left
                 ·show Act.put _ (some 47) _ = _
                  simp only [Act.put,List.setIfInBounds_toArray,List.set_cons_zero,List.set_cons_succ,i64_w,i32_w]
                  rfl
                 refine one_ (i:=11) (N:=some 49) #[true,true,true,true,true,true,true,true,true,true,true,true,false] rfl rfl (one_of HT_.out (by kernel_rfl)) (by decide) (fun K hK=>?_)
                 refine Kd.R_append_rows_step Flt.kf (w0:=w) w.heap.size (by rfl) (.tmp 47) (.tmp 48) 30 36 (.float .f64 0) 8 rfl Try.underlying30 info36 rfl (by decide) (by omega) v231 y230 y222 _ _ _ (fun k_=>some k_ ≠ (.slice Ao31 y222.length co31 : Value).ownBlock) (fun _=>False) rfl rfl ?aO ?aR (fun _ _ h=>h) (fun _ h=>h.elim) ?aF ?aB ?aS ?aL ?_
                 (case aR=>repeat(first|exact (Kd.R_reads' HO224.out).2.2|(with_reducible refine Kd.C_alloc ?_ _)|(with_reducible refine Kd.C_drewN ?_ _)|(with_reducible refine Kd.C_drew ?_)))
                 (case aB=>exact (by repeat(first|(with_reducible first|exact HB.out|apply below_alloc|apply pw_below_drewN|apply below_drew1)|exact HB.out)))
                 (case aF=>exact (fun k_ hk=>Kd.fresh' (Kd.R_lt (by (with_reducible repeat(first|apply Kd.R_alloc|apply Kd.R_drewN|apply Kd.R_drew));exact HO224.out)) k_ hk))
                 (case aO=>exact (by (with_reducible repeat(first|apply Kd.R_alloc|apply Kd.R_drewN|apply Kd.R_drew));exact HO232.out))
                 (case aS=>exact (below_size (by repeat(first|(with_reducible first|exact HB.out|apply below_alloc|apply pw_below_drewN|apply below_drew1)|exact HB.out))))
                 (case aL=>have:=LMc21.out;omega)
                 intro v234 w30 ho hb hg hat
                 rw [← Ny233.out] at ho
                 have n0_:=Aside0.mk (Kd.R_after (ok:=(fun _=>True)) (by (with_reducible repeat(first|apply Kd.R_alloc|apply Kd.R_drewN|apply Kd.R_drew));exact HO224.out) hg hat)
                 have n1_:=Aside0.mk (hb)
                 have n2_:=Aside0.mk (ho)
                 clear HO224
                 clear HB
                 clear HO232
                 have HO224:=n0_
                 have HB:=n1_
                 have HO235:=n2_
                 clear n0_ n1_ n2_
                 clear ho hb hg hat
                 refine hK.out _ _ (((HB.out.cell (World.block_lt_of_cell? w _ hw228_0)).trans hw228_0)) (fun hHeld=>?_)
                 clear hK K
                 refine norm_ (a':=?_) ?_ ?_
                 rotate_left
                 ·show Act.put _ (some 49) _ = _
                  simp only [Act.put,List.setIfInBounds_toArray,List.set_cons_zero,List.set_cons_succ,i64_w,i32_w]
                  rfl
                 refine pure_ (i:=12) (N:=some 3) (v:=?_) (a':=?_) #[true,true,true,true,true,true,true,true,true,true,true,true,true] rfl rfl (any_of HT_.out (by kernel_rfl)) (fun _ _ _ h=>h) (Or.inl ⟨by rfl,?_⟩) ?_ ?_
                 rotate_left
                 ·intro w'
                  go_simp
                  with_reducible rfl
                 rotate_left
                 ·simp only [Act.put,List.setIfInBounds_toArray,List.set_cons_zero,List.set_cons_succ,i64_w,i32_w]
                  rfl
                 refine done_ (done_of HT_.out (by kernel_rfl)) ?_
                 try go_wp2
                 go_roundg k2
                 case measure=>have:=HK1.out;have:=HK2.out;omega
                 case rel=>exact ⟨(y233),(wrap64 (x4_1 + 1)),(by first|rfl|(simp;done)|(simp [*];done)),H',⟨by have:=HK1.out;have:=HK2.out;omega⟩,⟨by (with_reducible repeat(first|apply Kd.R_alloc|apply Kd.R_drewN|apply Kd.R_drew));exact Kd.R_mono HO235.out (fun _ hk=>trivial)⟩,⟨by repeat(first|(with_reducible first|exact HB.out|apply below_alloc|apply pw_below_drewN|apply below_drew1)|exact HB.out)⟩⟩
                ·rw [if_neg c21] at H
                 exact absurd H (by simp)
               ·rw [if_neg c20] at H
                exact absurd H (by simp)
              ·rw [if_neg c17] at H
               exact absurd H (by simp)
             ·rw [if_neg c16] at H
              exact absurd H (by simp)
            ·rw [if_neg c15] at H
             exact absurd H (by simp)
          ·rw [if_neg c11] at H
           exact absurd H (by simp)
         ·rw [if_neg c10] at H
          exact absurd H (by simp)
        ·rw [if_neg c9] at H
         exact absurd H (by simp)
       ·rw [if_neg c8] at H
        exact absurd H (by simp)
      ·rw [if_neg c6] at H
       have c6b0 : decide (0 < x5_2) = false:=decide_eq_false c6
       clear c6
       obtain ⟨y236,hy236⟩ : ∃ y_ : List Nat,y_ = (([] : List Nat)):=⟨_,rfl⟩
       replace H : (if 0 ≤ x5_2 then (if x5_2 ≤ (x3_1.length : Int) then ((some (x3_1.drop (x5_2 : Int).toNat : List Nat)).bind fun y239=>(if y236.length + y239.length < 17592186044416 then ((some (y236 ++ y239 : List Nat)).bind fun y243=>((some (x3_1.take (x5_2 : Int).toNat : List Nat)).bind fun y246=>(if 0 ≤ x4_1 then (if x4_1 < (l0.length : Int) then ((hornbeamref06_Clean.f (rdOf (0 : Nat) l0 x4_1)).bind fun t250=>(if y246.length < 17592186044416 then ((some (y246 ++ [t250] : List Nat)).bind fun y251=>(if y251.length + y243.length < 17592186044416 then (hornbeamref06_Sort.l0 k2 l0 (y251 ++ y243) (wrap64 (x4_1 + 1))) else (none))) else (none))) else (none)) else (none)))) else (none))) else (none)) else (none)) = some r:=by first|(rw [hy236];with_reducible exact H)|(have H2_:=(Option.bind_some _ _).symm.trans H;rw [hy236];with_reducible exact H2_)|(have H2_:=(Option.bind_some _ _).symm.trans H;with_reducible exact H2_)|with_reducible exact H|(rw [hy236];exact H)|exact H
       have Ny236:=Aside0.mk hy236
       clear hy236
       by_cases c32 : 0 ≤ x5_2
       ·rw [if_pos c32] at H
        have c32b0:=eq_true c32
        have c32b1 : decide (0 ≤ x5_2) = true:=decide_eq_true c32
        clear c32
        by_cases c33 : x5_2 ≤ (x3_1.length : Int)
        ·rw [if_pos c33] at H
         have c33b0:=eq_true c33
         have c33b1 : decide (x5_2 ≤ (x3_1.length : Int)) = true:=decide_eq_true c33
         clear c33
         obtain ⟨y239,hy239⟩ : ∃ y_ : List Nat,y_ = (x3_1.drop (x5_2 : Int).toNat):=⟨_,rfl⟩
         replace H : (if y236.length + y239.length < 17592186044416 then ((some (y236 ++ y239 : List Nat)).bind fun y243=>((some (x3_1.take (x5_2 : Int).toNat : List Nat)).bind fun y246=>(if 0 ≤ x4_1 then (if x4_1 < (l0.length : Int) then ((hornbeamref06_Clean.f (rdOf (0 : Nat) l0 x4_1)).bind fun t250=>(if y246.length < 17592186044416 then ((some (y246 ++ [t250] : List Nat)).bind fun y251=>(if y251.length + y243.length < 17592186044416 then (hornbeamref06_Sort.l0 k2 l0 (y251 ++ y243) (wrap64 (x4_1 + 1))) else (none))) else (none))) else (none)) else (none)))) else (none)) = some r:=by first|(rw [hy239];with_reducible exact H)|(have H2_:=(Option.bind_some _ _).symm.trans H;rw [hy239];with_reducible exact H2_)|(have H2_:=(Option.bind_some _ _).symm.trans H;with_reducible exact H2_)|with_reducible exact H|(rw [hy239];exact H)|exact H
         have Ny239:=Aside0.mk hy239
         clear hy239
         by_cases c34 : y236.length + y239.length < 17592186044416
         ·rw [if_pos c34] at H
          have LMc34:=Aside0.mk c34
          clear c34
          obtain ⟨y243,hy243⟩ : ∃ y_ : List Nat,y_ = (y236 ++ y239):=⟨_,rfl⟩
          replace H : ((some (x3_1.take (x5_2 : Int).toNat : List Nat)).bind fun y246=>(if 0 ≤ x4_1 then (if x4_1 < (l0.length : Int) then ((hornbeamref06_Clean.f (rdOf (0 : Nat) l0 x4_1)).bind fun t250=>(if y246.length < 17592186044416 then ((some (y246 ++ [t250] : List Nat)).bind fun y251=>(if y251.length + y243.length < 17592186044416 then (hornbeamref06_Sort.l0 k2 l0 (y251 ++ y243) (wrap64 (x4_1 + 1))) else (none))) else (none))) else (none)) else (none))) = some r:=by first|(rw [hy243];with_reducible exact H)|(have H2_:=(Option.bind_some _ _).symm.trans H;rw [hy243];with_reducible exact H2_)|(have H2_:=(Option.bind_some _ _).symm.trans H;with_reducible exact H2_)|with_reducible exact H|(rw [hy243];exact H)|exact H
          have Ny243:=Aside0.mk hy243
          clear hy243
          have c35b0:=eq_true (of_decide_eq_true (by first|(with_reducible assumption)|assumption) : x5_2 ≤ (x3_1.length : Int))
          obtain ⟨y246,hy246⟩ : ∃ y_ : List Nat,y_ = (x3_1.take (x5_2 : Int).toNat):=⟨_,rfl⟩
          replace H : (if 0 ≤ x4_1 then (if x4_1 < (l0.length : Int) then ((hornbeamref06_Clean.f (rdOf (0 : Nat) l0 x4_1)).bind fun t250=>(if y246.length < 17592186044416 then ((some (y246 ++ [t250] : List Nat)).bind fun y251=>(if y251.length + y243.length < 17592186044416 then (hornbeamref06_Sort.l0 k2 l0 (y251 ++ y243) (wrap64 (x4_1 + 1))) else (none))) else (none))) else (none)) else (none)) = some r:=by first|(rw [hy246];with_reducible exact H)|(have H2_:=(Option.bind_some _ _).symm.trans H;rw [hy246];with_reducible exact H2_)|(have H2_:=(Option.bind_some _ _).symm.trans H;with_reducible exact H2_)|with_reducible exact H|(rw [hy246];exact H)|exact H
          have Ny246:=Aside0.mk hy246
          clear hy246
          by_cases c36 : 0 ≤ x4_1
          ·rw [if_pos c36] at H
           have c36b0 : decide (0 ≤ x4_1) = true:=decide_eq_true c36
           clear c36
           by_cases c37 : x4_1 < (l0.length : Int)
           ·rw [if_pos c37] at H
            have c37b0 : decide (x4_1 < (l0.length : Int)) = true:=decide_eq_true c37
            clear c37
            replace H:=Option.bind_eq_some_iff.mp H
            obtain ⟨t250,A380,H⟩:=H
            replace H : (if y246.length < 17592186044416 then ((some (y246 ++ [t250] : List Nat)).bind fun y251=>(if y251.length + y243.length < 17592186044416 then (hornbeamref06_Sort.l0 k2 l0 (y251 ++ y243) (wrap64 (x4_1 + 1))) else (none))) else (none)) = some r:=H
            have A38:=Aside0.mk A380
            clear A380
            by_cases c39 : y246.length < 17592186044416
            ·rw [if_pos c39] at H
             have LMc39:=Aside0.mk c39
             clear c39
             obtain ⟨y251,hy251⟩ : ∃ y_ : List Nat,y_ = (y246 ++ [t250]):=⟨_,rfl⟩
             replace H : (if y251.length + y243.length < 17592186044416 then (hornbeamref06_Sort.l0 k2 l0 (y251 ++ y243) (wrap64 (x4_1 + 1))) else (none)) = some r:=by first|(rw [hy251];with_reducible exact H)|(have H2_:=(Option.bind_some _ _).symm.trans H;rw [hy251];with_reducible exact H2_)|(have H2_:=(Option.bind_some _ _).symm.trans H;with_reducible exact H2_)|with_reducible exact H|(rw [hy251];exact H)|exact H
             have Ny251:=Aside0.mk hy251
             clear hy251
             by_cases c40 : y251.length + y243.length < 17592186044416
             ·rw [if_pos c40] at H
              have LMc40:=Aside0.mk c40
              clear c40
              obtain ⟨y254,hy254⟩ : ∃ y_ : List Nat,y_ = (y251 ++ y243):=⟨_,rfl⟩
              replace H : (hornbeamref06_Sort.l0 k2 l0 y254 (wrap64 (x4_1 + 1))) = some r:=by first|(rw [hy254];with_reducible exact H)|(have H2_:=(Option.bind_some _ _).symm.trans H;rw [hy254];with_reducible exact H2_)|(have H2_:=(Option.bind_some _ _).symm.trans H;with_reducible exact H2_)|with_reducible exact H|(rw [hy254];exact H)|exact H
              have Ny254:=Aside0.mk hy254
              clear hy254
              have H':=Aside0.mk H
              clear H
              try go_wp2
              have n0_:=Aside0.mk (Kd.R_drew HO_3.out)
              have n1_:=Aside0.mk (below_drew1 HB.out)
              clear HO_3
              clear HB
              have HO_3:=n0_
              have HB:=n1_
              clear n0_ n1_
              refine start_ (n:=15) (S:=fun w'=>True) (ds:=[]) #[false,false,false,false,false,false,false,false,false,false,false,false,false,false,false] (by kernel_rfl) rfl rfl trivial (fun hHeld=>?_);refine with_tabW hornbeamref06_Sort.tab6 hornbeamref06_Sort.bits6 (fun HT_ HW_=>?_)
              generalize wr.drew = w41 at HO_3 HB hHeld ⊢
              refine pure_ (i:=0) (N:=some 16) (v:=?_) (a':=?_) #[true,false,false,false,false,false,false,false,false,false,false,false,false,false,false] rfl rfl (any_of HT_.out (by kernel_rfl)) (fun _ _ _ h=>h) (Or.inl ⟨by rfl,?_⟩) ?_ ?_
              rotate_left
              ·intro w'
               go_simp
               with_reducible rfl
              rotate_left
              ·simp only [Act.put,List.setIfInBounds_toArray,List.set_cons_zero,List.set_cons_succ,i64_w,i32_w]
               rfl
              refine pure_ (i:=1) (N:=some 17) (v:=?_) (a':=?_) #[true,true,false,false,false,false,false,false,false,false,false,false,false,false,false] rfl rfl (any_of HT_.out (by kernel_rfl)) (fun _ _ _ h=>h) (Or.inl ⟨by rfl,?_⟩) ?_ ?_
              rotate_left
              ·intro w'
               go_simp
               with_reducible rfl
              rotate_left
              ·simp only [Act.put,List.setIfInBounds_toArray,List.set_cons_zero,List.set_cons_succ,i64_w,i32_w]
               rfl
              refine pure_ (i:=2) (N:=some 18) (v:=?_) (a':=?_) #[true,true,true,false,false,false,false,false,false,false,false,false,false,false,false] rfl rfl (any_of HT_.out (by kernel_rfl)) (fun _ _ _ h=>h) (Or.inl ⟨by rfl,?_⟩) ?_ ?_
              rotate_left
              ·intro w'
               go_simp
               with_reducible rfl
              rotate_left
              ·simp only [Act.put,List.setIfInBounds_toArray,List.set_cons_zero,List.set_cons_succ,i64_w,i32_w]
               rfl
              refine pure_ (i:=3) (N:=some 19) (v:=undef) (a':=?_) #[true,true,true,true,false,false,false,false,false,false,false,false,false,false,false] rfl rfl (any_of HT_.out (by kernel_rfl)) (fun _ _ _ h=>h) (Or.inr ⟨by rfl,rfl⟩) ?_ ?_
              rotate_left
              ·simp only [Act.put,List.setIfInBounds_toArray,List.set_cons_zero,List.set_cons_succ,i64_w,i32_w]
               rfl
              refine pure_ (i:=4) (N:=some 20) (v:=undef) (a':=?_) #[true,true,true,true,true,false,false,false,false,false,false,false,false,false,false] rfl rfl (any_of HT_.out (by kernel_rfl)) (fun _ _ _ h=>h) (Or.inr ⟨by rfl,rfl⟩) ?_ ?_
              rotate_left
              ·simp only [Act.put,List.setIfInBounds_toArray,List.set_cons_zero,List.set_cons_succ,i64_w,i32_w]
               rfl
              refine pure_ (i:=5) (N:=some 21) (v:=undef) (a':=?_) #[true,true,true,true,true,true,false,false,false,false,false,false,false,false,false] rfl rfl (any_of HT_.out (by kernel_rfl)) (fun _ _ _ h=>h) (Or.inr ⟨by rfl,rfl⟩) ?_ ?_
              rotate_left
              ·simp only [Act.put,List.setIfInBounds_toArray,List.set_cons_zero,List.set_cons_succ,i64_w,i32_w]
               rfl
              refine pure_ (i:=6) (N:=some 22) (v:=undef) (a':=?_) #[true,true,true,true,true,true,true,false,false,false,false,false,false,false,false] rfl rfl (any_of HT_.out (by kernel_rfl)) (fun _ _ _ h=>h) (Or.inr ⟨by rfl,rfl⟩) ?_ ?_
              rotate_left
              ·simp only [Act.put,List.setIfInBounds_toArray,List.set_cons_zero,List.set_cons_succ,i64_w,i32_w]
               rfl
              refine pure_ (i:=7) (N:=some 23) (v:=undef) (a':=?_) #[true,true,true,true,true,true,true,true,false,false,false,false,false,false,false] rfl rfl (any_of HT_.out (by kernel_rfl)) (fun _ _ _ h=>h) (Or.inr ⟨by rfl,rfl⟩) ?_ ?_
              rotate_left
              ·simp only [Act.put,List.setIfInBounds_toArray,List.set_cons_zero,List.set_cons_succ,i64_w,i32_w]
               rfl
              refine pure_ (i:=8) (N:=some 24) (v:=undef) (a':=?_) #[true,true,true,true,true,true,true,true,true,false,false,false,false,false,false] rfl rfl (any_of HT_.out (by kernel_rfl)) (fun _ _ _ h=>h) (Or.inr ⟨by rfl,rfl⟩) ?_ ?_
              rotate_left
              ·simp only [Act.put,List.setIfInBounds_toArray,List.set_cons_zero,List.set_cons_succ,i64_w,i32_w]
               rfl
              refine pure_ (i:=9) (N:=some 25) (v:=undef) (a':=?_) #[true,true,true,true,true,true,true,true,true,true,false,false,false,false,false] rfl rfl (any_of HT_.out (by kernel_rfl)) (fun _ _ _ h=>h) (Or.inr ⟨by rfl,rfl⟩) ?_ ?_
              rotate_left
              ·simp only [Act.put,List.setIfInBounds_toArray,List.set_cons_zero,List.set_cons_succ,i64_w,i32_w]
               rfl
              refine pure_ (i:=10) (N:=some 26) (v:=undef) (a':=?_) #[true,true,true,true,true,true,true,true,true,true,true,false,false,false,false] rfl rfl (any_of HT_.out (by kernel_rfl)) (fun _ _ _ h=>h) (Or.inr ⟨by rfl,rfl⟩) ?_ ?_
              rotate_left
              ·simp only [Act.put,List.setIfInBounds_toArray,List.set_cons_zero,List.set_cons_succ,i64_w,i32_w]
               rfl
              refine pure_ (i:=11) (N:=some 27) (v:=undef) (a':=?_) #[true,true,true,true,true,true,true,true,true,true,true,true,false,false,false] rfl rfl (any_of HT_.out (by kernel_rfl)) (fun _ _ _ h=>h) (Or.inr ⟨by rfl,rfl⟩) ?_ ?_
              rotate_left
              ·simp only [Act.put,List.setIfInBounds_toArray,List.set_cons_zero,List.set_cons_succ,i64_w,i32_w]
               rfl
              refine pure_ (i:=12) (N:=some 28) (v:=undef) (a':=?_) #[true,true,true,true,true,true,true,true,true,true,true,true,true,false,false] rfl rfl (any_of HT_.out (by kernel_rfl)) (fun _ _ _ h=>h) (Or.inr ⟨by rfl,rfl⟩) ?_ ?_
              rotate_left
              ·simp only [Act.put,List.setIfInBounds_toArray,List.set_cons_zero,List.set_cons_succ,i64_w,i32_w]
               rfl
              refine pure_ (i:=13) (N:=some 29) (v:=undef) (a':=?_) #[true,true,true,true,true,true,true,true,true,true,true,true,true,true,false] rfl rfl (any_of HT_.out (by kernel_rfl)) (fun _ _ _ h=>h) (Or.inr ⟨by rfl,rfl⟩) ?_ ?_
              rotate_left
              ·simp only [Act.put,List.setIfInBounds_toArray,List.set_cons_zero,List.set_cons_succ,i64_w,i32_w]
               rfl
              refine pure_ (i:=14) (N:=some 30) (v:=?_) (a':=?_) #[true,true,true,true,true,true,true,true,true,true,true,true,true,true,true] rfl rfl (any_of HT_.out (by kernel_rfl)) (fun _ _ _ h=>h) (Or.inl ⟨by rfl,?_⟩) ?_ ?_
              rotate_left
              ·intro w'
               go_simp
               with_reducible rfl
              rotate_left
              ·simp only [Act.put,List.setIfInBounds_toArray,List.set_cons_zero,List.set_cons_succ,i64_w,i32_w]
               rfl
              refine done_ (done_of HT_.out (by kernel_rfl)) ?_
              try go_wp2_with (first|((with_reducible refine gate_dst (N:=33) rfl ?_);refine Kd.R_lit Flt.kf _ 36 ?hg (N:=33) ?hd (xs:=([] : List Nat)) (inner:=[]) (ok:=fun _=>True) (okp:=fun _=>True) ?hr ?hp (fun _ hk=>hk) trivial (Below.refl _ _) (Nat.le_refl _) (by simp) ?_;(case hd=>rfl);(case hg=>rfl);(case hr=>first|(go_simp;done)|(go_simp;rfl));(case hp=>exact (Reps.none _ _));intro v237 w42 ho43 hb hg_ hnew_;clear hg_ hnew_;(first|rw [← Ny236.out] at ho43|(simp only [Int.reduceToNat] at ho43;rw [← Ny236.out] at ho43));have n0_:=Aside0.mk (Kd.R_elder' (by (with_reducible repeat(first|apply Kd.R_alloc|apply Kd.R_drewN|apply Kd.R_drew));exact HO_3.out) (Kd.R_base ho43) hb);have n1_:=Aside0.mk (Kd.R_lower (Kd.R_new' ho43 (Kd.R_lt (by (with_reducible repeat(first|apply Kd.R_alloc|apply Kd.R_drewN|apply Kd.R_drew));exact HO_3.out))) (below_size (by repeat(first|(with_reducible first|exact HB.out|apply below_alloc|apply pw_below_drewN|apply below_drew1)|exact HB.out))));have n2_:=Aside0.mk (below_step (by repeat(first|(with_reducible first|exact HB.out|apply below_alloc|apply pw_below_drewN|apply below_drew1)|exact HB.out)) hb);clear HO_3;clear HB;have HO_3:=n0_;have HO238:=n1_;have HB:=n2_;clear n0_ n1_ n2_;clear hb ho43;have q44 : (x5_2 : Int) ≤ ((x3_1.length : Int) : Int):=of_decide_eq_true (by first|(with_reducible assumption)|assumption);obtain ⟨i044,hi044,_,hsz44,_⟩:=info_parts info36;have hroom44 : x3_1.length ≤ co5:=(Kd.R_reads' HO_3.out).2.1;have hC44 : Kd.C Flt.kf _ Ao5 x3_1.length x3_1:=(Kd.R_reads' HO_3.out).2.2;have q044 : (0 : Int) ≤ (x5_2 : Int):=of_decide_eq_true (by first|(with_reducible assumption)|assumption);have hcut44:=cut_from (P:=Try.prog) 30 36 .i64 Try.underlying30 hi044 1 hsz44 Ao5 x3_1.length co5 x5_2 q044 q44;have hr44:=Kd.C_drop (m:=(x5_2 : Int).toNat) (c:=co5) hC44 (by omega) hroom44;obtain ⟨A44,hA44⟩ : ∃ A1,A1 = (if co5 = (x5_2 : Int).toNat then Ao5 else (Ao5 : Option Addr).map (·.add ((x5_2 : Int).toNat * 1))):=⟨_,rfl⟩;obtain ⟨c44,hc44⟩ : ∃ c1,c1 = co5 - (x5_2 : Int).toNat:=⟨_,rfl⟩;have hy44 : y239.length = x3_1.length - (x5_2 : Int).toNat:=(by rw [Ny239.out,List.length_drop] <;> omega);rw [show (x3_1).drop (x5_2 : Int).toNat = y239 from Ny239.out.symm] at hr44;replace hr44 : Kd.C Flt.kf _ A44 y239.length y239:=(by rw [hA44];exact hr44);rw [← hy44,← hA44,← hc44] at hcut44;have HR242:=Aside0.mk hr44;have HC242:=Aside0.mk (show y239.length ≤ c44 from by rw [hy44,hc44];exact Nat.sub_le_sub_right hroom44 _);clear hr44 hC44 hroom44 hi044 hsz44 hc44;have KY44:=Aside0.mk hy44;have KA44:=Aside0.mk hA44;clear hy44 hA44;have KL44:=Aside0.mk (show (x5_2 : Int).toNat ≤ x3_1.length from by omega);replace q44:=eq_true q44)|((with_reducible refine gate_builtin (b:=.append) (xs:=#[.tmp 33,.tmp 36]) rfl ?_);at_builtin;refine Kd.R_append_rows Flt.kf (w0:=w) w.heap.size rfl (.tmp 33) (.tmp 36) 30 36 (.float .f64 0) 8 rfl Try.underlying30 info36 rfl (by decide) (by omega) v237 y236 y239 _ _ _ (fun k_=>some k_ ≠ (.slice Ao5 x3_1.length co5 : Value).ownBlock) (fun _=>False) rfl rfl ?aO ?aR (fun _ _ h=>h) (fun _ h=>h.elim) ?aF ?aB ?aS ?aL ?_;(case aR=>repeat(first|exact (by repeat(first|(with_reducible exact HR242.out)|(with_reducible refine Kd.C_alloc ?_ _)|(with_reducible refine Kd.C_drewN ?_ _)|(with_reducible refine Kd.C_drew ?_)|exact HR242.out))|(with_reducible refine Kd.C_alloc ?_ _)|(with_reducible refine Kd.C_drewN ?_ _)|(with_reducible refine Kd.C_drew ?_)));(case aB=>exact (by repeat(first|(with_reducible first|exact HB.out|apply below_alloc|apply pw_below_drewN|apply below_drew1)|exact HB.out)));(case aF=>exact (fun k_ hk=>Kd.fresh' (Kd.R_lt (by (with_reducible repeat(first|apply Kd.R_alloc|apply Kd.R_drewN|apply Kd.R_drew));exact HO_3.out)) k_ hk));(case aO=>exact (by (with_reducible repeat(first|apply Kd.R_alloc|apply Kd.R_drewN|apply Kd.R_drew));exact Kd.R_mono HO238.out (fun _ hk=>hk.2)));(case aS=>exact (below_size (by repeat(first|(with_reducible first|exact HB.out|apply below_alloc|apply pw_below_drewN|apply below_drew1)|exact HB.out))));(case aL=>have:=LMc34.out;omega);intro v244 w45 ho hb hg hat;rw [← Ny243.out] at ho;have n0_:=Aside0.mk (Kd.R_after (ok:=(fun _=>True)) (by (with_reducible repeat(first|apply Kd.R_alloc|apply Kd.R_drewN|apply Kd.R_drew));exact HO_3.out) hg hat);have n1_:=Aside0.mk (hb);have n2_:=Aside0.mk ((show Kd.C Flt.kf w45 A44 y239.length y239 from by rw [Ny239.out,KA44.out];exact Kd.C_drop (m:=(x5_2 : Int).toNat) (c:=co5) ((Kd.R_reads' (Kd.R_after (ok:=(fun _=>True)) (by (with_reducible repeat(first|apply Kd.R_alloc|apply Kd.R_drewN|apply Kd.R_drew));exact HO_3.out) hg hat)).2.2) KL44.out ((Kd.R_reads' (Kd.R_after (ok:=(fun _=>True)) (by (with_reducible repeat(first|apply Kd.R_alloc|apply Kd.R_drewN|apply Kd.R_drew));exact HO_3.out) hg hat)).2.1)));have n3_:=Aside0.mk (ho);clear HO_3;clear HB;clear HR242;clear HO238;have HO_3:=n0_;have HB:=n1_;have HR242:=n2_;have HO245:=n3_;clear n0_ n1_ n2_ n3_;clear ho hb hg hat))
              have n0_:=Aside0.mk (Kd.R_drew HO_3.out)
              have n1_:=Aside0.mk (Kd.R_drew HO245.out)
              have n2_:=Aside0.mk (Kd.C_drew HR242.out)
              have n3_:=Aside0.mk (below_drew1 HB.out)
              clear HO_3
              clear HO245
              clear HR242
              clear HB
              have HO_3:=n0_
              have HO245:=n1_
              have HR242:=n2_
              have HB:=n3_
              clear n0_ n1_ n2_ n3_
              have q47 : (x5_2 : Int) ≤ ((x3_1.length : Int) : Int):=of_decide_eq_true (by first|(with_reducible assumption)|assumption)
              obtain ⟨i047,hi047,_,hsz47,_⟩:=info_parts info36
              have hcut47:=cut_to (P:=Try.prog) 30 36 .i64 Try.underlying30 hi047 Ao5 x3_1.length co5 x5_2 (of_decide_eq_true (by first|(with_reducible assumption)|assumption)) q47 (Kd.R_reads' HO_3.out).2.1
              have hr47:=Kd.R_take (m:=(x5_2 : Int).toNat) HO_3.out (by omega)
              have hy47 : y246.length = (x5_2 : Int).toNat:=(by rw [Ny246.out,List.length_take];omega)
              rw [← Ny246.out] at hr47
              rw [← hy47] at hr47 hcut47
              clear hy47 hi047 hsz47 HO_3
              have HO248:=Aside0.mk hr47
              clear hr47
              replace q47:=eq_true q47
              have p249 : 0 ≤ (x4_1 : Int):=of_decide_eq_true (by first|(with_reducible assumption)|assumption)
              have q249 : x4_1 < (l0.length : Int):=of_decide_eq_true (by first|(with_reducible assumption)|assumption)
              obtain ⟨ad249,e249,hx249_0⟩:=Flt.at_kf HR0.out x4_1 p249 q249
              have hw249_0:=hx249_0
              cases e249
              replace hx249_0:=(HB.out.cell (World.block_lt_of_cell? w _ hx249_0)).trans hx249_0
              replace p249:=eq_true p249
              replace q249:=eq_true q249
              refine start_ (n:=13) (S:=fun w'=>w'.cell? (ad249.add (x4_1).toNat) = some (.float .f64 (rdOf (0 : Nat) l0 x4_1))) (ds:=[]) #[false,false,false,false,false,false,false,false,false,false,false,false,false] (by kernel_rfl) rfl rfl (((HB.out.cell (World.block_lt_of_cell? w _ hw249_0)).trans hw249_0)) (fun hHeld=>?_);refine with_tabW hornbeamref06_Sort.tab9 hornbeamref06_Sort.bits9 (fun HT_ HW_=>?_)
              generalize w45.drew = w46 at HO_3 HO245 HR242 HB HO248 hx249_0 hHeld ⊢
              refine pure_ (i:=0) (N:=some 38) (v:=?_) (a':=?_) #[true,false,false,false,false,false,false,false,false,false,false,false,false] rfl rfl (any_of HT_.out (by kernel_rfl)) (fun _ _ _ h=>h) (Or.inl ⟨by rfl,?_⟩) ?_ ?_
              rotate_left
              ·intro w'
               go_simp
               with_reducible rfl
              rotate_left
              ·simp only [Act.put,List.setIfInBounds_toArray,List.set_cons_zero,List.set_cons_succ,i64_w,i32_w]
               rfl
              refine pure_ (i:=1) (N:=some 39) (v:=?_) (a':=?_) #[true,true,false,false,false,false,false,false,false,false,false,false,false] rfl rfl (any_of HT_.out (by kernel_rfl)) (fun _ _ _ h=>h) (Or.inl ⟨by rfl,?_⟩) ?_ ?_
              rotate_left
              ·intro w'
               go_simp
               with_reducible rfl
              rotate_left
              ·simp only [Act.put,List.setIfInBounds_toArray,List.set_cons_zero,List.set_cons_succ,i64_w,i32_w]
               rfl
              refine pure_ (i:=2) (N:=some 40) (v:=?_) (a':=?_) #[true,true,true,false,false,false,false,false,false,false,false,false,false] rfl rfl (any_of HT_.out (by kernel_rfl)) (fun _ _ _ h=>h) (Or.inl ⟨by rfl,?_⟩) ?_ ?_
              rotate_left
              ·intro w'
               go_simp
               with_reducible rfl
              rotate_left
              ·simp only [Act.put,List.setIfInBounds_toArray,List.set_cons_zero,List.set_cons_succ,i64_w,i32_w]
               rfl
              refine pure_ (i:=3) (N:=some 41) (v:=?_) (a':=?_) #[true,true,true,true,false,false,false,false,false,false,false,false,false] rfl rfl (any_of HT_.out (by kernel_rfl)) (fun _ _ _ h=>h) (Or.inl ⟨by rfl,?_⟩) ?_ ?_
              rotate_left
              ·intro w'
               go_simp
               with_reducible rfl
              rotate_left
              ·simp only [Act.put,List.setIfInBounds_toArray,List.set_cons_zero,List.set_cons_succ,i64_w,i32_w]
               rfl
              refine pure_ (i:=4) (N:=some 42) (v:=?_) (a':=?_) #[true,true,true,true,true,false,false,false,false,false,false,false,false] rfl rfl (any_of HT_.out (by kernel_rfl)) (fun _ _ _ h=>h) (Or.inl ⟨by rfl,?_⟩) ?_ ?_
              rotate_left
              ·intro w'
               go_simp
               with_reducible rfl
              rotate_left
              ·simp only [Act.put,List.setIfInBounds_toArray,List.set_cons_zero,List.set_cons_succ,i64_w,i32_w]
               rfl
              refine pure_ (i:=5) (N:=some 43) (v:=?_) (a':=?_) #[true,true,true,true,true,true,false,false,false,false,false,false,false] rfl rfl (any_of HT_.out (by kernel_rfl)) (fun _ _ _ h=>h) (Or.inl ⟨by rfl,?_⟩) ?_ ?_
              rotate_left
              ·intro w'
               go_simp
               with_reducible rfl
              rotate_left
              ·simp only [Act.put,List.setIfInBounds_toArray,List.set_cons_zero,List.set_cons_succ,i64_w,i32_w]
               rfl
              refine pure_ (i:=10) (N:=some 48) (v:=?_) (a':=?_) #[true,true,true,true,true,true,false,false,false,false,true,false,false] rfl rfl (any_of HT_.out (by kernel_rfl)) (fun _ _ _ h=>h) (Or.inl ⟨by rfl,?_⟩) ?_ ?_
              rotate_left
              ·intro w'
               go_simp
               with_reducible rfl
              rotate_left
              ·simp only [Act.put,List.setIfInBounds_toArray,List.set_cons_zero,List.set_cons_succ,i64_w,i32_w]
               rfl
              refine take_ (i:=6) (N:=some 44) (v:=?_) (a':=?_) #[true,true,true,true,true,true,true,false,false,false,true,false,false] rfl rfl (take_ofW HT_.out HW_.out (by kernel_rfl)) (fun _ _ _ h=>h) (Or.inl ⟨by rfl,?_⟩) hHeld ?_ ?_
              rotate_left
              ·intro w' s0
               go_simp
               with_reducible rfl
              rotate_left
              ·simp only [Act.put,List.setIfInBounds_toArray,List.set_cons_zero,List.set_cons_succ,i64_w,i32_w]
               rfl
              refine one_ (i:=7) (N:=some 45) #[true,true,true,true,true,true,true,true,false,false,true,false,false] rfl rfl (one_of HT_.out (by kernel_rfl)) (by decide) (fun K hK=>?_)
              refine goes_ Try.func43 (by kernel_rfl) rfl #[.float .f64 (rdOf (0 : Nat) l0 x4_1)] (by rfl) rfl rfl (by (try simp only [List.map_toArray,List.map_cons,List.map_nil]);first|done|rfl|(simp only [List.length_drop,List.length_take];rfl)) ?_
              with_reducible refine (hornbeamref06_Clean.calls (rdOf (0 : Nat) l0 x4_1) t250 _ A38.out).mono ?_
              rintro e w' ⟨rfl,⟨nd,rfl⟩⟩
              refine ⟨_,rfl,?_⟩
              refine hK.out _ _ (((HB.out.cell (World.block_lt_of_cell? w _ hw249_0)).trans hw249_0)) (fun hHeld=>?_)
              clear hK K
              refine norm_ (a':=?_) ?_ ?_
              rotate_left
              ·show Act.put _ (some 45) _ = _
               simp only [Act.put,List.setIfInBounds_toArray,List.set_cons_zero,List.set_cons_succ,i64_w,i32_w]
               rfl
              refine one_ (i:=8) (N:=some 46) #[true,true,true,true,true,true,true,true,true,false,true,false,false] rfl rfl (one_of HT_.out (by kernel_rfl)) (by decide) (fun K hK=>?_)
              refine value_ (w1:=?_) (v:=?_) (by rfl) rfl ?_ ?_
              rotate_left 2
              ·go_simp
               constructor
               ·rfl
               ·rfl
              refine hK.out _ _ ((World.cell?_alloc_lt _ _ _ (World.block_lt_of_cell? _ _ (((HB.out.cell (World.block_lt_of_cell? w _ hw249_0)).trans hw249_0)))).trans (((HB.out.cell (World.block_lt_of_cell? w _ hw249_0)).trans hw249_0))) (fun hHeld=>?_)
              clear hK K
              refine norm_ (a':=?_) ?_ ?_
              rotate_left
              ·show Act.put _ (some 46) _ = _
               simp only [Act.put,List.setIfInBounds_toArray,List.set_cons_zero,List.set_cons_succ,i64_w,i32_w]
               rfl
              refine one_ (i:=9) (N:=some 47) #[true,true,true,true,true,true,true,true,true,true,true,false,false] rfl rfl (one_of HT_.out (by kernel_rfl)) (by decide) (fun K hK=>?_)
              refine Kd.R_append_step Flt.kf (w0:=w) w.heap.size (by rfl) (.tmp 40) (.tmp 46) 30 36 (.float .f64 0) 8 rfl Try.underlying30 info36 rfl (by decide) (by omega) (.slice Ao5 y246.length co5) y246 t250 [.float .f64 t250] (fun k_=>some k_ ≠ (v244 : Value).ownBlock) (fun _=>False) rfl rfl ?aP (fun _ hk=>hk.elim) ?aF ?aO ?aB ?aS ?aL ?_
              (case aP=>exact rfl)
              (case aB=>exact (by repeat(first|(with_reducible first|exact HB.out|apply below_alloc|apply pw_below_drewN|apply below_drew1)|exact HB.out)))
              (case aF=>exact (fun k_ hk=>Kd.fresh' (Kd.R_lt (by (with_reducible repeat(first|apply Kd.R_alloc|apply Kd.R_drewN|apply Kd.R_drew));exact HO245.out)) k_ hk))
              (case aO=>exact (by (with_reducible repeat(first|apply Kd.R_alloc|apply Kd.R_drewN|apply Kd.R_drew));exact Kd.R_mono HO248.out (fun _ hk=>hk.2)))
              (case aS=>exact (below_size (by repeat(first|(with_reducible first|exact HB.out|apply below_alloc|apply pw_below_drewN|apply below_drew1)|exact HB.out))))
              (case aL=>have:=LMc39.out;omega)
              intro v252 w48 ho hb hg hat
              rw [← Ny251.out] at ho
              have n0_:=Aside0.mk (Kd.R_after (ok:=(fun _=>True)) (by (with_reducible repeat(first|apply Kd.R_alloc|apply Kd.R_drewN|apply Kd.R_drew));exact Kd.R_mono HO245.out (fun _ hk=>⟨trivial,(by first|exact hk|exact fun he_=>hk (he_.trans (Flt.own_len _ _ _ _ _)))⟩)) hg hat)
              have n1_:=Aside0.mk (hb)
              have n2_:=Aside0.mk (ho)
              clear HO245
              clear HB
              clear HO248
              have HO245:=n0_
              have HB:=n1_
              have HO253:=n2_
              clear n0_ n1_ n2_
              clear ho hb hg hat
              obtain ⟨Ao50,co50,eo50⟩:=Kd.R_slice HO245.out
              (first|subst eo50|(injection eo50 with f1_ f2_ f3_;have f4_:=f1_.symm;have f5_:=f3_.symm;clear f1_ f2_ f3_;subst f4_;subst f5_))
              refine hK.out _ _ (((HB.out.cell (World.block_lt_of_cell? w _ hw249_0)).trans hw249_0)) (fun hHeld=>?_)
              clear hK K
              refine norm_ (a':=?_) ?_ ?_
              rotate_left
              ·show Act.put _ (some 47) _ = _
               simp only [Act.put,List.setIfInBounds_toArray,List.set_cons_zero,List.set_cons_succ,i64_w,i32_w]
               rfl
              refine one_ (i:=11) (N:=some 49) #[true,true,true,true,true,true,true,true,true,true,true,true,false] rfl rfl (one_of HT_.out (by kernel_rfl)) (by decide) (fun K hK=>?_)
              refine Kd.R_append_rows_step Flt.kf (w0:=w) w.heap.size (by rfl) (.tmp 47) (.tmp 48) 30 36 (.float .f64 0) 8 rfl Try.underlying30 info36 rfl (by decide) (by omega) v252 y251 y243 _ _ _ (fun k_=>some k_ ≠ (.slice Ao50 y243.length co50 : Value).ownBlock) (fun _=>False) rfl rfl ?aO ?aR (fun _ _ h=>h) (fun _ h=>h.elim) ?aF ?aB ?aS ?aL ?_
              (case aR=>repeat(first|exact (Kd.R_reads' HO245.out).2.2|(with_reducible refine Kd.C_alloc ?_ _)|(with_reducible refine Kd.C_drewN ?_ _)|(with_reducible refine Kd.C_drew ?_)))
              (case aB=>exact (by repeat(first|(with_reducible first|exact HB.out|apply below_alloc|apply pw_below_drewN|apply below_drew1)|exact HB.out)))
              (case aF=>exact (fun k_ hk=>Kd.fresh' (Kd.R_lt (by (with_reducible repeat(first|apply Kd.R_alloc|apply Kd.R_drewN|apply Kd.R_drew));exact HO245.out)) k_ hk))
              (case aO=>exact (by (with_reducible repeat(first|apply Kd.R_alloc|apply Kd.R_drewN|apply Kd.R_drew));exact HO253.out))
              (case aS=>exact (below_size (by repeat(first|(with_reducible first|exact HB.out|apply below_alloc|apply pw_below_drewN|apply below_drew1)|exact HB.out))))
              (case aL=>have:=LMc40.out;omega)
              intro v255 w49 ho hb hg hat
              rw [← Ny254.out] at ho
              have n0_:=Aside0.mk (Kd.R_after (ok:=(fun _=>True)) (by (with_reducible repeat(first|apply Kd.R_alloc|apply Kd.R_drewN|apply Kd.R_drew));exact HO245.out) hg hat)
              have n1_:=Aside0.mk (hb)
              have n2_:=Aside0.mk (ho)
              clear HO245
              clear HB
              clear HO253
              have HO245:=n0_
              have HB:=n1_
              have HO256:=n2_
              clear n0_ n1_ n2_
              clear ho hb hg hat
              refine hK.out _ _ (((HB.out.cell (World.block_lt_of_cell? w _ hw249_0)).trans hw249_0)) (fun hHeld=>?_)
              clear hK K
              refine norm_ (a':=?_) ?_ ?_
              rotate_left
              ·show Act.put _ (some 49) _ = _
               simp only [Act.put,List.setIfInBounds_toArray,List.set_cons_zero,List.set_cons_succ,i64_w,i32_w]
               rfl
              refine pure_ (i:=12) (N:=some 3) (v:=?_) (a':=?_) #[true,true,true,true,true,true,true,true,true,true,true,true,true] rfl rfl (any_of HT_.out (by kernel_rfl)) (fun _ _ _ h=>h) (Or.inl ⟨by rfl,?_⟩) ?_ ?_
              rotate_left
              ·intro w'
               go_simp
               with_reducible rfl
              rotate_left
              ·simp only [Act.put,List.setIfInBounds_toArray,List.set_cons_zero,List.set_cons_succ,i64_w,i32_w]
               rfl
              refine done_ (done_of HT_.out (by kernel_rfl)) ?_
              try go_wp2
              go_roundg k2
              case measure=>have:=HK1.out;have:=HK2.out;omega
              case rel=>exact ⟨(y254),(wrap64 (x4_1 + 1)),(by first|rfl|(simp;done)|(simp [*];done)),H',⟨by have:=HK1.out;have:=HK2.out;omega⟩,⟨by (with_reducible repeat(first|apply Kd.R_alloc|apply Kd.R_drewN|apply Kd.R_drew));exact Kd.R_mono HO256.out (fun _ hk=>trivial)⟩,⟨by repeat(first|(with_reducible first|exact HB.out|apply below_alloc|apply pw_below_drewN|apply below_drew1)|exact HB.out)⟩⟩
             ·rw [if_neg c40] at H
              exact absurd H (by simp)
            ·rw [if_neg c39] at H
             exact absurd H (by simp)
           ·rw [if_neg c37] at H
            exact absurd H (by simp)
          ·rw [if_neg c36] at H
           exact absurd H (by simp)
         ·rw [if_neg c34] at H
          exact absurd H (by simp)
        ·rw [if_neg c33] at H
         exact absurd H (by simp)
       ·rw [if_neg c32] at H
        exact absurd H (by simp)
   ·rw [if_neg c4] at H
    have c4b0 : decide (x4_1 < (l0.length : Int)) = false:=decide_eq_false c4
    clear c4
    obtain rfl:=Option.some.inj H
    go_wp2
    go_ret
    exact ⟨_,by first|rfl|(simp [errW_none,errW_some] <;> rfl)|(simp [*,errW_none,errW_some] <;> rfl),by (with_reducible repeat(first|apply Kd.R_alloc|apply Kd.R_drewN|apply Kd.R_drew));exact HO_3.out,by repeat(first|(with_reducible first|exact HB.out|apply below_alloc|apply pw_below_drewN|apply below_drew1)|exact HB.out)⟩

end Go.Proofs.Ytnagfbadjbkhmaa.PB
