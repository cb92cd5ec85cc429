/- The chapter's example of the laws on package dataset, by a walk. -/
import Derived.Test.YtnagfbadjbkhmaaFDataPut
import Derived.Test.YtnagfbadjbkhmaaPAx2
import Derived.Test.YtnagfbadjbkhmaaPAx2
namespace Go.Proofs.Ytnagfbadjbkhmaa.FData09
open Go.RowKit Go.Shelf Go.Proofs.YtnagfbadjbkhmaaW.PrintWords Go.Proofs.YtnagfbadjbkhmaaW.PrintLast Go.Proofs.YtnagfbadjbkhmaaW.PrintMore Go.Proofs.Ytnagfbadjbkhmaa.PA Go.Proofs.Ytnagfbadjbkhmaa.FConfD Go.Proofs.Ytnagfbadjbkhmaa.PureTake
set_option linter.unusedVariables false
set_option linter.unusedSimpArgs false
def cl (x : Nat) : Bool:=(dataset_clean.f x).getD false
theorem cl_some (x : Nat) : dataset_clean.f x = some (cl x):=by
 have h : ∃ r,dataset_clean.f x = some r:=by
  unfold dataset_clean.f rank_Clean.f rank_Missing.f
  simp only [Option.bind_some]
  repeat(first|exact ⟨_,rfl⟩|split|simp only [Option.bind_some])
 obtain ⟨r,h⟩:=h
 unfold cl;rw [h];rfl
def vs : List Nat:=[4607182418800017408,9221120237041090561]
def c1 : List Int:=[72,79,82,78,0,0,2,0,2,0,1,0,0,0,0,1,0,1]
def b0 : List Int:=c1 ++ be 4 (IntKind.u64.wrap 2) ++ be 2 (IntKind.u64.wrap 1)
def L : List Int:=(FDataPut.putR cl 0 2 true 0 0 2 vs [0,1] b0).1
theorem putR_eq : FDataPut.putR cl 0 2 true 0 0 2 vs [0,1] b0 = (L,0):=Prod.ext rfl (by decide +kernel)
theorem L_len : L.length = 56:=by decide +kernel
theorem L_head : L.take 4 = [72,79,82,78]:=by decide +kernel
theorem made_f (W : World) (x y : Nat) : Kd.C Flt.kf (W.alloc (.cells #[.float .f64 x,.float .f64 y] 36)) (some ⟨W.heap.size,0,none⟩) 2 [x,y]:=by
 refine Kd.C_of_reads (enc:=Value.float .f64) (d:=0) (h1:=fun _=>rfl) ⟨rfl,by omega,fun _=>⟨_,rfl,fun j hj=>?_⟩⟩
 rw [add_plain,blk_cell (blk_new W _) j]
 have : j = 0 ∨ j = 1:=by omega
 rcases this with rfl|rfl <;> rfl
theorem made_i (W : World) (x y : Int) : Kd.C (Kd.int .i64) (W.alloc (.cells #[.int .i64 x,.int .i64 y] 2)) (some ⟨W.heap.size,0,none⟩) 2 [x,y]:=by
 refine Kd.C_of_reads (enc:=Value.int .i64) (d:=0) (h1:=fun _=>rfl) ⟨rfl,by omega,fun _=>⟨_,rfl,fun j hj=>?_⟩⟩
 rw [add_plain,blk_cell (blk_new W _) j]
 have : j = 0 ∨ j = 1:=by omega
 rcases this with rfl|rfl <;> rfl
set_option maxHeartbeats 2000000 in
set_option maxRecDepth 100000 in
theorem fixed_calls (w : World) : Calls Try.prog 13 #[] w fun e w'=>e = .returned (.bool true) ∧ Below w.heap.size w w':=by
 have HN:=Aside0.mk (show math_NaN.f = some 9221120237041090561 by decide +kernel)
 have HC:=Aside0.mk (show hornbeamref06_Clean.f 9221120237041090561 = some 9221120237041090561 by decide +kernel)
 go_enter Try.func13,Try.ntmps13
 go_wp2_with (fail)
 refine (math_NaN.calls 9221120237041090561 _ HN.out).mono ?_
 rintro e w1 ⟨rfl,⟨n1,rfl⟩⟩
 go_wp2_with (fail)
 refine (hornbeamref06_Clean.calls 9221120237041090561 9221120237041090561 _ HC.out).mono ?_
 rintro e w2 ⟨rfl,⟨n2,rfl⟩⟩
 go_wp2_with (fail)
 obtain ⟨W4,hW4⟩ : ∃ W4,(((w.drewN (n1 + n2)).alloc (.cells #[.float .f64 4607182418800017408,.float .f64 9221120237041090561] 36)).alloc (.cells #[.int .i64 0,.int .i64 1] 2)) = W4:=⟨_,rfl⟩
 have hb4 : Below w.heap.size w W4:=by rw [← hW4];exact below_alloc (below_alloc (below_drewN (Below.refl _ w) _) _) _
 have hv4 : Kd.C Flt.kf W4 (some ⟨w.heap.size,0,none⟩) vs.length vs:=by rw [← hW4];exact Kd.C_below (made_f (w.drewN (n1 + n2)) _ _) (below_alloc (Below.refl _ _) _)
 have ht4 : Kd.C (Kd.int .i64) W4 (some ⟨w.heap.size + 1,0,none⟩) ([0,1] : List Int).length [0,1]:=by
  rw [← hW4]
  have:=made_i ((w.drewN (n1 + n2)).alloc (.cells #[.float .f64 4607182418800017408,.float .f64 9221120237041090561] 36)) 0 1
  rw [World.size_alloc] at this
  exact this
 rw [hW4]
 have HB4:=Aside0.mk hb4
 clear hb4 hW4 HN HC
 refine (FDataPut.put_calls cl cl_some 0 2 2 1 0 1 1 2 1 (some ⟨w.heap.size,0,none⟩) (some ⟨w.heap.size + 1,0,none⟩) 2 2 vs [0,1] true 0 0 b0 W4 hv4 (by decide) ht4 (by decide) (by decide) (by decide) (by decide +kernel) (by decide +kernel) (by decide +kernel) c1 (by decide +kernel) rfl (by decide)).mono ?_
 rintro e w5 ⟨A,c,he,hc,hC,hb⟩
 rw [putR_eq] at he hc hC
 simp only at he hc hC
 subst he
 have HB5:=Aside0.mk (HB4.out.trans (hb.mono HB4.out.size))
 obtain ⟨i0,hi,hz0,hz1,hz2⟩:=info_parts FGrow.info_u8
 have hcut:=(print_take_of (P:=Try.prog) (Value.int .u8) 0 42 5 .i64 Try.underlying42 hi hz1 A c L 4 (by omega) (by rw [L_len];decide) hc)
 have hrd:=hcut.2.1 w5 (Kd.reads_of_C hC)
 have hcv:=Kd.C_string (P:=Try.prog) (A:=A) (c:=c) Try.underlying42 Try.underlying5 Try.underlying9 (Kd.C_of_reads (h1:=fun _=>rfl) hrd)
 have hc1:=hcut.1
 rw [show (4 : Int).toNat = 4 from rfl,L_head] at hcv hc1
 have hcv4 : (convert 42 9 (.slice A 4 c)).run Try.prog w5 = .ok (.string (strOfNums [72,79,82,78])) w5:=hcv
 have hhorn : ((strOfNums [72,79,82,78]).toList == ([72,79,82,78] : List UInt8)) = true:=by decide +kernel
 have hl56 : ((L.length : Int) == 56) = true:=by rw [L_len];rfl
 have HB6:=HB5
 rw [L_len] at hc1
 rw [L_len]
 clear hv4 ht4 hC hb hcv hrd hcut hc HB4
 go_wp2
 go_ret
 exact ⟨by simp [hhorn],HB6.out⟩
end Go.Proofs.Ytnagfbadjbkhmaa.FData09
