/- The law DatasetCuts by a walk: a dataset's bytes, cut off anywhere, end; with one more they aren't the form. -/
import Derived.Test.YtnagfbadjbkhmaaPureDataPut
namespace Go.Proofs.Ytnagfbadjbkhmaa.FDatasetCuts
open Go.RowKit Go.Shelf Go.Proofs.YtnagfbadjbkhmaaW.PrintWords Go.Proofs.YtnagfbadjbkhmaaW.PrintLast Go.Proofs.YtnagfbadjbkhmaaW.PrintMore Go.Proofs.Ytnagfbadjbkhmaa.Pure Go.Proofs.Ytnagfbadjbkhmaa.PA Go.Proofs.Ytnagfbadjbkhmaa.FTake Go.Proofs.Ytnagfbadjbkhmaa.FTarget Go.Proofs.Ytnagfbadjbkhmaa.PureConfD Go.Proofs.Ytnagfbadjbkhmaa.PureDataGet Go.Proofs.Ytnagfbadjbkhmaa.PureDataParts Go.Proofs.Ytnagfbadjbkhmaa.FData09 Go.Proofs.Ytnagfbadjbkhmaa.FDataPut Go.Proofs.Ytnagfbadjbkhmaa.FDataGet Go.Proofs.Ytnagfbadjbkhmaa.PureDataPut
set_option linter.unusedVariables false
set_option linter.unusedSimpArgs false
def Pl (W : World) (g : Nat) (k0 k1 k2 k3 k4 k5 k6 r c : Int) (A9 A10 : Option Addr) (v9 c9 v10 c10 : Nat) : Prop:=W.heap[g]? = some (.cells #[.int .i64 k0,.int .i64 k1,.int .i64 k2,.int .i64 k3,.int .i64 k4,.int .i64 k5,.int .i64 k6,.int .i64 r,.int .i64 c,.slice A9 v9 c9,.slice A10 v10 c10] 27 (0,0))
namespace Pl
variable {W : World} {g : Nat} {k0 k1 k2 k3 k4 k5 k6 r c : Int} {A9 A10 : Option Addr} {v9 c9 v10 c10 : Nat}
theorem e0 (H : Pl W g k0 k1 k2 k3 k4 k5 k6 r c A9 A10 v9 c9 v10 c10) : W.cell? ⟨g,0,none⟩ = some (.int .i64 k0):=(blk_cell H 0).trans rfl
theorem e1 (H : Pl W g k0 k1 k2 k3 k4 k5 k6 r c A9 A10 v9 c9 v10 c10) : W.cell? ⟨g,1,none⟩ = some (.int .i64 k1):=(blk_cell H 1).trans rfl
theorem e2 (H : Pl W g k0 k1 k2 k3 k4 k5 k6 r c A9 A10 v9 c9 v10 c10) : W.cell? ⟨g,2,none⟩ = some (.int .i64 k2):=(blk_cell H 2).trans rfl
theorem e3 (H : Pl W g k0 k1 k2 k3 k4 k5 k6 r c A9 A10 v9 c9 v10 c10) : W.cell? ⟨g,3,none⟩ = some (.int .i64 k3):=(blk_cell H 3).trans rfl
theorem e4 (H : Pl W g k0 k1 k2 k3 k4 k5 k6 r c A9 A10 v9 c9 v10 c10) : W.cell? ⟨g,4,none⟩ = some (.int .i64 k4):=(blk_cell H 4).trans rfl
theorem e5 (H : Pl W g k0 k1 k2 k3 k4 k5 k6 r c A9 A10 v9 c9 v10 c10) : W.cell? ⟨g,5,none⟩ = some (.int .i64 k5):=(blk_cell H 5).trans rfl
theorem e6 (H : Pl W g k0 k1 k2 k3 k4 k5 k6 r c A9 A10 v9 c9 v10 c10) : W.cell? ⟨g,6,none⟩ = some (.int .i64 k6):=(blk_cell H 6).trans rfl
theorem e7 (H : Pl W g k0 k1 k2 k3 k4 k5 k6 r c A9 A10 v9 c9 v10 c10) : W.cell? ⟨g,7,none⟩ = some (.int .i64 r):=(blk_cell H 7).trans rfl
theorem e8 (H : Pl W g k0 k1 k2 k3 k4 k5 k6 r c A9 A10 v9 c9 v10 c10) : W.cell? ⟨g,8,none⟩ = some (.int .i64 c):=(blk_cell H 8).trans rfl
theorem e9 (H : Pl W g k0 k1 k2 k3 k4 k5 k6 r c A9 A10 v9 c9 v10 c10) : W.cell? ⟨g,9,none⟩ = some (.slice A9 v9 c9):=(blk_cell H 9).trans rfl
theorem e10 (H : Pl W g k0 k1 k2 k3 k4 k5 k6 r c A9 A10 v9 c9 v10 c10) : W.cell? ⟨g,10,none⟩ = some (.slice A10 v10 c10):=(blk_cell H 10).trans rfl
end Pl
theorem byte_fv : ∀ vs : List Nat,∀ x ∈ fv vs,0 ≤ x ∧ x < 256:=by
 intro vs x hx
 unfold fv at hx
 obtain ⟨l,hl,hx⟩:=List.mem_flatten.1 hx
 obtain ⟨y,_,rfl⟩:=List.mem_map.1 hl
 exact PureTake.be_byte _ _ x hx
theorem byte_ft : ∀ ts : List Int,∀ x ∈ ft ts,0 ≤ x ∧ x < 256:=by
 intro ts x hx
 unfold ft at hx
 obtain ⟨l,hl,hx⟩:=List.mem_flatten.1 hx
 obtain ⟨y,_,rfl⟩:=List.mem_map.1 hl
 exact PureTake.be_byte _ _ x hx
theorem len_fv : ∀ vs : List Nat,(fv vs).length = 8 * vs.length
 | []=>rfl
 | x :: l=>by
  have:=len_fv l
  simp only [fv,List.map_cons,List.flatten_cons,List.length_append,PureTake.be_len,List.length_cons] at this ⊢
  omega
theorem len_ft : ∀ ts : List Int,(ft ts).length = 8 * ts.length
 | []=>rfl
 | x :: l=>by
  have:=len_ft l
  simp only [ft,List.map_cons,List.flatten_cons,List.length_append,PureTake.be_len,List.length_cons] at this ⊢
  omega
theorem head_len (g : Nat → Int) (r c : Int) : 10 ≤ (headB g r c).length ∧ (headB g r c).length ≤ 24:=by
 unfold headB
 split <;> simp [PureTake.be_len,bytesC_len]
theorem head_byte (g : Nat → Int) (r c : Int) : ∀ x ∈ headB g r c,0 ≤ x ∧ x < 256:=by
 intro x hx
 unfold headB bytesC at hx
 split at hx
 ·simp only [List.mem_append] at hx
  rcases hx with ((h|(((((h|h)|h)|h)|h)|h)|h)|h)|h <;> exact PureTake.be_byte _ _ x h
 ·simp only [List.mem_append] at hx
  rcases hx with (h|h)|h <;> exact PureTake.be_byte _ _ x h
set_option maxHeartbeats 8000000 in
set_option maxRecDepth 100000 in
theorem law_calls (k0 k1 k2 k3 k4 k5 k6 r c x m : Int) (A9 A10 : Option Addr) (c9 c10 : Nat) (v t : List Int) (w : World) (hr9 : Kd.C (Kd.int .u64) w A9 v.length v) (hc9 : v.length ≤ c9) (hr10 : Kd.C (Kd.int .i64) w A10 t.length t) (hc10 : t.length ≤ c10) (hv : ∀ y ∈ v,(Lit.int .u64 y).wf = true) (ht : ∀ y ∈ t,(Lit.int .i64 y).wf = true) (hx0 : 0 ≤ x ∧ x < 65536) (hm0 : 0 ≤ m ∧ m < 256) :
  Calls Try.prog 6 #[.agg #[.int .i64 k0,.int .i64 k1,.int .i64 k2,.int .i64 k3,.int .i64 k4,.int .i64 k5,.int .i64 k6,.int .i64 r,.int .i64 c,.slice A9 v.length c9,.slice A10 t.length c10],.int .u16 x,.int .u8 m] w fun e w'=>e = .returned (.bool true) ∧ Below w.heap.size w w':=by
 have hu:=Try.underlying32
 have hu2:=Try.underlying23
 have hu3:=Try.underlying27
 have HR9:=Aside0.mk hr9
 have HC9:=Aside0.mk hc9
 have HR10:=Aside0.mk hr10
 have HC10:=Aside0.mk hc10
 have HV:=Aside0.mk hv
 have HT:=Aside0.mk ht
 have HX:=Aside0.mk hx0
 have HMM:=Aside0.mk hm0
 obtain ⟨W0,hW0⟩ : ∃ W0,w.alloc (.cells #[.int .i64 k0,.int .i64 k1,.int .i64 k2,.int .i64 k3,.int .i64 k4,.int .i64 k5,.int .i64 k6,.int .i64 r,.int .i64 c,.slice A9 v.length c9,.slice A10 t.length c10] 27) = W0:=⟨_,rfl⟩
 have P0:=Aside0.mk (show Pl W0 w.heap.size k0 k1 k2 k3 k4 k5 k6 r c A9 A10 v.length c9 t.length c10 from by rw [← hW0];exact blk_new w _)
 have B0:=Aside0.mk (show Below w.heap.size w W0 from by rw [← hW0];exact below_alloc (Below.refl _ w) _)
 have HW0:=Aside0.mk hW0
 clear hr9 hc9 hr10 hc10 hv ht hx0 hm0 hW0
 by_cases hg : (decide (500 < v.length) || decide (200 < t.length)) = true
 ·have HG:=Aside0.mk (show hornbeamlaw09_Great.f k0 k1 k2 k3 k4 k5 k6 r c v t = some true from by rw [great_f,hg])
  clear hg
  go_enter Try.func6,Try.ntmps6
  go_wp2_with (fail)
  rw [HW0.out]
  refine (hornbeamlaw09_Great.calls k0 k1 k2 k3 k4 k5 k6 r c A9 c9 v A10 c10 t true _ (Kd.C_below HR9.out B0.out) HC9.out (Kd.C_below HR10.out B0.out) HC10.out HG.out).mono ?_
  rintro e w1 ⟨rfl,hb⟩
  have B1:=Aside0.mk (below_step B0.out hb)
  clear hb P0 B0 HG HW0
  go_wp2_with (fail)
  refine (FData09.fixed_calls _).mono ?_
  rintro e w2 ⟨rfl,hb⟩
  have B2:=Aside0.mk (below_step B1.out hb)
  clear hb B1
  go_wp2
  go_ret
  exact ⟨rfl,B2.out⟩
 ·have hl : v.length ≤ 500:=by simp at hg;omega
  have ht : t.length ≤ 200:=by simp at hg;omega
  have HG:=Aside0.mk (show hornbeamlaw09_Great.f k0 k1 k2 k3 k4 k5 k6 r c v t = some false from by rw [great_f];congr 1;exact Bool.eq_false_iff.mpr hg)
  have HL:=Aside0.mk (And.intro hl ht)
  clear hg hl ht
  go_enter Try.func6,Try.ntmps6
  go_wp2_with (fail)
  rw [HW0.out]
  refine (hornbeamlaw09_Great.calls k0 k1 k2 k3 k4 k5 k6 r c A9 c9 v A10 c10 t false _ (Kd.C_below HR9.out B0.out) HC9.out (Kd.C_below HR10.out B0.out) HC10.out HG.out).mono ?_
  rintro e w1 ⟨rfl,hb⟩
  have P1:=Aside0.mk (show Pl w1 w.heap.size k0 k1 k2 k3 k4 k5 k6 r c A9 A10 v.length c9 t.length c10 from blk_below P0.out hb)
  have B1:=Aside0.mk (below_step B0.out hb)
  clear hb P0 B0 HG HW0
  have p0:=P1.out.e0
  have p1:=P1.out.e1
  have p2:=P1.out.e2
  have p3:=P1.out.e3
  have p4:=P1.out.e4
  have p5:=P1.out.e5
  have p6:=P1.out.e6
  have p7:=P1.out.e7
  have p8:=P1.out.e8
  have p9:=P1.out.e9
  have p10:=P1.out.e10
  go_wp2_with (fail)
  clear p0 p1 p2 p3 p4 p5 p6 p7 p8 p9 p10
  obtain ⟨vs,hvs⟩ : ∃ vs,vs = v.map Flt.fbits:=⟨_,rfl⟩
  have hvl : vs.length = v.length:=by rw [hvs,List.length_map]
  have HVS:=Aside0.mk hvs
  have HF:=Aside0.mk (show hornbeamref09_Plain_Full.f 600 k0 k1 k2 k3 k4 k5 k6 r c v t = some (k0,k1,k2,k3,k4,k5,k6,r,c,vs,t) from by rw [hvs];exact full_f k0 k1 k2 k3 k4 k5 k6 r c v t 600 (by have:=HL.out;omega) (by have:=HL.out;omega) (by have:=HL.out;omega))
  have HVV:=Aside0.mk hvl
  clear hvs hvl
  refine (hornbeamref09_Plain_Full.calls 600 k0 k1 k2 k3 k4 k5 k6 r c A9 c9 v A10 c10 t k0 k1 k2 k3 k4 k5 k6 r c vs t _ (Kd.C_below HR9.out B1.out) HC9.out (Kd.C_below HR10.out B1.out) HC10.out HF.out).mono ?_
  rintro e w2 ⟨u9,u10,rfl,hR9,hR10,hb⟩
  obtain ⟨Av,cv,rfl,hcv,hCv⟩:=Kd.R_reads hR9
  obtain ⟨At,ct,rfl,hct,hCt⟩:=Kd.R_reads hR10
  have B2:=Aside0.mk (below_step B1.out hb)
  have HCV:=Aside0.mk (And.intro hcv hCv)
  have HCT:=Aside0.mk (And.intro hct hCt)
  clear hR9 hR10 hcv hCv hct hCt hb B1 P1 HF
  go_wp2_with (fail)
  have hput:=put_calls cl cl_some k0 k1 k2 k3 k4 k5 k6 r c Av At cv ct vs t (shp r c vs.length) (chk (gk k0 k1 k2 k3 k4 k5 k6)) (cnts r c) (headB (gk k0 k1 k2 k3 k4 k5 k6) r c) w2 HCV.out.2 HCV.out.1 HCT.out.2 HCT.out.1 (by have:=HVV.out;have:=HL.out;omega) (by have:=HL.out;omega)
   (shaped_f k0 k1 k2 k3 k4 k5 k6 r c vs t) (check_f (gk k0 k1 k2 k3 k4 k5 k6) 20 (by omega)) (counts_f k0 k1 k2 k3 k4 k5 k6 r c vs t) (if chk (gk k0 k1 k2 k3 k4 k5 k6) = 0 then PureTake.be 4 1213157966 ++ bytesC (gk k0 k1 k2 k3 k4 k5 k6) else PureTake.be 4 1213157966) (put_c (gk k0 k1 k2 k3 k4 k5 k6) (PureTake.be 4 1213157966) (by simp [PureTake.be_len]) 40 (by omega)) rfl (by split <;> simp [PureTake.be_len,bytesC_len])
  obtain ⟨Q,hQ⟩ : ∃ Q,putD k0 k1 k2 k3 k4 k5 k6 r c vs t = Q:=⟨_,rfl⟩
  rw [show putR cl k0 k1 (shp r c vs.length) (chk (gk k0 k1 k2 k3 k4 k5 k6)) (cnts r c) r vs t (headB (gk k0 k1 k2 k3 k4 k5 k6) r c) = Q from hQ] at hput
  obtain ⟨L,code⟩:=Q
  have HPUT:=Aside0.mk hput
  have HQ:=Aside0.mk hQ
  clear hput hQ
  refine HPUT.out.mono ?_
  rintro e w3 ⟨A,cc,rfl,hcc,hC,hb⟩
  simp only at hcc hC ⊢
  have B3:=Aside0.mk (below_step B2.out hb)
  have HCC:=Aside0.mk (And.intro hcc hC)
  clear hb hcc hC HPUT B2 HCV HCT
  by_cases h0 : code = 0
  ·subst h0
   have hok:=putD_ok k0 k1 k2 k3 k4 k5 k6 r c vs t (by rw [HQ.out])
   have hL : L = headB (gk k0 k1 k2 k3 k4 k5 k6) r c ++ fv vs ++ ft t:=by have:=hok.2.2.2.2.2.2;rw [HQ.out] at this;exact this
   have hlen : 10 ≤ L.length ∧ L.length ≤ 24 + 8 * 500 + 8 * 200:=by
    have h1:=head_len (gk k0 k1 k2 k3 k4 k5 k6) r c
    have h2:=HL.out
    have h3:=HVV.out
    rw [hL,List.length_append,List.length_append,len_fv,len_ft];omega
   have HBY:=Aside0.mk (show ∀ y ∈ L,0 ≤ y ∧ y < 256 from by
    rw [hL]
    intro y hy
    simp only [List.mem_append] at hy
    rcases hy with (h|h)|h
    ·exact head_byte _ _ _ y h
    ·exact byte_fv _ y h
    ·exact byte_ft _ y h)
   have HGET:=Aside0.mk (show get cl L = .ok (⟨[k0,k1,k2,k3,k4,k5,k6],r,c,vs,t⟩,[]) from by
    have h1:=put_get k0 k1 k2 k3 k4 k5 k6 r c vs t (by rw [HQ.out]) (fun y hy=>by
     rw [HVS.out] at hy
     obtain ⟨z,hz,rfl⟩:=List.mem_map.1 hy
     have:=wf_u64 (HV.out z hz)
     unfold Flt.fbits;omega) (fun y hy=>by have:=wf_i64 (HT.out y hy);omega)
    rw [HQ.out] at h1
    exact h1)
   clear hok hL
   have d1 : ((L.length : Int) == 0) = false:=beq_eq_false_iff_ne.2 (by omega)
   obtain ⟨n,hn⟩:=Int.eq_ofNat_of_zero_le (show 0 ≤ Int.tmod x L.length from Int.tmod_nonneg _ HX.out.1)
   have hnl : n < L.length:=by have:=Int.tmod_lt_of_pos x (show 0 < (L.length : Int) by omega);omega
   have hwx : wrap64 x = x:=by have:=HX.out;unfold wrap64;omega
   obtain ⟨i0,hi,hz0,hz1,hz2⟩:=info_parts FGrow.info_u8
   have hcut:=(print_take_of (P:=Try.prog) (Value.int .u8) 0 42 5 .i64 Try.underlying42 hi hz1 A cc L n (by omega) (by omega) HCC.out.1)
   have hrd:=hcut.2.1 w3 (Kd.reads_of_C HCC.out.2)
   have hcut1:=hcut.1
   simp only [Int.toNat_natCast] at hrd hcut1
   have HRD:=Aside0.mk hrd
   clear hcut hrd hi hz0 hz1 hz2 i0
   have hne : ¬ ((L.length : Int) = 0):=by omega
   have hlt : (L.take n).length = n:=by rw [List.length_take];omega
   rw [hlt] at hcut1
   go_wp2_with (fail)
   have HN:=Aside0.mk hnl
   have HLN:=Aside0.mk hlen
   have HRD2:=Aside0.mk (show Kd.C (Kd.int .u8) w3 A (L.take n).length (L.take n) from by rw [hlt];exact Kd.C_of_reads (h1:=fun _=>rfl) (by have h:=HRD.out;rw [hlt] at h;exact h))
   have G1:=dget_calls A cc (L.take n) w3 HRD2.out (by rw [hlt];have:=HCC.out.1;omega) (fun y hy=>HBY.out y (List.mem_of_mem_take hy)) (by rw [hlt];omega)
   rw [hlt,getR_cut HGET.out n hnl] at G1
   have G1' : Calls Try.prog 23 #[.slice A n cc] w3 fun e w'=>∃ av tv,e = .returned (.tuple #[.agg #[.int .i64 0,.int .i64 0,.int .i64 0,.int .i64 0,.int .i64 0,.int .i64 0,.int .i64 0,.int .i64 0,.int .i64 0,av,tv],.int .i64 2]) ∧ VR w3.heap.size w' av [] ∧ TR w3.heap.size w' tv [] ∧ Below w3.heap.size w3 w':=G1
   refine G1'.mono ?_
   clear G1 G1' hcut1 hn hlt HRD HRD2 d1 hne hwx hnl hlen HN
   rintro e w4 ⟨av,tv,rfl,hV,hTs,hb⟩
   obtain ⟨A4,c4,hav,_,_⟩:=Kd.R_reads hV
   obtain rfl : av = .slice A4 0 c4:=hav
   obtain ⟨A5,c5,htv,_,_⟩:=Kd.R_reads hTs
   obtain rfl : tv = .slice A5 0 c5:=htv
   have B4:=Aside0.mk (below_step B3.out hb)
   have HC4:=Aside0.mk (Kd.C_below HCC.out.2 hb)
   clear hV hTs hb B3
   go_upto_region 7 with (fail)
   obtain ⟨g4,hg4⟩ : ∃ g4,w4.heap.size = g4:=⟨_,rfl⟩
   obtain ⟨W5,hW5⟩ : ∃ W5,w4.alloc (.cells #[.int .i64 0,.int .i64 0,.int .i64 0,.int .i64 0,.int .i64 0,.int .i64 0,.int .i64 0,.int .i64 0,.int .i64 0,.slice A4 0 c4,.slice A5 0 c5] 32) = W5:=⟨_,rfl⟩
   have D5:=Aside0.mk (show W5.heap[g4]? = some (.cells #[.int .i64 0,.int .i64 0,.int .i64 0,.int .i64 0,.int .i64 0,.int .i64 0,.int .i64 0,.int .i64 0,.int .i64 0,.slice A4 0 c4,.slice A5 0 c5] 32 (0,0)) from by rw [← hW5,← hg4];exact blk_new w4 _)
   have B5:=Aside0.mk (show Below w.heap.size w W5 from by rw [← hW5];exact below_alloc B4.out _)
   have HC5:=Aside0.mk (show Kd.C (Kd.int .u8) W5 A L.length L from by rw [← hW5];exact Kd.C_below HC4.out (below_alloc (Below.refl _ _) _))
   rw [hW5,hg4]
   clear hW5 hg4 B4 HC4
   go_wp2_with (first|((with_reducible refine gate_dst (N:=46) rfl ?_);refine Kd.R_lit (Kd.int .u8) (w0:=W5) W5.heap.size 5 ?hg (N:=46) ?hd (xs:=([] : List Int)) (inner:=[]) (ok:=fun _=>True) (okp:=fun _=>True) ?hr ?hp (fun _ hk=>hk) trivial (Below.refl _ _) (Nat.le_refl _) (by simp) ?_;(case hd=>rfl);(case hg=>rfl);(case hr=>first|(go_simp;done)|(go_simp;rfl));(case hp=>exact (Reps.none _ _));intro v6 w6 hR6 hb6 hg6 hn6;have HR6:=Aside0.mk hR6;have HB6:=Aside0.mk hb6;have HC6:=Aside0.mk (Kd.C_below HC5.out hb6);clear hR6 hb6 hg6 hn6)|((with_reducible refine gate_builtin (b:=.append) (xs:=#[.tmp 46,.tmp 47]) rfl ?_);at_builtin;refine Kd.R_append_rows (Kd.int .u8) (w0:=W5) W5.heap.size rfl (.tmp 46) (.tmp 47) 42 5 (.int .u8 0) 1 rfl Try.underlying42 info5 rfl (by decide) (by omega) v6 [] L A _ cc (fun _=>True) (fun _=>False) rfl rfl HR6.out HC6.out (fun _ _ h=>h) (fun _ h=>h.elim) (fun _ _=>trivial) HB6.out HB6.out.size (by have:=HLN.out;simp;omega) ?_;intro v7 w7 hR7 hb7 hg7 ha7;rw [List.nil_append] at hR7;have HR7:=Aside0.mk hR7;have HB7:=Aside0.mk hb7;clear hR7 hb7 hg7 ha7 HR6 HB6 HC6)|((with_reducible refine gate_builtin (b:=.append) (xs:=#[.tmp 48,.tmp 50]) rfl ?_);at_builtin;refine Kd.R_append (Kd.int .u8) (w0:=W5) W5.heap.size rfl (.tmp 48) (.tmp 50) 42 5 (.int .u8 0) 1 rfl Try.underlying42 info5 rfl (by decide) (by omega) v7 L m [.int .u8 m] (fun _=>True) (fun _=>False) rfl rfl ?aP (fun _ hk=>hk.elim) (fun _ _=>trivial) HR7.out HB7.out HB7.out.size (by have:=HLN.out;omega) ?_;(case aP=>exact rfl);intro v8 w8 hR8 hb8 hg8 ha8;have HR8:=Aside0.mk hR8;have HB8:=Aside0.mk hb8;clear hR8 hb8 hg8 ha8 HR7 HB7))
   obtain ⟨A8,c8,hv8,hc8,hC8⟩:=Kd.R_reads HR8.out
   have B8:=Aside0.mk (below_step B5.out HB8.out)
   have D8:=Aside0.mk (blk_below D5.out HB8.out)
   have hl8 : (L ++ [m]).length = L.length + 1:=by simp
   have G2:=dget_calls A8 c8 (L ++ [m]) w8 hC8 hc8 (fun y hy=>by
    rcases List.mem_append.1 hy with h|h
    ·exact HBY.out y h
    ·rw [List.mem_singleton.1 h];exact HMM.out) (by have:=HLN.out;omega)
   rw [getR_more HGET.out m,← hv8] at G2
   have G2' : Calls Try.prog 23 #[v8] w8 fun e w'=>∃ av tv,e = .returned (.tuple #[.agg #[.int .i64 0,.int .i64 0,.int .i64 0,.int .i64 0,.int .i64 0,.int .i64 0,.int .i64 0,.int .i64 0,.int .i64 0,av,tv],.int .i64 3]) ∧ VR w8.heap.size w' av [] ∧ TR w8.heap.size w' tv [] ∧ Below w8.heap.size w8 w':=G2
   refine G2'.mono ?_
   clear G2 G2' hC8 hc8 hv8 hl8 HR8 HB8 B5 D5
   rintro e w9 ⟨av2,tv2,rfl,hV,hTs,hb⟩
   obtain ⟨A6,c6,hav,_,_⟩:=Kd.R_reads hV
   obtain rfl : av2 = .slice A6 0 c6:=hav
   obtain ⟨A7,c7,htv,_,_⟩:=Kd.R_reads hTs
   obtain rfl : tv2 = .slice A7 0 c7:=htv
   have B9:=Aside0.mk (below_step B8.out hb)
   have D9:=Aside0.mk (blk_below D8.out hb)
   clear hV hTs hb B8 D8
   go_wp2_with (fail)
   refine (FData09.fixed_calls _).mono ?_
   rintro e w10 ⟨rfl,hb⟩
   have hb2:=(below_alloc (Below.refl w9.heap.size w9) (.cells #[.int .i64 0,.int .i64 0,.int .i64 0,.int .i64 0,.int .i64 0,.int .i64 0,.int .i64 0,.int .i64 0,.int .i64 0,.slice A6 0 c6,.slice A7 0 c7] 32)).trans (hb.mono (by simp))
   have B10:=Aside0.mk (below_step B9.out hb2)
   have D10:=Aside0.mk (blk_below D9.out hb2)
   have q7 : w10.cell? ⟨g4,7,none⟩ = some (.int .i64 0):=(blk_cell D10.out 7).trans rfl
   have q9 : w10.cell? ⟨g4,9,none⟩ = some (.slice A4 0 c4):=(blk_cell D10.out 9).trans rfl
   clear hb hb2 B9 D9
   go_wp2
   go_ret
   exact ⟨rfl,B10.out⟩
  ·have d0 : (code != 0) = true:=bne_iff_ne.mpr h0
   clear h0
   go_wp2_with (fail)
   refine (FData09.fixed_calls _).mono ?_
   rintro e w4 ⟨rfl,hb⟩
   have B4:=Aside0.mk (below_step B3.out hb)
   clear hb B3
   go_wp2
   go_ret
   exact ⟨rfl,B4.out⟩
end Go.Proofs.Ytnagfbadjbkhmaa.FDatasetCuts
