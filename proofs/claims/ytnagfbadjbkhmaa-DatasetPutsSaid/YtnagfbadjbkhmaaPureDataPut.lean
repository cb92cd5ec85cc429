/- A dataset's bytes are read as the dataset (plain). -/
import Derived.Test.YtnagfbadjbkhmaaFConfD
import Derived.Test.YtnagfbadjbkhmaaFDataGet
import Derived.Test.YtnagfbadjbkhmaaPureDataHead
namespace Go.Proofs.Ytnagfbadjbkhmaa.PureDataPut
open Go.RowKit Go.Shelf Go.Proofs.YtnagfbadjbkhmaaW.PrintWords Go.Proofs.YtnagfbadjbkhmaaW.PrintLast Go.Proofs.YtnagfbadjbkhmaaW.PrintMore Go.Proofs.Ytnagfbadjbkhmaa.Pure Go.Proofs.Ytnagfbadjbkhmaa.PA Go.Proofs.Ytnagfbadjbkhmaa.FTake Go.Proofs.Ytnagfbadjbkhmaa.FTarget Go.Proofs.Ytnagfbadjbkhmaa.PureTake Go.Proofs.Ytnagfbadjbkhmaa.PureVal Go.Proofs.Ytnagfbadjbkhmaa.FConfD Go.Proofs.Ytnagfbadjbkhmaa.PureDataGet Go.Proofs.Ytnagfbadjbkhmaa.PureDataParts Go.Proofs.Ytnagfbadjbkhmaa.FData09 Go.Proofs.Ytnagfbadjbkhmaa.FDataPut Go.Proofs.Ytnagfbadjbkhmaa.FDataGet
open Go.Proofs.Ytnagfbadjbkhmaa.FConfGet (chk)
set_option linter.unusedVariables false
set_option linter.unusedSimpArgs false
/-- What is wrong with how many rows and columns there are. -/
def cnts (r c : Int) : Int:=if r = 0 then 3 else if r > 1048576 then 4 else if c = 0 then 3 else if c > 1024 then 4 else if wrap64 (r * c) > 16777216 then 4 else 0
theorem counts_f (a0 a1 a2 a3 a4 a5 a6 r c : Int) (l : List Nat) (t : List Int) : dataset_counts.f a0 a1 a2 a3 a4 a5 a6 r c l t = some (cnts r c):=by
 unfold dataset_counts.f cnts
 by_cases h1 : r = 0
 ·rw [if_pos h1,if_pos h1]
 rw [if_neg h1,if_neg h1]
 by_cases h2 : r > 1048576
 ·rw [if_pos h2,if_pos h2]
 rw [if_neg h2,if_neg h2]
 by_cases h3 : c = 0
 ·rw [if_pos h3,if_pos h3]
 rw [if_neg h3,if_neg h3]
 by_cases h4 : c > 1024
 ·rw [if_pos h4,if_pos h4]
 rw [if_neg h4,if_neg h4]
 by_cases h5 : wrap64 (r * c) > 16777216
 ·rw [if_pos h5,if_pos h5]
 rw [if_neg h5,if_neg h5]
/-- What a dataset's bytes begin with. -/
def headB (g : Nat → Int) (r c : Int) : List Int:=(if chk g = 0 then be 4 1213157966 ++ bytesC g else be 4 1213157966) ++ be 4 (IntKind.u64.wrap r) ++ be 2 (IntKind.u64.wrap c)
def fv (vs : List Nat) : List Int:=(vs.map fun x=>be 8 (Flt.ubits x)).flatten
def ft (ts : List Int) : List Int:=(ts.map fun x=>be 8 (IntKind.u64.wrap x)).flatten
theorem vbs_ok : ∀ (vs : List Nat) (bs b1 : List Int),vbs cl vs bs = .ok b1 → b1 = bs ++ fv vs ∧ ∀ x ∈ vs,cl x = true
 | [],bs,b1,h=>by cases h;exact ⟨by simp [fv],by simp⟩
 | x :: l,bs,b1,h=>by
  unfold vbs at h
  by_cases hx : cl x = true
  ·rw [if_pos hx] at h
   obtain ⟨e,hl⟩:=vbs_ok l _ b1 h
   refine ⟨by rw [e];simp [fv],fun y hy=>?_⟩
   rcases List.mem_cons.1 hy with rfl|hy
   ·exact hx
   ·exact hl y hy
  ·rw [if_neg hx] at h;cases h
theorem tbs_ok (k0 k1 : Int) : ∀ (ts bs b2 : List Int),tbs k0 k1 ts bs = .ok b2 → b2 = bs ++ ft ts ∧ ∀ x ∈ ts,may k0 k1 x = 0
 | [],bs,b2,h=>by cases h;exact ⟨by simp [ft],by simp⟩
 | x :: l,bs,b2,h=>by
  unfold tbs at h
  by_cases hx : may k0 k1 x = 0
  ·rw [if_pos hx] at h
   obtain ⟨e,hl⟩:=tbs_ok k0 k1 l _ b2 h
   refine ⟨by rw [e];simp [ft],fun y hy=>?_⟩
   rcases List.mem_cons.1 hy with rfl|hy
   ·exact hx
   ·exact hl y hy
  ·rw [if_neg hx] at h;cases h
theorem tbs_ne (k0 k1 : Int) : ∀ (ts bs : List Int) (c : Int),tbs k0 k1 ts bs = .error c → c ≠ 0
 | [],bs,c,h=>by cases h
 | x :: l,bs,c,h=>by
  unfold tbs at h
  by_cases hx : may k0 k1 x = 0
  ·rw [if_pos hx] at h;exact tbs_ne k0 k1 l _ c h
  ·rw [if_neg hx] at h;cases h;exact hx
theorem vbs_ne : ∀ (vs : List Nat) (bs : List Int) (c : Int),vbs cl vs bs = .error c → c ≠ 0
 | [],bs,c,h=>by cases h
 | x :: l,bs,c,h=>by
  unfold vbs at h
  by_cases hx : cl x = true
  ·rw [if_pos hx] at h;exact vbs_ne l _ c h
  ·rw [if_neg hx] at h;cases h;decide
theorem p8 : (256 : Int) ^ 8 = 18446744073709551616:=rfl
theorem values_fv : ∀ (vs : List Nat) (out : List Nat) (rest : List Int),(∀ x ∈ vs,cl x = true ∧ x < 18446744073709551616) → values cl vs.length out (fv vs ++ rest) = .ok (out ++ vs,rest)
 | [],out,rest,_=>by
  show Except.ok (out,[] ++ rest) = _
  simp
 | x :: l,out,rest,h=>by
  obtain ⟨h1,h2⟩:=h x (by simp)
  have hn : number 8 (fv (x :: l) ++ rest) = .ok (Flt.ubits x,fv l ++ rest):=by
   have:=num_be 8 (Flt.ubits x) (by unfold Flt.ubits;omega) 8 rfl (by omega) (fv l ++ rest)
   rw [p8,Int.emod_eq_of_lt (by unfold Flt.ubits;omega) (by unfold Flt.ubits;omega)] at this
   rw [← this];simp [fv]
  have hb : Flt.fbits (Flt.ubits x) = x:=by unfold Flt.fbits Flt.ubits;omega
  refine (seq_ok hn).trans ?_
  rw [hb]
  refine (guard_neg (by rw [h1];simp)).trans ?_
  rw [values_fv l _ rest (fun y hy=>h y (by simp [hy]))]
  simp
theorem targets_ft (k0 k1 : Int) : ∀ (ts : List Int) (out : List Int) (rest : List Int),(∀ x ∈ ts,may k0 k1 x = 0 ∧ -9223372036854775808 ≤ x ∧ x ≤ 9223372036854775807) → targets k0 k1 ts.length out (ft ts ++ rest) = .ok (out ++ ts,rest)
 | [],out,rest,_=>by
  show Except.ok (out,[] ++ rest) = _
  simp
 | x :: l,out,rest,h=>by
  obtain ⟨h1,h2,h3⟩:=h x (by simp)
  have hu : 0 ≤ IntKind.u64.wrap x ∧ IntKind.u64.wrap x < 18446744073709551616 ∧ wrap64 (IntKind.u64.wrap x) = x:=by
   simp only [IntKind.wrap,IntKind.bits,IntKind.signed,wrap64]
   simp
   omega
  have hn : number 8 (ft (x :: l) ++ rest) = .ok (IntKind.u64.wrap x,ft l ++ rest):=by
   have:=num_be 8 (IntKind.u64.wrap x) hu.1 8 rfl (by omega) (ft l ++ rest)
   rw [p8,Int.emod_eq_of_lt hu.1 hu.2.1] at this
   rw [← this];simp [ft]
  refine (seq_ok hn).trans ?_
  rw [hu.2.2]
  refine (guard_neg (fun h=>h h1)).trans ?_
  rw [targets_ft k0 k1 l _ rest (fun y hy=>h y (by simp [hy]))]
  simp
theorem conf_back (g : Nat → Int) (h : chk g = 0) (rest : List Int) : FConfGet.get (bytesC g ++ rest) = .ok ([g 0,g 1,g 2,g 3,g 4,g 5,g 6],rest):=by
 obtain ⟨h0,h1,h2,h3,h4,h5,h6,_⟩:=chk_zero h
 have hn : FConfGet.nums FConfGet.szs (bytesC g ++ rest) = .ok ([g 0,g 1,g 2,g 3,g 4,g 5,g 6],rest):=by
  unfold bytesC
  simp only [FConfGet.nums,FConfGet.szs,List.append_assoc]
  rw [num_be 1 (g 0) (by omega) 1 rfl (by omega)]
  simp only
  rw [num_be 2 (g 1) (by omega) 2 rfl (by omega)]
  simp only
  rw [num_be 2 (g 2) (by omega) 2 rfl (by omega)]
  simp only
  rw [num_be 2 (g 3) (by omega) 2 rfl (by omega)]
  simp only
  rw [num_be 1 (g 4) (by omega) 1 rfl (by omega)]
  simp only
  rw [num_be 4 (g 5) (by omega) 4 rfl (by omega)]
  simp only
  rw [num_be 2 (g 6) (by omega) 2 rfl (by omega)]
  simp only
  have m1 : (256 : Int) ^ 1 = 256:=rfl
  have m2 : (256 : Int) ^ 2 = 65536:=rfl
  have m4 : (256 : Int) ^ 4 = 4294967296:=rfl
  rw [m1,m2,m4,Int.emod_eq_of_lt (by omega) (by omega),Int.emod_eq_of_lt (by omega) (by omega),Int.emod_eq_of_lt (by omega) (by omega),Int.emod_eq_of_lt (by omega) (by omega),Int.emod_eq_of_lt (by omega) (by omega),Int.emod_eq_of_lt (by omega) (by omega),Int.emod_eq_of_lt (by omega) (by omega),
   Pure.wrap_in (by omega) (by omega),Pure.wrap_in (by omega) (by omega),Pure.wrap_in (by omega) (by omega),Pure.wrap_in (by omega) (by omega),Pure.wrap_in (by omega) (by omega),Pure.wrap_in (by omega) (by omega),Pure.wrap_in (by omega) (by omega)]
 have hc : FConfGet.chk (FConfGet.fld [g 0,g 1,g 2,g 3,g 4,g 5,g 6]) = chk g:=by
  unfold FConfGet.chk;rfl
 unfold FConfGet.get
 rw [hn]
 simp only
 rw [hc,if_pos h]
theorem count_back (m : Nat) (k : Int) (hk : FTake.cnt k = m) (h8 : m ≤ 4) (most n : Int) (h0 : 1 ≤ n) (h1 : n ≤ most) (h2 : most < 256 ^ m) (rest : List Int) : count k most (be m (IntKind.u64.wrap n) ++ rest) = .ok (n,rest):=by
 have hp : (256 : Int) ^ m ≤ 256 ^ 4:=by
  have : m = 0 ∨ m = 1 ∨ m = 2 ∨ m = 3 ∨ m = 4:=by omega
  rcases this with rfl|rfl|rfl|rfl|rfl <;> decide
 have p4 : (256 : Int) ^ 4 = 4294967296:=rfl
 have hw : IntKind.u64.wrap n = n:=u64_wrap (by omega) (by omega)
 have hn:=num_be k n (by omega) m hk (by omega) rest
 rw [Int.emod_eq_of_lt (by omega) (by omega)] at hn
 rw [hw]
 refine (seq_ok hn).trans ?_
 refine (guard_neg (by omega)).trans ?_
 exact guard_neg (by omega)
section
variable (k0 k1 k2 k3 k4 k5 k6 r c : Int) (vs : List Nat) (ts : List Int)
/-- What dataset.Put answers. -/
def putD : List Int × Int:=putR cl k0 k1 (shp r c vs.length) (chk (gk k0 k1 k2 k3 k4 k5 k6)) (cnts r c) r vs ts (headB (gk k0 k1 k2 k3 k4 k5 k6) r c)
theorem putD_ok (h : (putD k0 k1 k2 k3 k4 k5 k6 r c vs ts).2 = 0) : shp r c vs.length = true ∧ (ts.length : Int) = r ∧ chk (gk k0 k1 k2 k3 k4 k5 k6) = 0 ∧ cnts r c = 0 ∧ (∀ x ∈ vs,cl x = true) ∧ (∀ x ∈ ts,may k0 k1 x = 0) ∧ (putD k0 k1 k2 k3 k4 k5 k6 r c vs ts).1 = headB (gk k0 k1 k2 k3 k4 k5 k6) r c ++ fv vs ++ ft ts:=by
 unfold putD putR at h ⊢
 by_cases h1 : shp r c vs.length = true ∧ (ts.length : Int) = r
 ·rw [if_pos h1] at h ⊢
  by_cases h2 : chk (gk k0 k1 k2 k3 k4 k5 k6) ≠ 0
  ·rw [if_pos h2] at h;exact absurd h h2
  rw [if_neg h2] at h ⊢
  by_cases h3 : cnts r c ≠ 0
  ·rw [if_pos h3] at h;exact absurd h h3
  rw [if_neg h3] at h ⊢
  cases h4 : vbs cl vs (headB (gk k0 k1 k2 k3 k4 k5 k6) r c) with
  | error e =>
   rw [h4] at h
   exact absurd h (vbs_ne vs _ e h4)
  | ok b1 =>
   rw [h4] at h
   simp only at h ⊢
   obtain ⟨e1,hv⟩:=vbs_ok vs _ b1 h4
   cases h5 : tbs k0 k1 ts b1 with
   | error e=>rw [h5] at h;exact absurd h (tbs_ne k0 k1 ts b1 e h5)
   | ok b2 =>
    obtain ⟨e2,ht⟩:=tbs_ok k0 k1 ts b1 b2 h5
    exact ⟨h1.1,h1.2,by omega,by omega,hv,ht,by show b2 = _;rw [e2,e1]⟩
 ·rw [if_neg h1] at h;cases h
theorem cnts_zero {r c : Int} (h : cnts r c = 0) : r ≠ 0 ∧ r ≤ 1048576 ∧ c ≠ 0 ∧ c ≤ 1024 ∧ wrap64 (r * c) ≤ 16777216:=by
 unfold cnts at h
 split at h
 ·cases h
 split at h
 ·cases h
 split at h
 ·cases h
 split at h
 ·cases h
 split at h
 ·cases h
 exact ⟨by omega,by omega,by omega,by omega,by omega⟩
/-- A dataset's bytes are read as it. -/
theorem put_get (h : (putD k0 k1 k2 k3 k4 k5 k6 r c vs ts).2 = 0) (hv : ∀ x ∈ vs,x < 18446744073709551616) (ht : ∀ x ∈ ts,-9223372036854775808 ≤ x ∧ x ≤ 9223372036854775807) :
  get cl (putD k0 k1 k2 k3 k4 k5 k6 r c vs ts).1 = .ok (⟨[k0,k1,k2,k3,k4,k5,k6],r,c,vs,ts⟩,[]):=by
 obtain ⟨hs,hl,hc,hn,hcv,hct,e⟩:=putD_ok k0 k1 k2 k3 k4 k5 k6 r c vs ts h
 obtain ⟨s1,s2,s3,s4,s5⟩:=shp_is hs
 obtain ⟨n1,n2,n3,n4,n5⟩:=cnts_zero hn
 have hm : r * c ≤ 1048576 * 1024:=Int.mul_le_mul n2 n4 s3 (by decide)
 have hm0 : 0 ≤ r * c:=Int.mul_nonneg s1 s3
 rw [wrap_in (by omega) (by omega)] at n5
 rw [e]
 unfold headB
 rw [if_pos hc]
 simp only [List.append_assoc]
 have hn1 : number 4 (be 4 1213157966 ++ (bytesC (gk k0 k1 k2 k3 k4 k5 k6) ++ (be 4 (IntKind.u64.wrap r) ++ (be 2 (IntKind.u64.wrap c) ++ (fv vs ++ ft ts))))) = .ok (1213157966,bytesC (gk k0 k1 k2 k3 k4 k5 k6) ++ (be 4 (IntKind.u64.wrap r) ++ (be 2 (IntKind.u64.wrap c) ++ (fv vs ++ ft ts)))):=by
  have:=num_be 4 1213157966 (by omega) 4 rfl (by omega) (bytesC (gk k0 k1 k2 k3 k4 k5 k6) ++ (be 4 (IntKind.u64.wrap r) ++ (be 2 (IntKind.u64.wrap c) ++ (fv vs ++ ft ts))))
  rw [show (1213157966 : Int) % 256 ^ 4 = 1213157966 by decide] at this
  exact this
 refine (show get cl _ = _ from seq_ok hn1).trans ?_
 refine (guard_neg (fun h=>h rfl)).trans ?_
 refine (seq_ok (conf_back (gk k0 k1 k2 k3 k4 k5 k6) hc _)).trans ?_
 refine (seq_ok (count_back 4 4 rfl (by omega) 1048576 r (by omega) n2 (by decide) _)).trans ?_
 refine (seq_ok (count_back 2 2 rfl (by omega) 1024 c (by omega) n4 (by decide) _)).trans ?_
 refine (guard_neg (by omega)).trans ?_
 have e1 : (r * c).toNat = vs.length:=by omega
 have e2 : r.toNat = ts.length:=by omega
 rw [e1,e2]
 refine (seq_ok (values_fv vs [] _ (fun x hx=>⟨hcv x hx,hv x hx⟩))).trans ?_
 have ht2:=targets_ft k0 k1 ts [] [] (fun x hx=>⟨hct x hx,ht x hx⟩)
 rw [List.append_nil] at ht2
 exact (seq_ok ht2)
end
end Go.Proofs.Ytnagfbadjbkhmaa.PureDataPut
