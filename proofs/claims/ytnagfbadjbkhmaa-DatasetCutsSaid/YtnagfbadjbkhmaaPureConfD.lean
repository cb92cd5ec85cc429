/- config.Check and config.Put: what they come to (without the document's). -/
import Derived.Test.YtnagfbadjbkhmaaPureTake
import Derived.Test.YtnagfbadjbkhmaaPureVal
import Derived.Test.YtnagfbadjbkhmaaFConfGet
import Derived.Test.YtnagfbadjbkhmaaPAx5
namespace Go.Proofs.Ytnagfbadjbkhmaa.PureConfD
open Go.RowKit Go.Proofs.YtnagfbadjbkhmaaW.PrintWords Go.Proofs.YtnagfbadjbkhmaaW.PrintLast Go.Proofs.YtnagfbadjbkhmaaW.PrintMore Go.Proofs.Ytnagfbadjbkhmaa.Pure Go.Proofs.Ytnagfbadjbkhmaa.PureTake Go.Proofs.Ytnagfbadjbkhmaa.PureVal Go.Proofs.Ytnagfbadjbkhmaa.PA
set_option linter.unusedVariables false
set_option linter.unusedSimpArgs false
abbrev chk:=FConfGet.chk
theorem check_f (g : Nat → Int) (k : Nat) (hk : 20 ≤ k) : config_Check.f k (g 0) (g 1) (g 2) (g 3) (g 4) (g 5) (g 6) = some (chk g) :=
 at_rounds (config_Check.mono _ _ _ _ _ _ _) hk (FConfGet.chk_f g)
theorem chk_zero {g : Nat → Int} (h : chk g = 0) : (0 ≤ g 0 ∧ g 0 ≤ 1) ∧ (0 ≤ g 1 ∧ g 1 ≤ 256) ∧ (2 ≤ g 2 ∧ g 2 ≤ 256) ∧ (1 ≤ g 3 ∧ g 3 ≤ 4096) ∧ (0 ≤ g 4 ∧ g 4 ≤ 32) ∧ (1 ≤ g 5 ∧ g 5 ≤ 1048576) ∧ (1 ≤ g 6 ∧ g 6 ≤ 1024) ∧ (g 0 = 0 → 2 ≤ g 1) ∧ (g 0 = 1 → g 1 = 0):=by
 unfold chk FConfGet.chk at h
 by_cases h0 : g 0 = 1
 ·simp only [h0,if_true,true_and] at h
  repeat (split at h;(next=>exact absurd h (by decide)))
  omega
 ·simp only [if_neg h0] at h
  repeat (split at h;(next=>exact absurd h (by decide)))
  omega
theorem chk_vals (g : Nat → Int) : chk g = 0 ∨ chk g = 3 ∨ chk g = 4:=by
 have key : ∀ v : Int,v = chk g → v = 0 ∨ v = 3 ∨ v = 4:=by
  intro v hv
  unfold chk FConfGet.chk at hv
  repeat (split at hv;(next=>omega))
  omega
 exact key _ rfl
/-- A config's bytes. -/
def bytesC (g : Nat → Int) : List Int:=be 1 (g 0) ++ be 2 (g 1) ++ be 2 (g 2) ++ be 2 (g 3) ++ be 1 (g 4) ++ be 4 (g 5) ++ be 2 (g 6)
theorem bytesC_len (g : Nat → Int) : (bytesC g).length = 14:=by simp [bytesC,be_len]
set_option maxRecDepth 100000 in
theorem pst0 (k : Nat) (out : List Int) (f0 f1 f2 f3 f4 f5 f6 f7 f8 f9 f10 f11 f12 f13 f14 f15 f16 f17 f18 f19 f20 f21 f22 f23 f24 f25 f26 f27 : Int) : config_Put.l0 (k + 1) out 0 f0 f1 f2 f3 f4 f5 f6 f7 f8 f9 f10 f11 f12 f13 f14 f15 f16 f17 f18 f19 f20 f21 f22 f23 f24 f25 f26 f27 = (take_Put.f k out (IntKind.u64.wrap f0) f3).bind fun t=>config_Put.l0 k t 1 f0 f1 f2 f3 f4 f5 f6 f7 f8 f9 f10 f11 f12 f13 f14 f15 f16 f17 f18 f19 f20 f21 f22 f23 f24 f25 f26 f27:=by
 simp [config_Put.l0,show wrap64 1 = 1 by simp [wrap64]]
set_option maxRecDepth 100000 in
theorem pst1 (k : Nat) (out : List Int) (f0 f1 f2 f3 f4 f5 f6 f7 f8 f9 f10 f11 f12 f13 f14 f15 f16 f17 f18 f19 f20 f21 f22 f23 f24 f25 f26 f27 : Int) : config_Put.l0 (k + 1) out 1 f0 f1 f2 f3 f4 f5 f6 f7 f8 f9 f10 f11 f12 f13 f14 f15 f16 f17 f18 f19 f20 f21 f22 f23 f24 f25 f26 f27 = (take_Put.f k out (IntKind.u64.wrap f4) f7).bind fun t=>config_Put.l0 k t 2 f0 f1 f2 f3 f4 f5 f6 f7 f8 f9 f10 f11 f12 f13 f14 f15 f16 f17 f18 f19 f20 f21 f22 f23 f24 f25 f26 f27:=by
 simp [config_Put.l0,show wrap64 2 = 2 by simp [wrap64]]
set_option maxRecDepth 100000 in
theorem pst2 (k : Nat) (out : List Int) (f0 f1 f2 f3 f4 f5 f6 f7 f8 f9 f10 f11 f12 f13 f14 f15 f16 f17 f18 f19 f20 f21 f22 f23 f24 f25 f26 f27 : Int) : config_Put.l0 (k + 1) out 2 f0 f1 f2 f3 f4 f5 f6 f7 f8 f9 f10 f11 f12 f13 f14 f15 f16 f17 f18 f19 f20 f21 f22 f23 f24 f25 f26 f27 = (take_Put.f k out (IntKind.u64.wrap f8) f11).bind fun t=>config_Put.l0 k t 3 f0 f1 f2 f3 f4 f5 f6 f7 f8 f9 f10 f11 f12 f13 f14 f15 f16 f17 f18 f19 f20 f21 f22 f23 f24 f25 f26 f27:=by
 simp [config_Put.l0,show wrap64 3 = 3 by simp [wrap64]]
set_option maxRecDepth 100000 in
theorem pst3 (k : Nat) (out : List Int) (f0 f1 f2 f3 f4 f5 f6 f7 f8 f9 f10 f11 f12 f13 f14 f15 f16 f17 f18 f19 f20 f21 f22 f23 f24 f25 f26 f27 : Int) : config_Put.l0 (k + 1) out 3 f0 f1 f2 f3 f4 f5 f6 f7 f8 f9 f10 f11 f12 f13 f14 f15 f16 f17 f18 f19 f20 f21 f22 f23 f24 f25 f26 f27 = (take_Put.f k out (IntKind.u64.wrap f12) f15).bind fun t=>config_Put.l0 k t 4 f0 f1 f2 f3 f4 f5 f6 f7 f8 f9 f10 f11 f12 f13 f14 f15 f16 f17 f18 f19 f20 f21 f22 f23 f24 f25 f26 f27:=by
 simp [config_Put.l0,show wrap64 4 = 4 by simp [wrap64]]
set_option maxRecDepth 100000 in
theorem pst4 (k : Nat) (out : List Int) (f0 f1 f2 f3 f4 f5 f6 f7 f8 f9 f10 f11 f12 f13 f14 f15 f16 f17 f18 f19 f20 f21 f22 f23 f24 f25 f26 f27 : Int) : config_Put.l0 (k + 1) out 4 f0 f1 f2 f3 f4 f5 f6 f7 f8 f9 f10 f11 f12 f13 f14 f15 f16 f17 f18 f19 f20 f21 f22 f23 f24 f25 f26 f27 = (take_Put.f k out (IntKind.u64.wrap f16) f19).bind fun t=>config_Put.l0 k t 5 f0 f1 f2 f3 f4 f5 f6 f7 f8 f9 f10 f11 f12 f13 f14 f15 f16 f17 f18 f19 f20 f21 f22 f23 f24 f25 f26 f27:=by
 simp [config_Put.l0,show wrap64 5 = 5 by simp [wrap64]]
set_option maxRecDepth 100000 in
theorem pst5 (k : Nat) (out : List Int) (f0 f1 f2 f3 f4 f5 f6 f7 f8 f9 f10 f11 f12 f13 f14 f15 f16 f17 f18 f19 f20 f21 f22 f23 f24 f25 f26 f27 : Int) : config_Put.l0 (k + 1) out 5 f0 f1 f2 f3 f4 f5 f6 f7 f8 f9 f10 f11 f12 f13 f14 f15 f16 f17 f18 f19 f20 f21 f22 f23 f24 f25 f26 f27 = (take_Put.f k out (IntKind.u64.wrap f20) f23).bind fun t=>config_Put.l0 k t 6 f0 f1 f2 f3 f4 f5 f6 f7 f8 f9 f10 f11 f12 f13 f14 f15 f16 f17 f18 f19 f20 f21 f22 f23 f24 f25 f26 f27:=by
 simp [config_Put.l0,show wrap64 6 = 6 by simp [wrap64]]
set_option maxRecDepth 100000 in
theorem pst6 (k : Nat) (out : List Int) (f0 f1 f2 f3 f4 f5 f6 f7 f8 f9 f10 f11 f12 f13 f14 f15 f16 f17 f18 f19 f20 f21 f22 f23 f24 f25 f26 f27 : Int) : config_Put.l0 (k + 1) out 6 f0 f1 f2 f3 f4 f5 f6 f7 f8 f9 f10 f11 f12 f13 f14 f15 f16 f17 f18 f19 f20 f21 f22 f23 f24 f25 f26 f27 = (take_Put.f k out (IntKind.u64.wrap f24) f27).bind fun t=>config_Put.l0 k t 7 f0 f1 f2 f3 f4 f5 f6 f7 f8 f9 f10 f11 f12 f13 f14 f15 f16 f17 f18 f19 f20 f21 f22 f23 f24 f25 f26 f27:=by
 simp [config_Put.l0,show wrap64 7 = 7 by simp [wrap64]]
theorem pst7 (k : Nat) (out : List Int) (f0 f1 f2 f3 f4 f5 f6 f7 f8 f9 f10 f11 f12 f13 f14 f15 f16 f17 f18 f19 f20 f21 f22 f23 f24 f25 f26 f27 : Int) : config_Put.l0 (k + 1) out 7 f0 f1 f2 f3 f4 f5 f6 f7 f8 f9 f10 f11 f12 f13 f14 f15 f16 f17 f18 f19 f20 f21 f22 f23 f24 f25 f26 f27 = some out:=by
 simp [config_Put.l0]
theorem put_c (g : Nat → Int) (l : List Int) (hl : l.length < 140737488350000) (k : Nat) (hk : 30 ≤ k) :
  config_Put.f k l (g 0) (g 1) (g 2) (g 3) (g 4) (g 5) (g 6) = some (if chk g = 0 then l ++ bytesC g else l):=by
 obtain ⟨k,rfl⟩ : ∃ m,k = m + 8:=⟨k - 8,by omega⟩
 unfold config_Put.f
 rw [clone_f l (by omega),Option.bind_some,check_f g _ (by omega),Option.bind_some]
 by_cases hc : chk g = 0
 ·obtain ⟨h0,h1,h2,h3,h4,h5,h6,_,_⟩:=chk_zero hc
  rw [if_pos hc,if_pos hc]
  have e : ∀ lo : Int,config_Put.l0 (k + 7 + 1) l 0 (g 0) 0 1 1 (g 1) lo 256 2 (g 2) 2 256 2 (g 3) 1 4096 2 (g 4) 0 32 1 (g 5) 1 1048576 4 (g 6) 1 1024 2 = some (l ++ bytesC g):=by
   intro lo
   rw [pst0,put_f _ _ _ (by omega) _ (by omega),Option.bind_some,show k + 7 = k + 6 + 1 from rfl,pst1,put_f _ _ _ (by simp [be_len,cnt];omega) _ (by omega),Option.bind_some,
    show k + 6 = k + 5 + 1 from rfl,pst2,put_f _ _ _ (by simp [be_len,cnt];omega) _ (by omega),Option.bind_some,show k + 5 = k + 4 + 1 from rfl,pst3,put_f _ _ _ (by simp [be_len,cnt];omega) _ (by omega),Option.bind_some,
    show k + 4 = k + 3 + 1 from rfl,pst4,put_f _ _ _ (by simp [be_len,cnt];omega) _ (by omega),Option.bind_some,show k + 3 = k + 2 + 1 from rfl,pst5,put_f _ _ _ (by simp [be_len,cnt];omega) _ (by omega),Option.bind_some,
    show k + 2 = k + 1 + 1 from rfl,pst6,put_f _ _ _ (by simp [be_len,cnt];omega) _ (by omega),Option.bind_some,pst7]
   rw [u64_wrap h0.1 (by omega),u64_wrap h1.1 (by omega),u64_wrap (show 0 ≤ g 2 by omega) (by omega),u64_wrap (show 0 ≤ g 3 by omega) (by omega),u64_wrap h4.1 (by omega),u64_wrap (show 0 ≤ g 5 by omega) (by omega),u64_wrap (show 0 ≤ g 6 by omega) (by omega)]
   simp only [bytesC,show cnt 1 = 1 from rfl,show cnt 2 = 2 from rfl,show cnt 4 = 4 from rfl,List.append_assoc]
  unfold config_fields.f
  by_cases k1 : g 0 = 1
  ·rw [if_pos k1,Option.bind_some];exact e 0
  ·rw [if_neg k1,Option.bind_some];exact e 2
 ·rw [if_neg hc,if_neg hc]
end Go.Proofs.Ytnagfbadjbkhmaa.PureConfD
