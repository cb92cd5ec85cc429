/- The law TakeBack by a walk: what is put is read again, number by number. -/
import Derived.Test.YtebbnjgaikppgaaFTake07
import Derived.Test.YtebbnjgaikppgaaPureTake
import Derived.Laws.Bits64b
import Derived.Test.YtebbnjgaikppgaaPAx11
import Derived.Test.YtebbnjgaikppgaaPAx13
namespace Go.Proofs.Ytebbnjgaikppgaa.FTakeBack
open Go.RowKit Go.Shelf Go.Proofs.YtebbnjgaikppgaaW.PrintWords Go.Proofs.YtebbnjgaikppgaaW.PrintLast Go.Proofs.YtebbnjgaikppgaaW.PrintMore Go.Proofs.Ytebbnjgaikppgaa.FTake
attribute [local go_sem high] Flt.run_bits Flt.run_frombits
set_option linter.unusedVariables false
set_option linter.unusedSimpArgs false

/-- The kind of the number at a place. -/
def kind (ks : List Int) (i : Nat) : Int := if i < ks.length then rd ks i % 10 else 8
/-- In how many bytes a number of a kind stands. -/
def wd (k : Int) : Nat := if k = 9 ∨ k = 0 then 8 else k.toNat
/-- The bytes of the numbers from a place on. -/
def tail (ks : List Int) : List Int → Nat → List Int
  | [], _ => []
  | n :: t, i => PureTake.be (wd (kind ks i)) n ++ tail ks t (i + 1)
theorem rd_u8 {l : List Int} (h : ∀ x ∈ l, 0 ≤ x ∧ x < 256) (i : Nat) (hi : i < l.length) : 0 ≤ rd l i ∧ rd l i < 256 :=
  h _ (by unfold rd; simp only [Int.toNat_natCast, List.getD_eq_getElem?_getD]; rw [List.getElem?_eq_getElem hi]; exact List.getElem_mem _)
theorem kind_in (ks : List Int) (hx : ∀ x ∈ ks, 0 ≤ x ∧ x < 256) (i : Nat) : 0 ≤ kind ks i ∧ kind ks i ≤ 9 := by
  unfold kind; split
  · have := rd_u8 hx i (by assumption); omega
  · omega
theorem val_cons (y : Int) (l : List Int) : val (y :: l) = y * 256 ^ l.length + val l := by
  have go : ∀ (l : List Int) (a : Int), l.foldl (fun x y => x * 256 + y) a = a * 256 ^ l.length + val l := by
    intro l
    induction l with
    | nil => intro a; simp [val]
    | cons z l ih =>
      intro a
      have h1 := ih (a * 256 + z)
      have h2 := ih (0 * 256 + z)
      simp only [List.foldl_cons, val] at h1 h2 ⊢
      rw [h1, h2, List.length_cons, Int.pow_succ, Int.add_mul, Int.zero_mul, Int.zero_add, Int.mul_assoc, Int.mul_comm 256, Int.add_assoc]
  have := go l (0 * 256 + y)
  simp only [val, List.foldl_cons] at this ⊢
  rw [this]; simp
theorem val_be (m : Nat) (hm : m ≤ 8) (x : Int) (h0 : 0 ≤ x) : val (PureTake.be m x) = x % 256 ^ m := by
  have : m = 0 ∨ m = 1 ∨ m = 2 ∨ m = 3 ∨ m = 4 ∨ m = 5 ∨ m = 6 ∨ m = 7 ∨ m = 8 := by omega
  induction m with
  | zero => simp [PureTake.be, val]
  | succ m ih =>
    rw [PureTake.be, val_cons, ih (by omega) (by omega), PureTake.be_len]
    have hq : (0 : Int) < 256 ^ m := Int.pow_pos (by omega)
    rw [Int.pow_succ]
    generalize (256 : Int) ^ m = q at *
    have e1 := Int.emod_add_mul_ediv x q
    have e2 := Int.emod_add_mul_ediv (x / q) 256
    have b1 := Int.emod_nonneg x (show q ≠ 0 by omega)
    have b2 := Int.emod_lt_of_pos x hq
    have b3 := Int.emod_nonneg (x / q) (show (256 : Int) ≠ 0 by omega)
    have b4 := Int.emod_lt_of_pos (x / q) (show (0 : Int) < 256 by omega)
    symm
    have e3 : x = (x / q % 256 * q + x % q) + (q * 256) * (x / q / 256) := by
      conv => lhs; rw [← e1, ← e2]
      rw [Int.mul_add, Int.add_comm (q * _), Int.mul_comm q (x / q % 256), Int.mul_assoc]; omega
    have b5 : x / q % 256 * q + x % q < q * 256 := by
      have : x / q % 256 * q ≤ 255 * q := Int.mul_le_mul_of_nonneg_right (by omega) (by omega)
      omega
    have b6 : 0 ≤ x / q % 256 * q + x % q := by
      have : 0 ≤ x / q % 256 * q := Int.mul_nonneg b3 (by omega)
      omega
    conv => lhs; rw [e3]
    rw [Int.add_mul_emod_self_left, Int.emod_eq_of_lt b6 b5]

/-- Numbers in a row, told by their bits. -/
theorem kind_calls (K : Nat) (ks : List Int) (A : Option Addr) (c : Nat) (i : Nat) (w : World) (hK : Boxed w K 22 (.slice A ks.length c)) (hC : Kd.C (Kd.int .u8) w A ks.length ks) (hx : ∀ x ∈ ks, 0 ≤ x ∧ x < 256) (hi : (i : Int) ≤ 1000) :
    Calls Try.prog 29 #[.int .i64 i, .pointer (some ⟨K, 0, none⟩)] w fun e w' => e = .returned (.int .i64 (kind ks i)) ∧ w' = w := by
  have hcell := hK.cell
  clear hK
  by_cases h : i < ks.length
  · have d0 : decide ((i : Int) < (ks.length : Int)) = true := decide_eq_true (by omega)
    obtain ⟨ad, e0, hx1⟩ := Kd.at_int hC i (by omega) (by omega)
    cases e0
    simp only [Int.toNat_natCast] at hx1
    have hb := rd_u8 hx i h
    have ek : kind ks i = rd ks i % 10 := if_pos h
    rw [ek]
    clear hC hx ek
    go_enter Try.func29, Try.ntmps29
    go_wp2
    go_ret
    exact ⟨rfl, rfl⟩
  · have d0 : decide ((i : Int) < (ks.length : Int)) = false := decide_eq_false (by omega)
    rw [show kind ks i = 8 from if_neg h]
    clear hC hx
    go_enter Try.func29, Try.ntmps29
    go_wp2
    go_ret
    exact ⟨rfl, rfl⟩
theorem num_be (k : Int) (n : Int) (h0 : 0 ≤ n) (m : Nat) (hm : cnt k = m) (h8 : m ≤ 8) (rest : List Int) : number k (PureTake.be m n ++ rest) = .ok (n % 256 ^ m, rest) := by
  unfold number
  rw [hm, if_pos (by rw [List.length_append, PureTake.be_len]; omega)]
  have hl := PureTake.be_len m n
  rw [show (PureTake.be m n ++ rest).take m = PureTake.be m n by rw [List.take_append_of_le_length (by omega), List.take_of_length_le (by omega)],
    show (PureTake.be m n ++ rest).drop m = rest by rw [List.drop_append_of_le_length (by omega), List.drop_of_length_le (by omega)]; rfl, val_be m h8 n h0]
theorem and_mask (n : Int) (j : Nat) (hj : j ≤ 64) (h0 : 0 ≤ n) (h1 : n < 18446744073709551616) : Go.bits .and .u64 n (2 ^ j - 1) = n % 2 ^ j := by
  obtain ⟨a, rfl⟩ := Int.eq_ofNat_of_zero_le h0
  have hp : 2 ^ j ≤ 18446744073709551616 := Nat.pow_le_pow_right (n := 2) (by omega) hj
  have hq : 0 < 2 ^ j := Nat.pow_pos (by omega)
  have e : ((2 : Int) ^ j - 1) = ((2 ^ j - 1 : Nat) : Int) := by rw [Int.natCast_sub (by omega)]; simp
  rw [e, bits_and_u64_nat a (2 ^ j - 1) (by omega) (by omega), Nat.and_two_pow_sub_one_eq_mod]
  simp

/-- How far the reading is. -/
structure RS (ok : Nat → Prop) (B G T : Nat) (ks l : List Int) (w wr : World) (j : Nat) : Prop where
  ho : Offs (fun k => k = B ∨ k = G ∨ k = T) w wr
  hr : Rdr ok wr B (tail ks (l.drop j) j)
  bG : Boxed wr G 4 (.bool true)
  bT : Boxed wr T 3 (.int .i64 j)
theorem RS.next {ok : Nat → Prop} {B G T : Nat} {ks l : List Int} {w wr w1 : World} {j : Nat} (h : RS ok B G T ks l w wr j) (ho : Off B wr w1) (hr : Rdr ok w1 B (tail ks (l.drop (j + 1)) (j + 1)))
    (dG : G ≠ B) (dT : T ≠ B) (dGT : G ≠ T) (hG : ∀ k, ok k → k ≠ G) (hT : ∀ k, ok k → k ≠ T) : RS ok B G T ks l w ((w1.setCell ⟨G, 0, none⟩ (.bool true)).setCell ⟨T, 0, none⟩ (.int .i64 ((j + 1 : Nat) : Int))) (j + 1) := by
  refine ⟨?_, ?_, ?_, ?_⟩
  · exact ((h.ho.trans (Offs.of_off ho (Or.inl rfl))).setCell (p := ⟨G, 0, none⟩) (.inl (Or.inr (Or.inl rfl))) _).setCell (p := ⟨T, 0, none⟩) (.inl (Or.inr (Or.inr rfl))) _
  · exact (hr.off ((Off.refl G w1).setCell 0 _) (Ne.symm dG) hG).off ((Off.refl T _).setCell 0 _) (Ne.symm dT) hT
  · exact ((Off.refl T _).setCell 0 _).boxed ((ho.boxed h.bG dG).set _) dGT
  · exact (((Off.refl G w1).setCell 0 _).boxed (ho.boxed h.bT dT) (Ne.symm dGT)).set _

set_option maxHeartbeats 8000000 in
set_option maxRecDepth 100000 in
theorem read_calls (ok : Nat → Prop) (B L Q K G T : Nat) (l ks : List Int) (Al Ak : Option Addr) (cl ck : Nat) (w : World) (h : Rdr ok w B (tail ks l 0)) (hn : ∀ k, ok k → k ≠ B) (hG : ∀ k, ok k → k ≠ G) (hT : ∀ k, ok k → k ≠ T)
    (hL : Boxed w L 25 (.slice Al l.length cl)) (hFl : Kd.F (Kd.int .u64) w (fun k => k ≠ B ∧ k ≠ G ∧ k ≠ T) Al l.length l) (hxl : ∀ x ∈ l, 0 ≤ x ∧ x < 18446744073709551616) (hl : l.length ≤ 50)
    (hQ : Boxed w Q 48 (.func (.func 29) #[] #[.pointer (some ⟨K, 0, none⟩)]))
    (hK : Boxed w K 22 (.slice Ak ks.length ck)) (hFk : Kd.F (Kd.int .u8) w (fun k => k ≠ B ∧ k ≠ G ∧ k ≠ T) Ak ks.length ks) (hxk : ∀ x ∈ ks, 0 ≤ x ∧ x < 256)
    (bG : Boxed w G 4 (.bool true)) (bT : Boxed w T 3 (.int .i64 0))
    (dG : G ≠ B) (dT : T ≠ B) (dGT : G ≠ T) (dL : ¬ (L = B ∨ L = G ∨ L = T)) (dQ : ¬ (Q = B ∨ Q = G ∨ Q = T)) (dK : ¬ (K = B ∨ K = G ∨ K = T)) :
    Calls Try.prog 30 #[.pointer (some ⟨B, 0, none⟩), .pointer (some ⟨L, 0, none⟩), .pointer (some ⟨Q, 0, none⟩), .pointer (some ⟨G, 0, none⟩), .pointer (some ⟨T, 0, none⟩)] w fun e w' =>
      e = .returned (.tuple #[]) ∧ RS ok B G T ks l w w' l.length := by
  have R0 := Aside0.mk (show RS ok B G T ks l w w 0 from ⟨Offs.refl _ _, h, bG, bT⟩)
  have HL := Aside0.mk hL
  have HFL := Aside0.mk hFl
  have HXL := Aside0.mk hxl
  have HQ := Aside0.mk hQ
  have HK := Aside0.mk hK
  have HFK := Aside0.mk hFk
  have HXK := Aside0.mk hxk
  have HN := Aside0.mk hn
  have HG := Aside0.mk hG
  have HT := Aside0.mk hT
  have kL := hL.cell
  clear h hn hG hT hL hFl hxl hQ hK hFk hxk bG bT
  go_enter Try.func30, Try.ntmps30
  go_wp2
  clear kL
  go_loopw [11] (fun v11 w' => ∃ j : Nat, j ≤ l.length ∧ v11 = .int .i64 j ∧ Aside0 (RS ok B G T ks l w w' j)) (fun v _ => l.length - (intOf v).toNat)
  case atStart => exact ⟨0, by omega, rfl, R0⟩
  case round =>
    obtain ⟨j, hj, rfl, RJ⟩ := hrel
    clear R0
    by_cases hlt : j < l.length
    · have d0 : decide ((j : Int) < (l.length : Int)) = true := decide_eq_true (by omega)
      obtain ⟨ad, e0, hx1⟩ := Kd.at_int (Kd.F_now (Kd.F_step HFL.out (fun k hk hlt => RJ.out.ho.block k hlt (fun hs => hs.elim hk.1 (fun h => h.elim hk.2.1 hk.2.2))))) j (by omega) (by omega)
      cases e0
      simp only [Int.toNat_natCast] at hx1
      have kQ := (RJ.out.ho.boxed HQ.out dQ).cell
      have bK := RJ.out.ho.boxed HK.out dK
      have CK := Kd.F_now (Kd.F_step HFK.out (fun k hk hlt => RJ.out.ho.block k hlt (fun hs => hs.elim hk.1 (fun h => h.elim hk.2.1 hk.2.2))))
      have HKC := Aside0.mk (kind_calls K ks Ak ck j wr bK CK HXK.out (by omega))
      have hn := HXL.out (rd l j) (Pure.rd_mem (by omega) (by omega))
      have hk := kind_in ks HXK.out j
      have htl := Aside0.mk (show tail ks (l.drop j) j = PureTake.be (wd (kind ks j)) (rd l j) ++ tail ks (l.drop (j + 1)) (j + 1) by rw [Pure.drop_rd l j hlt]; rfl)
      have kG := RJ.out.bG.cell
      have kT := RJ.out.bT.cell
      clear bK CK
      go_wp2_with (fail)
      refine HKC.out.mono ?_
      rintro e w1 ⟨rfl, rfl⟩
      have HNX := Aside0.mk (fun (w2 : World) (ho : Off B w1 w2) (hr : Rdr ok w2 B (tail ks (l.drop (j + 1)) (j + 1))) => RJ.out.next ho hr dG dT dGT HG.out HT.out)
      have HR := Aside0.mk RJ.out.hr
      rw [htl.out] at HR
      have BG := Aside0.mk RJ.out.bG
      have BT := Aside0.mk RJ.out.bT
      by_cases h9 : kind ks j = 9
      · have d9 : (kind ks j == 9) = true := beq_iff_eq.2 h9
        rw [show wd (kind ks j) = 8 from if_pos (Or.inl h9)] at HR
        have W := whole_calls ok B _ w1 HR.out HN.out
        rw [num_be 8 (rd l j) hn.1 8 rfl (by omega), show rd l j % 256 ^ 8 = rd l j by omega] at W
        have HC := Aside0.mk W
        clear W htl hk
        go_wp2_with (fail)
        refine HC.out.mono ?_
        rintro e w2 ⟨ho, hr, v, rfl, rfl⟩
        have bG2 := ho.boxed BG.out dG
        have bT2 := ho.boxed BT.out dT
        have kG2 := bG2.cell
        have fG2 := bG2.frozen
        have kT2 := fun v => (((Off.refl G w2).setCell 0 v).boxed bT2 (Ne.symm dGT)).cell
        have fT2 := fun v => (((Off.refl G w2).setCell 0 v).boxed bT2 (Ne.symm dGT)).frozen
        have RN := Aside0.mk (HNX.out w2 ho hr)
        clear ho hr bG2 bT2 HNX HR kG kT
        go_wp2_with (fail)
        exact ⟨⟨j + 1, by omega, by go_num, RN⟩, by simp [intOf]; omega⟩
      have d9 : (kind ks j == 9) = false := beq_eq_false_iff_ne.2 h9
      by_cases h0 : kind ks j = 0
      · have d0 : (kind ks j == 0) = true := beq_iff_eq.2 h0
        rw [show wd (kind ks j) = 8 from if_pos (Or.inr h0)] at HR
        have W := value_calls ok B _ w1 HR.out HN.out
        rw [num_be 8 (rd l j) hn.1 8 rfl (by omega), show rd l j % 256 ^ 8 = rd l j by omega] at W
        have HC := Aside0.mk W
        have hfb : Flt.ubits (Flt.fbits (rd l j)) = rd l j := by unfold Flt.ubits Flt.fbits; omega
        clear W htl hk
        go_wp2_with (fail)
        refine HC.out.mono ?_
        rintro e w2 ⟨ho, hr, v, rfl, rfl⟩
        have bG2 := ho.boxed BG.out dG
        have bT2 := ho.boxed BT.out dT
        have kG2 := bG2.cell
        have fG2 := bG2.frozen
        have kT2 := fun v => (((Off.refl G w2).setCell 0 v).boxed bT2 (Ne.symm dGT)).cell
        have fT2 := fun v => (((Off.refl G w2).setCell 0 v).boxed bT2 (Ne.symm dGT)).frozen
        have RN := Aside0.mk (HNX.out w2 ho hr)
        clear ho hr bG2 bT2 HNX HR kG kT
        go_wp2_with (fail)
        exact ⟨⟨j + 1, by omega, by go_num, RN⟩, by simp [intOf]; omega⟩
      have d00 : (kind ks j == 0) = false := beq_eq_false_iff_ne.2 h0
      have W := number_calls ok B (kind ks j) _ w1 HR.out HN.out
      have hm : ∀ m : Nat, kind ks j = m → 1 ≤ m → m ≤ 8 → number (kind ks j) (PureTake.be (wd (kind ks j)) (rd l j) ++ tail ks (l.drop (j + 1)) (j + 1)) = .ok (rd l j % 256 ^ m, tail ks (l.drop (j + 1)) (j + 1)) := by
        intro m e h1 h2
        rw [show wd (kind ks j) = m by unfold wd; rw [if_neg (by omega)]; omega]
        exact num_be _ _ hn.1 m (by unfold cnt; rw [if_neg (by omega), if_neg (by omega)]; omega) h2 _
      have hM := Aside0.mk hm
      clear hm htl HKC
      have hk8 : kind ks j = 1 ∨ kind ks j = 2 ∨ kind ks j = 3 ∨ kind ks j = 4 ∨ kind ks j = 5 ∨ kind ks j = 6 ∨ kind ks j = 7 ∨ kind ks j = 8 := by omega
      rcases hk8 with e | e | e | e | e | e | e | e
      · have hA := and_mask (rd l j) 8 (by omega) hn.1 (by omega)
        have hB : (rd l j % 256 == Go.bits .and .u64 (rd l j) 255) = true := by rw [beq_iff_eq]; exact hA.symm
        rw [hM.out 1 e (by omega) (by omega)] at W
        rw [e] at W d9 d00 ⊢
        have HC := Aside0.mk W
        clear W hM hk HR
        go_wp2_with (fail)
        refine HC.out.mono ?_
        rintro e w2 ⟨ho, hr, v, rfl, rfl⟩
        have bG2 := ho.boxed BG.out dG
        have bT2 := ho.boxed BT.out dT
        have kG2 := bG2.cell
        have fG2 := bG2.frozen
        have kT2 := fun v => (((Off.refl G w2).setCell 0 v).boxed bT2 (Ne.symm dGT)).cell
        have fT2 := fun v => (((Off.refl G w2).setCell 0 v).boxed bT2 (Ne.symm dGT)).frozen
        have RN := Aside0.mk (HNX.out w2 ho hr)
        clear ho hr bG2 bT2 HNX kG kT
        go_wp2_with (fail)
        exact ⟨⟨j + 1, by omega, by go_num, RN⟩, by simp [intOf]; omega⟩
      · have hA := and_mask (rd l j) 16 (by omega) hn.1 (by omega)
        have hB : (rd l j % 65536 == Go.bits .and .u64 (rd l j) 65535) = true := by rw [beq_iff_eq]; exact hA.symm
        rw [hM.out 2 e (by omega) (by omega)] at W
        rw [e] at W d9 d00 ⊢
        have HC := Aside0.mk W
        clear W hM hk HR
        go_wp2_with (fail)
        refine HC.out.mono ?_
        rintro e w2 ⟨ho, hr, v, rfl, rfl⟩
        have bG2 := ho.boxed BG.out dG
        have bT2 := ho.boxed BT.out dT
        have kG2 := bG2.cell
        have fG2 := bG2.frozen
        have kT2 := fun v => (((Off.refl G w2).setCell 0 v).boxed bT2 (Ne.symm dGT)).cell
        have fT2 := fun v => (((Off.refl G w2).setCell 0 v).boxed bT2 (Ne.symm dGT)).frozen
        have RN := Aside0.mk (HNX.out w2 ho hr)
        clear ho hr bG2 bT2 HNX kG kT
        go_wp2_with (fail)
        exact ⟨⟨j + 1, by omega, by go_num, RN⟩, by simp [intOf]; omega⟩
      · have hA := and_mask (rd l j) 24 (by omega) hn.1 (by omega)
        have hB : (rd l j % 16777216 == Go.bits .and .u64 (rd l j) 16777215) = true := by rw [beq_iff_eq]; exact hA.symm
        rw [hM.out 3 e (by omega) (by omega)] at W
        rw [e] at W d9 d00 ⊢
        have HC := Aside0.mk W
        clear W hM hk HR
        go_wp2_with (fail)
        refine HC.out.mono ?_
        rintro e w2 ⟨ho, hr, v, rfl, rfl⟩
        have bG2 := ho.boxed BG.out dG
        have bT2 := ho.boxed BT.out dT
        have kG2 := bG2.cell
        have fG2 := bG2.frozen
        have kT2 := fun v => (((Off.refl G w2).setCell 0 v).boxed bT2 (Ne.symm dGT)).cell
        have fT2 := fun v => (((Off.refl G w2).setCell 0 v).boxed bT2 (Ne.symm dGT)).frozen
        have RN := Aside0.mk (HNX.out w2 ho hr)
        clear ho hr bG2 bT2 HNX kG kT
        go_wp2_with (fail)
        exact ⟨⟨j + 1, by omega, by go_num, RN⟩, by simp [intOf]; omega⟩
      · have hA := and_mask (rd l j) 32 (by omega) hn.1 (by omega)
        have hB : (rd l j % 4294967296 == Go.bits .and .u64 (rd l j) 4294967295) = true := by rw [beq_iff_eq]; exact hA.symm
        rw [hM.out 4 e (by omega) (by omega)] at W
        rw [e] at W d9 d00 ⊢
        have HC := Aside0.mk W
        clear W hM hk HR
        go_wp2_with (fail)
        refine HC.out.mono ?_
        rintro e w2 ⟨ho, hr, v, rfl, rfl⟩
        have bG2 := ho.boxed BG.out dG
        have bT2 := ho.boxed BT.out dT
        have kG2 := bG2.cell
        have fG2 := bG2.frozen
        have kT2 := fun v => (((Off.refl G w2).setCell 0 v).boxed bT2 (Ne.symm dGT)).cell
        have fT2 := fun v => (((Off.refl G w2).setCell 0 v).boxed bT2 (Ne.symm dGT)).frozen
        have RN := Aside0.mk (HNX.out w2 ho hr)
        clear ho hr bG2 bT2 HNX kG kT
        go_wp2_with (fail)
        exact ⟨⟨j + 1, by omega, by go_num, RN⟩, by simp [intOf]; omega⟩
      · have hA := and_mask (rd l j) 40 (by omega) hn.1 (by omega)
        have hB : (rd l j % 1099511627776 == Go.bits .and .u64 (rd l j) 1099511627775) = true := by rw [beq_iff_eq]; exact hA.symm
        rw [hM.out 5 e (by omega) (by omega)] at W
        rw [e] at W d9 d00 ⊢
        have HC := Aside0.mk W
        clear W hM hk HR
        go_wp2_with (fail)
        refine HC.out.mono ?_
        rintro e w2 ⟨ho, hr, v, rfl, rfl⟩
        have bG2 := ho.boxed BG.out dG
        have bT2 := ho.boxed BT.out dT
        have kG2 := bG2.cell
        have fG2 := bG2.frozen
        have kT2 := fun v => (((Off.refl G w2).setCell 0 v).boxed bT2 (Ne.symm dGT)).cell
        have fT2 := fun v => (((Off.refl G w2).setCell 0 v).boxed bT2 (Ne.symm dGT)).frozen
        have RN := Aside0.mk (HNX.out w2 ho hr)
        clear ho hr bG2 bT2 HNX kG kT
        go_wp2_with (fail)
        exact ⟨⟨j + 1, by omega, by go_num, RN⟩, by simp [intOf]; omega⟩
      · have hA := and_mask (rd l j) 48 (by omega) hn.1 (by omega)
        have hB : (rd l j % 281474976710656 == Go.bits .and .u64 (rd l j) 281474976710655) = true := by rw [beq_iff_eq]; exact hA.symm
        rw [hM.out 6 e (by omega) (by omega)] at W
        rw [e] at W d9 d00 ⊢
        have HC := Aside0.mk W
        clear W hM hk HR
        go_wp2_with (fail)
        refine HC.out.mono ?_
        rintro e w2 ⟨ho, hr, v, rfl, rfl⟩
        have bG2 := ho.boxed BG.out dG
        have bT2 := ho.boxed BT.out dT
        have kG2 := bG2.cell
        have fG2 := bG2.frozen
        have kT2 := fun v => (((Off.refl G w2).setCell 0 v).boxed bT2 (Ne.symm dGT)).cell
        have fT2 := fun v => (((Off.refl G w2).setCell 0 v).boxed bT2 (Ne.symm dGT)).frozen
        have RN := Aside0.mk (HNX.out w2 ho hr)
        clear ho hr bG2 bT2 HNX kG kT
        go_wp2_with (fail)
        exact ⟨⟨j + 1, by omega, by go_num, RN⟩, by simp [intOf]; omega⟩
      · have hA := and_mask (rd l j) 56 (by omega) hn.1 (by omega)
        have hB : (rd l j % 72057594037927936 == Go.bits .and .u64 (rd l j) 72057594037927935) = true := by rw [beq_iff_eq]; exact hA.symm
        rw [hM.out 7 e (by omega) (by omega)] at W
        rw [e] at W d9 d00 ⊢
        have HC := Aside0.mk W
        clear W hM hk HR
        go_wp2_with (fail)
        refine HC.out.mono ?_
        rintro e w2 ⟨ho, hr, v, rfl, rfl⟩
        have bG2 := ho.boxed BG.out dG
        have bT2 := ho.boxed BT.out dT
        have kG2 := bG2.cell
        have fG2 := bG2.frozen
        have kT2 := fun v => (((Off.refl G w2).setCell 0 v).boxed bT2 (Ne.symm dGT)).cell
        have fT2 := fun v => (((Off.refl G w2).setCell 0 v).boxed bT2 (Ne.symm dGT)).frozen
        have RN := Aside0.mk (HNX.out w2 ho hr)
        clear ho hr bG2 bT2 HNX kG kT
        go_wp2_with (fail)
        exact ⟨⟨j + 1, by omega, by go_num, RN⟩, by simp [intOf]; omega⟩
      · have hA := and_mask (rd l j) 64 (by omega) hn.1 (by omega)
        have hB : (rd l j % 18446744073709551616 == Go.bits .and .u64 (rd l j) 18446744073709551615) = true := by rw [beq_iff_eq]; exact hA.symm
        rw [hM.out 8 e (by omega) (by omega)] at W
        rw [e] at W d9 d00 ⊢
        have HC := Aside0.mk W
        clear W hM hk HR
        go_wp2_with (fail)
        refine HC.out.mono ?_
        rintro e w2 ⟨ho, hr, v, rfl, rfl⟩
        have bG2 := ho.boxed BG.out dG
        have bT2 := ho.boxed BT.out dT
        have kG2 := bG2.cell
        have fG2 := bG2.frozen
        have kT2 := fun v => (((Off.refl G w2).setCell 0 v).boxed bT2 (Ne.symm dGT)).cell
        have fT2 := fun v => (((Off.refl G w2).setCell 0 v).boxed bT2 (Ne.symm dGT)).frozen
        have RN := Aside0.mk (HNX.out w2 ho hr)
        clear ho hr bG2 bT2 HNX kG kT
        go_wp2_with (fail)
        rw [show (rd l j % 18446744073709551616 == Go.bits .and .u64 (rd l j) (IntKind.u64.wrap (IntKind.u64.wrap 18446744073709551616 - 1))) = true by rw [show IntKind.u64.wrap (IntKind.u64.wrap 18446744073709551616 - 1) = 18446744073709551615 by decide]; exact hB]
        exact ⟨⟨j + 1, by omega, by go_num, RN⟩, by simp [intOf]; omega⟩
    · obtain rfl : j = l.length := by omega
      have d0 : decide ((l.length : Int) < (l.length : Int)) = false := by simp
      go_wp2
      go_end0
      exact ⟨rfl, RJ.out⟩
theorem wd_le (k : Int) (h : 0 ≤ k ∧ k ≤ 9) : wd k ≤ 8 := by unfold wd; split <;> omega
theorem tail_bytes (ks : List Int) : ∀ (l : List Int) (i : Nat), ∀ x ∈ tail ks l i, 0 ≤ x ∧ x < 256
  | [], _ => by simp [tail]
  | n :: t, i => by
    intro x hx
    rcases List.mem_append.1 hx with h | h
    · exact PureTake.be_byte _ _ x h
    · exact tail_bytes ks t (i + 1) x h
theorem run_store_func {P : Program} {w : World} {a : Addr} {m : Mode} (f : Fn) (x y : Array Value) : (store a (.func f x y) m).run P w = stored P w a (.func f x y) m := run_store P w a _ m rfl
attribute [local go_sem] run_store_func
set_option maxHeartbeats 8000000 in
set_option maxRecDepth 100000 in
theorem law_calls (Al Ak : Option Addr) (cl ck : Nat) (l ks : List Int) (w : World) (hrl : Kd.C (Kd.int .u64) w Al l.length l) (hcl : l.length ≤ cl) (hrk : Kd.C (Kd.int .u8) w Ak ks.length ks) (hck : ks.length ≤ ck)
    (hxl : ∀ x ∈ l, 0 ≤ x ∧ x < 18446744073709551616) (hxk : ∀ x ∈ ks, 0 ≤ x ∧ x < 256) :
    Calls Try.prog 6 #[.slice Al l.length cl, .slice Ak ks.length ck] w fun e w' => e = .returned (.bool true) ∧ Below w.heap.size w w' := by
  have hmf : ∀ (fn : Fn) (first cap : Array Value) (W : World), (Instr.makeFunc fn first cap).run Try.prog W = .ok (.func fn first cap) W := fun _ _ _ _ => rfl
  obtain ⟨W0, hW0⟩ : ∃ W0, (w.alloc (.cells #[.slice Al l.length cl] 25)).alloc (.cells #[.slice Ak ks.length ck] 22) = W0 := ⟨_, rfl⟩
  have hz0 : W0.heap.size = w.heap.size + 2 := by rw [← hW0]; simp
  have hb0 : Below w.heap.size w W0 := by rw [← hW0]; exact below_alloc (below_alloc (Below.refl _ w) _) _
  have b0 : Boxed W0 w.heap.size 25 (.slice Al l.length cl) := by rw [← hW0]; exact (Boxed.new w _ _).alloc _
  have b1 : Boxed W0 (w.heap.size + 1) 22 (.slice Ak ks.length ck) := by
    rw [← hW0]
    have := Boxed.new (w.alloc (.cells #[.slice Al l.length cl] 25)) 22 (.slice Ak ks.length ck)
    rwa [World.size_alloc] at this
  have k0 := b0.cell
  have HXL := Aside0.mk hxl
  have HXK := Aside0.mk hxk
  have HFL := Aside0.mk (Kd.F_below (Kd.C_F (Kd.heap_int .u64) hrl) hb0)
  have HFK := Aside0.mk (Kd.F_below (Kd.C_F (Kd.heap_int .u8) hrk) hb0)
  have HB0 := Aside0.mk hb0
  have B0 := Aside0.mk b0
  have B1 := Aside0.mk b1
  have HZ0 := Aside0.mk hz0
  have HW0 := Aside0.mk hW0
  clear hrl hrk hxl hxk hb0 b0 b1 hW0 hz0
  by_cases h1 : l.length > 50
  · have d1 : decide ((l.length : Int) > 50) = true := decide_eq_true (by omega)
    go_enter Try.func6, Try.ntmps6
    go_wp2_with (fail)
    rw [HW0.out]
    refine (FTake07.calls_fixed _).mono ?_
    rintro e w1 ⟨rfl, hb⟩
    have HB1 := Aside0.mk (HB0.out.trans (hb.mono HB0.out.size))
    clear hb
    go_wp2
    go_ret
    exact ⟨rfl, HB1.out⟩
  have d1 : decide ((l.length : Int) > 50) = false := decide_eq_false (by omega)
  have k1 := B1.out.cell
  by_cases h2 : ks.length > 50
  · have d2 : decide ((ks.length : Int) > 50) = true := decide_eq_true (by omega)
    go_enter Try.func6, Try.ntmps6
    go_wp2_with (fail)
    rw [HW0.out]
    refine (FTake07.calls_fixed _).mono ?_
    rintro e w1 ⟨rfl, hb⟩
    have HB1 := Aside0.mk (HB0.out.trans (hb.mono HB0.out.size))
    clear hb
    go_wp2
    go_ret
    exact ⟨rfl, HB1.out⟩
  have d2 : decide ((ks.length : Int) > 50) = false := decide_eq_false (by omega)
  obtain ⟨W1, hW1⟩ : ∃ W1, W0.alloc (.cells #[.func (.func 29) #[] #[.pointer (some ⟨w.heap.size + 1, 0, none⟩)]] 48) = W1 := ⟨_, rfl⟩
  have hb1 : Below W0.heap.size W0 W1 := by rw [← hW1]; exact below_alloc (Below.refl _ W0) _
  have hz1 : W1.heap.size = w.heap.size + 3 := by rw [← hW1]; simp [HZ0.out]
  have bQ : Boxed W1 (w.heap.size + 2) 48 (.func (.func 29) #[] #[.pointer (some ⟨w.heap.size + 1, 0, none⟩)]) := by rw [← hW1, ← HZ0.out]; exact Boxed.new W0 _ _
  have e0 : Boxed W1 w.heap.size 25 (.slice Al l.length cl) := (hb1.block _ B0.out.lt).trans B0.out
  have e1 : Boxed W1 (w.heap.size + 1) 22 (.slice Ak ks.length ck) := (hb1.block _ B1.out.lt).trans B1.out
  have HFL1 := Aside0.mk (Kd.F_below HFL.out hb1)
  have HFK1 := Aside0.mk (Kd.F_below HFK.out hb1)
  have HB1 := Aside0.mk (HB0.out.trans (hb1.mono (by rw [HZ0.out]; omega)))
  have E0 := Aside0.mk e0
  have E1 := Aside0.mk e1
  have EQ := Aside0.mk bQ
  have HZ1 := Aside0.mk hz1
  have HW1 := Aside0.mk hW1
  clear hb1 hz1 bQ e0 e1 hW1 HFL HFK HB0 B0 B1
  go_enter Try.func6, Try.ntmps6
  go_wp2_with (fail)
  rw [HW0.out, HW1.out]
  clear HW0 HW1 k0 k1
  go_loopw [25, 6] (fun v25 v6 w' => ∃ (j : Nat) (bs : List Int) (Ab : Option Addr) (cb : Nat), j ≤ l.length ∧ v25 = .int .i64 j ∧ v6 = .slice Ab bs.length cb ∧ bs.length ≤ cb ∧ Aside0 (Kd.C (Kd.int .u8) w' Ab bs.length bs) ∧ Aside0 (bs ++ tail ks (l.drop j) j = tail ks l 0) ∧ bs.length ≤ 8 * j ∧ Aside0 (Below W1.heap.size W1 w')) (fun v _ _ => l.length - (intOf v).toNat)
  case atStart => exact ⟨0, [], none, 0, by omega, rfl, rfl, by simp, ⟨Kd.C_nil _ _⟩, ⟨rfl⟩, by simp, ⟨Below.refl _ _⟩⟩
  case round =>
    obtain ⟨j, bs, Ab, cb, hj, rfl, rfl, hcb, HC, HE, hbs, HB⟩ := hrel
    have f0 := (HB.out.block _ E0.out.lt).trans E0.out
    by_cases hlt : j < l.length
    · have d0 : decide ((j : Int) < (l.length : Int)) = true := decide_eq_true (by omega)
      obtain ⟨ad, e0, hx1⟩ := Kd.at_int (Kd.F_now (Kd.F_below HFL1.out HB.out)) j (by omega) (by omega)
      cases e0
      simp only [Int.toNat_natCast] at hx1
      have kQ := (show Boxed wr (w.heap.size + 2) _ _ from (HB.out.block _ EQ.out.lt).trans EQ.out).cell
      have HKC := Aside0.mk (kind_calls (w.heap.size + 1) ks Ak ck j wr ((HB.out.block _ E1.out.lt).trans E1.out) (Kd.F_now (Kd.F_below HFK1.out HB.out)) HXK.out (by omega))
      have hn := HXL.out (rd l j) (Pure.rd_mem (by omega) (by omega))
      have hk := kind_in ks HXK.out j
      have htl := Aside0.mk (show tail ks (l.drop j) j = PureTake.be (wd (kind ks j)) (rd l j) ++ tail ks (l.drop (j + 1)) (j + 1) by rw [Pure.drop_rd l j hlt]; rfl)
      clear f0
      go_wp2_with (fail)
      refine HKC.out.mono ?_
      rintro e w1 ⟨rfl, rfl⟩
      clear HKC
      by_cases h9 : kind ks j = 9
      · have d9 : (kind ks j == 9) = true := beq_iff_eq.2 h9
        obtain ⟨bs2, hbs2⟩ : ∃ bs2, bs ++ PureTake.be (wd (kind ks j)) (rd l j) = bs2 := ⟨_, rfl⟩
        have hp : PA.take_PutWhole.f 20 bs (wrap64 (rd l j)) = some bs2 := by rw [← hbs2]; rw [show wd (kind ks j) = 8 from if_pos (Or.inl h9)]; unfold PA.take_PutWhole.f; rw [show IntKind.u64.wrap (wrap64 (rd l j)) = rd l j by simp only [IntKind.wrap, IntKind.bits, IntKind.signed, wrap64]; simp; omega, PureTake.put_f bs _ _ (by omega) _ (by omega)]; rfl
        have HP := Aside0.mk (PA.take_PutWhole.calls 20 Ab cb bs (wrap64 (rd l j)) _ w1 HC.out hcb hp)
        have HBS := Aside0.mk hbs2
        clear hp hbs2
        go_wp2_with (fail)
        refine HP.out.mono ?_
        rintro e w2 ⟨v, rfl, hR, hb⟩
        obtain ⟨A2, c2, rfl, hl2, hC2⟩ := Kd.R_reads hR
        have HB2 := Aside0.mk (HB.out.trans (hb.mono HB.out.size))
        have HC2 := Aside0.mk hC2
        clear hR hb hC2 HP HC HB
        go_wp2_with (fail)
        refine ⟨⟨j + 1, bs2, A2, c2, by omega, by go_num, rfl, hl2, HC2, ⟨?_⟩, ?_, HB2⟩, by simp [intOf]; omega⟩
        · rw [← HBS.out, List.append_assoc, ← htl.out]; exact HE.out
        · rw [← HBS.out, List.length_append, PureTake.be_len]
          have : wd (kind ks j) ≤ 8 := wd_le _ hk
          omega
      have d9 : (kind ks j == 9) = false := beq_eq_false_iff_ne.2 h9
      by_cases h0 : kind ks j = 0
      · have d0 : (kind ks j == 0) = true := beq_iff_eq.2 h0
        obtain ⟨bs2, hbs2⟩ : ∃ bs2, bs ++ PureTake.be (wd (kind ks j)) (rd l j) = bs2 := ⟨_, rfl⟩
        have hp : PA.take_PutValue.f 20 bs (Flt.fbits (rd l j)) = some bs2 := by rw [← hbs2]; rw [show wd (kind ks j) = 8 from if_pos (Or.inr h0)]; unfold PA.take_PutValue.f; rw [show Flt.ubits (Flt.fbits (rd l j)) = rd l j by unfold Flt.ubits Flt.fbits; omega, PureTake.put_f bs _ _ (by omega) _ (by omega)]; rfl
        have HP := Aside0.mk (PA.take_PutValue.calls 20 Ab cb bs (Flt.fbits (rd l j)) _ w1 HC.out hcb hp)
        have HBS := Aside0.mk hbs2
        clear hp hbs2
        go_wp2_with (fail)
        refine HP.out.mono ?_
        rintro e w2 ⟨v, rfl, hR, hb⟩
        obtain ⟨A2, c2, rfl, hl2, hC2⟩ := Kd.R_reads hR
        have HB2 := Aside0.mk (HB.out.trans (hb.mono HB.out.size))
        have HC2 := Aside0.mk hC2
        clear hR hb hC2 HP HC HB
        go_wp2_with (fail)
        refine ⟨⟨j + 1, bs2, A2, c2, by omega, by go_num, rfl, hl2, HC2, ⟨?_⟩, ?_, HB2⟩, by simp [intOf]; omega⟩
        · rw [← HBS.out, List.append_assoc, ← htl.out]; exact HE.out
        · rw [← HBS.out, List.length_append, PureTake.be_len]
          have : wd (kind ks j) ≤ 8 := wd_le _ hk
          omega
      have d00 : (kind ks j == 0) = false := beq_eq_false_iff_ne.2 h0
      obtain ⟨bs2, hbs2⟩ : ∃ bs2, bs ++ PureTake.be (wd (kind ks j)) (rd l j) = bs2 := ⟨_, rfl⟩
      have hp : PA.take_Put.f 20 bs (rd l j) (kind ks j) = some bs2 := by rw [← hbs2]; rw [PureTake.put_f bs _ _ (by omega) _ (by omega), show wd (kind ks j) = PureTake.cnt (kind ks j) by unfold wd PureTake.cnt; rw [if_neg (by omega), if_neg (by omega), if_neg (by omega)]]
      have HP := Aside0.mk (PA.take_Put.calls 20 Ab cb bs (rd l j) (kind ks j) _ w1 HC.out hcb hp)
      have HBS := Aside0.mk hbs2
      clear hp hbs2
      go_wp2_with (fail)
      refine HP.out.mono ?_
      rintro e w2 ⟨v, rfl, hR, hb⟩
      obtain ⟨A2, c2, rfl, hl2, hC2⟩ := Kd.R_reads hR
      have HB2 := Aside0.mk (HB.out.trans (hb.mono HB.out.size))
      have HC2 := Aside0.mk hC2
      clear hR hb hC2 HP HC HB
      go_wp2_with (fail)
      refine ⟨⟨j + 1, bs2, A2, c2, by omega, by go_num, rfl, hl2, HC2, ⟨?_⟩, ?_, HB2⟩, by simp [intOf]; omega⟩
      · rw [← HBS.out, List.append_assoc, ← htl.out]; exact HE.out
      · rw [← HBS.out, List.length_append, PureTake.be_len]
        have : wd (kind ks j) ≤ 8 := wd_le _ hk
        omega
    · obtain rfl : j = l.length := by omega
      have d0 : decide ((l.length : Int) < (l.length : Int)) = false := by simp
      have hE := HE.out
      rw [List.drop_length] at hE
      simp only [tail, List.append_nil] at hE
      subst hE
      go_wp2_with (fail)
      clear f0
      have hs3 := HB.out.size
      have hz1 := HZ1.out
      obtain ⟨W2, hW2⟩ : ∃ W2, (wr.alloc (.cells #[.bool true] 4)).alloc (.cells #[.int .i64 0] 3) = W2 := ⟨_, rfl⟩
      have hz2 : W2.heap.size = wr.heap.size + 2 := by rw [← hW2]; simp
      have hb2 : Below wr.heap.size wr W2 := by rw [← hW2]; exact below_alloc (below_alloc (Below.refl _ wr) _) _
      have bG : Boxed W2 wr.heap.size 4 (.bool true) := by rw [← hW2]; exact (Boxed.new wr _ _).alloc _
      have bT : Boxed W2 (wr.heap.size + 1) 3 (.int .i64 0) := by
        rw [← hW2]
        have := Boxed.new (wr.alloc (.cells #[.bool true] 4)) 3 (.int .i64 0)
        rwa [World.size_alloc] at this
      have sb := start_below Ab (tail ks l 0).length cb W2
      have hb3 : Below W1.heap.size W1 (FTake.begun W2 Ab (tail ks l 0).length cb) := (HB.out.trans (hb2.mono (by omega))).trans (sb.mono (by omega))
      have hst1 : ∀ {k t v}, Boxed W1 k t v → Boxed (FTake.begun W2 Ab (tail ks l 0).length cb) k t v := fun {k t v} hk => (hb3.block k hk.lt).trans hk
      have hst : ∀ {k t v}, Boxed W2 k t v → Boxed (FTake.begun W2 Ab (tail ks l 0).length cb) k t v := fun {k t v} hk => (sb.block k hk.lt).trans hk
      have T := try_calls 30 #[.pointer (some ⟨w.heap.size, 0, none⟩), .pointer (some ⟨w.heap.size + 2, 0, none⟩), .pointer (some ⟨wr.heap.size, 0, none⟩), .pointer (some ⟨wr.heap.size + 1, 0, none⟩)]
        (fun k => k < wr.heap.size) Ab cb (tail ks l 0) W2 (enters_of Try.func30 (by kernel_rfl) rfl)
        (fun l' W => l' = [] ∧ Below w.heap.size w W ∧ Boxed W wr.heap.size 4 (.bool true) ∧ Boxed W (wr.heap.size + 1) 3 (.int .i64 l.length) ∧ Boxed W w.heap.size 25 (.slice Al l.length cl)) (fun _ _ => False) (by
          refine (read_calls (fun k => k < wr.heap.size) (W2.heap.size + 1) w.heap.size (w.heap.size + 2) (w.heap.size + 1) wr.heap.size (wr.heap.size + 1) l ks Al Ak cl ck _ (start_rdr _ Ab cb _ W2 (Kd.F_below (Kd.C_F (Kd.heap_int .u8) HC.out) hb2) hcb (tail_bytes ks l 0)) (fun k hk => by omega) (fun k hk => by omega) (fun k hk => by omega)
            (hst1 E0.out) (Kd.F_mono (Kd.F_below HFL1.out hb3) (fun k hk => by omega)) HXL.out (by omega) (hst1 EQ.out) (hst1 E1.out) (Kd.F_mono (Kd.F_below HFK1.out hb3) (fun k hk => by omega)) HXK.out (hst bG) (hst bT) (by omega) (by omega) (by omega) (by omega) (by omega) (by omega)).mono ?_
          rintro e W ⟨rfl, hS⟩
          have hr := hS.hr
          rw [List.drop_length] at hr
          refine ⟨hS.ho.boxed (start_err Ab _ cb W2) (by omega), .inl ⟨_, [], rfl, hr, rfl, ?_, hS.bG, hS.bT, hS.ho.boxed (hst1 E0.out) (by omega)⟩⟩
          exact (HB1.out.trans (hb3.mono (by omega))).trans (hS.ho.below (by rw [start_size]; omega) (by omega)))
      have HT := Aside0.mk T
      have HZ2 := Aside0.mk hz2
      have HW2 := Aside0.mk hW2
      have HS3 := Aside0.mk hs3
      clear T hz2 hb2 bG bT sb hb3 hst1 hst hW2 hs3 hz1 HC HE HB
      go_wp2_with (fail)
      rw [HW2.out]
      refine HT.out.mono ?_
      rintro e w2 ⟨c2, W, rfl, ho, ⟨_, ⟨rfl, hbel, qG, qT, qL⟩, rfl⟩ | hf⟩
      · clear HT HW2
        have hz2 := HZ2.out
        have hs3 := HS3.out
        have hz1 := HZ1.out
        have gG := Aside0.mk (ho.boxed qG (by omega))
        have gT := Aside0.mk (ho.boxed qT (by omega))
        have gL := Aside0.mk (ho.boxed qL (by omega))
        have HB2 := Aside0.mk (hbel.trans (ho.below (by have := hbel.size; omega) (by omega)))
        clear ho hbel qG qT qL hz2 hs3 hz1
        go_wp2_with (fail)
        refine (FTake07.calls_fixed _).mono ?_
        rintro e w3 ⟨rfl, hb⟩
        have HB3 := Aside0.mk (HB2.out.trans (hb.mono HB2.out.size))
        have cG := ((show Boxed w3 _ _ _ from (hb.block _ gG.out.lt).trans gG.out)).cell
        have cT := ((show Boxed w3 _ _ _ from (hb.block _ gT.out.lt).trans gT.out)).cell
        have cL := ((show Boxed w3 _ _ _ from (hb.block _ gL.out.lt).trans gL.out)).cell
        clear hb
        go_wp2
        go_ret
        exact ⟨by simp, HB3.out⟩
      · exact hf.elim
end Go.Proofs.Ytebbnjgaikppgaa.FTakeBack
