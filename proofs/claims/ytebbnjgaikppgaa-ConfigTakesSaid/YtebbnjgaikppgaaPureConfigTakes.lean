import Derived.Test.YtebbnjgaikppgaaPureConf
import Derived.Test.YtebbnjgaikppgaaPAx17
namespace Go.Proofs.Ytebbnjgaikppgaa
open Go.RowKit Go.Proofs.YtebbnjgaikppgaaW.PrintWords Go.Proofs.YtebbnjgaikppgaaW.PrintLast Go.Proofs.YtebbnjgaikppgaaW.PrintMore Go.Proofs.Ytebbnjgaikppgaa.Pure Go.Proofs.Ytebbnjgaikppgaa.PureTake Go.Proofs.Ytebbnjgaikppgaa.PureConf Go.Proofs.Ytebbnjgaikppgaa.PA
set_option linter.unusedVariables false
set_option linter.unusedSimpArgs false
namespace PureConfigTakes
abbrev Bytes (l : List Int) : Prop := ∀ x ∈ l, 0 ≤ x ∧ x < 256
theorem bt_str (l : List Int) (hb : Bytes l) (i : Nat) (h : i < l.length) : bt (strOfNums l) (i : Int) = rd l (i : Int) := by
  have hs : i < (strOfNums l).size := by rw [strOf_size]; exact h
  have hx := hb l[i] (List.getElem_mem h)
  unfold bt
  rw [rd_nat l i h, dif_pos (by simpa using hs)]
  show (((strOfNums l).data[i]'hs).toNat : Int) = l[i]
  simp [strOfNums]
  omega
theorem val_take (l : List Int) (j : Nat) (h : j < l.length) : FTake.val (l.take (j + 1)) = FTake.val (l.take j) * 256 + rd l (j : Int) := by
  rw [take_rd l j h, FTake.val_snoc]
theorem rd_drop (l : List Int) (a j : Nat) : rd (l.drop a) (j : Int) = rd l ((a + j : Nat) : Int) := by
  simp [rd, show ((a : Int) + (j : Int)).toNat = a + j by omega]
theorem byte_drop {l : List Int} (h : Bytes l) (a : Nat) : Bytes (l.drop a) := fun x hx => h x (List.mem_of_mem_drop hx)
theorem byte_take {l : List Int} (h : Bytes l) (a : Nat) : Bytes (l.take a) := fun x hx => h x (List.mem_of_mem_take hx)
theorem val_lt {l : List Int} (h : Bytes l) (j : Nat) (hj : j ≤ 7) : 0 ≤ FTake.val (l.take j) ∧ FTake.val (l.take j) < 72057594037927936 := by
  obtain ⟨a, b⟩ := FTake.val_bound (l.take j) (byte_take h j)
  have h1 : (l.take j).length ≤ j := by simp; omega
  have := FTake.pow_le (l.take j).length (by omega)
  omega
theorem get_l0 (l : List Int) (hb : Bytes l) (a m : Nat) (hm : m ≤ 8) (ha : a + m ≤ l.length) (hl : l.length ≤ 1000000) : ∀ (d k j : Nat), j + d = m → d < k →
    hornbeamref07_Get.l0 k (strOfNums l) a m (FTake.val ((l.drop a).take j)) j = some (FTake.val ((l.drop a).take m), ((a + m : Nat) : Int), true) := by
  intro d
  induction d with
  | zero =>
    intro k j e h2
    obtain ⟨k, rfl⟩ : ∃ m, k = m + 1 := ⟨k - 1, by omega⟩
    simp only [hornbeamref07_Get.l0]
    rw [if_neg (by omega), show j = m by omega, wrap_in (by omega) (by omega)]; rfl
  | succ d ih =>
    intro k j e h2
    obtain ⟨k, rfl⟩ : ∃ m, k = m + 1 := ⟨k - 1, by omega⟩
    obtain ⟨v0, v1⟩ := val_lt (byte_drop hb a) j (by omega)
    have hr : 0 ≤ rd l ((a + j : Nat) : Int) ∧ rd l ((a + j : Nat) : Int) < 256 := by rw [rd_nat l _ (by omega)]; exact hb _ (List.getElem_mem _)
    simp only [hornbeamref07_Get.l0]
    rw [if_pos (by omega), wrap_in (i := (a : Int) + j) (by omega) (by omega), if_pos (by omega), if_pos (by rw [strOf_size]; omega), show ((a : Int) + j) = ((a + j : Nat) : Int) by omega, bt_str l hb _ (by omega), u64_wrap hr.1 (by omega),
      u64_wrap (x := 256 * _) (by omega) (by omega), u64_wrap (by omega) (by omega), wrap_in (i := (j : Int) + 1) (by omega) (by omega), show 256 * FTake.val ((l.drop a).take j) + rd l ((a + j : Nat) : Int) = FTake.val ((l.drop a).take (j + 1)) by
        rw [val_take _ _ (by simp; omega), rd_drop]; omega]
    exact ih k (j + 1) (by omega) (by omega)
theorem cnt_eq (n : Int) : FTake.cnt n = cnt n := rfl
/-- The document's number at a place. -/
theorem ref_get_f (l : List Int) (hb : Bytes l) (a : Nat) (n : Int) (ha : a ≤ l.length) (hl : l.length ≤ 1000000) (k : Nat) (hk : 9 ≤ k) :
    hornbeamref07_Get.f k (strOfNums l) a n = some (match FTake.number n (l.drop a) with | .error _ => (0, (a : Int), false) | .ok (v, _) => (v, ((a + cnt n : Nat) : Int), true)) := by
  have hc := cnt_le n
  unfold hornbeamref07_Get.f FTake.number
  rw [ref_count_f, Option.bind_some, cnt_eq, strOf_size, wrap_in (by omega) (by omega)]
  by_cases h : cnt n ≤ (l.drop a).length
  · rw [if_pos h]
    simp only [List.length_drop] at h
    rw [if_neg (by omega)]
    exact get_l0 l hb a (cnt n) (by omega) (by omega) hl (cnt n) k 0 (by omega) (by omega)
  · rw [if_neg h]
    simp only [List.length_drop] at h
    rw [if_pos (by omega)]
/-- The document's fields, one by one. -/
theorem ref_loop (l : List Int) (hb : Bytes l) (hl : l.length ≤ 1000000) : ∀ (ns : List Int) (i a : Nat) (xs ys l2 : List Int) (k : Nat), config_Get.szs.drop i = ns → i + ns.length = 7 → i = xs.length → a ≤ l.length → 9 ≤ k →
    config_Get.nums ns (l.drop a) = .ok (ys, l2) → ∃ b : Nat, l2 = l.drop b ∧ b ≤ l.length ∧ (b : Int) = a + (ns.map fun n => (cnt n : Int)).sum ∧
      hornbeamref08_Get.l0 (k + ns.length) (strOfNums l) xs a config_Get.szs i = hornbeamref08_Get.l0 k (strOfNums l) (xs ++ ys) b config_Get.szs 7 := by
  intro ns
  induction ns with
  | nil =>
    intro i a xs ys l2 k hs h7 hi ha hk h
    simp only [config_Get.nums, Except.ok.injEq, Prod.mk.injEq] at h
    obtain ⟨rfl, rfl⟩ := h
    simp only [List.length_nil, Nat.add_zero] at h7
    subst h7
    exact ⟨a, rfl, ha, by simp, by simp⟩
  | cons n ns ih =>
    intro i a xs ys l2 k hs h7 hi ha hk h
    simp only [config_Get.nums, FTake.number] at h
    simp only [List.length_cons] at h7
    have hd := drop_rd config_Get.szs i (by simp [config_Get.szs]; omega)
    rw [hs] at hd
    simp only [List.cons.injEq] at hd
    by_cases hc : cnt n ≤ (l.drop a).length
    · rw [if_pos (show FTake.cnt n ≤ (l.drop a).length from hc)] at h
      simp only at h
      rw [List.drop_drop] at h
      cases hq : config_Get.nums ns (l.drop (a + FTake.cnt n)) with
      | error c => rw [hq] at h; simp at h
      | ok q =>
        rw [hq] at h
        simp only [Except.ok.injEq, Prod.mk.injEq] at h
        obtain ⟨rfl, rfl⟩ := h
        simp only [List.length_drop] at hc
        obtain ⟨b, e1, e2, e3, e4⟩ := ih (i + 1) (a + cnt n) (xs ++ [wrap64 (FTake.val ((l.drop a).take (cnt n)))]) q.1 q.2 k hd.2.symm (by omega) (by simp; omega) (by omega) hk hq
        refine ⟨b, e1, e2, by simp; omega, ?_⟩
        rw [show k + (n :: ns).length = (k + ns.length) + 1 by simp; omega]
        simp only [hornbeamref08_Get.l0]
        rw [if_pos (by simp [config_Get.szs]; omega), if_pos (by omega), ← hd.1, ref_get_f l hb a n ha hl _ (by omega)]
        simp only [FTake.number]
        rw [if_pos (show FTake.cnt n ≤ (l.drop a).length by simp; exact hc)]
        simp only [Option.bind_some]
        rw [if_pos (by omega), wrap_in (i := (i : Int) + 1) (by omega) (by omega), show ((i : Int) + 1) = ((i + 1 : Nat) : Int) by omega]
        rw [show FTake.cnt n = cnt n from rfl, e4, List.append_assoc]; rfl
    · rw [if_neg (show ¬ FTake.cnt n ≤ (l.drop a).length from hc)] at h
      simp at h
theorem nums_ok : ∀ (ns l : List Int), (ns.map cnt).sum ≤ l.length → ∃ q, config_Get.nums ns l = .ok q ∧ q.1.length = ns.length ∧ q.2 = l.drop (ns.map cnt).sum
  | [], l, h => ⟨([], l), rfl, rfl, by simp⟩
  | n :: ns, l, h => by
    simp only [List.map_cons, List.sum_cons] at h
    obtain ⟨q, e, e2, e3⟩ := nums_ok ns (l.drop (cnt n)) (by simp; omega)
    refine ⟨(wrap64 (FTake.val (l.take (cnt n))) :: q.1, q.2), ?_, by simp [e2], ?_⟩
    · simp only [config_Get.nums, FTake.number]
      rw [if_pos (show FTake.cnt n ≤ l.length by show cnt n ≤ _; omega)]
      simp only [show FTake.cnt n = cnt n from rfl, e]
    · rw [e3, List.drop_drop]; simp
theorem nums_few : ∀ (ns l : List Int), l.length < (ns.map cnt).sum → config_Get.nums ns l = .error 2
  | [], l, h => by simp at h
  | n :: ns, l, h => by
    simp only [List.map_cons, List.sum_cons] at h
    simp only [config_Get.nums, FTake.number]
    by_cases hc : FTake.cnt n ≤ l.length
    · rw [if_pos hc]
      have : FTake.cnt n = cnt n := rfl
      simp only [nums_few ns (l.drop (FTake.cnt n)) (by simp; omega)]
    · rw [if_neg hc]
theorem szs_sum : (config_Get.szs.map cnt).sum = 14 := by decide
theorem ref_get (l : List Int) (hb : Bytes l) (hl : l.length ≤ 1000000) (h14 : 14 ≤ l.length) (q) (hq : config_Get.nums config_Get.szs l = .ok q) (h7 : q.1.length = 7) (k : Nat) (hk : 30 ≤ k) :
    hornbeamref08_Get.f k (strOfNums l) = some (if chk (config_Get.fld q.1) = 0 then (config_Get.fld q.1 0, config_Get.fld q.1 1, config_Get.fld q.1 2, config_Get.fld q.1 3, config_Get.fld q.1 4, config_Get.fld q.1 5, config_Get.fld q.1 6, 0) else (0, 0, 0, 0, 0, 0, 0, chk (config_Get.fld q.1))) := by
  unfold hornbeamref08_Get.f
  rw [if_neg (by rw [strOf_size]; omega)]
  obtain ⟨k, rfl⟩ : ∃ m, k = m + 1 + 7 := ⟨k - 8, by omega⟩
  obtain ⟨b, e1, e2, e3, e4⟩ := ref_loop l hb hl config_Get.szs 0 0 [] q.1 q.2 (k + 1) rfl rfl rfl (by omega) (by omega) hq
  refine Eq.trans e4 ?_
  simp only [hornbeamref08_Get.l0, List.nil_append]
  rw [if_neg (by decide)]
  simp only [h7]
  have hr : ∀ j : Nat, rd q.1 (j : Int) = config_Get.fld q.1 j := fun j => by simp [rd, config_Get.fld]
  have r0 := hr 0; have r1 := hr 1; have r2 := hr 2; have r3 := hr 3; have r4 := hr 4; have r5 := hr 5; have r6 := hr 6
  simp only [show ((0 : Nat) : Int) = 0 from rfl, show ((1 : Nat) : Int) = 1 from rfl, show ((2 : Nat) : Int) = 2 from rfl, show ((3 : Nat) : Int) = 3 from rfl, show ((4 : Nat) : Int) = 4 from rfl, show ((5 : Nat) : Int) = 5 from rfl, show ((6 : Nat) : Int) = 6 from rfl] at r0 r1 r2 r3 r4 r5 r6
  rw [if_pos (by decide), if_pos (by decide), if_pos (by decide), if_pos (by decide), if_pos (by decide), if_pos (by decide), if_pos (by decide), r0, r1, r2, r3, r4, r5, r6, ref_check_f _ k (by omega), Option.bind_some]
  split <;> rfl
/-- The bytes of what was taken are these. -/
theorem bytes_back : ∀ (l : List Int), Bytes l → l.length = 14 → ∀ q, config_Get.nums config_Get.szs l = .ok q → bytesC (config_Get.fld q.1) = l
  | [a0, a1, a2, a3, a4, a5, a6, a7, a8, a9, a10, a11, a12, a13], hb, _, q, h => by
    simp only [Bytes, List.forall_mem_cons] at hb
    obtain ⟨b0, b1, b2, b3, b4, b5, b6, b7, b8, b9, b10, b11, b12, b13, _⟩ := hb
    simp [config_Get.nums, config_Get.szs, FTake.number, FTake.cnt, FTake.val] at h
    subst h
    simp only [bytesC, config_Get.fld, be, List.getD_cons_zero, List.getD_cons_succ, List.cons_append, List.nil_append, List.cons.injEq]
    simp only [wrap64, and_true, show (256 : Int) ^ 0 = 1 from rfl, show (256 : Int) ^ 1 = 256 from rfl, show (256 : Int) ^ 2 = 65536 from rfl, show (256 : Int) ^ 3 = 16777216 from rfl]
    refine ⟨?_, ?_, ?_, ?_, ?_, ?_, ?_, ?_, ?_, ?_, ?_, ?_, ?_, ?_⟩ <;> omega
end PureConfigTakes
open PureConfigTakes in
theorem Pure.ConfigTakes : hornbeamlaw08_ConfigTakes.Pure := by
  rintro l ⟨hl1, hl2, hw⟩
  have hb : Bytes l := fun x hx => by have := wf_u8 (hw x hx); omega
  refine ⟨40, ?_⟩
  unfold hornbeamlaw08_ConfigTakes.f hornbeamlaw08_fixed.f hornbeamlaw08_taken.f
  by_cases h30 : (l.length : Int) > 30
  · rw [if_pos h30]; rfl
  rw [if_neg h30, if_pos hb]
  simp only [Option.bind_some, if_true]
  by_cases h14 : (l.length : Int) < 14
  · have e : hornbeamlaw08_taken.g l = ([], 2) := by
      unfold hornbeamlaw08_taken.g config_Get.get
      rw [nums_few _ _ (by rw [szs_sum]; omega)]
    rw [if_pos h14, e]; rfl
  rw [if_neg h14]
  obtain ⟨q, hq, h7, hd⟩ := nums_ok config_Get.szs l (by rw [szs_sum]; omega)
  rw [szs_sum] at hd
  rw [ref_get l hb (by omega) (by omega) q hq h7 40 (by omega)]
  have hg : config_Get.get l = if chk (config_Get.fld q.1) = 0 then .ok q else .error (chk (config_Get.fld q.1)) := by
    unfold config_Get.get
    rw [hq]
  by_cases hc : chk (config_Get.fld q.1) = 0
  · rw [if_pos hc] at hg
    rw [if_pos hc]
    simp only [Option.bind_some, if_true]
    by_cases hm : (l.length : Int) > 14
    · have e : hornbeamlaw08_taken.g l = ([], 3) := by
        unfold hornbeamlaw08_taken.g
        rw [hg]
        simp only
        rw [hd, if_pos (by simp; omega)]
      rw [if_pos hm, e]; rfl
    · have e : hornbeamlaw08_taken.g l = (q.1, 0) := by
        unfold hornbeamlaw08_taken.g
        rw [hg]
        simp only
        rw [hd, if_neg (by simp; omega)]
      rw [if_neg hm, e]
      simp only [if_true]
      rw [put_c (config_Get.fld q.1) [] (by simp) 40 (by omega), if_pos hc, bytes_back l hb (by omega) q hq]
      simp
  · rw [if_neg hc] at hg
    rw [if_neg hc]
    simp only [Option.bind_some]
    have e : hornbeamlaw08_taken.g l = ([], chk (config_Get.fld q.1)) := by
      unfold hornbeamlaw08_taken.g
      rw [hg]
    rw [if_neg hc, e]
    simp [config_Get.fld]
end Go.Proofs.Ytebbnjgaikppgaa
