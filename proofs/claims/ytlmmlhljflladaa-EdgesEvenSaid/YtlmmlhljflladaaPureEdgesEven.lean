import Derived.Test.YtlmmlhljflladaaPureEdges2
import Derived.Test.YtlmmlhljflladaaPAx15
namespace Go.Proofs.Ytlmmlhljflladaa
open Go.RowKit Go.Proofs.YtlmmlhljflladaaW.PrintWords Go.Proofs.YtlmmlhljflladaaW.PrintLast Go.Proofs.YtlmmlhljflladaaW.PrintMore Go.Proofs.Ytlmmlhljflladaa.Pure Go.Proofs.Ytlmmlhljflladaa.PureFlt Go.Proofs.Ytlmmlhljflladaa.PureRank Go.Proofs.Ytlmmlhljflladaa.PureBin Go.Proofs.Ytlmmlhljflladaa.PureSort Go.Proofs.Ytlmmlhljflladaa.PureEdges Go.Proofs.Ytlmmlhljflladaa.PureEdges2 Go.Proofs.Ytlmmlhljflladaa.PA
set_option linter.unusedVariables false
set_option linter.unusedSimpArgs false
namespace PureEdgesEven
/-- What stands within m places is at most m. -/
theorem near (p : Nat → Bool) : ∀ (s : List Nat) (m : Nat), (∀ i j, i < j → (hj : j < s.length) → p (s.getD i 0) = true → p (s.getD j 0) = true → j < i + m) → 1 ≤ m → s.countP p ≤ m
  | [], m, _, _ => by simp
  | x :: t, m, h, hm => by
    by_cases hx : p x = true
    · rw [List.countP_cons_of_pos hx]
      have hd : (t.drop (m - 1)).countP p = 0 := by
        rw [List.countP_eq_zero]
        intro y hy hpy
        obtain ⟨n, hn, rfl⟩ := List.getElem_of_mem hy
        rw [List.length_drop] at hn
        rw [List.getElem_drop] at hpy
        have hlt : m - 1 + n < t.length := by omega
        have := h 0 (m - 1 + n + 1) (by omega) (by simp; omega) (by simpa using hx) (by simpa [List.getD_eq_getElem?_getD, hlt] using hpy)
        omega
      have hs : t.countP p = (t.take (m - 1)).countP p + (t.drop (m - 1)).countP p := by rw [← List.countP_append, List.take_append_drop]
      have ht : (t.take (m - 1)).countP p ≤ m - 1 := Nat.le_trans List.countP_le_length (by simp; omega)
      omega
    · rw [List.countP_cons_of_neg hx]
      refine near p t m (fun i j hij hj hi hj' => ?_) hm
      have := h (i + 1) (j + 1) (by omega) (by simp; omega) (by simpa using hi) (by simpa using hj')
      omega
/-- Between two that stand m or more apart there is a place. -/
theorem place_between {n bins i j : Nat} (hb : 2 ≤ bins) (hj : j < n) (hm : i + (n + bins - 1) / bins ≤ j) : ∃ q, 1 ≤ q ∧ q < bins ∧ i < q * n / bins ∧ q * n / bins ≤ j := by
  have hn : 0 < n := by omega
  have hb0 : 0 < bins := by omega
  -- the least q whose place is behind i
  have hex : ∀ B, 0 < B → ∃ q, B ≤ q * n ∧ q * n < B + n := fun B hB => by
    refine ⟨(B + n - 1) / n, ?_, ?_⟩
    · have := Nat.lt_mul_div_succ (B + n - 1) hn
      rw [Nat.mul_comm n, Nat.succ_mul] at this
      omega
    · have := Nat.div_mul_le_self (B + n - 1) n
      omega
  obtain ⟨q, hq1, hq2⟩ := hex ((i + 1) * bins) (Nat.mul_pos (by omega) hb0)
  have hlow : i < q * n / bins := (Nat.le_div_iff_mul_le hb0).2 hq1
  have hup : q * n / bins ≤ j := by
    have h1 : q * n / bins < i + 1 + (n + bins - 1) / bins := by
      rw [Nat.div_lt_iff_lt_mul hb0, Nat.add_mul]
      have h2 := Nat.lt_mul_div_succ (n + bins - 1) hb0
      rw [Nat.mul_comm bins, Nat.succ_mul] at h2
      omega
    omega
  refine ⟨q, ?_, ?_, hlow, hup⟩
  · rcases Nat.eq_zero_or_pos q with h | h
    · subst h; simp at hlow
    · exact h
  · rcases Nat.lt_or_ge q bins with h | h
    · exact h
    · have : n ≤ q * n / bins := by
        rw [Nat.le_div_iff_mul_le hb0, Nat.mul_comm]; exact Nat.mul_le_mul_right n h
      omega
/-- The values are unlike, and none is missing. -/
def Unlike (l : List Nat) : Prop := (∀ f ∈ l, ¬ nan f) ∧ l.Pairwise (fun a b => key a ≠ key b)
theorem even {l : List Nat} (hl : W64 l) (hu : Unlike l) (bins : Nat) (hb : 2 ≤ bins) (b : Nat) : num (edges_Of.cut (there l) bins) l b ≤ (l.length + bins - 1) / bins := by
  rcases Nat.eq_zero_or_pos l.length with h0 | h0
  · exact Nat.le_trans (num_le (edges_Of.cut (there l) bins) l b) (by rw [h0]; exact Nat.zero_le _)
  have hp := (sortT_spec _ (clean_all hl)).1
  have hth : there l = FSort.sortT SortF.cf (l.map clean) := by
    unfold there
    rw [List.filter_eq_self]
    intro x hx
    obtain ⟨y, hy, rfl⟩ := List.mem_map.1 (hp.mem_iff.1 hx)
    have := hu.1 y hy
    simpa using fun n => this (nan_clean.1 n)
  have hperm : (there l).Perm (l.map clean) := by rw [hth]; exact hp
  have hlen : (there l).length = l.length := by rw [hperm.length_eq]; simp
  have hw := there_w hl
  have hs := there_sorted hl
  have hstrict : (there l).Pairwise (fun a b => key a < key b) := by
    have hne : (there l).Pairwise (fun a b => key a ≠ key b) := by
      refine (hperm.pairwise_iff (fun {a b} h => Ne.symm h)).2 ?_
      rw [List.pairwise_map]
      exact hu.2.imp (fun {a b} h => by rw [key_clean, key_clean]; exact h)
    refine (hs.and hne).imp (fun {a b} h => ?_)
    have h1 : key a ≤ key b := h.1
    have h2 := h.2
    omega
  obtain ⟨z, ez, I⟩ := inv_cut hw hs (by omega) hb
  generalize hE : edges_Of.cut (there l) bins = e at *
  have hnum : num e l b = (there l).countP fun f => decide (binT e f = (b : Int)) := by
    rw [hperm.countP_eq, List.countP_map]
    unfold num
    refine List.countP_congr fun x hx => ?_
    simp only [Function.comp, decide_eq_true_eq]
    rw [bin_key e (hl x hx) (clean_lt (hl x hx)) (key_clean x).symm]
  rw [hnum, ← hlen]
  have hmp : 1 ≤ ((there l).length + bins - 1) / bins := (Nat.le_div_iff_mul_le (by omega)).2 (by omega)
  refine near _ _ _ (fun i j hij hj hi hjb => ?_) hmp
  rcases Nat.lt_or_ge j (i + ((there l).length + bins - 1) / bins) with h | h
  · exact h
  exfalso
  obtain ⟨q, q1, q2, q3, q4⟩ := place_between hb hj h
  have e1 := of_decide_eq_true hi
  have e2 := of_decide_eq_true hjb
  have hni : ∀ i, i < (there l).length → ¬ nan ((there l).getD i 0) := fun i hi => by rw [PureSort.gd _ i hi]; exact (there_right hl (List.getElem_mem hi)).1
  have hkey : ∀ i j, i < j → j < (there l).length → key ((there l).getD i 0) < key ((there l).getD j 0) := fun i j hij hj => by
    rw [PureSort.gd _ i (by omega), PureSort.gd _ j hj]; exact (List.pairwise_iff_getElem.1 hstrict) i j (by omega) hj hij
  have k1 := hkey i (q * (there l).length / bins) q3 (by omega)
  have k0 := hkey 0 (q * (there l).length / bins) (by omega) (by omega)
  obtain ⟨x, hx, hxk⟩ := (I.all q q1 (by omega)).resolve_left (by omega)
  rw [← ez] at hx
  have k2 : key x ≤ key ((there l).getD j 0) := by
    rw [hxk]
    rcases Nat.eq_or_lt_of_le q4 with h | h
    · rw [h]; exact Int.le_refl _
    · have := hkey _ _ h hj; omega
  -- the edge x lies between
  have c1 : cnt ((there l).getD i 0) e < cnt ((there l).getD j 0) e := by
    unfold PureBin.cnt
    have hmono : ∀ y ∈ e, decide (cmp y ((there l).getD i 0) ≤ 0) = true → decide (cmp y ((there l).getD j 0) ≤ 0) = true := fun y _ hy => by
      have := PureRight.cmp_le.1 (of_decide_eq_true hy)
      have := hkey i j hij hj
      exact decide_eq_true (PureRight.cmp_le.2 (by omega))
    obtain ⟨s1, s2, rfl⟩ := List.append_of_mem hx
    rw [List.countP_append, List.countP_append, List.countP_cons_of_neg (by simp only [decide_eq_true_eq]; intro hh; have := PureRight.cmp_le.1 hh; omega), List.countP_cons_of_pos (by exact decide_eq_true (PureRight.cmp_le.2 k2))]
    have a1 := List.countP_mono_left (l := s1) (fun y hy => hmono y (by simp [hy]))
    have a2 := List.countP_mono_left (l := s2) (fun y hy => hmono y (by simp [hy]))
    omega
  unfold binT at e1 e2
  rw [if_neg (hni i (by omega))] at e1
  rw [if_neg (hni j hj)] at e2
  omega
theorem even_l1 {l : List Nat} (hl : W64 l) (hm : l.length ≤ 200) (x1 : Int) (i v : Nat) (hv : v < 18446744073709551616) (hi : i < l.length) : ∀ (d K m : Nat), m + d = l.length → 30 ≤ K →
    (hornbeamlaw10_EdgesEven.l1 (K + 1 + d) x1 l i v l l.length i l l.length m = some true) ∨
    (hornbeamlaw10_EdgesEven.l1 (K + 1 + d) x1 l i v l l.length i l l.length m = hornbeamlaw10_EdgesEven.l0 K x1 l l l.length ((i + 1 : Nat) : Int) ∧ ∀ n, m ≤ n → n < l.length → ¬ nan v ∧ (i ≠ n → key v ≠ key (l.getD n 0))) := by
  intro d
  induction d with
  | zero =>
    intro K m h1 h2
    refine .inr ⟨?_, fun n h3 h4 => by omega⟩
    rw [show K + 1 + 0 = K + 1 by omega, hornbeamlaw10_EdgesEven.l1, if_neg (by omega), wrap_in (by omega) (by omega)]
    rfl
  | succ d ih =>
    intro K m h1 h2
    rw [show K + 1 + (d + 1) = (K + 1 + d) + 1 by omega, hornbeamlaw10_EdgesEven.l1, if_pos (by omega), if_pos (by omega), if_pos (by omega), ref_missing, Option.bind_some, wrap_in (i := (m : Int) + 1) (by omega) (by omega), show ((m : Int) + 1) = ((m + 1 : Nat) : Int) by omega]
    by_cases hn : nan v
    · rw [if_pos (decide_eq_true hn), fixed_t (by omega)]; exact .inl rfl
    rw [if_neg (by simpa using hn)]
    have nxt := ih K (m + 1) (by omega) h2
    by_cases he : (i : Int) = m
    · rw [if_pos he]
      rcases nxt with a | ⟨a, b⟩
      · exact .inl a
      · refine .inr ⟨a, fun n h3 h4 => ?_⟩
        by_cases e : n = m
        · exact ⟨hn, fun h => absurd (show i = n by omega) h⟩
        · exact b n (by omega) h4
    · rw [if_neg he, PureSort.rdd, ref_cmp' hv (PureSort.getD_w hl _) (by omega), Option.bind_some]
      by_cases hc : cmp v (l.getD m 0) = 0
      · rw [if_pos hc, fixed_t (by omega)]; exact .inl rfl
      · rw [if_neg hc]
        rcases nxt with a | ⟨a, b⟩
        · exact .inl a
        · refine .inr ⟨a, fun n h3 h4 => ?_⟩
          by_cases e : n = m
          · subst e
            refine ⟨hn, fun _ hk => hc ?_⟩
            unfold cmp; rw [if_neg (by omega), if_neg (by omega)]
          · exact b n (by omega) h4
/-- What stands behind the test. -/
def tail (K : Nat) (x1 : Int) (l : List Nat) : Option Bool := (edges_Of.f l (wrap64 (x1))).bind fun t299 => (if 0 ≤ (wrap64 ((t299.length : Int) + 2)) then (if (wrap64 ((t299.length : Int) + 2) : Int).toNat ≤ 35184372088832 then (hornbeamlaw10_EdgesEven.l2 K x1 l t299 (List.replicate (wrap64 ((t299.length : Int) + 2) : Int).toNat 0) l (l.length : Int) 0) else (none)) else (none))
theorem even_l0 {l : List Nat} (hl : W64 l) (hm : l.length ≤ 200) (x1 : Int) : ∀ (d K i : Nat), i + d = l.length → 30 ≤ K →
    (hornbeamlaw10_EdgesEven.l0 (K + 1 + d * (l.length + 2)) x1 l l l.length i = some true) ∨
    (hornbeamlaw10_EdgesEven.l0 (K + 1 + d * (l.length + 2)) x1 l l l.length i = tail K x1 l ∧ ∀ n, i ≤ n → n < l.length → ¬ nan (l.getD n 0) ∧ ∀ m, m < l.length → n ≠ m → key (l.getD n 0) ≠ key (l.getD m 0)) := by
  intro d
  induction d with
  | zero =>
    intro K i h1 h2
    refine .inr ⟨?_, fun n h3 h4 => by omega⟩
    rw [Nat.zero_mul, show K + 1 + 0 = K + 1 by omega, hornbeamlaw10_EdgesEven.l0, if_neg (by omega)]
    rfl
  | succ d ih =>
    intro K i h1 h2
    have hi : i < l.length := by omega
    rw [Nat.succ_mul, show K + 1 + (d * (l.length + 2) + (l.length + 2)) = ((K + 1 + d * (l.length + 2)) + 1 + l.length) + 1 by omega, hornbeamlaw10_EdgesEven.l0, if_pos (by omega), if_pos (by omega), if_pos (by omega), PureSort.rdd]
    rcases even_l1 hl hm x1 i (l.getD i 0) (PureSort.getD_w hl _) hi l.length (K + 1 + d * (l.length + 2)) 0 (by omega) (by omega) with a | ⟨a, b⟩
    · exact .inl a
    · rcases ih K (i + 1) (by omega) h2 with a2 | ⟨a2, b2⟩
      · exact .inl (a.trans a2)
      · refine .inr ⟨a.trans a2, fun n h3 h4 => ?_⟩
        by_cases e : n = i
        · subst e
          exact ⟨(b n (Nat.zero_le _) h4).1, fun m h5 h6 => (b m (Nat.zero_le _) h5).2 h6⟩
        · exact b2 n (by omega) h4
theorem unlike_of {l : List Nat} (h : ∀ n, 0 ≤ n → n < l.length → ¬ nan (l.getD n 0) ∧ ∀ m, m < l.length → n ≠ m → key (l.getD n 0) ≠ key (l.getD m 0)) : Unlike l := by
  refine ⟨fun f hf => ?_, ?_⟩
  · obtain ⟨n, hn, rfl⟩ := List.getElem_of_mem hf
    have := (h n (Nat.zero_le _) hn).1
    rwa [PureSort.gd l n hn] at this
  · rw [List.pairwise_iff_getElem]
    intro i j hi hj hij
    have := (h i (Nat.zero_le _) hi).2 j hj (by omega)
    rwa [PureSort.gd l i hi, PureSort.gd l j hj] at this
theorem even_l3 (y : List Int) (most : Int) (hy : y.length ≤ 1000) (h : ∀ b, b < y.length → rd y (b : Int) ≤ most) : ∀ (d K b : Nat), b + d = y.length → 30 ≤ K → hornbeamlaw10_EdgesEven.l3 (K + 1 + d) most y y.length b = some true := by
  intro d
  induction d with
  | zero =>
    intro K b h1 h2
    rw [show K + 1 + 0 = K + 1 by omega, hornbeamlaw10_EdgesEven.l3, if_neg (by omega), fixed_t h2]; rfl
  | succ d ih =>
    intro K b h1 h2
    have := h b (by omega)
    rw [show K + 1 + (d + 1) = (K + 1 + d) + 1 by omega, hornbeamlaw10_EdgesEven.l3, if_pos (by omega), if_pos (by omega), if_pos (by omega), if_neg (by omega), wrap_in (by omega) (by omega), show ((b : Int) + 1) = ((b + 1 : Nat) : Int) by omega]
    exact ih K (b + 1) (by omega) h2
/-- What stands behind the counting. -/
def tail2 (K : Nat) (x1 : Int) (l : List Nat) (y : List Int) : Option Bool := if (wrap64 (x1)) = 0 then (none) else (hornbeamlaw10_EdgesEven.l3 K (wrap64 (Int.tdiv (wrap64 ((wrap64 ((l.length : Int) + (wrap64 (x1)))) - 1)) (wrap64 (x1)))) y (y.length : Int) 0)
theorem even_l2 {l e : List Nat} (hl : W64 l) (he : W64 e) (hn : ∀ f ∈ l, ¬ nan f) (hm : l.length ≤ 200) (hem : e.length ≤ 300) (x1 : Int) : ∀ (d K i : Nat) (x : List Int), i + d = l.length → e.length < K → Cnt e (l.take i) x →
    ∃ y, Cnt e l y ∧ hornbeamlaw10_EdgesEven.l2 (K + 1 + d) x1 l e x l l.length i = tail2 K x1 l y := by
  intro d
  induction d with
  | zero =>
    intro K i x h1 h2 h3
    rw [List.take_of_length_le (by omega)] at h3
    refine ⟨x, h3, ?_⟩
    rw [show K + 1 + 0 = K + 1 by omega, hornbeamlaw10_EdgesEven.l2, if_neg (by omega)]
    rfl
  | succ d ih =>
    intro K i x h1 h2 h3
    have hi : i < l.length := by omega
    have hs := cnt_step h3 (l.getD i 0) (by simp; omega)
    have hr := bin_range e (l.getD i 0)
    have hxl := h3.len
    have hnz : binT e (l.getD i 0) ≠ 0 := fun h => hn _ (by rw [PureSort.gd l i hi]; exact List.getElem_mem _) ((bin_zero e _).1 h)
    rw [show l.take i ++ [l.getD i 0] = l.take (i + 1) by rw [PureSort.gd l i hi]; exact (List.take_succ_eq_append_getElem hi).symm] at hs
    obtain ⟨y, hy, ey⟩ := ih K (i + 1) _ (by omega) h2 hs
    refine ⟨y, hy, ?_⟩
    rw [← ey, show K + 1 + (d + 1) = (K + 1 + d) + 1 by omega, hornbeamlaw10_EdgesEven.l2, if_pos (by omega), if_pos (by omega), if_pos (by omega), PureSort.rdd,
      bin_f e _ he (PureSort.getD_w hl _) (by omega) _ (by omega), Option.bind_some, if_neg (by omega), if_neg (by omega), if_pos (by omega), if_pos (by omega), wrap_in (i := (i : Int) + 1) (by omega) (by omega)]
    rfl
theorem tail_t {l : List Nat} (hl : W64 l) (hu : Unlike l) (hm : l.length ≤ 200) (b : Nat) (hb : 2 ≤ b) (hb2 : b ≤ 255) (K : Nat) (hK : 5000 ≤ K) : tail K (b : Int) l = some true := by
  have hr := (cut_right hl hb).2
  have hev := even hl hu b hb
  unfold tail
  rw [wrap_in (i := (b : Int)) (by omega) (by omega), PureEdges.of_f l hl (by omega), if_neg (by omega), Option.bind_some, Int.toNat_natCast]
  have he := edges_w (there_w hl) b hb (there_sorted hl)
  generalize edges_Of.cut (there l) b = e at *
  rw [wrap_in (by omega) (by omega), if_pos (by omega), if_pos (by omega), show ((e.length : Int) + 2).toNat = e.length + 2 by omega]
  obtain ⟨y, hy, ey⟩ := even_l2 hl he hu.1 hm (by omega) (b : Int) l.length (K - 1 - l.length) 0 _ (by omega) (by omega) (cnt_zero e)
  rw [show K - 1 - l.length + 1 + l.length = K by omega] at ey
  refine Eq.trans ey ?_
  unfold tail2
  rw [wrap_in (i := (b : Int)) (by omega) (by omega), if_neg (by omega), wrap_in (i := (l.length : Int) + b) (by omega) (by omega), wrap_in (i := (l.length : Int) + b - 1) (by omega) (by omega),
    show (l.length : Int) + b - 1 = ((l.length + b - 1 : Nat) : Int) by omega, show Int.tdiv ((l.length + b - 1 : Nat) : Int) (b : Int) = (((l.length + b - 1) / b : Nat) : Int) from rfl]
  have hq : (l.length + b - 1) / b ≤ l.length + b - 1 := Nat.div_le_self _ _
  generalize (l.length + b - 1) / b = M at *
  rw [wrap_in (i := (M : Int)) (by omega) (by omega)]
  have e3 := even_l3 y (M : Int) (by rw [hy.len]; omega) (fun n hn => by
    rw [hy.val n (by rw [← hy.len]; exact hn)]
    exact Int.ofNat_le.2 (hev n)) y.length (K - 1 - l.length - 1 - y.length) 0 (by omega) (by rw [hy.len]; omega)
  have hyl := hy.len
  rw [show K - 1 - l.length - 1 - y.length + 1 + y.length = K - 1 - l.length by omega] at e3
  exact e3
end PureEdgesEven
open PureEdgesEven in
theorem Pure.EdgesEven : hornbeamlaw10_EdgesEven.Pure := by
  rintro l a ⟨hl1, hl2, hw⟩ ha
  have hW := of_w64 hw
  have ha' := wf_u8 ha
  refine ⟨100002, ?_⟩
  unfold hornbeamlaw10_EdgesEven.f
  have fx : hornbeamlaw10_EdgesEven.j0 100002 l a true = some true := by
    rw [show 100002 = 100001 + 1 from rfl, hornbeamlaw10_EdgesEven.j0, if_pos rfl, fixed_t (by omega)]; rfl
  by_cases h : (l.length : Int) > 200
  · rw [if_pos h]; exact fx
  rw [if_neg h]
  by_cases h2 : a < 2
  · rw [decide_eq_true h2]; exact fx
  have hm : (l.map Flt.fbits).length ≤ 200 := by simp; omega
  rw [decide_eq_false h2, show 100002 = 100001 + 1 from rfl, hornbeamlaw10_EdgesEven.j0, if_neg (by decide), PureBin.of_f l (by omega) _ (by omega), Option.bind_some]
  generalize l.map Flt.fbits = s at *
  obtain ⟨b, rfl⟩ : ∃ b : Nat, a = b := ⟨a.toNat, by omega⟩
  have hmul : s.length * (s.length + 2) ≤ 200 * 202 := Nat.mul_le_mul hm (by omega)
  have e0 := even_l0 hW hm (b : Int) s.length (100001 - 1 - s.length * (s.length + 2)) 0 (by omega) (by omega)
  rw [show 100001 - 1 - s.length * (s.length + 2) + 1 + s.length * (s.length + 2) = 100001 by omega] at e0
  rcases e0 with e | ⟨e, hu⟩
  · exact e
  · exact e.trans (tail_t hW (unlike_of hu) hm b (by omega) (by omega) _ (by omega))
end Go.Proofs.Ytlmmlhljflladaa
