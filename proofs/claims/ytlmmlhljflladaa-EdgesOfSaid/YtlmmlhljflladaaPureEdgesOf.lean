import Derived.Test.YtlmmlhljflladaaPureEdges
import Derived.Test.YtlmmlhljflladaaPAx20
import Derived.Test.YtlmmlhljflladaaPAx18
namespace Go.Proofs.Ytlmmlhljflladaa
open Go.RowKit Go.Proofs.YtlmmlhljflladaaW.PrintWords Go.Proofs.YtlmmlhljflladaaW.PrintLast Go.Proofs.YtlmmlhljflladaaW.PrintMore Go.Proofs.Ytlmmlhljflladaa.Pure Go.Proofs.Ytlmmlhljflladaa.PureFlt Go.Proofs.Ytlmmlhljflladaa.PureRank Go.Proofs.Ytlmmlhljflladaa.PureBin Go.Proofs.Ytlmmlhljflladaa.PureSort Go.Proofs.Ytlmmlhljflladaa.PureEdges Go.Proofs.Ytlmmlhljflladaa.PA
set_option linter.unusedVariables false
set_option linter.unusedSimpArgs false
namespace PureEdgesOf
/-- The document's: those that are there. -/
theorem there_l0 (r : List Nat) (hl : r.length ≤ 1000) : ∀ (d k i : Nat) (acc : List Nat), i + d = r.length → d < k → acc.length ≤ i → hornbeamref10_There.l0 k acc r i = some (acc ++ (r.drop i).filter fun x => !decide (nan x)) := by
  intro d
  induction d with
  | zero =>
    intro k i acc h1 h2 h3
    obtain ⟨k, rfl⟩ : ∃ m, k = m + 1 := ⟨k - 1, by omega⟩
    rw [hornbeamref10_There.l0, if_neg (by omega), List.drop_eq_nil_of_le (by omega)]; simp
  | succ d ih =>
    intro k i acc h1 h2 h3
    obtain ⟨k, rfl⟩ : ∃ m, k = m + 1 := ⟨k - 1, by omega⟩
    have hi : i < r.length := by omega
    rw [hornbeamref10_There.l0, if_pos (by omega), if_pos (by omega), rdf r i hi, ref_missing, Option.bind_some, wrap_in (by omega) (by omega), show ((i : Int) + 1) = ((i + 1 : Nat) : Int) by omega,
      show r.drop i = _ from List.drop_eq_getElem_cons hi]
    by_cases n : nan r[i]
    · rw [if_pos (decide_eq_true n), ih k (i + 1) acc (by omega) (by omega) (by omega), List.filter_cons_of_neg (by simpa using n)]
    · rw [if_neg (by simpa using n), if_pos (by omega), ih k (i + 1) _ (by omega) (by omega) (by simp; omega), List.filter_cons_of_pos (by simpa using n), List.append_assoc, List.singleton_append]
theorem ref_there (l : List Nat) (hl : W64 l) (hm : l.length ≤ 300) (k : Nat) (hk : l.length * 400 + 10 < k) : hornbeamref10_There.f k l = some (there l) := by
  obtain ⟨r, e, h1, h2, h3⟩ := ref_sort l hl hm k hk
  unfold hornbeamref10_There.f
  have hr : r.length = l.length := by rw [h2.length_eq]; simp
  rw [e, Option.bind_some]
  have := there_l0 r (by omega) r.length k 0 [] (by omega) (by omega) (by simp)
  unfold there
  rw [sorts_same l hl r h1 h2 h3]
  simpa using this
theorem of_l1 (bins q n : Nat) (s out : List Nat) (hb : 2 ≤ bins) (hb2 : bins ≤ 256) (hq : q < bins) (hn : n ≤ 1000) : ∀ (d k i : Nat), i + d = q * n / bins → hornbeamref10_Of.l1 (k + d) bins out s n q i = hornbeamref10_Of.l1 k bins out s n q (q * n / bins : Nat) := by
  intro d
  have hmul : q * n ≤ 256 * 1000 := Nat.mul_le_mul (by omega) hn
  induction d with
  | zero => intro k i h; rw [show i = q * n / bins by omega]; rfl
  | succ d ih =>
    intro k i h
    rw [show k + (d + 1) = (k + d) + 1 by omega, hornbeamref10_Of.l1]
    have h1 : (i + 1) * bins ≤ q * n := by
      have : i + 1 ≤ q * n / bins := by omega
      exact (Nat.le_div_iff_mul_le (by omega)).1 this
    have hi1 : i + 1 ≤ q * n := Nat.le_trans (show i + 1 ≤ q * n / bins by omega) (Nat.div_le_self _ _)
    have e1 : wrap64 (wrap64 ((i : Int) + 1) * (bins : Int)) = (((i + 1) * bins : Nat) : Int) := by
      rw [wrap_in (i := (i : Int) + 1) (by omega) (by omega), show ((i : Int) + 1) = ((i + 1 : Nat) : Int) by omega, ← Int.natCast_mul, wrap_in (by omega) (by omega)]
    have e2 : wrap64 ((q : Int) * (n : Int)) = ((q * n : Nat) : Int) := by rw [← Int.natCast_mul, wrap_in (by omega) (by omega)]
    rw [e1, e2, if_pos (by omega), wrap_in (by omega) (by omega), show ((i : Int) + 1) = ((i + 1 : Nat) : Int) by omega, ih k (i + 1) (by omega)]
theorem of_l0 {s : List Nat} (hw : W64 s) (hs : s.Pairwise le) (h0 : 0 < s.length) (hn : s.length ≤ 1000) (bins : Nat) (hb : 2 ≤ bins) (hb2 : bins ≤ 256) : ∀ (d k q : Nat), q + 1 + d = bins → d * 1010 + 10 < k →
    hornbeamref10_Of.l0 k bins (edges_Of.run s ((FPlaces.places s.length bins h0).take q)).2 s s.length ((q + 1 : Nat) : Int) = some (edges_Of.cut s bins) := by
  intro d
  induction d with
  | zero =>
    intro k q h1 h2
    obtain ⟨k, rfl⟩ : ∃ m, k = m + 1 + 1 := ⟨k - 2, by omega⟩
    rw [hornbeamref10_Of.l0, if_neg (by omega), hornbeamref10_Of.j2, if_neg (by decide)]
    unfold edges_Of.cut
    rw [dif_pos h0, List.take_of_length_le (by rw [FPlaces.places_len]; omega)]
  | succ d ih =>
    intro k q h1 h2
    have hq : q + 1 < bins := by omega
    have hlt := pl_lt (n := s.length) h0 hq
    have l1 := of_l1 bins (q + 1) s.length s
    obtain ⟨x, hx, e⟩ := FPlaces.places_get s.length bins h0 q hq
    have hmul : (q + 1) * s.length ≤ 256000 := Nat.le_trans (Nat.mul_le_mul (show q + 1 ≤ 256 by omega) hn) (by decide)
    have hgt := Nat.lt_mul_div_succ ((q + 1) * s.length) (show 0 < bins by omega)
    generalize hat : (q + 1) * s.length / bins = at_ at *
    rw [Nat.mul_comm bins (at_ + 1)] at hgt
    obtain ⟨k, rfl⟩ : ∃ m, k = m + 1 + at_ + 1 + 1 := ⟨k - (1 + at_ + 1 + 1), by omega⟩
    have I := inv_at hw hs h0 (bins := bins) q (by omega)
    have h4 : at_ < 1000 := Nat.lt_of_lt_of_le hlt hn
    have hk' : d * 1010 + 10 < k := by
      rw [Nat.succ_mul] at h2
      generalize d * 1010 = dd at h2 ⊢
      clear hat hgt hmul hlt ih l1 I e
      omega
    have hk3 : 3 < k := by clear h2 hat hgt hmul hlt ih l1 I e; omega
    clear h2
    have nxt := ih k (q + 1) (by clear hat hgt hmul; omega) hk'
    rw [e, edges_Of.run_snoc, hx] at nxt
    generalize edges_Of.run s ((FPlaces.places s.length bins h0).take q) = z at *
    rw [hornbeamref10_Of.l0, if_pos (by omega), hornbeamref10_Of.j2, decide_eq_true (show ((s.length : Nat) : Int) > 0 by omega), if_pos rfl]
    refine Eq.trans (l1 z.2 hb hb2 hq hn at_ (k + 1) 0 (by omega)) ?_
    have hbm : (at_ + 1) * bins ≤ 256256 := Nat.le_trans (Nat.mul_le_mul (show at_ + 1 ≤ 1001 by omega) hb2) (by decide)
    have e1 : wrap64 (wrap64 ((at_ : Int) + 1) * (bins : Int)) = (((at_ + 1) * bins : Nat) : Int) := by
      rw [wrap_in (i := (at_ : Int) + 1) (by omega) (by omega), show ((at_ : Int) + 1) = ((at_ + 1 : Nat) : Int) by omega, ← Int.natCast_mul, wrap_in (by omega) (by omega)]
    have e2 : wrap64 (((q + 1 : Nat) : Int) * (s.length : Int)) = (((q + 1) * s.length : Nat) : Int) := by rw [← Int.natCast_mul, wrap_in (by omega) (by omega)]
    have r0 : rdOf (0 : Nat) s 0 = s.getD 0 0 := PureSort.rdd s 0
    have hlast : z.2.length ≤ q := I.len
    have hle : ¬ ((((at_ + 1) * bins : Nat) : Int) ≤ (((q + 1) * s.length : Nat) : Int)) := fun hh => by have := Int.ofNat_le.1 hh; exact absurd hgt (Nat.not_lt.2 this)
    clear hat hgt hmul hbm
    rw [hornbeamref10_Of.l1, e1, e2, if_neg hle, if_pos (by omega), if_pos (by omega), if_pos (by omega), r0, PureSort.rdd s at_, ref_cmp' (PureSort.getD_w hw _) (PureSort.getD_w hw _) (by omega), Option.bind_some]
    have wr : wrap64 (((q + 1 : Nat) : Int) + 1) = ((q + 1 + 1 : Nat) : Int) := by rw [wrap_in (by omega) (by omega)]; omega
    rw [wr]
    clear wr e1 e2 hle r0
    have hzw : z.1 < 18446744073709551616 := by
      obtain ⟨t, _, e⟩ := I.place
      rw [e]; exact PureSort.getD_w hw _
    have hz0 : key (s.getD 0 0) ≤ key z.1 := by
      obtain ⟨t, ht, e⟩ := I.place
      rw [e]; exact sorted_key hs (Nat.zero_le _) (pl_lt h0 (by omega))
    unfold edges_Of.step at nxt
    by_cases c : SortF.cf (s.getD at_ 0) z.1 > 0
    · rw [if_pos c] at nxt
      dsimp only at nxt
      have hk := (cf_pos (PureSort.getD_w hw _) hzw).1 c
      rw [if_pos (PureSort.cmp_pos.2 (by omega))]
      rcases I.last with ⟨e3, e4⟩ | ⟨pre, e3⟩
      · rw [if_pos (by rw [e3]; rfl), if_pos (by omega)]; rw [nxt]
      · have hpl : z.2.length = pre.length + 1 := by rw [e3]; simp
        have hrd : rdOf (0 : Nat) z.2 (wrap64 ((z.2.length : Int) - 1)) = z.1 := by
          rw [wrap_in (by omega) (by omega), show ((z.2.length : Int) - 1) = ((pre.length : Nat) : Int) by omega, PureSort.rdd z.2 pre.length, e3]; simp
        rw [if_neg (by omega), if_pos (by rw [wrap_in (by omega) (by omega)]; omega), if_pos (by rw [wrap_in (by omega) (by omega)]; omega), hrd, ref_cmp' (PureSort.getD_w hw _) hzw (by omega), Option.bind_some, if_pos (PureSort.cmp_pos.2 hk), if_pos (by omega)]
        rw [nxt]
    · rw [if_neg c] at nxt
      have hk : ¬ key z.1 < key (s.getD at_ 0) := fun hh => c ((cf_pos (PureSort.getD_w hw _) hzw).2 hh)
      by_cases c0 : cmp (s.getD at_ 0) (s.getD 0 0) > 0
      · rw [if_pos c0]
        have := PureSort.cmp_pos.1 c0
        rcases I.last with ⟨e3, e4⟩ | ⟨pre, e3⟩
        · rw [e4] at hk; omega
        · have hpl : z.2.length = pre.length + 1 := by rw [e3]; simp
          have hrd : rdOf (0 : Nat) z.2 (wrap64 ((z.2.length : Int) - 1)) = z.1 := by
            rw [wrap_in (by omega) (by omega), show ((z.2.length : Int) - 1) = ((pre.length : Nat) : Int) by omega, PureSort.rdd z.2 pre.length, e3]; simp
          rw [if_neg (by omega), if_pos (by rw [wrap_in (by omega) (by omega)]; omega), if_pos (by rw [wrap_in (by omega) (by omega)]; omega), hrd, ref_cmp' (PureSort.getD_w hw _) hzw (by omega), Option.bind_some, if_neg (fun hh => hk (PureSort.cmp_pos.1 hh))]
          rw [nxt]
      · rw [if_neg c0]; rw [nxt]
theorem ref_of (l : List Nat) (hl : W64 l) (hm : l.length ≤ 200) (a1 : Int) (k : Nat) (hk : 400000 ≤ k) : hornbeamref10_Of.f k l a1 = some (if a1 < 2 ∨ 256 < a1 then [] else edges_Of.cut (there l) a1.toNat) := by
  obtain ⟨k, rfl⟩ : ∃ m, k = m + 1 := ⟨k - 1, by omega⟩
  unfold hornbeamref10_Of.f
  rw [Option.bind_some]
  by_cases h1 : a1 < 2
  · rw [if_pos h1, if_pos (.inl h1), hornbeamref10_Of.j0, if_pos rfl]
  rw [if_neg h1]
  by_cases h2 : a1 > 256
  · rw [decide_eq_true h2, if_pos (.inr (by omega)), hornbeamref10_Of.j0, if_pos rfl]
  rw [decide_eq_false h2, if_neg (by omega), hornbeamref10_Of.j0, if_neg (by decide), ref_there l hl (by omega) k (by omega), Option.bind_some]
  have hlen := there_len hl
  obtain ⟨b, rfl⟩ : ∃ b : Nat, a1 = b := ⟨a1.toNat, by omega⟩
  rw [Int.toNat_natCast]
  rcases Nat.eq_zero_or_pos (there l).length with h | h
  · obtain ⟨k, rfl⟩ : ∃ m, k = m + 1 + 1 := ⟨k - 2, by omega⟩
    rw [cut_nil h, hornbeamref10_Of.l0, if_pos (by omega), hornbeamref10_Of.j2, decide_eq_false (by omega), if_neg (by decide)]
  · have hf : (b - 1) * 1010 ≤ 256 * 1010 := Nat.mul_le_mul (by omega) (Nat.le_refl _)
    exact of_l0 (there_w hl) (there_sorted hl) h (by omega) b (by omega) (by omega) (b - 1) k 0 (by omega) (by omega)
end PureEdgesOf
open PureEdgesOf PureRight in
theorem Pure.EdgesOf : hornbeamlaw10_EdgesOf.Pure := by
  rintro l a ⟨hl1, hl2, hw⟩ ha
  have hW := of_w64 hw
  refine ⟨400000, ?_⟩
  unfold hornbeamlaw10_EdgesOf.f
  by_cases h : (l.length : Int) > 200
  · rw [if_pos h, fixed_t (by omega)]; rfl
  have hm : (l.map Flt.fbits).length ≤ 200 := by simp; omega
  rw [if_neg h, PureBin.of_f l (by omega) _ (by omega), Option.bind_some, PureEdges.of_f _ hW (by omega), Option.bind_some, fixed_t (by omega), Option.bind_some, if_pos rfl, ref_of _ hW hm a _ (by omega), Option.bind_some]
  have key_ : ∀ e : List Nat, e.length ≤ 255 → W64 e → rightT e e.length 0 = true → ((hornbeamref06_Same.f 400000 e e).bind fun t364 => if t364 = true then (edges_Right.f 400000 e).bind fun t365 => if t365 = true then (some (l.map Flt.fbits)).bind fun t366 => (hornbeamref06_Same.f 400000 (l.map Flt.fbits) t366).bind fun t369 => some t369 else some false else some false) = some true := by
    intro e h1 h2 h3
    rw [same_self e (by omega) _ (by omega), Option.bind_some, if_pos rfl, right_f e h2 (by omega) _ (by omega), Option.bind_some, h3, decide_eq_true (by omega)]
    simp only [Bool.and_self, if_true, Option.bind_some]
    rw [same_self _ (by omega) _ (by omega)]; rfl
  by_cases hc : a < 2 ∨ 256 < a
  · rw [if_pos hc]; exact key_ [] (by simp) (fun x hx => (by cases hx)) rfl
  · rw [if_neg hc]
    have hr := cut_right hW (bins := a.toNat) (by omega)
    exact key_ _ (by omega) (edges_w (there_w hW) _ (by omega) (there_sorted hW)) hr.1
end Go.Proofs.Ytlmmlhljflladaa
