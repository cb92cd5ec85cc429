/- Arguments of a law, read as plain data, whatever their types: whole numbers, truth values, floats, texts, structs and slices of these: the cells hold just such values, each within its bounds. -/
import Derived.Deep.Slices
import Derived.SizedLaws
import Derived.OpenShut
import Derived.ShutString
import Derived.Test.YtnagfbadjbkhmaaWWords
namespace Go.Proofs.Ytnagfbadjbkhmaa.Open
open Go.RowKit Go.ChangeShapes Go.WideShapes Go.Deep Go.Proofs.YtnagfbadjbkhmaaW.PrintWords
set_option linter.unusedVariables false

/-- A float's cell: by its bits. -/
def float : Kd Nat := Kd.scalar (Value.float .f64) (fun _ => rfl)

structure Opens (P : Program) {α : Type} (d : Kd α) (t : TypeId) (ok : α → Prop) : Prop where
  mk :: (go : ∀ {H : Type} {enc : TypeId × Value → H} {W : World} {spare : Nat → Bool} {held : Bool} {fuel : Nat} {cs : List Value} {x : DataW H × List MemPlace},
    DataW.trod enc P W 0 spare held fuel t cs = some x → (∀ n ∈ x.1.weights P t, n ≤ 140737488351232) → ∃ a, d.K W a cs ∧ ok a)

section
variable {P : Program}
theorem int_ {t : TypeId} {k : IntKind} (hu : P.underlying t = some (.int k)) : Opens P (Kd.int k) t (fun n => (Lit.int k n).wf = true) := by
  constructor
  intro H enc W spare held fuel cs x h _
  obtain ⟨n, rfl, _, hw⟩ := DataW.trod_int hu h
  exact ⟨n, rfl, hw⟩
theorem bool_ {t : TypeId} (hu : P.underlying t = some .bool) : Opens P Kd.bool t (fun _ => True) := by
  constructor
  intro H enc W spare held fuel cs x h _
  obtain ⟨b, rfl, _⟩ := DataW.trod_bool hu h
  exact ⟨b, rfl, trivial⟩
theorem string_ {t : TypeId} (hu : P.underlying t = some .string) : Opens P Kd.string t (fun s => s.size ≤ 140737488351232) := by
  constructor
  intro H enc W spare held fuel cs x h hw
  obtain ⟨s, rfl, rfl, _⟩ := DataW.trod_string hu h
  refine ⟨s, rfl, ?_⟩
  have := hw s.data.toList.length (by simp [DataW.weights])
  simpa using this
theorem trod_float {H : Type} {enc : TypeId × Value → H} {w : World} {base : Nat} {spare : Nat → Bool} {held : Bool} {fuel : Nat} {t : TypeId} {cs : List Value} {x : DataW H × List MemPlace} {k : FloatKind} (ht : P.underlying t = some (.float k)) (h : DataW.trod enc P w base spare held fuel t cs = some x) :
    ∃ n, cs = [.float k n] ∧ x = (.lit (.float k n), []) ∧ (Lit.float k n).wf = true := by
  cases fuel with
  | zero => simp [DataW.trod] at h
  | succ n =>
    unfold DataW.trod at h
    rw [ht] at h
    split at h <;> simp_all
theorem float_ {t : TypeId} (hu : P.underlying t = some (.float .f64)) : Opens P float t (fun n => (Lit.float .f64 n).wf = true) := by
  constructor
  intro H enc W spare held fuel cs x h _
  obtain ⟨n, rfl, _, hw⟩ := trod_float hu h
  exact ⟨n, rfl, hw⟩
theorem iso_ {α β : Type} {d : Kd α} {f : β → α} {t : TypeId} {ok : α → Prop} (g : α → β) (hg : ∀ a, f (g a) = a) (h : Opens P d t ok) : Opens P (Kd.iso d f) t (fun b => ok (f b)) := by
  constructor
  intro H enc W spare held fuel cs x hx hw
  obtain ⟨a, hk, ho⟩ := h.go hx hw
  exact ⟨g a, (by show d.K W (f (g a)) cs; rw [hg]; exact hk), (by show ok (f (g a)); rw [hg]; exact ho)⟩

theorem weights_all {H : Type} {e : TypeId} {l : List (DataW H)} {d : DataW H} (hd : d ∈ l) : ∀ n ∈ d.weights P e, n ∈ DataW.weightsAll P e l := by
  intro n hn
  induction l with
  | nil => cases hd
  | cons a l ih =>
    rw [DataW.weightsAll, List.mem_append]
    rcases List.mem_cons.1 hd with rfl | hd
    · exact .inl hn
    · exact .inr (ih hd)

theorem cells_get {W : World} {a : Addr} {m : Nat} {cs : List Value} (h : W.cells? 0 a m = some cs) : cs.length = m ∧ ∀ i u, cs[i]? = some u → W.cell? (a.add i) = some u := by
  obtain ⟨_, hl, hc⟩ := World.cells?_some h
  refine ⟨hl, fun i u hu => ?_⟩
  have hi : i < m := by have := (List.getElem?_eq_some_iff.1 hu).1; omega
  rw [hc i hi]; exact hu

theorem slice_ {α : Type} {d : Kd α} {t e : TypeId} {ok : α → Prop} {B : Nat} (hu : P.underlying t = some (.slice e)) (hc : P.cellsOf e = d.sz) (hB : P.bytesOf e = B) (he : Opens P d e ok) :
    Opens P (Kd.slice e d) t (fun xs => xs.length ≤ 9223372036854775807 ∧ xs.length * B ≤ 140737488351232 ∧ ∀ x ∈ xs, ok x) := by
  subst hB
  constructor
  intro H enc W spare held fuel cs x h hw
  rcases open_slice hu h with ⟨rfl, rfl⟩ | ⟨a, len, cap, m, n, D, Pl, rfl, hb, hl, hm, hmm, rfl, hx⟩
  · exact ⟨[], ⟨none, 0, rfl, Nat.le_refl _, rfl, by simp, fun hp => absurd hp (by simp)⟩, by simp, by simp, by simp⟩
  · have hlm : len ≤ m := by rw [hmm]; split <;> omega
    have hcap : cap ≤ 9223372036854775807 := by unfold maxLen at hm; omega
    have h0 := hw ((((List.range len).map D).length + ((List.range (m - len)).map fun j => D (len + j)).length) * P.bytesOf e) (by simp [DataW.weights, hu])
    have each : ∀ i, i < len → ∃ a', (∃ cs', W.cells? 0 (a.add (i * P.cellsOf e)) (P.cellsOf e) = some cs' ∧ d.K W a' cs') ∧ ok a' := fun i hi => by
      obtain ⟨cs', h1, h2⟩ := hx i (by omega)
      obtain ⟨a', hk, ho⟩ := he.go h2 (fun k hk => hw k (by
        simp only [DataW.weights, hu, List.mem_cons, List.mem_append]
        exact .inr (.inl (weights_all (List.mem_map.2 ⟨i, List.mem_range.2 hi, rfl⟩) k hk))))
      exact ⟨a', ⟨cs', h1, hk⟩, ho⟩
    rcases Nat.eq_zero_or_pos len with h00 | hpos
    · subst h00
      refine ⟨[], ⟨some a, cap, rfl, by simp, rfl, by simp, fun hp => absurd hp (by simp)⟩, by simp, by simp, by simp⟩
    haveI : Inhabited α := Classical.inhabited_of_nonempty (let ⟨a', _⟩ := each 0 hpos; ⟨a'⟩)
    obtain ⟨y, hy⟩ := choose_lt each
    refine ⟨(List.range len).map y, ⟨some a, cap, by simp, by simpa using hl, by simp, by simp; omega, fun _ => ⟨a, rfl, fun j p hj => ?_⟩⟩, by simp; omega, ?_, ?_⟩
    · have hjl : j < len := by have := (List.getElem?_eq_some_iff.1 hj).1; simpa using this
      obtain ⟨⟨cs', h1, hk⟩, _⟩ := hy j hjl
      have hp : y j = p := by simpa [hjl] using hj
      subst hp
      obtain ⟨hcl, hcc⟩ := cells_get h1
      refine ⟨cs', hcl.trans hc, hk, fun i u hu' => ?_⟩
      have := hcc i u hu'
      rwa [Deep.add_add, hc] at this
    · simp only [List.length_map, List.length_range] at h0 ⊢
      exact Nat.le_trans (Nat.mul_le_mul_right _ (by omega)) h0
    · intro z hz
      obtain ⟨i, hi, rfl⟩ := List.mem_map.1 hz
      exact (hy i (List.mem_range.1 hi)).2

/-- The fields of a struct, from one on. -/
structure Fields (P : Program) {α : Type} (d : Kd α) (fs : List Field) (off : Nat) (ok : α → Prop) : Prop where
  mk :: (go : ∀ {H : Type} {enc : TypeId × Value → H} {W : World} {spare : Nat → Bool} {held : Bool} {n : Nat} {cs : List Value} {xs : List (DataW H × List MemPlace)},
    cs.length = off + d.sz → xs.length = fs.length → (∀ (i : Nat) (f : Field), fs[i]? = some f → DataW.trod enc P W 0 spare held n f.type ((cs.drop f.offset).take (P.cellsOf f.type)) = xs[i]?) →
    (∀ k ∈ DataW.weightsEach P (fs.map (·.type)) (xs.map (·.1)), k ≤ 140737488351232) → ∃ a, d.K W a (cs.drop off) ∧ ok a)

theorem last_ {α : Type} {d : Kd α} {f : Field} {off : Nat} {ok : α → Prop} (h : Opens P d f.type ok) (ho : f.offset = off) (hs : P.cellsOf f.type = d.sz) : Fields P d [f] off ok := by
  constructor
  intro H enc W spare held n cs xs hl hx hf hw
  obtain ⟨x, rfl⟩ : ∃ x, xs = [x] := by
    cases xs with
    | nil => simp at hx
    | cons a l => exact ⟨a, by cases l <;> simp_all⟩
  have h1 := hf 0 f rfl
  rw [ho, hs, List.take_of_length_le (by simp [hl])] at h1
  exact h.go h1 (fun k hk => hw k (by simpa [DataW.weightsEach] using hk))
theorem more_ {α β : Type} {a : Kd α} {b : Kd β} {f : Field} {fs : List Field} {off : Nat} {ok1 : α → Prop} {ok2 : β → Prop} (h : Opens P a f.type ok1) (ho : f.offset = off) (hs : P.cellsOf f.type = a.sz)
    (hr : Fields P b fs (off + a.sz) ok2) : Fields P (Kd.pair a b) (f :: fs) off (fun p => ok1 p.1 ∧ ok2 p.2) := by
  constructor
  intro H enc W spare held n cs xs hl hx hf hw
  obtain ⟨x, l, rfl⟩ : ∃ x l, xs = x :: l := by
    cases xs with
    | nil => simp at hx
    | cons a l => exact ⟨a, l, rfl⟩
  have hl' : cs.length = off + (a.sz + b.sz) := hl
  have h1 := hf 0 f rfl
  rw [ho, hs] at h1
  simp only [List.map_cons, DataW.weightsEach, List.mem_append] at hw
  obtain ⟨u, hu, hou⟩ := h.go h1 (fun k hk => hw k (.inl hk))
  obtain ⟨v, hv, hov⟩ := hr.go (cs := cs) (xs := l) (by omega) (by simpa using hx) (fun i g hg => by have := hf (i + 1) g (by simpa using hg); simpa using this) (fun k hk => hw k (.inr hk))
  refine ⟨(u, v), ⟨(cs.drop off).take a.sz, cs.drop (off + a.sz), ?_, hu, hv⟩, hou, hov⟩
  rw [← List.drop_drop, List.take_append_drop]
theorem struct_ {α : Type} {d : Kd α} {t : TypeId} {fs : Array Field} {ok : α → Prop} (hu : P.underlying t = some (.struct fs)) (hs : P.cellsOf t = d.sz) (h : Fields P d fs.toList 0 ok) : Opens P d t ok := by
  constructor
  intro H enc W spare held fuel cs x hx hw
  obtain ⟨xs, n, rfl, rfl, hl, hxl, hf⟩ := DataW.trod_struct hu hx
  have := h.go (cs := cs) (xs := xs) (n := n) (by omega) (by simpa using hxl) (fun i f hi => hf i f (by simpa using hi)) (fun k hk => hw k (by simpa [DataW.weights, hu] using hk))
  simpa using this

theorem weights_at {H : Type} {ts : List TypeId} {ds : List (DataW H)} (hsz : (DataW.weightsEach P ts ds).all (· ≤ reachBytes) = true) {j : Nat} {t : TypeId} {d : DataW H} (ht : ts[j]? = some t) (hd : ds[j]? = some d) :
    ∀ n ∈ d.weights P t, n ≤ 140737488351232 := by
  intro n hn
  have := List.all_eq_true.1 hsz _ (DataW.weights_mem_each ht hd n hn)
  exact of_decide_eq_true this

/-- An argument, opened: its value's cells. -/
theorem arg {α : Type} {d : Kd α} {t : TypeId} {ok : α → Prop} (h : Opens P d t ok) {H : Type} {enc : TypeId × Value → H} {W : World} {spare : Nat → Bool} {held : Bool} {v : Value} {x : DataW H} {ps : List MemPlace} {ts : List TypeId} {ds : List (DataW H)} {j : Nat}
    (ht : DataW.Trod enc P W 0 spare held t v x ps) (hsz : (DataW.weightsEach P ts ds).all (· ≤ reachBytes) = true) (hj : ts[j]? = some t) (hd : ds[j]? = some x) : ∃ a, d.K W a v.cells.toList ∧ ok a := by
  obtain ⟨fuel, hf⟩ := ht
  exact h.go hf (weights_at hsz hj hd)
end
end Go.Proofs.Ytnagfbadjbkhmaa.Open
