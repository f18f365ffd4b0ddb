import Derived.Test.YthdohkabcpdpdaaM0
namespace Go.Proofs.Ythdohkabcpdpdaa.M
open Go.RowKit Go.Proofs.YthdohkabcpdpdaaW.PrintWords Go.Proofs.YthdohkabcpdpdaaW.PrintLast Go.Proofs.YthdohkabcpdpdaaW.PrintMore
attribute [local go_sem] max2_int min2_int max_two min_two max_three min_three max_four min_four   -- for this text's walks alone
set_option linter.unusedVariables false
set_option linter.unusedSimpArgs false
def Opens {α : Type} (P : Program) (d : Kd α) (t : TypeId) : Prop :=
  P.cellsOf t = d.sz ∧ ∀ {H : Type} (enc : TypeId × Value → H) (w : World) (base : Nat) (sp : Nat → Bool) (held : Bool) (fuel : Nat) (cs : List Value) (x : DataW H × List MemPlace), DataW.trod enc P w base sp held fuel t cs = some x → ∃ a : α, d.K w a cs
theorem Opens.int {P : Program} {t : TypeId} {k : IntKind} (ht : P.underlying t = some (.int k)) (hc : P.cellsOf t = 1) : Opens P (Kd.int k) t := by
  refine ⟨hc, fun enc w base sp held fuel cs x h => ?_⟩
  obtain ⟨n, rfl, _, _⟩ := DataW.trod_int ht h
  exact ⟨n, rfl⟩
theorem Opens.bool {P : Program} {t : TypeId} (ht : P.underlying t = some .bool) (hc : P.cellsOf t = 1) : Opens P Kd.bool t := by
  refine ⟨hc, fun enc w base sp held fuel cs x h => ?_⟩
  obtain ⟨n, rfl, _⟩ := DataW.trod_bool ht h
  exact ⟨n, rfl⟩
theorem Opens.string {P : Program} {t : TypeId} (ht : P.underlying t = some .string) (hc : P.cellsOf t = 1) : Opens P Kd.string t := by
  refine ⟨hc, fun enc w base sp held fuel cs x h => ?_⟩
  obtain ⟨n, rfl, _, _⟩ := DataW.trod_string ht h
  exact ⟨n, rfl⟩
theorem list_of_each {α : Type} {R : Nat → α → Prop} : ∀ n : Nat, (∀ i, i < n → ∃ a, R i a) → ∃ l : List α, l.length = n ∧ ∀ i a, l[i]? = some a → R i a
  | 0, _ => ⟨[], rfl, fun i a h => by simp at h⟩
  | n + 1, h => by
    obtain ⟨l, hl, hr⟩ := list_of_each n (fun i hi => h i (by omega))
    obtain ⟨a, ha⟩ := h n (by omega)
    refine ⟨l ++ [a], by simp [hl], fun i b hb => ?_⟩
    rcases Nat.lt_or_ge i l.length with hi | hi
    · rw [List.getElem?_append_left hi] at hb; exact hr i b hb
    · rw [List.getElem?_append_right hi] at hb
      have : i - l.length = 0 := by
        rcases Nat.eq_zero_or_pos (i - l.length) with h0 | h0
        · exact h0
        · rw [List.getElem?_eq_none (by simp; omega)] at hb; cases hb
      rw [this] at hb
      simp at hb
      subst hb
      rw [show i = n by omega]; exact ha
theorem cells_each {w : World} {base : Nat} {a : Addr} {n : Nat} {cs : List Value} (h : w.cells? base a n = some cs) : cs.length = n ∧ ∀ i u, cs[i]? = some u → w.cell? (a.add i) = some u := by
  unfold World.cells? at h
  split at h
  · refine ⟨by simpa using mapM_some_length h, fun i u hu => ?_⟩
    have hl := mapM_some_length h
    have hi : i < n := by
      have := (List.getElem?_eq_some_iff.1 hu).1
      rw [List.length_range] at hl; omega
    have := mapM_some_get h i i (by simp [hi])
    rw [this, hu]
  · cases h
theorem addr_add_add (a : Addr) (m j : Nat) : (a.add m).add j = a.add (m + j) := by
  unfold Addr.add
  split <;> split <;> simp_all <;> omega
theorem Opens.row {α : Type} {P : Program} {d : Kd α} {t e : TypeId} (ht : P.underlying t = some (.slice e)) (hd : Opens P d e) {H : Type} (enc : TypeId × Value → H) (w : World) (base : Nat) (sp : Nat → Bool) (held : Bool) (fuel : Nat) (cs : List Value) (x : DataW H × List MemPlace) (h : DataW.trod enc P w base sp held fuel t cs = some x) :
    ∃ (xs : List α) (A : Option Addr) (c : Nat), cs = [.slice A xs.length c] ∧ xs.length ≤ c ∧ d.C w A xs.length xs := by
  rcases DataW.trod_slice ht h with ⟨rfl, _⟩ | ⟨a, len, cap, elems, rest, n, rfl, rfl, _, hb, hl, hm, hel, hcell, _, _⟩
  · exact ⟨[], none, 0, rfl, Nat.le_refl _, rfl, Nat.zero_le _, fun hp => absurd hp (by simp)⟩
  · obtain ⟨xs, hxl, hx⟩ := list_of_each (R := fun i (p : α) => ∃ c : List Value, c.length = d.sz ∧ d.K w p c ∧ ∀ j u, c[j]? = some u → w.cell? (a.add (i * d.sz + j)) = some u) len (fun i hi => by
      have h1 := hcell i hi
      have h2 : elems[i]? = some (elems[i]'(by omega)) := List.getElem?_eq_getElem (by omega)
      rw [h2, Option.bind_eq_some_iff] at h1
      obtain ⟨cs', hcs, htr⟩ := h1
      obtain ⟨p, hp⟩ := hd.2 enc w base sp held n cs' _ htr
      obtain ⟨hc1, hc2⟩ := cells_each hcs
      rw [hd.1] at hc1 hc2
      refine ⟨p, cs', hc1, hp, fun j u hu => ?_⟩
      rw [← addr_add_add]
      exact hc2 j u hu)
    subst hxl
    refine ⟨xs, some a, cap, rfl, hl, rfl, ?_, fun hp => ⟨a, rfl, fun j p hj => hx j p hj⟩⟩
    unfold maxLen at hm; omega
theorem Opens.slice {α : Type} {P : Program} {d : Kd α} {t e : TypeId} (ht : P.underlying t = some (.slice e)) (hc : P.cellsOf t = 1) (hd : Opens P d e) : Opens P (Kd.slice e d) t := by
  refine ⟨hc, fun enc w base sp held fuel cs x h => ?_⟩
  obtain ⟨xs, A, c, h1, h2, h3⟩ := Opens.row ht hd enc w base sp held fuel cs x h
  exact ⟨xs, A, c, h1, h2, h3⟩
def OpensF {α : Type} (P : Program) (d : Kd α) (fs : List Field) (o : Nat) : Prop :=
  ∀ {H : Type} (enc : TypeId × Value → H) (w : World) (base : Nat) (sp : Nat → Bool) (held : Bool) (n : Nat) (cs : List Value), (∀ f ∈ fs, ∃ x : DataW H × List MemPlace, DataW.trod enc P w base sp held n f.type ((cs.drop f.offset).take (P.cellsOf f.type)) = some x) → cs.length = o + d.sz → ∃ a : α, d.K w a (cs.drop o)
theorem OpensF.last {α : Type} {P : Program} {d : Kd α} {f : Field} {o : Nat} (ho : f.offset = o) (hd : Opens P d f.type) : OpensF P d [f] o := by
  intro H enc w base sp held n cs hf hl
  obtain ⟨x, hx⟩ := hf f (by simp)
  rw [ho, hd.1, List.take_of_length_le (by simp; omega)] at hx
  exact hd.2 enc w base sp held n _ x hx
theorem OpensF.cons {α β : Type} {P : Program} {d : Kd α} {d' : Kd β} {f : Field} {fs : List Field} {o : Nat} (ho : f.offset = o) (hd : Opens P d f.type) (hr : OpensF P d' fs (o + d.sz)) : OpensF P (Kd.pair d d') (f :: fs) o := by
  intro H enc w base sp held n cs hf hl
  have hl' : cs.length = o + (d.sz + d'.sz) := hl
  obtain ⟨x, hx⟩ := hf f (by simp)
  rw [ho, hd.1] at hx
  obtain ⟨a, ha⟩ := hd.2 enc w base sp held n _ x hx
  obtain ⟨b, hb⟩ := hr enc w base sp held n cs (fun f hf' => hf f (by simp [hf'])) (by omega)
  refine ⟨(a, b), (cs.drop o).take d.sz, cs.drop (o + d.sz), ?_, ha, hb⟩
  rw [← List.drop_drop, List.take_append_drop]
theorem Opens.struct {α β : Type} {P : Program} {d : Kd α} {t : TypeId} {fs : Array Field} {f : β → α} (g : α → β) (hg : ∀ a, f (g a) = a) (ht : P.underlying t = some (.struct fs)) (hc : P.cellsOf t = d.sz) (hf : OpensF P d fs.toList 0) : Opens P (Kd.iso d f) t := by
  refine ⟨hc, fun enc w base sp held fuel cs x h => ?_⟩
  obtain ⟨xs, n, _, _, hlen, hsz, hall⟩ := DataW.trod_struct ht h
  obtain ⟨a, ha⟩ := hf enc w base sp held n cs (fun q hq => by
    obtain ⟨i, hi, rfl⟩ := List.getElem_of_mem hq
    have h2 := hall i _ (by rw [← Array.getElem?_toList]; exact List.getElem?_eq_getElem hi)
    have h3 : xs[i]? = some (xs[i]'(by rw [hsz]; simpa using hi)) := List.getElem?_eq_getElem _
    rw [h3] at h2
    exact ⟨_, h2⟩) (by rw [hlen, hc]; omega)
  refine ⟨g a, ?_⟩
  show d.K w (f (g a)) cs
  rw [hg]; exact ha
end Go.Proofs.Ythdohkabcpdpdaa.M
