import Derived.Test.YthdohkabcpdpdaaM0
import Derived.Test.YthdohkabcpdpdaaM5
namespace Go.Proofs.Ythdohkabcpdpdaa.Pure
open Go.RowKit Go.Proofs.Ythdohkabcpdpdaa.M Go.Proofs.YthdohkabcpdpdaaW.PrintWords Go.Proofs.YthdohkabcpdpdaaW.PrintLast Go.Proofs.YthdohkabcpdpdaaW.PrintMore
set_option linter.unusedVariables false
set_option linter.unusedSimpArgs false
theorem wrap_id {x : Int} (h0 : -9223372036854775808 ≤ x) (h1 : x ≤ 9223372036854775807) : wrap64 x = x := by unfold wrap64; omega
theorem Ev.some_ {α : Type} {x : Option α} {r : α} (h : x = some r) : Ev (fun _ => x) r := ⟨0, fun _ _ => h⟩
theorem Ev.bind0 {α β : Type} {x : Option α} {f : Nat → α → Option β} {a : α} {r : β} (h : x = some a) (k : Ev (fun n => f n a) r) : Ev (fun n => x.bind (f n)) r := Ev.bind (Ev.some_ h) k
theorem Ev.pos {α : Type} {c : Prop} [Decidable c] {g f : Nat → Option α} {r : α} (hc : c) (h : Ev g r) : Ev (fun n => if c then g n else f n) r := Ev.congr (fun _ => if_pos hc) h
theorem mod_eq (v n : Int) (h : 1 ≤ n) (hn : n ≤ 9223372036854775807) : payrollgen_Mod.f v n = some (v % n) := by
  have ht : Int.tmod v n = v % n ∨ (Int.tmod v n = v % n - n ∧ v < 0) := by
    rw [Int.tmod_eq_emod]
    split
    · left; omega
    · right; omega
  have h0 := Int.emod_nonneg v (show n ≠ 0 by omega)
  have h1 := Int.emod_lt_of_pos v (show 0 < n by omega)
  unfold payrollgen_Mod.f
  rw [if_neg (by omega)]
  rcases ht with ht | ⟨ht, _⟩
  · rw [if_neg (by omega), ht]
  · rw [if_pos (by omega), wrap_id (by omega) (by omega), ht]; congr 1; omega
def AtOk (s : List Int) (p : Int) : Prop := 0 ≤ p ∧ p ≤ s.length ∧ s.length ≤ 17592186044000
theorem next_ok {s : List Int} {p : Int} (h : AtOk s p) (n : Int) (hn : n ≤ 9223372036854775807) : ∃ v p', payrollgen_Tape_Next.f s p n = some (v, p') ∧ AtOk s p' ∧ 0 ≤ v ∧ (1 ≤ n → v < n) ∧ (n < 1 → v = 0) := by
  obtain ⟨h0, h1, h2⟩ := h
  unfold payrollgen_Tape_Next.f
  by_cases c : n < 1
  · rw [if_pos c]; exact ⟨0, p, rfl, ⟨h0, h1, h2⟩, by omega, by omega, fun _ => rfl⟩
  rw [if_neg c]
  by_cases c2 : p ≥ s.length
  · rw [if_pos c2]; exact ⟨0, p, rfl, ⟨h0, h1, h2⟩, by omega, by omega, fun _ => rfl⟩
  rw [if_neg c2]
  have e1 : wrap64 (p + 1) = p + 1 := wrap_id (by omega) (by omega)
  have e2 : wrap64 (wrap64 (p + 1) - 1) = p := by rw [e1, wrap_id (by omega) (by omega)]; omega
  rw [e2, if_pos h0, if_pos (by omega), mod_eq _ n (by omega) hn]
  simp only [Option.bind_some]
  have h3 := Int.emod_nonneg (rd s p) (show n ≠ 0 by omega)
  have h4 := Int.emod_lt_of_pos (rd s p) (show 0 < n by omega)
  exact ⟨_, _, rfl, ⟨by omega, by omega, h2⟩, h3, fun _ => h4, fun h => by omega⟩
theorem rd_mem (l : List Int) (i : Int) (h0 : 0 ≤ i) (h1 : i < l.length) : rd l i ∈ l := by
  have : i.toNat < l.length := by omega
  unfold rd
  rw [List.getD_eq_getElem?_getD, List.getElem?_eq_getElem this]
  exact List.getElem_mem this
theorem pick_ok {s : List Int} {p : Int} (h : AtOk s p) (l : List Int) (hl : 1 ≤ l.length) (hm : l.length ≤ 1000) : ∃ v p', payrollgen_Tape_Pick.f s p l = some (v, p') ∧ AtOk s p' ∧ v ∈ l := by
  obtain ⟨v, p', e, hp, h0, h1, _⟩ := next_ok h (l.length : Int) (by omega)
  unfold payrollgen_Tape_Pick.f
  rw [e]
  simp only [Option.bind_some]
  have h1 := h1 (by omega)
  rw [if_pos h0, if_pos h1]
  exact ⟨_, _, rfl, hp, rd_mem l v h0 h1⟩
theorem AtOk.new {l : List Int} (h : l.length * 8 ≤ 140737488351232) : AtOk l 0 := ⟨by omega, by omega, by omega⟩
end Go.Proofs.Ythdohkabcpdpdaa.Pure
