-- Written for this claim by a program of this session (hybrid.py) over the kit's print. Not trusted: Lean checks it.
import Derived.Test.YtbncjlapmomlkaaP0
namespace Go.Proofs.Ytbncjlapmomlkaa.P
open Go.RowKit Go.Proofs.YtbncjlapmomlkaaW.PrintWords Go.Proofs.YtbncjlapmomlkaaW.PrintLast Go.Proofs.YtbncjlapmomlkaaW.PrintMore
attribute [local go_sem] max2_int min2_int max_two min_two max_three min_three max_four min_four   -- for this text's walks alone
set_option linter.unusedVariables false
set_option linter.unusedSimpArgs false

-- (given)
/-- Blocks of other types than these are as they were. -/
def KeepT (w w' : World) (ts : List Nat) : Prop := w.heap.size ≤ w'.heap.size ∧ ∀ (k : Nat) (cs : Array Value) (t : Nat) (fr : Nat × Nat), w.heap[k]? = some (Obj.cells cs t fr) → t ∉ ts → w'.heap[k]? = w.heap[k]?
theorem KeepT.refl (w : World) (ts : List Nat) : KeepT w w ts := ⟨Nat.le_refl _, fun _ _ _ _ _ _ => rfl⟩
theorem KeepT.trans {w w1 w2 : World} {ts : List Nat} (h : KeepT w w1 ts) (k : KeepT w1 w2 ts) : KeepT w w2 ts :=
  ⟨Nat.le_trans h.1 k.1, fun i cs t fr hi ht => (k.2 i cs t fr ((h.2 i cs t fr hi ht).trans hi) ht).trans (h.2 i cs t fr hi ht)⟩
theorem KeepT.below {w w1 w2 : World} {ts : List Nat} (h : KeepT w w1 ts) (hb : Below w1.heap.size w1 w2) : KeepT w w2 ts :=
  h.trans ⟨hb.size, fun k _ _ _ hk _ => hb.block k (blk_lt hk)⟩
theorem KeepT.alloc {w w1 : World} {ts : List Nat} (h : KeepT w w1 ts) (o : Obj) : KeepT w (w1.alloc o) ts := h.below (below_alloc (Below.refl _ _) o)
theorem KeepT.drew {w w1 : World} {ts : List Nat} (h : KeepT w w1 ts) : KeepT w w1.drew ts := h.below (below_drew (Below.refl _ _))
theorem KeepT.drewN {w w1 : World} {ts : List Nat} (h : KeepT w w1 ts) (n : Nat) : KeepT w (w1.drewN n) ts := h.below (pw_below_drewN (Below.refl _ _) n)
theorem KeepT.grown {w w1 w2 : World} {ts : List Nat} {row : Option Nat} {e : Nat} (h : KeepT w w1 ts) (hg : w1.grownBy w2 row) (hty : ∀ k, row = some k → ∃ cells, w1.heap[k]? = some (Obj.cells cells e (0, 0))) (he : e ∈ ts) : KeepT w w2 ts :=
  h.trans ⟨hg.size, fun k cs t fr hk ht => hg.block k (blk_lt hk) (fun hr => by
    obtain ⟨cells, hc⟩ := hty k hr.symm
    rw [hk] at hc
    injection hc with hc
    injection hc with _ hc
    subst hc
    exact ht he)⟩
theorem KeepT.set {w w1 : World} {ts : List Nat} {g : Nat} {cs : Array Value} {t : Nat} {fr : Nat × Nat} (h : KeepT w w1 ts) (hb : w1.heap[g]? = some (Obj.cells cs t fr)) (ht : t ∈ ts) (j : Nat) (u : Value) : KeepT w (w1.setCell ⟨g, j, none⟩ u) ts := by
  refine h.trans ⟨Nat.le_of_eq (by simp), fun k cs' t' fr' hk ht' => ?_⟩
  refine Below.heap_setCell w1 ⟨g, j, none⟩ u k ?_
  rintro rfl
  rw [hk] at hb
  injection hb with hb
  injection hb with _ hb
  subst hb
  exact ht' ht
theorem KeepT.blk {w w' : World} {ts : List Nat} {k : Nat} {cs : Array Value} {t : Nat} {fr : Nat × Nat} (h : KeepT w w' ts) (hk : w.heap[k]? = some (Obj.cells cs t fr)) (ht : t ∉ ts) : w'.heap[k]? = some (Obj.cells cs t fr) := (h.2 k cs t fr hk ht).trans hk
theorem KeepT.more {w w' : World} {ts ts' : List Nat} (h : KeepT w w' ts) (hs : ∀ t, t ∈ ts → t ∈ ts') : KeepT w w' ts' := ⟨h.1, fun k cs t fr hk ht => h.2 k cs t fr hk (fun h2 => ht (hs t h2))⟩

end Go.Proofs.Ytbncjlapmomlkaa.P
