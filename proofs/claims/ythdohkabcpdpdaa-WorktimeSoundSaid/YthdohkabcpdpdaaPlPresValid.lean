import Derived.Test.YthdohkabcpdpdaaP0
import Derived.Test.YthdohkabcpdpdaaP7
import Derived.Test.YthdohkabcpdpdaaPlGen
import Derived.Test.YthdohkabcpdpdaaPlPresGen
namespace Go.Proofs.Ythdohkabcpdpdaa.Pure
open Go.RowKit Go.Proofs.Ythdohkabcpdpdaa.P Go.Proofs.YthdohkabcpdpdaaW.PrintWords Go.Proofs.YthdohkabcpdpdaaW.PrintLast Go.Proofs.YthdohkabcpdpdaaW.PrintMore
set_option linter.unusedVariables false
set_option linter.unusedSimpArgs false
theorem Ev.det {α : Type} {g : Nat → Option α} {a b : α} (h1 : Ev g a) (h2 : Ev g b) : a = b := by
  obtain ⟨k1, h1⟩ := h1
  obtain ⟨k2, h2⟩ := h2
  have e1 := h1 (k1 + k2) (by omega)
  rw [h2 (k1 + k2) (by omega)] at e1
  exact (Option.some.inj e1).symm
theorem rdT_at (l : List S48) (i : Nat) (h : i < l.length) : rd_T48 l (i : Int) = l[i] := by
  unfold rd_T48
  rw [Int.toNat_natCast, List.getD_eq_getElem?_getD, List.getElem?_eq_getElem h]; rfl
theorem rdIv_at (l : List S41) (i : Nat) (h : i < l.length) : rd_T41 l (i : Int) = l[i] := by
  unfold rd_T41
  rw [Int.toNat_natCast, List.getD_eq_getElem?_getD, List.getElem?_eq_getElem h]; rfl
theorem ordered_loop (l : List S41) (hl : l.length ≤ 1024) (d : Nat) : ∀ (i : Nat) (a e : Int), i + d = l.length → BrOk a e (l.drop i) → Ev (fun k => presence_ordered.l0 k l a e l (l.length : Int) (i : Int)) true := by
  induction d with
  | zero =>
    intro i a e hi h
    refine Ev.step (f := fun _ => some true) (fun k => ?_) (Ev.now _)
    simp only [presence_ordered.l0]
    rw [if_neg (by omega), decide_eq_true (by omega)]
  | succ d ih =>
    intro i a e hi h
    have hil : i < l.length := by omega
    rw [List.drop_eq_getElem_cons hil] at h
    obtain ⟨h1, h2, h3⟩ := h
    have h4 := h3.le
    have w : wrap64 ((i : Int) + 1) = ((i + 1 : Nat) : Int) := by rw [wrap_id (by omega) (by omega)]; rfl
    refine Ev.step (fun k => ?_) (ih (i + 1) _ e (by omega) h3)
    simp only [presence_ordered.l0]
    rw[if_pos (by omega),if_pos (by omega),if_pos (by omega),rdIv_at l i hil,if_neg (by omega),if_neg (by omega),if_neg (by omega),w]
theorem ordered_ev {l : List S41} {a e : Int} (hl : l.length ≤ 1024) (h : BrOk a e l) : Ev (fun k => presence_ordered.f k l a e) true := ordered_loop l hl l.length 0 a e (by omega) (by simpa using h)
theorem valid_loop (l : List S48) (hl : l.length ≤ 1024) (M e : Int) (he : e ≤ 120968640) (d : Nat) : ∀ (i : Nat) (a : Int), i + d = l.length → PresOk M 1000 a e (l.drop i) → Ev (fun k => presence_Valid.l0 k a l (l.length : Int) (i : Int)) 0 := by
  induction d with
  | zero =>
    intro i a hi h
    refine Ev.step (f := fun _ => some 0) (fun k => ?_) (Ev.now _)
    simp only [presence_Valid.l0]
    rw [if_neg (by omega)]
  | succ d ih =>
    intro i a hi h
    have hil : i < l.length := by omega
    rw [List.drop_eq_getElem_cons hil] at h
    obtain ⟨h1, h2, h3, h4, h5, h6⟩ := h
    have h7 := h6.le
    have w : wrap64 ((i : Int) + 1) = ((i + 1 : Nat) : Int) := by rw [wrap_id (by omega) (by omega)]; rfl
    have o1:Ev (fun k=>presence_ordered.f k [(⟨l[i].f0.f0,l[i].f0.f1⟩:S41)] a 120968640) true:=ordered_ev (by simp) ⟨h1,h2,by show l[i].f0.f1≤120968640;omega⟩
    have o2 : Ev (fun k => presence_ordered.f k l[i].f1 l[i].f0.f0 l[i].f0.f1) true := ordered_ev (by omega) h5
    refine Ev.step (f:=fun k=>(presence_ordered.f k [(⟨l[i].f0.f0,l[i].f0.f1⟩:S41)] a 120968640).bind fun t=>if t = true then (presence_ordered.f k l[i].f1 l[i].f0.f0 l[i].f0.f1).bind fun t'=>if t' = true then presence_Valid.l0 k l[i].f0.f1 l (l.length:Int) ((i + 1:Nat):Int) else some 1 else some 1) (fun k=>?_) (Ev.bind o1 (Ev.pos rfl (Ev.bind o2 (Ev.pos rfl (ih (i + 1) _ (by omega) h6)))))
    simp only [presence_Valid.l0]
    rw [if_pos (by omega), if_pos (by omega), if_pos (by omega), rdT_at l i hil, w]
theorem valid_ev {l : List S48} {M e : Int} (hl : l.length ≤ 1024) (he : e ≤ 120968640) (h : PresOk M 1000 0 e l) : Ev (fun k => presence_Valid.f k l) 0 := by
  refine Ev.congr (fun k => ?_) (valid_loop l hl M e he l.length 0 0 (by omega) (by simpa using h))
  unfold presence_Valid.f
  rw [if_neg (by omega)]; rfl
theorem PresOk.each {M : Int} {B : Nat} {a e : Int} {l : List S48} (h : PresOk M B a e l) : ∀ p ∈ l, a ≤ p.f0.f0 ∧ p.f0.f0 < p.f0.f1 ∧ p.f0.f1 - p.f0.f0 ≤ M ∧ p.f1.length ≤ B ∧ p.f0.f1 ≤ e := by
  induction l generalizing a with
  | nil => intro p hp; cases hp
  | cons q l ih =>
    obtain ⟨h1, h2, h3, h4, h5, h6⟩ := h
    intro p hp
    have := h6.le
    rcases List.mem_cons.1 hp with rfl | hp
    · exact ⟨h1, h2, h3, h4, this⟩
    · have := ih h6 p hp; exact ⟨by omega, this.2⟩
end Go.Proofs.Ythdohkabcpdpdaa.Pure
