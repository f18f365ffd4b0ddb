/- Pairing the stamps of valid presences gives these presences. -/
import Derived.Test.YtbncjlapmomlkaaP0
import Derived.Test.YtbncjlapmomlkaaP13
import Derived.Test.YtbncjlapmomlkaaP5
import Derived.Test.YtbncjlapmomlkaaPlGen
import Derived.Test.YtbncjlapmomlkaaPlPresGen
namespace Go.Proofs.Ytbncjlapmomlkaa.Pure
open Go.RowKit Go.Proofs.Ytbncjlapmomlkaa.P Go.Proofs.YtbncjlapmomlkaaW.PrintWords Go.Proofs.YtbncjlapmomlkaaW.PrintLast Go.Proofs.YtbncjlapmomlkaaW.PrintMore
set_option linter.unusedVariables false
set_option linter.unusedSimpArgs false
def brStamps (l : List S26) : List S34 := l.flatMap fun b => [⟨b.f0, 3, ⟨0, 0⟩⟩, ⟨b.f1, 4, ⟨0, 0⟩⟩]
def stampsOf (l : List S29) : List S34 := l.flatMap fun p => [⟨p.f0.f0, 1, ⟨0, 0⟩⟩] ++ brStamps p.f1 ++ [⟨p.f0.f1, 2, ⟨0, 0⟩⟩]
theorem brStamps_cons (b : S26) (l : List S26) : brStamps (b :: l) = ⟨b.f0, 3, ⟨0, 0⟩⟩ :: ⟨b.f1, 4, ⟨0, 0⟩⟩ :: brStamps l := by simp [brStamps]
theorem stampsOf_cons (p : S29) (l : List S29) : stampsOf (p :: l) = ⟨p.f0.f0, 1, ⟨0, 0⟩⟩ :: (brStamps p.f1 ++ (⟨p.f0.f1, 2, ⟨0, 0⟩⟩ :: stampsOf l)) := by simp [stampsOf]
theorem rdT_eq (l : List S29) (i : Nat) (h : i < l.length) : rd_T29 l (i : Int) = l[i] := by
  unfold rd_T29
  rw [Int.toNat_natCast, List.getD_eq_getElem?_getD, List.getElem?_eq_getElem h]; rfl
theorem rdI_eq (l : List S26) (i : Nat) (h : i < l.length) : rd_T26 l (i : Int) = l[i] := by
  unfold rd_T26
  rw [Int.toNat_natCast, List.getD_eq_getElem?_getD, List.getElem?_eq_getElem h]; rfl
theorem brStamps_len (l : List S26) : (brStamps l).length = 2 * l.length := by
  induction l with
  | nil => rfl
  | cons b l ih => unfold brStamps at ih ⊢; rw [List.flatMap_cons, List.length_append, ih]; simp; omega
theorem stamps_inner (l : List S29) (i : Nat) (hi : i < l.length) (hb : l[i].f1.length ≤ 100) (d : Nat) : ∀ (j : Nat) (acc : List S34), j + d = l[i].f1.length → acc.length + 2 * d ≤ 4000000000 → ∀ r,
    Ev (fun k => payrolllaw9_stamps.l1 k l (acc ++ brStamps (l[i].f1.drop j)) (i : Int) (l[i].f1.length : Int)) r → Ev (fun k => payrolllaw9_stamps.l1 k l acc (i : Int) (j : Int)) r := by
  induction d with
  | zero =>
    intro j acc hj ha r h
    rw [List.drop_of_length_le (by omega)] at h
    have : j = l[i].f1.length := by omega
    rw [this]
    simpa [brStamps] using h
  | succ d ih =>
    intro j acc hj ha r h
    have hjl : j < l[i].f1.length := by omega
    have e := List.drop_eq_getElem_cons hjl
    rw [e, brStamps_cons] at h
    have h' := ih (j + 1) (acc ++ [⟨l[i].f1[j].f0, 3, ⟨0, 0⟩⟩, ⟨l[i].f1[j].f1, 4, ⟨0, 0⟩⟩]) (by omega) (by simp; omega) r (by rw [List.append_assoc]; exact h)
    refine Ev.step (fun k => ?_) h'
    simp only [payrolllaw9_stamps.l1]
    rw [if_pos (by omega), if_pos (by omega), rdT_eq l i hi, if_pos (by omega), if_pos (by omega), rdI_eq _ j hjl]
    simp only [Option.bind_some]
    rw [if_pos (by simp; omega), wrap_id (by omega) (by omega)]
    simp
theorem stamps_outer (l : List S29) (hb : ∀ p ∈ l, p.f1.length ≤ 100) (hl : l.length ≤ 1000) (d : Nat) : ∀ (i : Nat) (acc : List S34), i + d = l.length → acc.length + 300 * d ≤ 1000000 →
    Ev (fun k => payrolllaw9_stamps.l0 k l acc (i : Int)) (acc ++ stampsOf (l.drop i)) := by
  induction d with
  | zero =>
    intro i acc hi ha
    rw [List.drop_of_length_le (by omega)]
    refine Ev.step (f := fun _ => some (acc ++ stampsOf [])) (fun k => ?_) (Ev.now _)
    simp only [payrolllaw9_stamps.l0]
    rw [if_neg (by omega)]
    simp [stampsOf]
  | succ d ih =>
    intro i acc hi ha
    have hil : i < l.length := by omega
    have hbi := hb l[i] (List.getElem_mem hil)
    have e := List.drop_eq_getElem_cons hil
    have h' := ih (i + 1) (acc ++ [⟨l[i].f0.f0, 1, ⟨0, 0⟩⟩] ++ brStamps l[i].f1 ++ [⟨l[i].f0.f1, 2, ⟨0, 0⟩⟩]) (by omega) (by have := brStamps_len l[i].f1; simp; omega)
    have g := stamps_inner l i hil hbi l[i].f1.length 0 (acc ++ [⟨l[i].f0.f0, 1, ⟨0, 0⟩⟩]) (by omega) (by simp; omega) (acc ++ stampsOf (l.drop i)) ?_
    · refine Ev.step (fun k => ?_) g
      simp only [payrolllaw9_stamps.l0]
      rw [if_pos (by omega), if_pos (by omega), if_pos (by omega), rdT_eq l i hil]
      rfl
    · rw [List.drop_zero]
      have e2 : acc ++ stampsOf (l.drop i) = (acc ++ [⟨l[i].f0.f0, 1, ⟨0, 0⟩⟩] ++ brStamps l[i].f1 ++ [⟨l[i].f0.f1, 2, ⟨0, 0⟩⟩]) ++ stampsOf (l.drop (i + 1)) := by
        rw [e, stampsOf_cons]; simp only [List.append_assoc, List.cons_append, List.nil_append]
      rw [e2]
      refine Ev.step (fun k => ?_) h'
      simp only [payrolllaw9_stamps.l1]
      rw [if_pos (by omega), if_pos (by omega), rdT_eq l i hil, if_neg (by omega), if_pos (by have := brStamps_len l[i].f1; simp; omega), wrap_id (by omega) (by omega)]
      simp
theorem stamps_ev (l : List S29) (hb : ∀ p ∈ l, p.f1.length ≤ 100) (hl : l.length ≤ 1000) : Ev (fun k => payrolllaw9_stamps.f k l) (stampsOf l) := by
  have := stamps_outer l hb hl l.length 0 [] (by omega) (by simp; omega)
  simpa [payrolllaw9_stamps.f] using this
/-! pairing -/
theorem read_breaks (lo F t a : Int) (l : List S26) : ∀ (s : pairSt) (_ : s.st = 1) (_ : BrOk a t l), ∃ pa, (brStamps l).foldl (pairSt.read lo) s = ⟨1, s.stay, pa, s.br ++ l, s.ps, s.an⟩ := by
  induction l generalizing a with
  | nil => intro s h _; exact ⟨s.pause, by cases s; simp at h; subst h; simp [brStamps]⟩
  | cons b l ih =>
    intro s h hb
    obtain ⟨h1, h2, h3⟩ := hb
    obtain ⟨st, stay, pause, br, ps, an⟩ := s
    simp only at h
    subst h
    obtain ⟨pa, e⟩ := ih b.f1 ⟨1, stay, b.f0, br ++ [⟨b.f0, b.f1⟩], ps, an⟩ rfl h3
    refine ⟨pa, ?_⟩
    have e2 : brStamps (b :: l) = [⟨b.f0, 3, ⟨0, 0⟩⟩, ⟨b.f1, 4, ⟨0, 0⟩⟩] ++ brStamps l := by simp [brStamps]
    rw [e2, List.foldl_append]
    have e3 : List.foldl (pairSt.read lo) ⟨1, stay, pause, br, ps, an⟩ ([⟨b.f0, 3, ⟨0, 0⟩⟩, ⟨b.f1, 4, ⟨0, 0⟩⟩] : List S34) = ⟨1, stay, b.f0, br ++ [⟨b.f0, b.f1⟩], ps, an⟩ := by
      simp [pairSt.read, pairSt.resume, h2]
    rw [e3, e]
    simp
theorem read_back (lo : Int) (hlo : 545 ≤ lo) (a e : Int) (ha : 0 ≤ a) (he : e ≤ 120968640) (l : List S29) : ∀ (s : pairSt) (_ : s.st = 0) (_ : PresOk 545 10 a e l), ∃ s', (stampsOf l).foldl (pairSt.read lo) s = s' ∧ s'.st = 0 ∧ s'.ps = s.ps ++ l ∧ s'.an = s.an := by
  induction l generalizing a with
  | nil => intro s h _; exact ⟨s, by simp [stampsOf], h, by simp, rfl⟩
  | cons p l ih =>
    intro s h hp
    obtain ⟨h1, h2, h3, h4, h5, h6⟩ := hp
    have hle := h6.le
    obtain ⟨pa, eb⟩ := read_breaks lo p.f0.f0 p.f0.f1 p.f0.f0 p.f1 ⟨1, p.f0.f0, s.pause, [], s.ps, s.an⟩ rfl h5
    obtain ⟨s', g1, g2, g3, g4⟩ := ih p.f0.f1 (by omega) ⟨0, p.f0.f0, pa, p.f1, s.ps ++ [p], s.an⟩ rfl h6
    refine ⟨s', ?_, g2, by simpa using g3, g4⟩
    have e2 : stampsOf (p :: l) = [⟨p.f0.f0, 1, ⟨0, 0⟩⟩] ++ (brStamps p.f1 ++ ([⟨p.f0.f1, 2, ⟨0, 0⟩⟩] ++ stampsOf l)) := by simp [stampsOf]
    rw [e2, List.foldl_append, List.foldl_append, List.foldl_append]
    have e3 : List.foldl (pairSt.read lo) s ([⟨p.f0.f0, 1, ⟨0, 0⟩⟩] : List S34) = ⟨1, p.f0.f0, s.pause, [], s.ps, s.an⟩ := by
      obtain ⟨st, stay, pause, br, ps, an⟩ := s
      simp only at h
      subst h
      simp [pairSt.read, pairSt.begin_]
    rw [e3, eb]
    have e4 : List.foldl (pairSt.read lo) ⟨1, p.f0.f0, pa, [] ++ p.f1, s.ps, s.an⟩ ([⟨p.f0.f1, 2, ⟨0, 0⟩⟩] : List S34) = ⟨0, p.f0.f0, pa, p.f1, s.ps ++ [p], s.an⟩ := by
      have w : wrap64 (p.f0.f1 - p.f0.f0) = p.f0.f1 - p.f0.f0 := wrap_id (by omega) (by omega)
      obtain ⟨⟨x, y⟩, b⟩ := p
      simp only at w h2 h3 ⊢
      show pairSt.end_ ⟨1, x, pa, [] ++ b, s.ps, s.an⟩ lo y = _
      unfold pairSt.end_
      rw [w, if_neg (by omega), if_pos (by omega)]
      simp
    rw [e4]
    exact g1
theorem stampsOk_append (l m : List S34) (a b : Int) (h : stampsOk a l = true) (hb : ∀ x ∈ l, x.f0 ≤ b) (ha : a ≤ b) (k : stampsOk b m = true) : stampsOk a (l ++ m) = true := by
  induction l generalizing a with
  | nil =>
    cases m with
    | nil => rfl
    | cons y m =>
      simp only [List.nil_append, stampsOk, Bool.and_eq_true, decide_eq_true_eq] at k ⊢
      exact ⟨⟨k.1.1, k.1.2.1, by omega, k.1.2.2.2⟩, k.2⟩
  | cons y l ih =>
    simp only [List.cons_append, stampsOk, Bool.and_eq_true, decide_eq_true_eq] at h ⊢
    exact ⟨h.1, ih y.f0 h.2 (fun x hx => hb x (List.mem_cons_of_mem _ hx)) (hb y List.mem_cons_self)⟩
theorem stampsOk_br (a e : Int) (l : List S26) (h : BrOk a e l) (he : e ≤ 120968639) (m : List S34) (hm : ∀ x, x ≤ e → stampsOk x m = true) : stampsOk a (brStamps l ++ m) = true := by
  induction l generalizing a with
  | nil => simpa [brStamps] using hm a (by simpa [BrOk] using h)
  | cons b l ih =>
    obtain ⟨h1, h2, h3⟩ := h
    have := h3.le
    have e2 : brStamps (b :: l) = [⟨b.f0, 3, ⟨0, 0⟩⟩, ⟨b.f1, 4, ⟨0, 0⟩⟩] ++ brStamps l := by simp [brStamps]
    rw [e2]
    simp only [List.cons_append, List.nil_append, stampsOk, Bool.and_eq_true, decide_eq_true_eq]
    exact ⟨⟨by omega, by omega, h1, by omega⟩, ⟨by omega, by omega, by omega, by omega⟩, ih b.f1 h3⟩
theorem stampsOk_back (a e : Int) (he : e ≤ 120968639) (l : List S29) (h : PresOk 545 10 a e l) : stampsOk a (stampsOf l) = true := by
  induction l generalizing a with
  | nil => rfl
  | cons p l ih =>
    obtain ⟨h1, h2, h3, h4, h5, h6⟩ := h
    have := h6.le
    have e2 : stampsOf (p :: l) = ⟨p.f0.f0, 1, ⟨0, 0⟩⟩ :: (brStamps p.f1 ++ (⟨p.f0.f1, 2, ⟨0, 0⟩⟩ :: stampsOf l)) := by simp [stampsOf]
    rw [e2]
    simp only [stampsOk, Bool.and_eq_true, decide_eq_true_eq]
    refine ⟨⟨by omega, by omega, h1, by omega⟩, ?_⟩
    refine stampsOk_br p.f0.f0 p.f0.f1 p.f1 h5 (by omega) _ (fun x hx => ?_)
    simp only [stampsOk, Bool.and_eq_true, decide_eq_true_eq]
    exact ⟨⟨by omega, by omega, hx, by omega⟩, ih _ h6⟩
theorem stampsOf_len (l : List S29) (a e : Int) (h : PresOk 545 10 a e l) : (stampsOf l).length ≤ 30 * l.length := by
  induction l generalizing a with
  | nil => simp [stampsOf]
  | cons p l ih =>
    obtain ⟨h1, h2, h3, h4, h5, h6⟩ := h
    have := ih _ h6
    have e2 : stampsOf (p :: l) = ⟨p.f0.f0, 1, ⟨0, 0⟩⟩ :: (brStamps p.f1 ++ (⟨p.f0.f1, 2, ⟨0, 0⟩⟩ :: stampsOf l)) := by simp [stampsOf]
    rw [e2]
    have := brStamps_len p.f1
    simp
    omega

end Go.Proofs.Ytbncjlapmomlkaa.Pure
