/- The stamps of valid presences of the maker, paired with the longest stay allowed, give these presences again, without anomalies. No condition beside the statement's own. -/
import Derived.Test.YtbncjlapmomlkaaP0
import Derived.Test.YtbncjlapmomlkaaP13
import Derived.Test.YtbncjlapmomlkaaP5
import Derived.Test.YtbncjlapmomlkaaP7
import Derived.Test.YtbncjlapmomlkaaP8
import Derived.Test.YtbncjlapmomlkaaPlGen
import Derived.Test.YtbncjlapmomlkaaPlPresBack
import Derived.Test.YtbncjlapmomlkaaPlPresGen
namespace Go.Proofs.Ytbncjlapmomlkaa.Pure
open Go.RowKit Go.Proofs.Ytbncjlapmomlkaa.P Go.Proofs.YtbncjlapmomlkaaW.PrintWords Go.Proofs.YtbncjlapmomlkaaW.PrintLast Go.Proofs.YtbncjlapmomlkaaW.PrintMore
set_option linter.unusedVariables false
set_option linter.unusedSimpArgs false
theorem same_ev (l : List S29) (hl : l.length ≤ 1000) (hb : ∀ p ∈ l, p.f1.length ≤ 1000) : Ev (fun k => payrolllaw9_same.f k l l) true := by
  have inner : ∀ (i : Nat) (hi : i < l.length) (d j : Nat), j + d = l[i].f1.length → Ev (fun k => payrolllaw9_same.l0 k l l ((i + 1 : Nat) : Int)) true → Ev (fun k => payrolllaw9_same.l1 k l l (i : Int) (j : Int)) true := by
    intro i hi d
    have hbi := hb l[i] (List.getElem_mem hi)
    induction d with
    | zero =>
      intro j hj h
      refine Ev.step (fun k => ?_) h
      simp only [payrolllaw9_same.l1]
      rw [if_pos (by omega), if_pos (by omega), rdT_eq l i hi, if_neg (by omega), wrap_id (by omega) (by omega)]
      rfl
    | succ d ih =>
      intro j hj h
      refine Ev.step (fun k => ?_) (ih (j + 1) (by omega) h)
      simp only [payrolllaw9_same.l1]
      rw [if_pos (by omega), if_pos (by omega), rdT_eq l i hi, if_pos (by omega), if_pos (by omega), if_pos (by omega), if_pos (by omega), if_neg (by simp), wrap_id (by omega) (by omega)]
      rfl
  have outer : ∀ (d i : Nat), i + d = l.length → Ev (fun k => payrolllaw9_same.l0 k l l (i : Int)) true := by
    intro d
    induction d with
    | zero =>
      intro i hi
      refine Ev.step (f := fun _ => some true) (fun k => ?_) (Ev.now _)
      simp only [payrolllaw9_same.l0]
      rw [if_neg (by omega)]
    | succ d ih =>
      intro i hi
      have hil : i < l.length := by omega
      refine Ev.step (f := fun k => payrolllaw9_same.j1 k l l (i : Int) false) (fun k => ?_) (Ev.step (f := fun k => payrolllaw9_same.l1 k l l (i : Int) 0) (fun k => ?_) (inner i hil l[i].f1.length 0 (by omega) (ih (i + 1) (by omega))))
      · simp only [payrolllaw9_same.l0]
        rw [if_pos (by omega), if_pos (by omega), if_pos (by omega), if_neg (by simp)]
        simp
      · simp only [payrolllaw9_same.j1]
        rw [if_neg (by simp)]
  have := outer l.length 0 (by omega)
  refine Ev.congr (fun k => ?_) this
  unfold payrolllaw9_same.f
  rw [if_pos rfl]; rfl
theorem sane_ev : Ev (fun k => payrolllaw9_sane.f k) true := Ev.of payrolllaw9_sane.mono (k := 12) (by decide +kernel)
theorem PresOk.brs {M : Int} {B : Nat} {a e : Int} {l : List S29} (h : PresOk M B a e l) : ∀ p ∈ l, p.f1.length ≤ B := by
  induction l generalizing a with
  | nil => intro p hp; cases hp
  | cons q l ih =>
    obtain ⟨h1, h2, h3, h4, h5, h6⟩ := h
    intro p hp
    rcases List.mem_cons.1 hp with rfl | hp
    · exact h4
    · exact ih h6 p hp
theorem PresenceComesBack : payrolllaw9_PresenceComesBack.Pure := by
  intro l0 _ hl _
  refine Ev.rounds ?_
  have hp0 := AtOk.new hl
  obtain ⟨L, p', hp, hL, hn, hev⟩ := presences_ok hp0 6 (by omega) (by omega)
  have hb := hL.brs
  have hst := stamps_ev L (fun p hp => by have := hb p hp; omega) (by omega)
  have hlen := stampsOf_len L _ _ hL
  have hok := stampsOk_append [] (stampsOf L) 0 29453760 rfl (fun x hx => by cases hx) (by omega) (stampsOk_back _ _ (by omega) L hL)
  obtain ⟨s', e1, e2, e3, e4⟩ := read_back 10080 (by omega) 29453760 29474240 (by omega) (by omega) L ⟨0, 0, 0, [], [], []⟩ rfl hL
  have hpair : presence_Pair.f (stampsOf L) 10080 = some (L, [], 0) := by
    unfold presence_Pair.f
    rw [if_neg (by omega), if_neg (by omega), if_pos (by simpa using hok)]
    have : pairOf 10080 (stampsOf L) = s' := by unfold pairOf pairSt.close; rw [e1, if_pos e2]
    rw [this, e3, e4]; simp
  have hsame := same_ev L (by omega) (fun p hp => by have := hb p hp; omega)
  unfold payrolllaw9_PresenceComesBack.f
  refine Ev.bind0 (show payrollgen_New.f l0 = some (l0, 0) from rfl) ?_
  refine Ev.bind hev ?_
  refine Ev.bind hst ?_
  refine Ev.bind0 hpair ?_
  refine Ev.pos rfl ?_
  refine Ev.pos rfl ?_
  refine Ev.bind hsame ?_
  refine Ev.pos rfl ?_
  exact Ev.bind sane_ev (Ev.now _)

end Go.Proofs.Ytbncjlapmomlkaa.Pure
