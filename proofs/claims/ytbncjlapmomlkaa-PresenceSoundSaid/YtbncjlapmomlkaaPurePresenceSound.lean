/- Presences that pairing makes of the maker's stamps are valid, none longer than allowed, and their ends are stamps of the right kinds. No condition beside the statement's own. -/
import Derived.Test.YtbncjlapmomlkaaP0
import Derived.Test.YtbncjlapmomlkaaP13
import Derived.Test.YtbncjlapmomlkaaP14
import Derived.Test.YtbncjlapmomlkaaP6
import Derived.Test.YtbncjlapmomlkaaP7
import Derived.Test.YtbncjlapmomlkaaP9
import Derived.Test.YtbncjlapmomlkaaPlGen
import Derived.Test.YtbncjlapmomlkaaPlPresGen
import Derived.Test.YtbncjlapmomlkaaPlPresSound
namespace Go.Proofs.Ytbncjlapmomlkaa.Pure
open Go.RowKit Go.Proofs.Ytbncjlapmomlkaa.P Go.Proofs.YtbncjlapmomlkaaW.PrintWords Go.Proofs.YtbncjlapmomlkaaW.PrintLast Go.Proofs.YtbncjlapmomlkaaW.PrintMore
set_option linter.unusedVariables false
set_option linter.unusedSimpArgs false
theorem rdS_eq (l : List S34) (i : Nat) (h : i < l.length) : rd_T34 l (i : Int) = l[i] := by
  unfold rd_T34
  rw [Int.toNat_natCast, List.getD_eq_getElem?_getD, List.getElem?_eq_getElem h]; rfl
theorem rdT_at (l : List S29) (i : Nat) (h : i < l.length) : rd_T29 l (i : Int) = l[i] := by
  unfold rd_T29
  rw [Int.toNat_natCast, List.getD_eq_getElem?_getD, List.getElem?_eq_getElem h]; rfl
theorem rdIv_at (l : List S26) (i : Nat) (h : i < l.length) : rd_T26 l (i : Int) = l[i] := by
  unfold rd_T26
  rw [Int.toNat_natCast, List.getD_eq_getElem?_getD, List.getElem?_eq_getElem h]; rfl
/-! the maker's stamps -/
def StOk (a e : Int) : List S34 → Prop
  | [] => a ≤ e
  | x :: l => a ≤ x.f0 ∧ 1 ≤ x.f1 ∧ x.f1 ≤ 4 ∧ StOk x.f0 e l
theorem StOk.le {a e : Int} {l : List S34} (h : StOk a e l) : a ≤ e := by
  induction l generalizing a with
  | nil => exact h
  | cons b l ih => obtain ⟨h1, _, _, h3⟩ := h; have := ih h3; omega
theorem StOk.snoc {a e e' : Int} {l : List S34} {b : S34} (h : StOk a e l) (h1 : e ≤ b.f0) (h2 : 1 ≤ b.f1) (h3 : b.f1 ≤ 4) (h4 : b.f0 ≤ e') : StOk a e' (l ++ [b]) := by
  induction l generalizing a with
  | nil => simp only [StOk] at h; exact ⟨by omega, h2, h3, h4⟩
  | cons c l ih => obtain ⟨g1, g2, g3, g4⟩ := h; exact ⟨g1, g2, g3, ih g4⟩
theorem StOk.ok {a e : Int} {l : List S34} (h : StOk a e l) (he : e ≤ 120968639) : stampsOk a l = true := by
  induction l generalizing a with
  | nil => rfl
  | cons x l ih =>
    obtain ⟨h1, h2, h3, h4⟩ := h
    have := h4.le
    simp only [stampsOk, Bool.and_eq_true, decide_eq_true_eq]
    exact ⟨⟨h2, h3, h1, by omega⟩, ih h4⟩
theorem stamps_loop {s : List Int} (d : Nat) (hd : d ≤ 20) : ∀ (a : Int) (out : List S34) (p : Int), AtOk s p → StOk 0 a out → a ≤ 29453760 + 720 * (20 - d : Int) → out.length + d ≤ 20 →
    ∃ L p', AtOk s p' ∧ StOk 0 30000000 L ∧ L.length ≤ 20 ∧ Ev (fun k => payrollgen_Tape_Stamps.l0 k a out (d : Int) s p) (L, p') := by
  induction d with
  | zero =>
    intro a out p hp ho ha hl
    have h0 := ho.le
    refine ⟨out, p, hp, ?_, by omega, Ev.step (f := fun _ => some (out, p)) (fun k => ?_) (Ev.now _)⟩
    · clear hl
      have : ∀ (l : List S34) (b : Int), StOk b a l → StOk b 30000000 l := by
        intro l
        induction l with
        | nil => intro b hb; simp only [StOk] at hb ⊢; omega
        | cons x l ih => intro b hb; exact ⟨hb.1, hb.2.1, hb.2.2.1, ih _ hb.2.2.2⟩
      exact this _ _ ho
    simp only [payrollgen_Tape_Stamps.l0]
    rw [if_neg (by omega)]
  | succ d ih =>
    intro a out p hp ho ha hl
    have h0 := ho.le
    obtain ⟨v1, p1, e1, hp1, hv1⟩ := pick_ok hp [0, 30, 240, 480, 1, 720] (by decide) (by decide)
    have b1 : 0 ≤ v1 ∧ v1 ≤ 720 := by simp at hv1; omega
    obtain ⟨v2, p2, e2, hp2, hm0, hm1, _⟩ := next_ok hp1 4 (by omega)
    have hm1 := hm1 (by omega)
    obtain ⟨v3, p3, e3, hp3, _⟩ := next_ok hp2 2 (by omega)
    obtain ⟨v4, p4, e4, hp4, _⟩ := next_ok hp3 9 (by omega)
    have ek : payrollgen_Tape_Key.f s p2 = some (v3, v4, p4) := by
      unfold payrollgen_Tape_Key.f
      rw [e3]; simp only [Option.bind_some]
      rw [e4]; simp only [Option.bind_some]
    have w1 : wrap64 (a + v1) = a + v1 := wrap_id (by omega) (by omega)
    have w2 : wrap64 (1 + v2) = 1 + v2 := wrap_id (by omega) (by omega)
    have w4 : wrap64 (((d + 1 : Nat) : Int) - 1) = (d : Int) := by rw [wrap_id (by omega) (by omega)]; omega
    obtain ⟨L, p', g1, g2, g3, g4⟩ := ih (by omega) (a + v1) (out ++ [⟨a + v1, 1 + v2, ⟨v3, v4⟩⟩]) p4 hp4 (ho.snoc (by show a ≤ a + v1; omega) (by show 1 ≤ 1 + v2; omega) (by show 1 + v2 ≤ 4; omega) (by show a + v1 ≤ a + v1; omega)) (by omega) (by simp; omega)
    refine ⟨L, p', g1, g2, g3, Ev.step (fun k => ?_) g4⟩
    simp only [payrollgen_Tape_Stamps.l0]
    rw [if_pos (by omega), e1]; simp only [Option.bind_some]
    rw [e2]; simp only [Option.bind_some]
    rw [ek]; simp only [Option.bind_some]
    rw [if_pos (by omega), w1, w2, w4]
theorem stamps_ok {s : List Int} {p : Int} (hp : AtOk s p) (n : Int) (h0 : 0 ≤ n) (h1 : n ≤ 19) : ∃ L p', AtOk s p' ∧ StOk 0 30000000 L ∧ L.length ≤ 20 ∧ Ev (fun k => payrollgen_Tape_Stamps.f k s p n) (L, p') := by
  have w1 : wrap64 (n + 1) = n + 1 := wrap_id (by omega) (by omega)
  obtain ⟨m, p2, e2, hp2, hm0, hm1, _⟩ := next_ok hp (n + 1) (by omega)
  have hm1 := hm1 (by omega)
  obtain ⟨L, p', g1, g2, g3, g4⟩ := stamps_loop (s := s) m.toNat (by omega) 29453760 [] p2 hp2 (by simp [StOk]) (by omega) (by simp; omega)
  refine ⟨L, p', g1, g2, g3, ?_⟩
  have hm : ((m.toNat : Nat) : Int) = m := by omega
  rw [hm] at g4
  unfold payrollgen_Tape_Stamps.f
  rw [w1, e2]; simp only [Option.bind_some]
  exact g4
/-! 'has' -/
theorem has_loop (l : List S34) (t k0 : Int) (hl : l.length ≤ 1000) (d : Nat) : ∀ i : Nat, i + d = l.length → (∃ x ∈ l.drop i, x.f0 = t ∧ x.f1 = k0) → Ev (fun k => payrolllaw9_has.l0 k l t k0 (i : Int)) true := by
  induction d with
  | zero => intro i hi h; rw [List.drop_of_length_le (by omega)] at h; obtain ⟨x, hx, _⟩ := h; cases hx
  | succ d ih =>
    intro i hi h
    have hil : i < l.length := by omega
    rw [List.drop_eq_getElem_cons hil] at h
    by_cases c : l[i].f0 = t ∧ l[i].f1 = k0
    · refine Ev.step (f := fun _ => some true) (fun k => ?_) (Ev.now _)
      simp only [payrolllaw9_has.l0]
      rw [if_pos (by omega), if_pos (by omega), rdS_eq l i hil, if_pos c.1, if_pos c.2]
    · have h' : ∃ x ∈ l.drop (i + 1), x.f0 = t ∧ x.f1 = k0 := by
        obtain ⟨x, hx, hx2⟩ := h
        rcases List.mem_cons.1 hx with rfl | hx
        · exact absurd hx2 c
        · exact ⟨x, hx, hx2⟩
      refine Ev.step (fun k => ?_) (ih (i + 1) (by omega) h')
      have w : wrap64 ((i : Int) + 1) = ((i + 1 : Nat) : Int) := by rw [wrap_id (by omega) (by omega)]; rfl
      simp only [payrolllaw9_has.l0]
      rw [if_pos (by omega), if_pos (by omega), rdS_eq l i hil, w]
      by_cases c1 : l[i].f0 = t
      · rw [if_pos c1, if_neg (fun h => c ⟨c1, h⟩)]
      · rw [if_neg c1]
theorem has_ev {l : List S34} {t k0 : Int} (hl : l.length ≤ 1000) (h : Has l t k0) : Ev (fun k => payrolllaw9_has.f k l t k0) true := by
  obtain ⟨x, hx, h1, h2⟩ := h
  exact has_loop l t k0 hl l.length 0 (by omega) ⟨x, by simpa using hx, h1, h2⟩
/-- 'has' answers, one way or the other. -/
theorem has_any (l : List S34) (t k0 : Int) (hl : l.length ≤ 1000) : ∃ b, Ev (fun k => payrolllaw9_has.f k l t k0) b := by
  have loop : ∀ (d i : Nat), i + d = l.length → ∃ b, Ev (fun k => payrolllaw9_has.l0 k l t k0 (i : Int)) b := by
    intro d
    induction d with
    | zero =>
      intro i hi
      refine ⟨false, Ev.step (f := fun _ => some false) (fun k => ?_) (Ev.now _)⟩
      simp only [payrolllaw9_has.l0]
      rw [if_neg (by omega)]
    | succ d ih =>
      intro i hi
      obtain ⟨b, hb⟩ := ih (i + 1) (by omega)
      have w : wrap64 ((i : Int) + 1) = ((i + 1 : Nat) : Int) := by rw [wrap_id (by omega) (by omega)]; rfl
      by_cases c : l[i].f0 = t ∧ l[i].f1 = k0
      · refine ⟨true, Ev.step (f := fun _ => some true) (fun k => ?_) (Ev.now _)⟩
        simp only [payrolllaw9_has.l0]
        rw [if_pos (by omega), if_pos (by omega), rdS_eq l i (by omega), if_pos c.1, if_pos c.2]
      · refine ⟨b, Ev.step (fun k => ?_) hb⟩
        simp only [payrolllaw9_has.l0]
        rw [if_pos (by omega), if_pos (by omega), rdS_eq l i (by omega), w]
        by_cases c1 : l[i].f0 = t
        · rw [if_pos c1, if_neg (fun h => c ⟨c1, h⟩)]
        · rw [if_neg c1]
  exact loop l.length 0 (by omega)
theorem Ev.det {α : Type} {g : Nat → Option α} {a b : α} (h1 : Ev g a) (h2 : Ev g b) : a = b := by
  obtain ⟨k1, h1⟩ := h1
  obtain ⟨k2, h2⟩ := h2
  have e1 := h1 (k1 + k2) (by omega)
  rw [h2 (k1 + k2) (by omega)] at e1
  exact (Option.some.inj e1).symm
theorem StOk.mem {a e : Int} {l : List S34} (h : StOk a e l) : ∀ x ∈ l, a ≤ x.f0 ∧ x.f0 ≤ e := by
  induction l generalizing a with
  | nil => intro x hx; cases hx
  | cons y l ih =>
    intro x hx
    obtain ⟨h1, _, _, h2⟩ := h
    have := h2.le
    rcases List.mem_cons.1 hx with rfl | hx
    · exact ⟨h1, this⟩
    · have := ih h2 x hx; exact ⟨by omega, this.2⟩
/-! presences in order are valid -/
theorem ordered_loop (l : List S26) (hl : l.length ≤ 1024) (d : Nat) : ∀ (i : Nat) (a e : Int), i + d = l.length → BrOk a e (l.drop i) → Ev (fun k => presence_ordered.l0 k l a e l (l.length : Int) (i : Int)) true := by
  induction d with
  | zero =>
    intro i a e hi h
    refine Ev.step (f := fun _ => some true) (fun k => ?_) (Ev.now _)
    simp only [presence_ordered.l0]
    rw [if_neg (by omega), decide_eq_true (by omega)]
  | succ d ih =>
    intro i a e hi h
    have hil : i < l.length := by omega
    rw [List.drop_eq_getElem_cons hil] at h
    obtain ⟨h1, h2, h3⟩ := h
    have h4 := h3.le
    have w : wrap64 ((i : Int) + 1) = ((i + 1 : Nat) : Int) := by rw [wrap_id (by omega) (by omega)]; rfl
    refine Ev.step (fun k => ?_) (ih (i + 1) _ e (by omega) h3)
    simp only [presence_ordered.l0]
    rw [if_pos (by omega), if_pos (by omega), if_pos (by omega), rdIv_at l i hil, if_neg (by omega), if_neg (by omega), if_neg (by omega), w]
theorem ordered_ev {l : List S26} {a e : Int} (hl : l.length ≤ 1024) (h : BrOk a e l) : Ev (fun k => presence_ordered.f k l a e) true := ordered_loop l hl l.length 0 a e (by omega) (by simpa using h)
theorem valid_loop (l : List S29) (hl : l.length ≤ 1024) (M e : Int) (he : e ≤ 120968640) (d : Nat) : ∀ (i : Nat) (a : Int), i + d = l.length → PresOk M 1000 a e (l.drop i) → Ev (fun k => presence_Valid.l0 k a l (l.length : Int) (i : Int)) 0 := by
  induction d with
  | zero =>
    intro i a hi h
    refine Ev.step (f := fun _ => some 0) (fun k => ?_) (Ev.now _)
    simp only [presence_Valid.l0]
    rw [if_neg (by omega)]
  | succ d ih =>
    intro i a hi h
    have hil : i < l.length := by omega
    rw [List.drop_eq_getElem_cons hil] at h
    obtain ⟨h1, h2, h3, h4, h5, h6⟩ := h
    have h7 := h6.le
    have w : wrap64 ((i : Int) + 1) = ((i + 1 : Nat) : Int) := by rw [wrap_id (by omega) (by omega)]; rfl
    have o1 : Ev (fun k => presence_ordered.f k [(⟨l[i].f0.f0, l[i].f0.f1⟩ : S26)] a 120968640) true := ordered_ev (by simp) ⟨h1, h2, by show l[i].f0.f1 ≤ 120968640; omega⟩
    have o2 : Ev (fun k => presence_ordered.f k l[i].f1 l[i].f0.f0 l[i].f0.f1) true := ordered_ev (by omega) h5
    refine Ev.step (f := fun k => (presence_ordered.f k [(⟨l[i].f0.f0, l[i].f0.f1⟩ : S26)] a 120968640).bind fun t => if t = true then (presence_ordered.f k l[i].f1 l[i].f0.f0 l[i].f0.f1).bind fun t' => if t' = true then presence_Valid.l0 k l[i].f0.f1 l (l.length : Int) ((i + 1 : Nat) : Int) else some 1 else some 1) (fun k => ?_) (Ev.bind o1 (Ev.pos rfl (Ev.bind o2 (Ev.pos rfl (ih (i + 1) _ (by omega) h6)))))
    simp only [presence_Valid.l0]
    rw [if_pos (by omega), if_pos (by omega), if_pos (by omega), rdT_at l i hil, w]
theorem valid_ev {l : List S29} {M e : Int} (hl : l.length ≤ 1024) (he : e ≤ 120968640) (h : PresOk M 1000 0 e l) : Ev (fun k => presence_Valid.f k l) 0 := by
  refine Ev.congr (fun k => ?_) (valid_loop l hl M e he l.length 0 0 (by omega) (by simpa using h))
  unfold presence_Valid.f
  rw [if_neg (by omega)]; rfl
/-- The end of the last presence is the bound. -/
theorem PresOk.tight {M : Int} {B : Nat} {a e c : Int} {l : List S29} (h : PresOk M B a e l) (ha : a ≤ c) (hc : ∀ p ∈ l, p.f0.f1 ≤ c) : PresOk M B a c l := by
  induction l generalizing a with
  | nil => exact ha
  | cons p l ih =>
    obtain ⟨h1, h2, h3, h4, h5, h6⟩ := h
    exact ⟨h1, h2, h3, h4, h5, ih h6 (hc p List.mem_cons_self) (fun q hq => hc q (List.mem_cons_of_mem _ hq))⟩
theorem PresOk.each {M : Int} {B : Nat} {a e : Int} {l : List S29} (h : PresOk M B a e l) : ∀ p ∈ l, a ≤ p.f0.f0 ∧ p.f0.f0 < p.f0.f1 ∧ p.f0.f1 - p.f0.f0 ≤ M ∧ p.f1.length ≤ B ∧ p.f0.f1 ≤ e := by
  induction l generalizing a with
  | nil => intro p hp; cases hp
  | cons q l ih =>
    obtain ⟨h1, h2, h3, h4, h5, h6⟩ := h
    intro p hp
    have := h6.le
    rcases List.mem_cons.1 hp with rfl | hp
    · exact ⟨h1, h2, h3, h4, this⟩
    · have := ih h6 p hp; exact ⟨by omega, this.2⟩
theorem sane_ev : Ev (fun k => payrolllaw9_sane.f k) true := Ev.of payrolllaw9_sane.mono (k := 12) (by decide +kernel)
/-! the law's own loops -/
theorem law_inner (L : List S34) (lo : Int) (ps : List S29) (an : List S62) (hL : L.length ≤ 1000) (hps : ps.length ≤ 1000) (i : Nat) (hi : i < ps.length) (hb : ps[i].f1.length ≤ 1000) (hh : BrHas L ps[i].f0.f1 ps[i].f1) (r : Bool) (hr : Ev (fun k => payrolllaw9_PresenceSound.l0 k L lo ps an ((i + 1 : Nat) : Int)) r) (d : Nat) : ∀ j : Nat, j + d = ps[i].f1.length → Ev (fun k => payrolllaw9_PresenceSound.l1 k L lo ps an (i : Int) (j : Int)) r := by
  induction d with
  | zero =>
    intro j hj
    refine Ev.step (fun k => ?_) hr
    have w : wrap64 ((i : Int) + 1) = ((i + 1 : Nat) : Int) := by rw [wrap_id (by omega) (by omega)]; rfl
    simp only [payrolllaw9_PresenceSound.l1]
    rw [if_pos (by omega), if_pos (by omega), rdT_at ps i hi, if_neg (by omega), w]
  | succ d ih =>
    intro j hj
    have hjl : j < ps[i].f1.length := by omega
    have w : wrap64 ((j : Int) + 1) = ((j + 1 : Nat) : Int) := by rw [wrap_id (by omega) (by omega)]; rfl
    obtain ⟨h1, h2⟩ := hh _ (List.getElem_mem hjl)
    obtain ⟨b, hb2⟩ := has_any L ps[i].f1[j].f1 4 hL
    have e2 : Ev (fun k => if b = true then payrolllaw9_PresenceSound.l1 k L lo ps an (i : Int) ((j + 1 : Nat) : Int) else if ps[i].f1[j].f1 = ps[i].f0.f1 then payrolllaw9_PresenceSound.l1 k L lo ps an (i : Int) ((j + 1 : Nat) : Int) else some false) r := by
      rcases h2 with h2 | h2
      · have := Ev.det hb2 (has_ev hL h2)
        subst this
        exact Ev.pos rfl (ih (j + 1) (by omega))
      · by_cases c : b = true
        · exact Ev.pos c (ih (j + 1) (by omega))
        · exact Ev.neg c (Ev.pos h2 (ih (j + 1) (by omega)))
    refine Ev.step (f := fun k => (payrolllaw9_has.f k L ps[i].f1[j].f0 3).bind fun t => if t = true then (payrolllaw9_has.f k L ps[i].f1[j].f1 4).bind fun t' => if t' = true then payrolllaw9_PresenceSound.l1 k L lo ps an (i : Int) ((j + 1 : Nat) : Int) else if ps[i].f1[j].f1 = ps[i].f0.f1 then payrolllaw9_PresenceSound.l1 k L lo ps an (i : Int) ((j + 1 : Nat) : Int) else some false else some false) (fun k => ?_) (Ev.bind (has_ev hL h1) (Ev.pos rfl (Ev.bind hb2 e2)))
    simp only [payrolllaw9_PresenceSound.l1]
    rw [if_pos (by omega), if_pos (by omega), rdT_at ps i hi, if_pos (by omega), if_pos (by omega), rdIv_at _ j hjl, w]
theorem law_outer (L : List S34) (lo : Int) (ps : List S29) (an : List S62) (hL : L.length ≤ 1000) (hps : ps.length ≤ 1000) (hlo : lo ≤ 1500) (hcnt : (ps.length : Int) + an.length ≤ L.length) (hh : PHas L ps) (hp : ∀ p ∈ ps, 0 ≤ p.f0.f0 ∧ p.f0.f0 < p.f0.f1 ∧ p.f0.f1 - p.f0.f0 ≤ lo ∧ p.f1.length ≤ 1000 ∧ p.f0.f1 ≤ 30000000) (d : Nat) : ∀ i : Nat, i + d = ps.length → Ev (fun k => payrolllaw9_PresenceSound.l0 k L lo ps an (i : Int)) true := by
  induction d with
  | zero =>
    intro i hi
    refine Ev.step (f := fun k => (payrolllaw9_sane.f k).bind fun t => some t) (fun k => ?_) (Ev.bind sane_ev (Ev.now _))
    simp only [payrolllaw9_PresenceSound.l0]
    have w1 : wrap64 ((ps.length : Int) + (an.length : Int)) = (ps.length : Int) + (an.length : Int) := wrap_id (by omega) (by omega)
    have w2 : wrap64 (2 * (L.length : Int)) = 2 * (L.length : Int) := wrap_id (by omega) (by omega)
    rw [if_neg (by omega), w1, w2, if_pos (by omega)]
  | succ d ih =>
    intro i hi
    have hil : i < ps.length := by omega
    obtain ⟨g1, g2, g3, g4, g5⟩ := hp _ (List.getElem_mem hil)
    obtain ⟨h1, h2, h3⟩ := hh _ (List.getElem_mem hil)
    have w : wrap64 (ps[i].f0.f1 - ps[i].f0.f0) = ps[i].f0.f1 - ps[i].f0.f0 := wrap_id (by omega) (by omega)
    have e1 := law_inner L lo ps an hL hps i hil g4 h3 true (ih (i + 1) (by omega)) ps[i].f1.length 0 (by omega)
    have e2 : Ev (fun k => payrolllaw9_PresenceSound.j2 k L lo ps an (i : Int) (!true)) true := by
      refine Ev.step (fun k => ?_) e1
      simp only [payrolllaw9_PresenceSound.j2]
      rw [if_neg (by simp)]; rfl
    refine Ev.step (f := fun k => (payrolllaw9_has.f k L ps[i].f0.f0 1).bind fun t => if t = true then (payrolllaw9_has.f k L ps[i].f0.f1 2).bind fun t' => payrolllaw9_PresenceSound.j2 k L lo ps an (i : Int) (!t') else payrolllaw9_PresenceSound.j2 k L lo ps an (i : Int) true) (fun k => ?_) (Ev.bind (has_ev hL h1) (Ev.pos rfl (Ev.bind (has_ev hL h2) e2)))
    simp only [payrolllaw9_PresenceSound.l0]
    rw [if_pos (by omega), if_pos (by omega), rdT_at ps i hil, w, if_neg (by omega)]
theorem PresenceSound : payrolllaw9_PresenceSound.Pure := by
  intro l0 a1 _ hl _ _
  refine Ev.rounds ?_
  obtain ⟨L, p', hp, hL, hn, hev⟩ := stamps_ok (AtOk.new hl) 14 (by omega) (by omega)
  have hm0 := Int.emod_nonneg a1 (show (1500 : Int) ≠ 0 by omega)
  have hm1 := Int.emod_lt_of_pos a1 (show (0 : Int) < 1500 by omega)
  have w1 : wrap64 (1 + a1 % 1500) = 1 + a1 % 1500 := wrap_id (by omega) (by omega)
  have hst := hL.ok (by omega)
  obtain ⟨⟨e, p1⟩, p2, p3, _⟩ := pair_sound (l := L) (lo := 1 + a1 % 1500) (by omega) hst (by omega)
  have hmem := hL.mem
  have hpair : presence_Pair.f L (1 + a1 % 1500) = some ((pairOf (1 + a1 % 1500) L).ps, (pairOf (1 + a1 % 1500) L).an, 0) := by
    unfold presence_Pair.f
    rw [if_neg (by omega), if_neg (by omega), if_pos hst]
  have hb : ∀ p ∈ (pairOf (1 + a1 % 1500) L).ps, p.f0.f1 ≤ 30000000 := by
    intro p hp
    obtain ⟨_, ⟨x, hx, h2, _⟩, _⟩ := p2 p hp
    have := hmem x hx
    omega
  have p4 := p1.tight (c := 30000000) (by omega) hb
  have hlen : (pairOf (1 + a1 % 1500) L).ps.length ≤ 20 := by omega
  have e1 := law_outer L (1 + a1 % 1500) _ _ (by omega) (by omega) (by omega) p3 p2 (fun p hp => by have := p4.each p hp; omega) _ 0 (Nat.zero_add _)
  have e2 : Ev (fun k => payrolllaw9_PresenceSound.j0 k L (1 + a1 % 1500) (pairOf (1 + a1 % 1500) L).ps (pairOf (1 + a1 % 1500) L).an ((0 : Int) != 0)) true := by
    refine Ev.step (fun k => ?_) e1
    simp only [payrolllaw9_PresenceSound.j0]
    rw [if_neg (by simp)]; rfl
  unfold payrolllaw9_PresenceSound.f
  refine Ev.bind0 (show payrollgen_New.f l0 = some (l0, 0) from rfl) ?_
  refine Ev.bind hev ?_
  refine Ev.bind0 (mod_eq a1 1500 (by omega) (by omega)) ?_
  simp only [w1]
  refine Ev.bind0 hpair ?_
  refine Ev.pos rfl ?_
  exact Ev.bind (valid_ev (l := (pairOf (1 + a1 % 1500) L).ps) (by omega) (by omega) p4) e2

end Go.Proofs.Ytbncjlapmomlkaa.Pure
