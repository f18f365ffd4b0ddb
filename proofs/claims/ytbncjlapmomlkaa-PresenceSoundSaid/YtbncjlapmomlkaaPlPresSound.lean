/- What pairing makes of stamps in order: presences in order, none too long, whose ends are stamps of the right kinds. -/
import Derived.Test.YtbncjlapmomlkaaP0
import Derived.Test.YtbncjlapmomlkaaP6
import Derived.Test.YtbncjlapmomlkaaPlGen
import Derived.Test.YtbncjlapmomlkaaPlPresGen
namespace Go.Proofs.Ytbncjlapmomlkaa.Pure
open Go.RowKit Go.Proofs.Ytbncjlapmomlkaa.P Go.Proofs.YtbncjlapmomlkaaW.PrintWords Go.Proofs.YtbncjlapmomlkaaW.PrintLast Go.Proofs.YtbncjlapmomlkaaW.PrintMore
set_option linter.unusedVariables false
set_option linter.unusedSimpArgs false
def Has (l : List S34) (t k : Int) : Prop := ∃ x ∈ l, x.f0 = t ∧ x.f1 = k
def BrHas (l : List S34) (t1 : Int) (br : List S26) : Prop := ∀ b ∈ br, Has l b.f0 3 ∧ (Has l b.f1 4 ∨ b.f1 = t1)
def PHas (l : List S34) (ps : List S29) : Prop := ∀ p ∈ ps, Has l p.f0.f0 1 ∧ Has l p.f0.f1 2 ∧ BrHas l p.f0.f1 p.f1
structure PInv (l : List S34) (lo : Int) (i : Nat) (T : Int) (s : pairSt) : Prop where
  st3 : s.st = 0 ∨ s.st = 1 ∨ s.st = 2
  ps : ∃ e, PresOk lo 1000 0 e s.ps ∧ e ≤ T ∧ (s.st ≠ 0 → e ≤ s.stay)
  has : PHas l s.ps
  open_ : s.st ≠ 0 → 0 ≤ s.stay ∧ s.stay ≤ T ∧ Has l s.stay 1 ∧ (∀ b ∈ s.br, Has l b.f0 3 ∧ Has l b.f1 4) ∧ ∃ eb, BrOk s.stay eb s.br ∧ eb ≤ T ∧ (s.st = 2 → eb ≤ s.pause)
  paus : s.st = 2 → s.stay ≤ s.pause ∧ s.pause ≤ T ∧ Has l s.pause 3
  cnt : (s.ps.length : Int) + s.an.length + (if s.st = 0 then 0 else if s.st = 1 then 1 else 2) ≤ i
  brc : s.br.length ≤ i
theorem Has.of {l : List S34} {x : S34} (h : x ∈ l) : Has l x.f0 x.f1 := ⟨x, h, rfl, rfl⟩
theorem PHas.snoc {l : List S34} {ps : List S29} {p : S29} (h : PHas l ps) (hp : Has l p.f0.f0 1 ∧ Has l p.f0.f1 2 ∧ BrHas l p.f0.f1 p.f1) : PHas l (ps ++ [p]) := by
  intro q hq
  rcases List.mem_append.1 hq with hq | hq
  · exact h q hq
  · rw [List.mem_singleton.1 hq]; exact hp
theorem PInv.anomaly {l : List S34} {lo : Int} {i : Nat} {T T' : Int} {s : pairSt} (h : PInv l lo i T s) (k t : Int) (hT : T ≤ T') : PInv l lo (i + 1) T' (s.anomaly k t) := by
  obtain ⟨h1, ⟨e, h2, h3, h4⟩, h5, h6, h7, h8, h9⟩ := h
  refine ⟨h1, ⟨e, h2, by omega, h4⟩, h5, fun h0 => ?_, fun h0 => ?_, ?_, ?_⟩
  · obtain ⟨g1, g2, g3, g4, eb, g5, g6, g7⟩ := h6 h0
    exact ⟨g1, by show s.stay ≤ T'; omega, g3, g4, eb, g5, by omega, g7⟩
  · obtain ⟨g1, g2, g3⟩ := h7 h0
    exact ⟨g1, by show s.pause ≤ T'; omega, g3⟩
  · show (s.ps.length : Int) + (s.an ++ [_]).length + (if s.st = 0 then 0 else if s.st = 1 then 1 else 2) ≤ _
    rw [List.length_append, List.length_singleton]; omega
  · show s.br.length ≤ i + 1; omega
theorem PInv.begin_ {l : List S34} {lo : Int} {i : Nat} {T t : Int} {s : pairSt} (h : PInv l lo i T s) (hT : T ≤ t) (h0 : 0 ≤ t) (hi : Has l t 1) : PInv l lo (i + 1) t (s.begin_ t) := by
  obtain ⟨h1, ⟨e, h2, h3, h4⟩, h5, h6, h7, h8, h9⟩ := h
  refine ⟨.inr (.inl rfl), ⟨e, h2, by omega, fun _ => by show e ≤ t; omega⟩, h5, fun _ => ⟨h0, (Int.le_refl t), hi, (fun b hb => (nomatch hb)), t, (Int.le_refl t), by omega, (fun h => (nomatch h))⟩, (fun h => (nomatch h)), ?_, Nat.zero_le _⟩
  show (s.ps.length : Int) + s.an.length + (if (1 : Int) = 0 then 0 else if (1 : Int) = 1 then 1 else 2) ≤ _
  rw [if_neg (by omega), if_pos rfl]
  have : (0 : Int) ≤ (if s.st = 0 then 0 else if s.st = 1 then 1 else 2) := by (repeat' split) <;> omega
  omega
/-- An IN while present: the stay before it is lost. -/
theorem PInv.again {l : List S34} {lo : Int} {i : Nat} {T t : Int} {s : pairSt} (h : PInv l lo i T s) (hs : s.st ≠ 0) (k u : Int) (hT : T ≤ t) (h0 : 0 ≤ t) (hi : Has l t 1) : PInv l lo (i + 1) t ((s.anomaly k u).begin_ t) := by
  obtain ⟨h1, ⟨e, h2, h3, h4⟩, h5, h6, h7, h8, h9⟩ := h
  refine ⟨.inr (.inl rfl), ⟨e, h2, by omega, fun _ => by show e ≤ t; omega⟩, h5, fun _ => ⟨h0, (Int.le_refl t), hi, (fun b hb => (nomatch hb)), t, (Int.le_refl t), by omega, (fun h => (nomatch h))⟩, (fun h => (nomatch h)), ?_, Nat.zero_le _⟩
  show (s.ps.length : Int) + (s.an ++ [_]).length + (if (1 : Int) = 0 then 0 else if (1 : Int) = 1 then 1 else 2) ≤ _
  rw [if_neg (by omega), if_pos rfl, List.length_append, List.length_singleton]
  rw [if_neg hs] at h8
  have : (1 : Int) ≤ (if s.st = 1 then 1 else 2) := by split <;> omega
  omega
/-- What 'end' needs: a stay that began at an IN, breaks inside it up to t. -/
theorem end_inv {l : List S34} {lo : Int} {i : Nat} {t : Int} {s : pairSt} (ht : t ≤ 120968639) (hlo : 1 ≤ lo) (h2 : ∃ e, PresOk lo 1000 0 e s.ps ∧ e ≤ s.stay) (h5 : PHas l s.ps) (hs0 : 0 ≤ s.stay) (hst : s.stay ≤ t) (hi : Has l s.stay 1) (ho : Has l t 2) (hb : BrHas l t s.br) (hbo : BrOk s.stay t s.br) (hc : (s.ps.length : Int) + s.an.length ≤ i) (hbr : s.br.length ≤ i + 1) (hi2 : i ≤ 900) : PInv l lo (i + 1) t (s.end_ lo t) := by
  obtain ⟨e, h2, h3⟩ := h2
  have w : wrap64 (t - s.stay) = t - s.stay := wrap_id (by omega) (by omega)
  unfold pairSt.end_
  rw [w]
  by_cases c : lo < t - s.stay
  · rw [if_pos c]
    refine ⟨.inl rfl, ⟨e, h2, by omega, fun h => absurd rfl h⟩, h5, fun h => absurd rfl h, (fun h => (nomatch h)), ?_, hbr⟩
    show (s.ps.length : Int) + (s.an ++ [_]).length + (if (0 : Int) = 0 then 0 else _) ≤ _
    rw [if_pos rfl, List.length_append, List.length_singleton]; omega
  · rw [if_neg c]
    by_cases c2 : 0 < t - s.stay
    · rw [if_pos c2]
      refine ⟨.inl rfl, ⟨t, h2.snoc (p := ⟨⟨s.stay, t⟩, s.br⟩) h3 (by show s.stay < t; omega) (by show t - s.stay ≤ lo; omega) (by show s.br.length ≤ 1000; omega) hbo (by show t ≤ t; omega), by omega, fun h => absurd rfl h⟩, h5.snoc ⟨hi, ho, hb⟩, fun h => absurd rfl h, (fun h => (nomatch h)), ?_, hbr⟩
      show ((s.ps ++ [_]).length : Int) + s.an.length + (if (0 : Int) = 0 then 0 else _) ≤ _
      rw [if_pos rfl, List.length_append, List.length_singleton]; omega
    · rw [if_neg c2]
      refine ⟨.inl rfl, ⟨e, h2, by omega, fun h => absurd rfl h⟩, h5, fun h => absurd rfl h, (fun h => (nomatch h)), ?_, hbr⟩
      show (s.ps.length : Int) + s.an.length + (if (0 : Int) = 0 then 0 else _) ≤ _
      rw [if_pos rfl]; omega
theorem read_inv {l : List S34} {lo : Int} {i : Nat} {T : Int} {s : pairSt} (h : PInv l lo i T s) (x : S34) (hx : x ∈ l) (hk : 1 ≤ x.f1 ∧ x.f1 ≤ 4) (hT : T ≤ x.f0) (h0 : 0 ≤ x.f0) (hm : x.f0 ≤ 120968639) (hlo : 1 ≤ lo) (hi2 : i ≤ 900) : PInv l lo (i + 1) x.f0 (pairSt.read lo s x) := by
  have hh := Has.of hx
  unfold pairSt.read
  by_cases c0 : s.st = 0
  · rw [if_pos c0]
    by_cases k1 : x.f1 = 1
    · rw [if_pos k1]; rw [k1] at hh; exact h.begin_ hT h0 hh
    · rw [if_neg k1]; exact h.anomaly _ _ hT
  rw [if_neg c0]
  by_cases k1 : x.f1 = 1
  · rw [if_pos k1]; rw [k1] at hh; exact h.again c0 _ _ hT h0 hh
  rw [if_neg k1]
  obtain ⟨h1, ⟨e, h2, h3, h4⟩, h5, h6, h7, h8, h9⟩ := id h
  obtain ⟨g1, g2, g3, g4, eb, g5, g6, g7⟩ := h6 c0
  rw [if_neg c0] at h8
  by_cases c1 : s.st = 1
  · rw [if_pos c1]
    rw [if_pos c1] at h8
    by_cases k2 : x.f1 = 2
    · rw [if_pos k2]; rw [k2] at hh
      exact end_inv hm hlo ⟨e, h2, h4 c0⟩ h5 g1 (by omega) g3 hh (fun b hb => ⟨(g4 b hb).1, .inl (g4 b hb).2⟩) (g5.more (by omega)) (by omega) (by omega) hi2
    rw [if_neg k2]
    by_cases k3 : x.f1 = 3
    · rw [if_pos k3]; rw [k3] at hh
      refine ⟨.inr (.inr rfl), ⟨e, h2, by omega, fun _ => h4 c0⟩, h5, fun _ => ⟨g1, by show s.stay ≤ x.f0; omega, g3, g4, eb, g5, by omega, fun _ => by show eb ≤ x.f0; omega⟩, fun _ => ⟨by show s.stay ≤ x.f0; omega, by show x.f0 ≤ x.f0; omega, hh⟩, ?_, by show s.br.length ≤ i + 1; omega⟩
      show (s.ps.length : Int) + s.an.length + (if (2 : Int) = 0 then 0 else if (2 : Int) = 1 then 1 else 2) ≤ _
      rw [if_neg (by omega), if_neg (by omega)]; omega
    · rw [if_neg k3]; exact h.anomaly _ _ hT
  rw [if_neg c1]
  have c2 : s.st = 2 := by exact (h1.resolve_left c0).resolve_left c1
  rw [if_neg c1] at h8
  obtain ⟨f1, f2, f3⟩ := h7 c2
  have g7 := g7 c2
  by_cases k2 : x.f1 = 2
  · rw [if_pos k2]; rw [k2] at hh
    refine end_inv (s := (s.anomaly 4 s.pause).resume x.f0) hm hlo ⟨e, h2, h4 c0⟩ h5 g1 (by show s.stay ≤ x.f0; omega) g3 hh ?_ ?_ ?_ ?_ hi2
    · show BrHas l x.f0 (if s.pause < x.f0 then s.br ++ [⟨s.pause, x.f0⟩] else s.br)
      split
      · intro b hb
        rcases List.mem_append.1 hb with hb | hb
        · exact ⟨(g4 b hb).1, .inl (g4 b hb).2⟩
        · rw [List.mem_singleton.1 hb]; exact ⟨f3, .inr rfl⟩
      · exact fun b hb => ⟨(g4 b hb).1, .inl (g4 b hb).2⟩
    · show BrOk s.stay x.f0 (if s.pause < x.f0 then s.br ++ [⟨s.pause, x.f0⟩] else s.br)
      split
      · exact g5.snoc (by show eb ≤ s.pause; omega) (by assumption) (by show x.f0 ≤ x.f0; omega)
      · exact g5.more (by omega)
    · show (s.ps.length : Int) + (s.an ++ [_]).length ≤ i
      rw [List.length_append, List.length_singleton]; omega
    · have := (resume_len (s.anomaly 4 s.pause) x.f0).2.2
      have h10 : (s.anomaly 4 s.pause).br = s.br := rfl
      rw [h10] at this; omega
  rw [if_neg k2]
  by_cases k3 : x.f1 = 3
  · rw [if_pos k3]; rw [k3] at hh
    refine ⟨h1, ⟨e, h2, by omega, fun _ => h4 c0⟩, h5, fun _ => ⟨g1, by show s.stay ≤ x.f0; omega, g3, g4, eb, g5, by omega, fun _ => by show eb ≤ x.f0; omega⟩, fun _ => ⟨by show s.stay ≤ x.f0; omega, by show x.f0 ≤ x.f0; omega, hh⟩, ?_, by show s.br.length ≤ i + 1; omega⟩
    show (s.ps.length : Int) + (s.an ++ [_]).length + (if s.st = 0 then 0 else if s.st = 1 then 1 else 2) ≤ _
    rw [if_neg c0, if_neg c1, List.length_append, List.length_singleton]; omega
  · rw [if_neg k3]
    have k4 : x.f1 = 4 := by omega
    rw [k4] at hh
    refine ⟨.inr (.inl rfl), ⟨e, h2, by omega, fun _ => h4 c0⟩, h5, fun _ => ⟨g1, by show s.stay ≤ x.f0; omega, g3, ?_, x.f0, ?_, by omega, (fun h => (nomatch h))⟩, (fun h => (nomatch h)), ?_, ?_⟩
    · show ∀ b ∈ (if s.pause < x.f0 then s.br ++ [⟨s.pause, x.f0⟩] else s.br), _
      split
      · intro b hb
        rcases List.mem_append.1 hb with hb | hb
        · exact g4 b hb
        · rw [List.mem_singleton.1 hb]; exact ⟨f3, hh⟩
      · exact g4
    · show BrOk s.stay x.f0 (if s.pause < x.f0 then s.br ++ [⟨s.pause, x.f0⟩] else s.br)
      split
      · exact g5.snoc (by show eb ≤ s.pause; omega) (by assumption) (by show x.f0 ≤ x.f0; omega)
      · exact g5.more (by omega)
    · show (s.ps.length : Int) + s.an.length + (if (1 : Int) = 0 then 0 else if (1 : Int) = 1 then 1 else 2) ≤ _
      rw [if_neg (by omega), if_pos rfl]; omega
    · have := (resume_len s x.f0).2.2; omega
theorem fold_inv {l : List S34} {lo : Int} (hlo : 1 ≤ lo) (m : List S34) : ∀ (i : Nat) (T : Int) (s : pairSt), PInv l lo i T s → 0 ≤ T → stampsOk T m = true → (∀ x ∈ m, x ∈ l) → i + m.length ≤ 900 → ∃ T', PInv l lo (i + m.length) T' (m.foldl (pairSt.read lo) s) := by
  induction m with
  | nil => intro i T s h _ _ _ _; exact ⟨T, h⟩
  | cons x m ih =>
    intro i T s h h0 hs hm hi
    simp only [stampsOk, Bool.and_eq_true, decide_eq_true_eq] at hs
    obtain ⟨⟨s1, s2, s3, s4⟩, s5⟩ := hs
    have hi' : i + (m.length + 1) ≤ 900 := by simpa using hi
    obtain ⟨T', g⟩ := ih (i + 1) x.f0 _ (read_inv h x (hm x List.mem_cons_self) ⟨s1, s2⟩ s3 (by omega) s4 hlo (by omega)) (by omega) s5 (fun y hy => hm y (List.mem_cons_of_mem _ hy)) (by omega)
    refine ⟨T', ?_⟩
    rw [List.length_cons, show i + (m.length + 1) = i + 1 + m.length from by omega]
    exact g
theorem pair_sound {l : List S34} {lo : Int} (hlo : 1 ≤ lo) (hs : stampsOk 0 l = true) (hl : l.length ≤ 900) : (∃ e, PresOk lo 1000 0 e (pairOf lo l).ps) ∧ PHas l (pairOf lo l).ps ∧ ((pairOf lo l).ps.length : Int) + (pairOf lo l).an.length ≤ l.length ∧ ∀ e, PresOk lo 1000 0 e (pairOf lo l).ps → True := by
  obtain ⟨T, h⟩ := fold_inv (l := l) (lo := lo) hlo l 0 0 ⟨0, 0, 0, [], [], []⟩ ⟨.inl rfl, ⟨0, by show (0 : Int) ≤ 0; omega, by omega, fun h => absurd rfl h⟩, (fun p hp => (nomatch hp)), fun h => absurd rfl h, (fun h => (nomatch h)), by simp, by simp⟩ (by omega) hs (fun x hx => hx) (by omega)
  obtain ⟨h1, ⟨e, h2, h3, h4⟩, h5, h6, h7, h8, h9⟩ := h
  unfold pairOf pairSt.close
  split
  · rename_i c
    rw [if_pos c] at h8
    exact ⟨⟨e, h2⟩, h5, by omega, fun _ _ => trivial⟩
  · rename_i c
    rw [if_neg c] at h8
    refine ⟨⟨e, h2⟩, h5, ?_, fun _ _ => trivial⟩
    show (_ : Int) + (_ ++ [_]).length ≤ _
    rw [List.length_append, List.length_singleton]
    have hz : ((List.foldl (pairSt.read lo) ⟨0, 0, 0, [], [], []⟩ l).anomaly 1 (List.foldl (pairSt.read lo) ⟨0, 0, 0, [], [], []⟩ l).stay).ps.length = (List.foldl (pairSt.read lo) ⟨0, 0, 0, [], [], []⟩ l).ps.length := rfl
    have : ∀ z : Int, (1 : Int) ≤ (if z = 1 then 1 else 2) := fun z => by split <;> omega
    have := this (List.foldl (pairSt.read lo) ⟨0, 0, 0, [], [], []⟩ l).st
    generalize (if (List.foldl (pairSt.read lo) ⟨0, 0, 0, [], [], []⟩ l).st = 1 then (1 : Int) else 2) = z at this h8
    clear h6 h7 h4 h1
    omega

end Go.Proofs.Ytbncjlapmomlkaa.Pure
