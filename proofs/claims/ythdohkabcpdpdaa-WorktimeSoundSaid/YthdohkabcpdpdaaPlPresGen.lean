import Derived.Test.YthdohkabcpdpdaaP0
import Derived.Test.YthdohkabcpdpdaaP15
import Derived.Test.YthdohkabcpdpdaaPlGen
namespace Go.Proofs.Ythdohkabcpdpdaa.Pure
open Go.RowKit Go.Proofs.Ythdohkabcpdpdaa.P Go.Proofs.YthdohkabcpdpdaaW.PrintWords Go.Proofs.YthdohkabcpdpdaaW.PrintLast Go.Proofs.YthdohkabcpdpdaaW.PrintMore
set_option linter.unusedVariables false
set_option linter.unusedSimpArgs false
def BrOk (a e : Int) : List S41 → Prop
  | [] => a ≤ e
  | b :: l => a ≤ b.f0 ∧ b.f0 < b.f1 ∧ BrOk b.f1 e l
def PresOk (M : Int) (B : Nat) (a e : Int) : List S48 → Prop
  | [] => a ≤ e
  | p :: l => a ≤ p.f0.f0 ∧ p.f0.f0 < p.f0.f1 ∧ p.f0.f1 - p.f0.f0 ≤ M ∧ p.f1.length ≤ B ∧ BrOk p.f0.f0 p.f0.f1 p.f1 ∧ PresOk M B p.f0.f1 e l
theorem BrOk.le {a e : Int} {l : List S41} (h : BrOk a e l) : a ≤ e := by
  induction l generalizing a with
  | nil => exact h
  | cons b l ih => obtain ⟨h1, h2, h3⟩ := h; have := ih h3; omega
theorem BrOk.more {a e e' : Int} {l : List S41} (h : BrOk a e l) (he : e ≤ e') : BrOk a e' l := by
  induction l generalizing a with
  | nil => simp only [BrOk] at h ⊢; omega
  | cons b l ih => obtain ⟨h1, h2, h3⟩ := h; exact ⟨h1, h2, ih h3⟩
theorem BrOk.snoc {a e e' : Int} {l : List S41} {b : S41} (h : BrOk a e l) (h1 : e ≤ b.f0) (h2 : b.f0 < b.f1) (h3 : b.f1 ≤ e') : BrOk a e' (l ++ [b]) := by
  induction l generalizing a with
  | nil => simp only [BrOk] at h; exact ⟨by omega, h2, h3⟩
  | cons c l ih => obtain ⟨g1, g2, g3⟩ := h; exact ⟨g1, g2, ih g3⟩
theorem PresOk.le {M : Int} {B : Nat} {a e : Int} {l : List S48} (h : PresOk M B a e l) : a ≤ e := by
  induction l generalizing a with
  | nil => exact h
  | cons b l ih => obtain ⟨h1, h2, _, _, _, h3⟩ := h; have := ih h3; omega
theorem PresOk.more {M : Int} {B : Nat} {a e e' : Int} {l : List S48} (h : PresOk M B a e l) (he : e ≤ e') : PresOk M B a e' l := by
  induction l generalizing a with
  | nil => simp only [PresOk] at h ⊢; omega
  | cons b l ih => obtain ⟨h1, h2, h3, h4, h5, h6⟩ := h; exact ⟨h1, h2, h3, h4, h5, ih h6⟩
theorem PresOk.snoc {M : Int} {B : Nat} {a e e' : Int} {l : List S48} {p : S48} (h : PresOk M B a e l) (h1 : e ≤ p.f0.f0) (h2 : p.f0.f0 < p.f0.f1) (h3 : p.f0.f1 - p.f0.f0 ≤ M) (h4 : p.f1.length ≤ B) (h5 : BrOk p.f0.f0 p.f0.f1 p.f1) (h6 : p.f0.f1 ≤ e') : PresOk M B a e' (l ++ [p]) := by
  induction l generalizing a with
  | nil => simp only [PresOk] at h; exact ⟨by omega, h2, h3, h4, h5, h6⟩
  | cons c l ih => obtain ⟨g1, g2, g3, g4, g5, g6⟩ := h; exact ⟨g1, g2, g3, g4, g5, ih g6⟩
theorem pres_inner {s : List Int} (out : List S48) (i F t : Int) (hF : 0 ≤ F) (hFt : F < t) (ht : t ≤ 200000000) (m : Nat) : ∀ (b : Int) (brs : List S41) (p : Int), AtOk s p → BrOk F b brs → b ≤ t → brs.length + m ≤ 10 →
    ∃ b' brs' p', AtOk s p' ∧ BrOk F b' brs' ∧ b' ≤ t ∧ brs'.length ≤ 10 ∧ ∀ r, Ev (fun k => payrollgen_Tape_Presences.l1 k out i b' 0 s p' F t brs') r → Ev (fun k => payrollgen_Tape_Presences.l1 k out i b (m : Int) s p F t brs) r := by
  induction m with
  | zero => intro b brs p hp hb hbt hl; exact ⟨b, brs, p, hp, hb, hbt, by omega, fun r h => h⟩
  | succ m ih =>
    intro b brs p hp hb hbt hl
    have hFb := hb.le
    obtain ⟨v1, p1, e1, hp1, hv1⟩ := pick_ok hp [0, 60, 120, 7] (by decide) (by decide)
    obtain ⟨v2, p2, e2, hp2, hv2⟩ := pick_ok hp1 [15, 30, 45] (by decide) (by decide)
    have b1 : 0 ≤ v1 ∧ v1 ≤ 120 := by simp at hv1; omega
    have b2 : 15 ≤ v2 ∧ v2 ≤ 45 := by simp at hv2; omega
    have w1 : wrap64 (b + v1) = b + v1 := wrap_id (by omega) (by omega)
    have w2 : wrap64 (b + v1 + v2) = b + v1 + v2 := wrap_id (by omega) (by omega)
    have w3 : wrap64 (((m + 1 : Nat) : Int) - 1) = (m : Int) := by rw [wrap_id (by omega) (by omega)]; omega
    by_cases c : b + v1 + v2 ≤ t
    · obtain ⟨b', brs', p', g1, g2, g3, g4, g5⟩ := ih (b + v1 + v2) (brs ++ [⟨b + v1, b + v1 + v2⟩]) p2 hp2 (hb.snoc (by simp only []; omega) (by simp only []; omega) (by simp only []; omega)) c (by simp; omega)
      refine ⟨b', brs', p', g1, g2, g3, g4, fun r hr => ?_⟩
      refine Ev.step (f:=fun k=>payrollgen_Tape_Presences.l1 k out i (b + v1 + v2) (m:Int) s p2 F t (brs ++ [⟨b + v1,b + v1 + v2⟩])) (fun k=>?_) (g5 r hr)
      simp only [payrollgen_Tape_Presences.l1]
      rw [if_pos (by omega), e1]; simp only [Option.bind_some]
      rw [e2]; simp only [Option.bind_some]
      rw [w1, w2, w3, if_pos c, if_pos (by simp; omega)]
    · obtain ⟨b', brs', p', g1, g2, g3, g4, g5⟩ := ih b brs p2 hp2 hb hbt (by omega)
      refine ⟨b', brs', p', g1, g2, g3, g4, fun r hr => ?_⟩
      refine Ev.step (f:=fun k=>payrollgen_Tape_Presences.l1 k out i b (m:Int) s p2 F t brs) (fun k=>?_) (g5 r hr)
      simp only [payrollgen_Tape_Presences.l1]
      rw [if_pos (by omega), e1]; simp only [Option.bind_some]
      rw [e2]; simp only [Option.bind_some]
      rw [w1, w2, w3, if_neg c]
theorem pres_outer {s : List Int} (A : Int) (hA : 0 ≤ A) (d : Nat) (hd : d ≤ 10) : ∀ (a : Int) (out : List S48) (p : Int), AtOk s p → PresOk 545 10 A a out → a ≤ 29454240 + 2000 * (10 - d : Int) → out.length + d ≤ 10 →
    ∃ L p', AtOk s p' ∧ PresOk 545 10 A 29474240 L ∧ L.length ≤ 10 ∧ Ev (fun k => payrollgen_Tape_Presences.l0 k a out (d : Int) s p) (L, p') := by
  induction d with
  | zero =>
    intro a out p hp ho ha hl
    refine ⟨out, p, hp, ho.more (by omega), by omega, Ev.step (f := fun _ => some (out, p)) (fun k => ?_) (Ev.now _)⟩
    simp only [payrollgen_Tape_Presences.l0]
    rw [if_neg (by omega)]
  | succ d ih =>
    intro a out p hp ho ha hl
    have hAa := ho.le
    obtain ⟨v1, p1, e1, hp1, hv1⟩ := pick_ok hp [480, 1, 300, 545, 90] (by decide) (by decide)
    have b1 : 1 ≤ v1 ∧ v1 ≤ 545 := by simp at hv1; omega
    obtain ⟨m, p2, e2, hp2, hm0, hm1, _⟩ := next_ok hp1 3 (by omega)
    have hm1 := hm1 (by omega)
    have w1 : wrap64 (a + v1) = a + v1 := wrap_id (by omega) (by omega)
    obtain ⟨b',brs,p3,hp3,hb,hbt,hbl,hin⟩:=pres_inner (s:=s) out ((d + 1:Nat):Int) a (a + v1) (by omega) (by omega) (by omega) m.toNat a [] p2 hp2 (by simp[BrOk]) (by omega) (by simp;omega)
    obtain ⟨v3, p4, e4, hp4, hv3⟩ := pick_ok hp3 [0, 15, 960, 480, 1] (by decide) (by decide)
    have b3 : 0 ≤ v3 ∧ v3 ≤ 960 := by simp at hv3; omega
    have w3 : wrap64 (a + v1 + v3) = a + v1 + v3 := wrap_id (by omega) (by omega)
    have w4 : wrap64 (((d + 1 : Nat) : Int) - 1) = (d : Int) := by rw [wrap_id (by omega) (by omega)]; omega
    obtain ⟨L,p',g1,g2,g3,g4⟩:=ih (by omega) (a + v1 + v3) (out ++ [⟨⟨a,a + v1⟩,brs⟩]) p4 hp4 (ho.snoc (by simp only[];omega) (by simp only[];omega) (by simp only[];omega) (by simp only[];omega) (hb.more hbt) (by simp only[];omega)) (by omega) (by simp;omega)
    refine ⟨L, p', g1, g2, g3, ?_⟩
    have hm : ((m.toNat : Nat) : Int) = m := by omega
    rw [hm] at hin
    refine Ev.step (f:=fun k=>payrollgen_Tape_Presences.l1 k out ((d + 1:Nat):Int) a m s p2 a (a + v1) []) (fun k=>?_) (hin _ ?_)
    · simp only [payrollgen_Tape_Presences.l0]
      rw [if_pos (by omega), e1]; simp only [Option.bind_some]
      rw [e2]; simp only [Option.bind_some]
      rw [w1]
    · refine Ev.step (f := fun k => payrollgen_Tape_Presences.l0 k (a + v1 + v3) (out ++ [⟨⟨a, a + v1⟩, brs⟩]) (d : Int) s p4) (fun k => ?_) g4
      simp only [payrollgen_Tape_Presences.l1]
      rw [if_neg (by omega)]
      simp only [Option.bind_some]
      rw [if_pos (by simp; omega), e4]; simp only [Option.bind_some]
      rw [w3, w4]
theorem presences_ok {s : List Int} {p : Int} (hp : AtOk s p) (n : Int) (h0 : 0 ≤ n) (h1 : n ≤ 9) : ∃ L p', AtOk s p' ∧ PresOk 545 10 29453760 29474240 L ∧ L.length ≤ 10 ∧ Ev (fun k => payrollgen_Tape_Presences.f k s p n) (L, p') := by
  obtain ⟨v1, p1, e1, hp1, hv1⟩ := pick_ok hp [0, 420, 470, 480] (by decide) (by decide)
  have b1 : 0 ≤ v1 ∧ v1 ≤ 480 := by simp at hv1; omega
  have w1 : wrap64 (n + 1) = n + 1 := wrap_id (by omega) (by omega)
  have w2 : wrap64 (29453760 + v1) = 29453760 + v1 := wrap_id (by omega) (by omega)
  obtain ⟨m, p2, e2, hp2, hm0, hm1, _⟩ := next_ok hp1 (n + 1) (by omega)
  have hm1 := hm1 (by omega)
  obtain ⟨L,p',g1,g2,g3,g4⟩:=pres_outer (s:=s) 29453760 (by omega) m.toNat (by omega) (29453760 + v1) [] p2 hp2 (by simp[PresOk];omega) (by omega) (by simp;omega)
  refine ⟨L, p', g1, g2, g3, ?_⟩
  have hm : ((m.toNat : Nat) : Int) = m := by omega
  rw [hm] at g4
  unfold payrollgen_Tape_Presences.f
  rw [e1]; simp only [Option.bind_some]
  rw [w1, e2]; simp only [Option.bind_some]
  rw [w2]; exact g4
end Go.Proofs.Ythdohkabcpdpdaa.Pure
