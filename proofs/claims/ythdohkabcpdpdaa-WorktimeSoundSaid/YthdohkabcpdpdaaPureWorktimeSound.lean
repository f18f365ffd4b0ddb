import Derived.Test.YthdohkabcpdpdaaP0
import Derived.Test.YthdohkabcpdpdaaP10
import Derived.Test.YthdohkabcpdpdaaP13
import Derived.Test.YthdohkabcpdpdaaP14
import Derived.Test.YthdohkabcpdpdaaP17
import Derived.Test.YthdohkabcpdpdaaP4
import Derived.Test.YthdohkabcpdpdaaPlGen
import Derived.Test.YthdohkabcpdpdaaPlIv
import Derived.Test.YthdohkabcpdpdaaPlPresGen
import Derived.Test.YthdohkabcpdpdaaPlPresValid
import Derived.Test.YthdohkabcpdpdaaPlWt
import Derived.Test.YthdohkabcpdpdaaPlWtAdj
namespace Go.Proofs.Ythdohkabcpdpdaa.Pure
open Go.RowKit Go.Proofs.Ythdohkabcpdpdaa.P Go.Proofs.YthdohkabcpdpdaaW.PrintWords Go.Proofs.YthdohkabcpdpdaaW.PrintLast Go.Proofs.YthdohkabcpdpdaaW.PrintMore
set_option linter.unusedVariables false
set_option linter.unusedSimpArgs false
theorem made_loop {s : List Int} (g m sn : Int) (hm : m = 0 ∧ g = 0 ∨ 1 ≤ m ∧ m ≤ 3 ∧ 1 ≤ g ∧ g ≤ 60) (hsn : 0 ≤ sn ∧ sn ≤ 120) (d : Nat) (hd : d ≤ 3) : ∀ (a b p : Int) (brs : List S60), AtOk s p → 0 ≤ a → a ≤ 360 + 180 * (3 - d : Int) → 1 ≤ b → b ≤ 30 + 15 * (3 - d : Int) → brs.length + d ≤ 3 → (∀ x ∈ brs, 0 ≤ x.f0 ∧ x.f0 < a ∧ 1 ≤ x.f1 ∧ x.f1 < b) → (∀ (i : Nat) (h : i + 1 < brs.length), brs[i].f0 < brs[i + 1].f0 ∧ brs[i].f1 < brs[i + 1].f1) →
    ∃ brs' p', AtOk s p' ∧ RulesOk g m sn brs' ∧ Ev (fun k => payrollgen_Tape_Adjust.l0 k false a b (d : Int) s p g m sn brs) (g, m, sn, brs', p') := by
  induction d with
  | zero =>
    intro a b p brs hp ha ha2 hb hb2 hl he hs
    have e2 : Ev (fun k => payrollgen_Tape_Adjust.j2 k false s p g m sn brs) (g, m, sn, brs, p) := by
      refine Ev.step (f := fun _ => some (g, m, sn, brs, p)) (fun k => ?_) (Ev.now _)
      simp only [payrollgen_Tape_Adjust.j2]
      rw [if_neg (by simp)]
    refine ⟨brs, p, hp, ⟨hm, hsn, by omega, fun x hx => by have := he x hx; omega, hs⟩, Ev.step (fun k => ?_) e2⟩
    simp only [payrollgen_Tape_Adjust.l0]
    rw [if_neg (by omega), if_neg (by simp)]
  | succ d ih =>
    intro a b p brs hp ha ha2 hb hb2 hl he hs
    obtain ⟨v1, p1, e1, hp1, hv1⟩ := pick_ok hp [60, 180, 1] (by decide) (by decide)
    have b1 : 1 ≤ v1 ∧ v1 ≤ 180 := by simp at hv1; omega
    obtain ⟨v2, p2, e2, hp2, hv2⟩ := pick_ok hp1 [15, 1] (by decide) (by decide)
    have b2 : 1 ≤ v2 ∧ v2 ≤ 15 := by simp at hv2; omega
    have w1 : wrap64 (a + v1) = a + v1 := wrap_id (by omega) (by omega)
    have w2 : wrap64 (b + v2) = b + v2 := wrap_id (by omega) (by omega)
    have w3 : wrap64 (((d + 1 : Nat) : Int) - 1) = (d : Int) := by rw [wrap_id (by omega) (by omega)]; omega
    obtain ⟨brs',p',g1,g2,g3⟩:=ih (by omega) (a + v1) (b + v2) p2 (brs ++ [⟨a,b⟩]) hp2 (by omega) (by omega) (by omega) (by omega) (by simp;omega) (fun x hx=>by
      rcases List.mem_append.1 hx with hx | hx
      · have := he x hx; omega
      · rw [List.mem_singleton.1 hx]; exact ⟨ha, by show a < a + v1; omega, hb, by show b < b + v2; omega⟩) (fun i hi => by
      rw [List.length_append, List.length_singleton] at hi
      have hi1 : i < brs.length := by omega
      by_cases c : i + 1 < brs.length
      · rw [List.getElem_append_left hi1, List.getElem_append_left c]; exact hs i c
      · have : i + 1 = brs.length := by omega
        have hx := he _ (List.getElem_mem hi1)
        rw [List.getElem_append_left hi1, List.getElem_append_right (by omega)]
        simp only [this, Nat.sub_self, List.getElem_cons_zero]
        exact ⟨hx.2.1, hx.2.2.2⟩)
    refine ⟨brs', p', g1, g2, Ev.step (fun k => ?_) g3⟩
    simp only [payrollgen_Tape_Adjust.l0]
    rw [if_pos (by omega), if_pos (by omega), e1]; simp only [Option.bind_some]
    rw [e2]; simp only [Option.bind_some]
    rw [w1, w2, w3]
theorem made_ev {s : List Int} {p : Int} (hp : AtOk s p) : ∃ g m sn brs p', AtOk s p' ∧ RulesOk g m sn brs ∧ Ev (fun k => payrollgen_Tape_Adjust.f k s p false) (g, m, sn, brs, p') := by
  obtain ⟨m, p1, e1, hp1, hm0, hm1, _⟩ := next_ok hp 4 (by omega)
  have hm1 := hm1 (by omega)
  obtain ⟨sn, p2, e2, hp2, hsn⟩ := pick_ok hp1 [0, 5, 15, 120] (by decide) (by decide)
  have bs : 0 ≤ sn ∧ sn ≤ 120 := by simp at hsn; omega
  have tail:∀ (g q:Int),AtOk s q → (m = 0∧g = 0 ∨ 1≤m∧m≤3∧1≤g∧g≤60) → ∃ brs p',AtOk s p'∧RulesOk g m sn brs∧Ev (fun k=>payrollgen_Tape_Adjust.j0 k false s q g m sn) (g,m,sn,brs,p'):=by
    intro g q hq hg
    obtain ⟨a, p3, e3, hp3, ha⟩ := pick_ok hq [0, 120, 360] (by decide) (by decide)
    have ba : 0 ≤ a ∧ a ≤ 360 := by simp at ha; omega
    obtain ⟨b, p4, e4, hp4, hb⟩ := pick_ok hp3 [15, 30, 1] (by decide) (by decide)
    have bb : 1 ≤ b ∧ b ≤ 30 := by simp at hb; omega
    obtain ⟨n, p5, e5, hp5, hn0, hn1, _⟩ := next_ok hp4 4 (by omega)
    have hn1 := hn1 (by omega)
    obtain ⟨brs,p',g1,g2,g3⟩:=made_loop g m sn hg bs n.toNat (by omega) a b p5 [] hp5 ba.1 (by omega) bb.1 (by omega) (by simp;omega) (fun x hx=>by cases hx) (fun i h=>by simp at h)
    have hn : ((n.toNat : Nat) : Int) = n := by omega
    rw [hn] at g3
    refine ⟨brs, p', g1, g2, Ev.step (fun k => ?_) g3⟩
    simp only [payrollgen_Tape_Adjust.j0]
    rw [e3]; simp only [Option.bind_some]
    rw [e4]; simp only [Option.bind_some]
    rw [e5]; simp only [Option.bind_some]
  unfold payrollgen_Tape_Adjust.f
  by_cases c : m = 0
  · obtain ⟨brs, p', g1, g2, g3⟩ := tail 0 p2 hp2 (.inl ⟨c, rfl⟩)
    exact ⟨0, m, sn, brs, p', g1, g2, Ev.bind0 e1 (Ev.bind0 e2 (Ev.pos c g3))⟩
  · obtain ⟨g, p3, e3, hp3, hg⟩ := pick_ok hp2 [15, 5, 1, 60, 7] (by decide) (by decide)
    have bg : 1 ≤ g ∧ g ≤ 60 := by simp at hg; omega
    obtain ⟨brs, p', g1, g2, g3⟩ := tail g p3 hp3 (.inr ⟨by omega, by omega, bg.1, bg.2⟩)
    exact ⟨g, m, sn, brs, p', g1, g2, Ev.bind0 e1 (Ev.bind0 e2 (Ev.neg c (Ev.bind0 e3 g3)))⟩
theorem brsOf_mem {ps : List S48} {p : S48} {b : S41} (hp : p ∈ ps) (hb : b ∈ p.f1) : b ∈ brsOf ps := by
  induction ps with
  | nil => cases hp
  | cons q l ih =>
    rcases List.mem_cons.1 hp with rfl | hp
    · exact List.mem_append.2 (.inl hb)
    · exact List.mem_append.2 (.inr (ih hp))
theorem BrOk.valid {a e : Int} {l : List S41} (h : BrOk a e l) : ∀ b ∈ l, b.f0 < b.f1 := by
  induction l generalizing a with
  | nil => intro b hb; cases hb
  | cons x l ih =>
    obtain ⟨_, h2, h3⟩ := h
    intro b hb
    rcases List.mem_cons.1 hb with rfl | hb
    · exact h2
    · exact ih h3 b hb
theorem sane_ev : Ev (fun k => payrolllaw11_sane.f k) true := Ev.of payrolllaw11_sane.mono (k := 40) (by decide +kernel)
theorem in_breaks (sh day wd : Int) (ps : List S48) (ws : List S41) (i : Int) (x0 x1 : Int) (hps : ps.length ≤ 1000) (j : Nat) (hj : j < ps.length) (hb : ps[j].f1.length ≤ 1000) (hd : ∀ b ∈ ps[j].f1, ¬ (b.f0 < x1 ∧ x0 < b.f1)) (r : Bool) (hr : Ev (fun k => payrolllaw11_WorktimeSound.l1 k i ((j + 1 : Nat) : Int) sh day ps wd ws x0 x1) r) (d : Nat) : ∀ n : Nat, n + d = ps[j].f1.length → Ev (fun k => payrolllaw11_WorktimeSound.l2 k i (j : Int) (n : Int) sh day ps wd ws x0 x1) r := by
  have q0 : (0 : Int) ≤ (j : Int) := Int.natCast_nonneg j
  have q1 : (j : Int) < (ps.length : Int) := Int.ofNat_lt.2 hj
  induction d with
  | zero =>
    intro n hn
    have w : wrap64 ((j : Int) + 1) = ((j + 1 : Nat) : Int) := by rw [wrap_id (by omega) (by omega)]; rfl
    refine Ev.step (fun k => ?_) hr
    simp only [payrolllaw11_WorktimeSound.l2]
    rw [if_pos q0, if_pos q1, rdT_at ps j hj, if_neg (by omega), w]
  | succ d ih =>
    intro n hn
    have hnl : n < ps[j].f1.length := by omega
    have q2 : (0 : Int) ≤ (n : Int) := Int.natCast_nonneg n
    have q3 : (n : Int) < (ps[j].f1.length : Int) := Int.ofNat_lt.2 hnl
    have w : wrap64 ((n : Int) + 1) = ((n + 1 : Nat) : Int) := by rw [wrap_id (by omega) (by omega)]; rfl
    have h := hd _ (List.getElem_mem hnl)
    refine Ev.step (fun k => ?_) (ih (n + 1) (by omega))
    simp only [payrolllaw11_WorktimeSound.l2]
    rw [if_pos q0, if_pos q1, rdT_at ps j hj, if_pos q3, if_pos q2, rdI_at _ n hnl, w]
    by_cases c : ps[j].f1[n].f0 < x1
    · rw [if_pos c, if_neg (fun c2 => h ⟨c, c2⟩)]
    · rw [if_neg c]
theorem in_pres (sh day wd : Int) (ps : List S48) (ws : List S41) (i : Nat) (hi : i ≤ 10000000) (x0 x1 : Int) (hps : ps.length ≤ 1000) (hb : ∀ p ∈ ps, p.f1.length ≤ 1000) (hd : ∀ p ∈ ps, ∀ b ∈ p.f1, ¬ (b.f0 < x1 ∧ x0 < b.f1)) (r : Bool) (hr : Ev (fun k => payrolllaw11_WorktimeSound.l0 k ((i + 1 : Nat) : Int) sh day ps wd ws) r) (d : Nat) : ∀ j : Nat, j + d = ps.length → Ev (fun k => payrolllaw11_WorktimeSound.l1 k (i : Int) (j : Int) sh day ps wd ws x0 x1) r := by
  induction d with
  | zero =>
    intro j hj
    have w : wrap64 ((i : Int) + 1) = ((i + 1 : Nat) : Int) := by rw [wrap_id (by omega) (by omega)]; rfl
    refine Ev.step (fun k => ?_) hr
    simp only [payrolllaw11_WorktimeSound.l1]
    rw [if_neg (by omega), w]
  | succ d ih =>
    intro j hj
    have hjl : j < ps.length := by omega
    refine Ev.step (fun k=>?_) (in_breaks sh day wd ps ws (i:Int) x0 x1 hps j hjl (hb _ (List.getElem_mem hjl)) (hd _ (List.getElem_mem hjl)) r (ih (j + 1) (by omega)) _ 0 (Nat.zero_add _))
    simp only [payrolllaw11_WorktimeSound.l1]
    rw [if_pos (by omega)]; rfl
theorem in_works (sh day wd : Int) (ps : List S48) (ws : List S41) (hw : ws.length ≤ 100000) (hP : Pw ws) (hps : ps.length ≤ 1000) (hb : ∀ p ∈ ps, p.f1.length ≤ 1000) (hd : ∀ x ∈ ws, ∀ p ∈ ps, ∀ b ∈ p.f1, ¬ (b.f0 < x.f1 ∧ x.f0 < b.f1)) (d : Nat) : ∀ i : Nat, i + d = ws.length → Ev (fun k => payrolllaw11_WorktimeSound.l0 k (i : Int) sh day ps wd ws) true := by
  induction d with
  | zero =>
    intro i hi
    refine Ev.step (f:=fun k=>(payrolllaw11_sane.f k).bind fun t=>some t) (fun k=>?_) (Ev.bind sane_ev (Ev.now _))
    simp only [payrolllaw11_WorktimeSound.l0]
    rw [if_neg (by omega)]
  | succ d ih =>
    intro i hi
    have hil : i < ws.length := by omega
    have q0 : (0 : Int) ≤ (i : Int) := Int.natCast_nonneg i
    have q1 : (i : Int) < (ws.length : Int) := Int.ofNat_lt.2 hil
    have hx := hP.2 _ (List.getElem_mem hil)
    have e1:=in_pres sh day wd ps ws i (by omega) ws[i].f0 ws[i].f1 hps hb (hd _ (List.getElem_mem hil)) true (ih (i + 1) (by omega)) _ 0 (Nat.zero_add _)
    have e2 : Ev (fun k => payrolllaw11_WorktimeSound.j2 k (i : Int) false sh day ps wd ws ws[i].f0 ws[i].f1) true := by
      refine Ev.step (fun k => ?_) e1
      simp only [payrolllaw11_WorktimeSound.j2]
      rw [if_neg (by simp)]; rfl
    refine Ev.step (fun k => ?_) e2
    simp only [payrolllaw11_WorktimeSound.l0]
    rw [if_pos q1, if_pos q0, rdI_at ws i hil, if_neg (by omega)]
    cases i with
    | zero => rw [if_neg (by simp)]
    | succ j =>
      have w2 : wrap64 (((j + 1 : Nat) : Int) - 1) = (j : Int) := by rw [wrap_id (by omega) (by omega)]; omega
      have hj := (List.pairwise_iff_getElem.1 hP.1) j (j + 1) (by omega) hil (by omega)
      rw[if_pos (by omega),w2,if_pos (by omega),if_pos (by omega),rdI_at ws j (by omega),decide_eq_false (by omega)]
theorem WorktimeSound : payrolllaw11_WorktimeSound.Pure := by
  intro l0 _ hl _
  refine Ev.rounds ?_
  obtain ⟨g, m, sn, brs, p1, hp1, hr, e1⟩ := made_ev (AtOk.new hl)
  obtain ⟨ps, pf, pt, p2, hp2, e2, hP, hn, hpl⟩ := duty_ev hp1
  obtain ⟨w, e3, a1, a2, a3, a4, a5, a6⟩ := adjust_ev (sh := -1) (day := 20454) hr hpl hP hn
  have hlen := tot_le _ _ _ a3
  have hv := (brsOf_ok hP).1.valid
  have hd : ∀ x ∈ w, ∀ p ∈ ps, ∀ b ∈ p.f1, ¬ (b.f0 < x.f1 ∧ x.f0 < b.f1) := by
    rintro x hx p hp b hb ⟨c1, c2⟩
    have hbm := brsOf_mem hp hb
    have v1 := hv b hbm
    have v2 := a4.2 x hx
    by_cases c : x.f0 ≤ b.f0
    · exact (a5 b.f0 ⟨x, hx, c, c1⟩).2 ⟨b, hbm, Int.le_refl _, v1⟩
    · exact (a5 x.f0 ⟨x, hx, Int.le_refl _, v2⟩).2 ⟨b, hbm, by omega, c2⟩
  have e4:=in_works (-1) 20454 20454 ps w (by omega) a4 (by omega) (fun p hp=>by have:=hP.each p hp;omega) hd _ 0 (Nat.zero_add _)
  have e5 : Ev (fun k => payrolllaw11_WorktimeSound.j0 k ((20454 : Int) != 20454) (-1) 20454 ps 20454 w) true := by
    refine Ev.step (fun k => ?_) e4
    simp only [payrolllaw11_WorktimeSound.j0]
    rw [if_neg (by simp)]; rfl
  unfold payrolllaw11_WorktimeSound.f
  refine Ev.bind0 (show payrollgen_New.f l0 = some (l0, 0) from rfl) ?_
  exact Ev.bind e1 (Ev.bind e2 (Ev.bind e3 (Ev.pos rfl e5)))
end Go.Proofs.Ythdohkabcpdpdaa.Pure
