import Derived.Test.YthdohkabcpdpdaaP0
import Derived.Test.YthdohkabcpdpdaaP10
import Derived.Test.YthdohkabcpdpdaaP11
import Derived.Test.YthdohkabcpdpdaaP12
import Derived.Test.YthdohkabcpdpdaaP16
import Derived.Test.YthdohkabcpdpdaaP4
import Derived.Test.YthdohkabcpdpdaaP6
import Derived.Test.YthdohkabcpdpdaaP7
import Derived.Test.YthdohkabcpdpdaaP8
import Derived.Test.YthdohkabcpdpdaaP9
import Derived.Test.YthdohkabcpdpdaaPlGen
import Derived.Test.YthdohkabcpdpdaaPlIv
import Derived.Test.YthdohkabcpdpdaaPlPresGen
import Derived.Test.YthdohkabcpdpdaaPlPresValid
import Derived.Test.YthdohkabcpdpdaaPlWt
namespace Go.Proofs.Ythdohkabcpdpdaa.Pure
open Go.RowKit Go.Proofs.Ythdohkabcpdpdaa.P Go.Proofs.YthdohkabcpdpdaaW.PrintWords Go.Proofs.YthdohkabcpdpdaaW.PrintLast Go.Proofs.YthdohkabcpdpdaaW.PrintMore
set_option linter.unusedVariables false
set_option linter.unusedSimpArgs false
theorem BrOk.append {a m e : Int} {l r : List S41} (h : BrOk a m l) (h2 : BrOk m e r) : BrOk a e (l ++ r) := by
  induction l generalizing a with
  | nil => exact h2.less h
  | cons x l ih => obtain ⟨h1, h3, h4⟩ := h; exact ⟨h1, h3, ih h4⟩
def brsOf : List S48 → List S41
  | [] => []
  | p :: l => p.f1 ++ brsOf l
theorem brsOf_ok {M : Int} {B : Nat} {a e : Int} {l : List S48} (h : PresOk M B a e l) : BrOk a e (brsOf l) ∧ (brsOf l).length ≤ l.length * B := by
  induction l generalizing a with
  | nil => exact ⟨h, by simp [brsOf]⟩
  | cons p l ih =>
    obtain ⟨h1, h2, h3, h4, h5, h6⟩ := h
    obtain ⟨g1, g2⟩ := ih h6
    refine ⟨(h5.less h1).append g1, ?_⟩
    simp only [brsOf, List.length_append, List.length_cons, Nat.succ_mul]; omega
theorem rdB_at (l : List S60) (i : Nat) (h : i < l.length) : rd_T60 l (i : Int) = l[i] := by
  unfold rd_T60
  rw [Int.toNat_natCast, List.getD_eq_getElem?_getD, List.getElem?_eq_getElem h]; rfl
structure RulesOk (g m s : Int) (brs : List S60) : Prop where
  mode : m = 0 ∧ g = 0 ∨ 1 ≤ m ∧ m ≤ 3 ∧ 1 ≤ g ∧ g ≤ 60
  snap : 0 ≤ s ∧ s ≤ 120
  len : brs.length ≤ 16
  each : ∀ b ∈ brs, 0 ≤ b.f0 ∧ b.f0 ≤ 1440 ∧ 1 ≤ b.f1 ∧ b.f1 ≤ 1440
  asc : ∀ (i : Nat) (h : i + 1 < brs.length), brs[i].f0 < brs[i + 1].f0 ∧ brs[i].f1 < brs[i + 1].f1
theorem rules_loop {g m s : Int} {brs : List S60} (h : RulesOk g m s brs) (d : Nat) : ∀ i : Nat, i + d = brs.length → Ev (fun k => worktime_Valid.l0 k brs (brs.length : Int) (i : Int) g m s brs) 0 := by
  have hl := h.len
  induction d with
  | zero =>
    intro i hi
    refine Ev.step (f := fun _ => some 0) (fun k => ?_) (Ev.now _)
    simp only [worktime_Valid.l0]
    rw [if_neg (by omega)]
  | succ d ih =>
    intro i hi
    have hil : i < brs.length := by omega
    have q0 : (0 : Int) ≤ (i : Int) := Int.natCast_nonneg i
    have q1 : (i : Int) < (brs.length : Int) := Int.ofNat_lt.2 hil
    obtain ⟨b1, b2, b3, b4⟩ := h.each _ (List.getElem_mem hil)
    have w : wrap64 ((i : Int) + 1) = ((i + 1 : Nat) : Int) := by rw [wrap_id (by omega) (by omega)]; rfl
    have e3 : Ev (fun k => worktime_Valid.j3 k brs (brs.length : Int) (i : Int) false g m s brs) 0 := by
      refine Ev.step (fun k => ?_) (ih (i + 1) (by omega))
      simp only [worktime_Valid.j3]
      rw [if_neg (by simp), w]
    refine Ev.step (fun k => ?_) e3
    simp only [worktime_Valid.l0]
    rw[if_pos q1,if_pos q0,if_pos q1,rdB_at brs i hil,if_neg (by omega),if_neg (by omega),if_neg (by omega),if_neg (by omega)]
    cases i with
    | zero => rw [if_neg (by simp)]
    | succ j =>
      obtain ⟨a1, a2⟩ := h.asc j (by omega)
      have w2 : wrap64 (((j + 1 : Nat) : Int) - 1) = (j : Int) := by rw [wrap_id (by omega) (by omega)]; omega
      rw[if_pos (by omega),w2,if_pos (by omega),if_pos (by omega),rdB_at brs j (by omega),if_neg (by omega),decide_eq_false (by omega)]
theorem rules_ev {g m s : Int} {brs : List S60} (h : RulesOk g m s brs) : Ev (fun k => worktime_Valid.f k g m s brs) 0 := by
  have hl := h.len
  have hs := h.snap
  have hm := h.mode
  have e1 : Ev (fun k => worktime_Valid.j1 k false g m s brs) 0 := by
    refine Ev.step (fun k => ?_) (rules_loop h brs.length 0 (by omega))
    simp only [worktime_Valid.j1]
    rw [if_neg (by simp)]; rfl
  have e0 : Ev (fun k => worktime_Valid.j0 k false g m s brs) 0 := by
    refine Ev.step (fun k => ?_) e1
    simp only [worktime_Valid.j0]
    rw [if_neg (by simp)]
    by_cases c : m = 0
    · rw [if_pos c, if_pos (by omega)]
    · rw [if_neg c, if_neg (by omega), decide_eq_false (by omega)]
  refine Ev.congr (fun k => ?_) e0
  unfold worktime_Valid.f
  rw [if_neg (by omega), if_neg (by omega), if_neg (by omega), if_neg (by omega), decide_eq_false (by omega)]
theorem cuts_loop (sh day : Int) (ps : List S48) (brs : List S60) (hl : brs.length ≤ 16) (hb : ∀ b ∈ brs, 0 ≤ b.f0 ∧ b.f0 ≤ 1440 ∧ 1 ≤ b.f1 ∧ b.f1 ≤ 1440) (d : Nat) : ∀ (i : Nat) (w : List S41) (taken : Int), i + d = brs.length → BrOk 29453000 29475000 w → Pw w → -50000 ≤ taken → taken ≤ 50000 →
    ∃ w', Ev (fun k => worktime_Adjust.l1 k w taken brs (brs.length : Int) (i : Int) sh day ps) (day, w', 0) ∧ BrOk 29453000 29475000 w' ∧ Pw w' ∧ ∀ t, Ins t w' → Ins t w := by
  induction d with
  | zero =>
    intro i w taken hi h hp t1 t2
    refine ⟨w, Ev.step (f := fun _ => some (day, w, 0)) (fun k => ?_) (Ev.now _), h, hp, fun _ ht => ht⟩
    simp only [worktime_Adjust.l1]
    rw [if_neg (by omega)]
  | succ d ih =>
    intro i w taken hi h hp t1 t2
    have hil : i < brs.length := by omega
    have q0 : (0 : Int) ≤ (i : Int) := Int.natCast_nonneg i
    have q1 : (i : Int) < (brs.length : Int) := Int.ofNat_lt.2 hil
    obtain ⟨b1, b2, b3, b4⟩ := hb _ (List.getElem_mem hil)
    have ht := tot_le _ _ _ h
    have hw : wrap64 ((i : Int) + 1) = ((i + 1 : Nat) : Int) := by rw [wrap_id (by omega) (by omega)]; rfl
    have w1 : wrap64 (brs[i].f1 - taken) = brs[i].f1 - taken := wrap_id (by omega) (by omega)
    have w2 : wrap64 (tot w - brs[i].f0) = tot w - brs[i].f0 := wrap_id (by omega) (by omega)
    have et := total_ev h (by omega) (by omega) (by omega)
    have shape:∀ k,worktime_Adjust.l1 (k + 1) w taken brs (brs.length:Int) (i:Int) sh day ps = (worktime_total.f k w).bind fun t=>(if t > brs[i].f0 then (if taken < brs[i].f1 then ((worktime_cut.f k w brs[i].f0 (mn (brs[i].f1 - taken) (wrap64 (t - brs[i].f0)))).bind fun t126=>(worktime_Adjust.l1 k t126 (wrap64 (taken + (mn (brs[i].f1 - taken) (wrap64 (t - brs[i].f0))))) brs (brs.length:Int) ((i + 1:Nat):Int) sh day ps)) else (worktime_Adjust.l1 k w taken brs (brs.length:Int) ((i + 1:Nat):Int) sh day ps)) else (worktime_Adjust.l1 k w taken brs (brs.length:Int) ((i + 1:Nat):Int) sh day ps)):=by
      intro k
      simp only [worktime_Adjust.l1]
      rw [if_pos q1, if_pos q0, if_pos q1, rdB_at brs i hil, w1, hw]
    by_cases c1 : tot w > brs[i].f0
    · by_cases c2 : taken < brs[i].f1
      · have m1 : 1 ≤ mn (brs[i].f1 - taken) (tot w - brs[i].f0) ∧ mn (brs[i].f1 - taken) (tot w - brs[i].f0) ≤ brs[i].f1 - taken := by rw [mn_eq]; split <;> omega
        have w3:wrap64 (taken + mn (brs[i].f1 - taken) (tot w - brs[i].f0)) = taken + mn (brs[i].f1 - taken) (tot w - brs[i].f0):=wrap_id (by omega) (by omega)
        obtain ⟨r,r1,r2,r3,r4⟩:=cut_ev h (by omega) (by omega) (by omega) b1 (by omega) (show 0≤mn (brs[i].f1 - taken) (tot w - brs[i].f0) by omega) (by omega)
        obtain ⟨w',g1,g2,g3,g4⟩:=ih (i + 1) r (taken + mn (brs[i].f1 - taken) (tot w - brs[i].f0)) (by omega) r3 r2 (by omega) (by omega)
        refine ⟨w', Ev.step shape (Ev.bind et (Ev.pos c1 (Ev.pos c2 ?_))), g2, g3, fun t ht => r4 t (g4 t ht)⟩
        rw [w2, w3]
        exact Ev.bind r1 g1
      · obtain ⟨w', g1, g2, g3, g4⟩ := ih (i + 1) w taken (by omega) h hp t1 t2
        exact ⟨w', Ev.step shape (Ev.bind et (Ev.pos c1 (Ev.neg c2 g1))), g2, g3, g4⟩
    · obtain ⟨w', g1, g2, g3, g4⟩ := ih (i + 1) w taken (by omega) h hp t1 t2
      exact ⟨w', Ev.step shape (Ev.bind et (Ev.neg c1 g1)), g2, g3, g4⟩
theorem gather (g m s sh day : Int) (brs : List S60) (st : List S41) (ps : List S48) (hl : ps.length ≤ 1000) (d : Nat) : ∀ (i : Nat) (acc : List S41) (r : Int × List S41 × Int), i + d = ps.length → acc.length + (brsOf (ps.drop i)).length ≤ 100000 → Ev (fun k => worktime_Adjust.l0 k st (acc ++ brsOf (ps.drop i)) ps (ps.length : Int) (ps.length : Int) g m s brs sh day ps) r → Ev (fun k => worktime_Adjust.l0 k st acc ps (ps.length : Int) (i : Int) g m s brs sh day ps) r := by
  induction d with
  | zero =>
    intro i acc r hi hb h
    rw [List.drop_of_length_le (by omega)] at h
    have : i = ps.length := by omega
    subst this
    simpa [brsOf] using h
  | succ d ih =>
    intro i acc r hi hb h
    have hil : i < ps.length := by omega
    have q0 : (0 : Int) ≤ (i : Int) := Int.natCast_nonneg i
    have q1 : (i : Int) < (ps.length : Int) := Int.ofNat_lt.2 hil
    rw [List.drop_eq_getElem_cons hil] at h hb
    simp only [brsOf, List.length_append] at hb h
    have hw : wrap64 ((i : Int) + 1) = ((i + 1 : Nat) : Int) := by rw [wrap_id (by omega) (by omega)]; rfl
    refine Ev.step (fun k=>?_) (ih (i + 1) (acc ++ ps[i].f1) r (by omega) (by rw[List.length_append];omega) (by rw[List.append_assoc];exact h))
    simp only [worktime_Adjust.l0]
    rw [if_pos q1, if_pos q0, if_pos q1, rdT_at ps i hil, if_pos (by omega), hw]
theorem adjust_ev {g m s pf pt sh day : Int} {brs : List S60} {ps : List S48} (hr : RulesOk g m s brs) (hpl : pf = 0 ∧ pt = 0 ∨ 0 ≤ pf ∧ pf < pt ∧ pt ≤ 120968640) (hP : PresOk 545 10 29453760 29474240 ps) (hn : ps.length ≤ 10) :
    ∃ w, Ev (fun k => worktime_Adjust.f k g m s brs pf pt sh day ps) (day, w, 0) ∧ BrOk 29453000 29475000 (adjGo (pr g m s pf pt) 0 [] ps) ∧ (adjGo (pr g m s pf pt) 0 [] ps).length ≤ ps.length ∧ BrOk 29453000 29475000 w ∧ Pw w ∧ (∀ t, Ins t w → Ins t (adjGo (pr g m s pf pt) 0 [] ps) ∧ ¬ Ins t (brsOf ps)) ∧ (brs = [] → w = withoutGo [] (brsOf ps) (adjGo (pr g m s pf pt) 0 [] ps)) := by
  have hm : m = 0 ∨ (1 ≤ g ∧ g ≤ 60) := hr.mode.elim (fun q => .inl q.1) (fun q => .inr ⟨q.2.2.1, q.2.2.2⟩)
  have hs := hr.snap
  have heach := hP.each
  have hF : ∀ p ∈ ps, 29453000 ≤ (pr g m s pf pt p).1 ∧ (pr g m s pf pt p).2 ≤ 29475000 := by
    intro p hp
    obtain ⟨h1, h2, h3, h4, h5⟩ := heach p hp
    have b1 := mvd_bd (t := p.f0.f0) (e := false) hm
    have b2 := mvd_bd (t := p.f0.f1) (e := true) hm
    unfold pr
    split
    · constructor
      · show 29453000 ≤ ite _ _ _
        split
        · rename_i c; have := nearB_bd c hs.2 (by omega) (by omega) (by omega) (by omega); omega
        · omega
      · show ite _ _ _ ≤ (29475000 : Int)
        split
        · rename_i c; have := nearB_bd c hs.2 (by omega) (by omega) (by omega) (by omega); omega
        · omega
    · exact ⟨by show 29453000 ≤ mvd _ _ _ _; omega, by show mvd _ _ _ _ ≤ (29475000 : Int); omega⟩
  obtain ⟨a1,a2⟩:=adjGo_ok (pr g m s pf pt) 29453000 29475000 ps 0 29453000 [] hF (show (29453000:Int)≤29453000 by omega) (.inr (Int.le_refl _)) (by omega)
  obtain ⟨k1, k2⟩ := brsOf_ok hP
  have e1:=adjusted_loop g m s pf pt brs hm ps (by omega) (fun p hp=>by have:=heach p hp;omega) ps.length 0 0 [] (by omega) (by simp;omega)
  generalize hst : adjGo (pr g m s pf pt) 0 [] ps = st at *
  have e1' : Ev (fun k => worktime_adjusted.f k g m s brs pf pt ps) st := by
    rw [← hst]; exact e1
  obtain ⟨g1, g2, g3⟩ := without_spec a1 k1
  have g4 := tot_le _ _ _ g2
  have a4 := tot_le _ _ _ a1
  have hk2 : (brsOf ps).length ≤ 100 := by have := Nat.mul_le_mul_right 10 hn; omega
  simp only [List.length_nil] at a2
  have a3 : st.length ≤ 10 := by omega
  have wev : worktime_without.f st (brsOf ps) = some (withoutGo [] (brsOf ps) st) := by
    unfold worktime_without.f
    have := Nat.mul_le_mul a3 (show (brsOf ps).length + 1 ≤ 101 by omega)
    rw [if_pos (by omega)]
  generalize hwz : withoutGo [] (brsOf ps) st = wz at *
  -- the rules cut
  have last:∀ taken:Int,-50000≤taken → taken≤50000 → ∃ w,Ev (fun k=>worktime_Adjust.j2 k wz taken g m s brs sh day ps) (day,w,0)∧BrOk 29453000 29475000 w∧Pw w∧(∀ t,Ins t w → Ins t wz)∧(brs = [] → w = wz):=by
    intro taken t1 t2
    obtain ⟨w, c1, c2, c3, c4⟩ := cuts_loop sh day ps brs hr.len hr.each brs.length 0 wz taken (by omega) g2 g1 t1 t2
    have c5 : Ev (fun k => worktime_Adjust.j2 k wz taken g m s brs sh day ps) (day, w, 0) := by
      refine Ev.step (fun k => ?_) c1
      simp only [worktime_Adjust.j2]; rfl
    refine ⟨w, c5, c2, c3, c4, fun hb => ?_⟩
    subst hb
    have c6:Ev (fun k=>worktime_Adjust.l1 k wz taken [] (([]:List S60).length:Int) ((0:Nat):Int) sh day ps) (day,wz,0):=by
      refine Ev.step (f := fun _ => some (day, wz, 0)) (fun k => ?_) (Ev.now _)
      simp only [worktime_Adjust.l1]
      rw [if_neg (by simp)]
    have := Ev.det c1 c6
    exact (Prod.mk.inj (Prod.mk.inj this).2).1
  have mid:∃ w,Ev (fun k=>worktime_Adjust.l0 k st (brsOf ps) ps (ps.length:Int) (ps.length:Int) g m s brs sh day ps) (day,w,0)∧BrOk 29453000 29475000 w∧Pw w∧(∀ t,Ins t w → Ins t wz)∧(brs = [] → w = wz):=by
    rcases Nat.eq_zero_or_pos wz.length with h0 | h0
    · obtain ⟨w, c1, c2⟩ := last 0 (by omega) (by omega)
      refine ⟨w, Ev.step (fun k => ?_) c1, c2⟩
      simp only [worktime_Adjust.l0]
      rw [if_neg (by omega), wev, Option.bind_some, if_neg (by omega)]
    · obtain ⟨x1, x2, x3, _⟩ := g2.get 0 h0
      obtain ⟨y1, y2, y3, _⟩ := g2.get (wz.length - 1) (by omega)
      have w1:wrap64 ((wz.length:Int) - 1) = ((wz.length - 1:Nat):Int):=by rw[wrap_id (by omega) (by omega)];omega
      have w2:wrap64 (wz[wz.length - 1].f1 - wz[0].f0) = wz[wz.length - 1].f1 - wz[0].f0:=wrap_id (by omega) (by omega)
      have w3:wrap64 (wz[wz.length - 1].f1 - wz[0].f0 - tot wz) = wz[wz.length - 1].f1 - wz[0].f0 - tot wz:=wrap_id (by omega) (by omega)
      obtain ⟨w, c1, c2⟩ := last (wz[wz.length - 1].f1 - wz[0].f0 - tot wz) (by omega) (by omega)
      have et := total_ev g2 (by omega) (by omega) (by omega)
      refine⟨w,Ev.step (f:=fun k=>(worktime_total.f k wz).bind fun t=>worktime_Adjust.j2 k wz (wrap64 (wz[wz.length - 1].f1 - wz[0].f0 - t)) g m s brs sh day ps) (fun k=>?_) (Ev.bind et (by rw[w3];exact c1)),c2⟩
      simp only [worktime_Adjust.l0]
      rw[if_neg (by omega),wev,Option.bind_some,if_pos (by omega),w1,if_pos (by omega),if_pos (by omega),if_pos (by omega),rdI_at wz _ (by omega),show (0:Int) = ((0:Nat):Int) from rfl,rdI_at wz 0 h0,w2]
  obtain ⟨w, c1, c2, c3, c4, c5⟩ := mid
  refine ⟨w, ?_, a1, by omega, c2, c3, fun t ht => (g3 t).1 (c4 t ht), c5⟩
  have c6:=gather g m s sh day brs st ps (by omega) ps.length 0 [] (day,w,0) (by omega) (by simp;omega) (by simpa using c1)
  have c7 : Ev (fun k => worktime_Adjust.j0 k false g m s brs pf pt sh day ps) (day, w, 0) := by
    refine Ev.step (f:=fun k=>(presence_Valid.f k ps).bind fun t107=>(if t107 = 0 then ((worktime_adjusted.f k g m s brs pf pt ps).bind fun t108=>((worktime_total.f k t108).bind fun t111=>(if t111 > 100000 then (some (0,([]:List (S41)),3)) else (worktime_Adjust.l0 k t108 ([]:List (S41)) ps (ps.length:Int) 0 g m s brs sh day ps)))) else (some (0,([]:List (S41)),t107)))) (fun k=>?_) ?_
    · simp only [worktime_Adjust.j0]
      rw [if_neg (by simp)]
    have hP' : PresOk 545 1000 0 29474240 ps := by
      have : ∀ (l : List S48) (a : Int), PresOk 545 10 a 29474240 l → PresOk 545 1000 a 29474240 l := by
        intro l
        induction l with
        | nil => intro a h; exact h
        | cons p l ih => intro a h; obtain ⟨h1, h2, h3, h4, h5, h6⟩ := h; exact ⟨h1, h2, h3, by omega, h5, ih _ h6⟩
      have h9 := this ps _ hP
      cases ps with
      | nil => simp only [PresOk]; omega
      | cons p l => obtain ⟨h1, h2⟩ := h9; exact ⟨by omega, h2⟩
    refine Ev.bind (valid_ev (by omega) (by omega) hP') (Ev.pos rfl (Ev.bind e1' (Ev.bind (total_ev a1 (by omega) (by omega) (by omega)) (Ev.neg (by omega) c6))))
  unfold worktime_Adjust.f
  refine Ev.bind (rules_ev hr) (Ev.pos rfl ?_)
  by_cases c : (!(pf == 0) || (!(pt == 0))) = true
  · refine Ev.pos c ?_
    have hv : worktime_valid.f pf pt = some true := by
      rcases hpl with ⟨rfl, rfl⟩ | ⟨q1, q2, q3⟩
      · simp at c
      · unfold worktime_valid.f
        rw [if_pos (by omega), if_pos (by omega), decide_eq_true (by omega)]
    exact Ev.bind0 hv c7
  · exact Ev.neg c c7
theorem duty_ev {s : List Int} {p : Int} (hp : AtOk s p) : ∃ ps pf pt p', AtOk s p' ∧ Ev (fun k => payrolllaw11_duty.f k s p) (-1, 20454, ps, pf, pt, p') ∧ PresOk 545 10 29453760 29474240 ps ∧ ps.length ≤ 10 ∧ (pf = 0 ∧ pt = 0 ∨ 0 ≤ pf ∧ pf < pt ∧ pt ≤ 120968640) := by
  obtain ⟨L, p1, hp1, hL, hn, hev⟩ := presences_ok hp 3 (by omega) (by omega)
  have zero : ∀ q, Ev (fun k => payrolllaw11_duty.j0 k true s q (-1) 20454 L) (-1, 20454, L, 0, 0, q) := by
    intro q
    refine Ev.step (f := fun _ => some (-1, 20454, L, 0, 0, q)) (fun k => ?_) (Ev.now _)
    simp only [payrolllaw11_duty.j0]
    rw [if_pos trivial]
  unfold payrolllaw11_duty.f
  by_cases c : (L.length : Int) = 0
  · exact ⟨L, 0, 0, p1, hp1, Ev.bind hev (Ev.pos c (zero p1)), hL, hn, .inl ⟨rfl, rfl⟩⟩
  · obtain ⟨v2, p2, e2, hp2, _⟩ := next_ok hp1 2 (by omega)
    by_cases c2 : (v2 == 0) = true
    · exact ⟨L, 0, 0, p2, hp2, Ev.bind hev (Ev.neg c (Ev.bind0 e2 (by simp only [c2]; exact zero p2))), hL, hn, .inl ⟨rfl, rfl⟩⟩
    · have c3 : (v2 == 0) = false := by simpa using c2
      obtain ⟨v3, p3, e3, hp3, hv3⟩ := pick_ok hp2 [0, 5, (-5), 20, (-60)] (by decide) (by decide)
      obtain ⟨v4, p4, e4, hp4, hv4⟩ := pick_ok hp3 [480, 300, 510] (by decide) (by decide)
      have b3 : -60 ≤ v3 ∧ v3 ≤ 20 := by simp at hv3; omega
      have b4 : 300 ≤ v4 ∧ v4 ≤ 510 := by simp at hv4; omega
      have h0 : 0 < L.length := by omega
      obtain ⟨x1, x2, x3, x4, x5⟩ := hL.each _ (List.getElem_mem h0)
      have e5 : rd_T48 L 0 = L[0] := rdT_at L 0 h0
      have w1 : wrap64 (L[0].f0.f0 + v3) = L[0].f0.f0 + v3 := wrap_id (by omega) (by omega)
      have w2 : wrap64 (L[0].f0.f0 + v3 + v4) = L[0].f0.f0 + v3 + v4 := wrap_id (by omega) (by omega)
      refine⟨L,L[0].f0.f0 + v3,L[0].f0.f0 + v3 + v4,p4,hp4,Ev.bind hev (Ev.neg c (Ev.bind0 e2 ?_)),hL,hn,.inr ⟨by omega,by omega,by omega⟩⟩
      simp only [c3]
      refine Ev.step (f:=fun _=>some ((-1:Int),(20454:Int),L,L[0].f0.f0 + v3,L[0].f0.f0 + v3 + v4,p4)) (fun k=>?_) (Ev.now _)
      simp only [payrolllaw11_duty.j0]
      rw [if_neg (by simp), if_pos (by omega), e3]; simp only [Option.bind_some]
      rw [e4]; simp only [Option.bind_some]
      rw [e5, w1, w2]
end Go.Proofs.Ythdohkabcpdpdaa.Pure
