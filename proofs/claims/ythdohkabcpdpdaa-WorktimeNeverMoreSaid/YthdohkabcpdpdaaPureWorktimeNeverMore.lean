/- With a grid to the disadvantage working time is never longer than presence, to the advantage never shorter, and without a grid as long. No condition beside the statement's own. -/
import Derived.Test.YthdohkabcpdpdaaP0
import Derived.Test.YthdohkabcpdpdaaP10
import Derived.Test.YthdohkabcpdpdaaP13
import Derived.Test.YthdohkabcpdpdaaP18
import Derived.Test.YthdohkabcpdpdaaP19
import Derived.Test.YthdohkabcpdpdaaP4
import Derived.Test.YthdohkabcpdpdaaPlGen
import Derived.Test.YthdohkabcpdpdaaPlIv
import Derived.Test.YthdohkabcpdpdaaPlPresGen
import Derived.Test.YthdohkabcpdpdaaPlPresValid
import Derived.Test.YthdohkabcpdpdaaPlWt
import Derived.Test.YthdohkabcpdpdaaPlWtAdj
namespace Go.Proofs.Ythdohkabcpdpdaa.Pure
open Go.RowKit Go.Proofs.Ythdohkabcpdpdaa.P Go.Proofs.YthdohkabcpdpdaaW.PrintWords Go.Proofs.YthdohkabcpdpdaaW.PrintLast Go.Proofs.YthdohkabcpdpdaaW.PrintMore
set_option linter.unusedVariables false
set_option linter.unusedSimpArgs false
theorem tot_append (l m : List S41) : tot (l ++ m) = tot l + tot m := by
  induction l with
  | nil => simp [tot]
  | cons x l ih => simp only [List.cons_append, tot, ih]; omega
def psum : List S48 → Int
  | [] => 0
  | p :: l => (p.f0.f1 - p.f0.f0 - tot p.f1) + psum l
def stayOf (ps : List S48) : List S41 := ps.map fun p => ⟨p.f0.f0, p.f0.f1⟩
theorem stayOf_ok {M : Int} {B : Nat} {a e : Int} {l : List S48} (h : PresOk M B a e l) : BrOk a e (stayOf l) ∧ (∀ t, Ins t (stayOf l) ↔ ExP t l) ∧ tot (stayOf l) = psum l + tot (brsOf l) := by
  induction l generalizing a with
  | nil => exact ⟨h, fun t => ⟨fun q => absurd q Ins.nil, fun ⟨p, hp, _⟩ => by cases hp⟩, rfl⟩
  | cons p l ih =>
    obtain ⟨h1, h2, h3, h4, h5, h6⟩ := h
    obtain ⟨g1, g2, g3⟩ := ih h6
    refine ⟨⟨h1, h2, g1⟩, fun t => ?_, ?_⟩
    · show Ins t (_ :: stayOf l) ↔ _
      rw [Ins.cons, ExP.cons, g2]
    · show (p.f0.f1 - p.f0.f0) + tot (stayOf l) = _
      rw [g3]
      simp only [psum, brsOf, tot_append]; omega
/-! the reference's minutes of a presence -/
theorem one_loop (f t : Int) (br : List S41) (hl : br.length ≤ 1024) (ht : t ≤ 120968640) (d : Nat) : ∀ (i : Nat) (at_ : Int), i + d = br.length → 0 ≤ at_ → BrOk at_ t (br.drop i) → Ev (fun k => payrollref9_one.l0 k at_ (i : Int) f t br) true := by
  induction d with
  | zero =>
    intro i a hi h0 h
    refine Ev.step (f := fun _ => some true) (fun k => ?_) (Ev.now _)
    simp only [payrollref9_one.l0]
    rw [if_neg (by omega)]
  | succ d ih =>
    intro i a hi h0 h
    have hil : i < br.length := by omega
    have q0 : (0 : Int) ≤ (i : Int) := Int.natCast_nonneg i
    have q1 : (i : Int) < (br.length : Int) := Int.ofNat_lt.2 hil
    rw [List.drop_eq_getElem_cons hil] at h
    obtain ⟨h1, h2, h3⟩ := h
    have h4 := h3.le
    have w : wrap64 ((i : Int) + 1) = ((i + 1 : Nat) : Int) := by rw [wrap_id (by omega) (by omega)]; rfl
    refine Ev.step (fun k => ?_) (ih (i + 1) _ (by omega) (by omega) h3)
    have iv : payrollref9_IsInterval.f br[i].f0 br[i].f1 = some true := by
      unfold payrollref9_IsInterval.f
      rw [if_pos (by omega), if_pos (by omega), decide_eq_true (by omega)]
    simp only [payrollref9_one.l0]
    rw [if_pos q1, if_pos q0, rdI_at br i hil, iv, Option.bind_some, if_pos rfl, if_neg (by omega), if_neg (by omega), w]
theorem min_loop (f t : Int) (br : List S41) (hl : br.length ≤ 1024) (d : Nat) : ∀ (i : Nat) (n lo : Int), i + d = br.length → 0 ≤ lo → BrOk lo t (br.drop i) → t ≤ 200000000 → 0 ≤ n - tot (br.drop i) → n ≤ 200000000 → Ev (fun k => payrollref9_Minutes.l0 k n (i : Int) f t br) (n - tot (br.drop i)) := by
  induction d with
  | zero =>
    intro i n lo hi h0 h ht hn hn2
    rw [List.drop_of_length_le (by omega)]
    refine Ev.step (f := fun _ => some n) (fun k => ?_) (by simpa [tot] using Ev.now n)
    simp only [payrollref9_Minutes.l0]
    rw [if_neg (by omega)]
  | succ d ih =>
    intro i n lo hi h0 h ht hn hn2
    have hil : i < br.length := by omega
    have q0 : (0 : Int) ≤ (i : Int) := Int.natCast_nonneg i
    have q1 : (i : Int) < (br.length : Int) := Int.ofNat_lt.2 hil
    rw [List.drop_eq_getElem_cons hil] at h hn ⊢
    obtain ⟨h1, h2, h3⟩ := h
    have h4 := h3.le
    have h5 := tot_le _ _ _ h3
    simp only [tot] at hn ⊢
    have w : wrap64 ((i : Int) + 1) = ((i + 1 : Nat) : Int) := by rw [wrap_id (by omega) (by omega)]; rfl
    have w1 : wrap64 (br[i].f1 - br[i].f0) = br[i].f1 - br[i].f0 := wrap_id (by omega) (by omega)
    have w2 : wrap64 (n - (br[i].f1 - br[i].f0)) = n - (br[i].f1 - br[i].f0) := wrap_id (by omega) (by omega)
    have := ih (i + 1) (n - (br[i].f1 - br[i].f0)) _ (by omega) (by omega) h3 ht (by omega) (by omega)
    rw [show n - (br[i].f1 - br[i].f0 + tot (br.drop (i + 1))) = n - (br[i].f1 - br[i].f0) - tot (br.drop (i + 1)) from by omega]
    refine Ev.step (fun k => ?_) this
    simp only [payrollref9_Minutes.l0]
    rw [if_pos q1, if_pos q0, rdI_at br i hil, w1, w2, w]
theorem ref_min {f t : Int} {br : List S41} (h : BrOk f t br) (h0 : 0 ≤ f) (hft : f < t) (ht : t ≤ 120968640) (hl : br.length ≤ 1024) : Ev (fun k => payrollref9_Minutes.f k f t br) (t - f - tot br) := by
  have h1 := tot_le _ _ _ h
  have iv : payrollref9_IsInterval.f f t = some true := by
    unfold payrollref9_IsInterval.f
    rw [if_pos (by omega), if_pos (by omega), decide_eq_true (by omega)]
  have e0 : Ev (fun k => payrollref9_one.j0 k (decide ((br.length : Int) > 1024)) f t br) true := by
    rw [decide_eq_false (by omega)]
    refine Ev.step (fun k => ?_) (one_loop f t br hl ht br.length 0 f (by omega) h0 (by simpa using h))
    simp only [payrollref9_one.j0]
    rw [if_neg (by simp)]; rfl
  have e1 : Ev (fun k => payrollref9_one.f k f t br) true := by
    unfold payrollref9_one.f
    exact Ev.bind0 iv (Ev.pos rfl e0)
  have w1 : wrap64 (t - f) = t - f := wrap_id (by omega) (by omega)
  unfold payrollref9_Minutes.f
  refine Ev.bind e1 (Ev.pos rfl ?_)
  rw [w1]
  have := min_loop f t br hl br.length 0 (t - f) f (by omega) h0 (by simpa using h) (by omega) (by simp; omega) (by omega)
  have e : t - f - tot (br.drop 0) = t - f - tot br := by simp
  rw [e] at this
  exact this
/-! the minutes of working time -/
theorem wmin_loop (l : List S41) (hl : l.length ≤ 1024) (e : Int) (he : e ≤ 120968640) (d : Nat) : ∀ (i : Nat) (acc lo : Int), i + d = l.length → BrOk lo e (l.drop i) → 0 ≤ lo → 0 ≤ acc → acc + tot (l.drop i) ≤ 200000000 → Ev (fun k => worktime_Minutes.l0 k acc l (l.length : Int) (i : Int)) (acc + tot (l.drop i)) := by
  induction d with
  | zero =>
    intro i acc lo hi h h0 ha hb
    rw [List.drop_of_length_le (by omega)]
    refine Ev.step (f := fun _ => some acc) (fun k => ?_) (by simpa [tot] using Ev.now acc)
    simp only [worktime_Minutes.l0]
    rw [if_neg (by omega)]
  | succ d ih =>
    intro i acc lo hi h h0 ha hb
    have hil : i < l.length := by omega
    have q0 : (0 : Int) ≤ (i : Int) := Int.natCast_nonneg i
    have q1 : (i : Int) < (l.length : Int) := Int.ofNat_lt.2 hil
    rw [List.drop_eq_getElem_cons hil] at h hb ⊢
    obtain ⟨h1, h2, h3⟩ := h
    have h4 := h3.le
    have h5 := tot_le _ _ _ h3
    simp only [tot] at hb ⊢
    have w : wrap64 ((i : Int) + 1) = ((i + 1 : Nat) : Int) := by rw [wrap_id (by omega) (by omega)]; rfl
    have w1 : wrap64 (l[i].f1 - l[i].f0) = l[i].f1 - l[i].f0 := wrap_id (by omega) (by omega)
    have w2 : wrap64 (acc + (l[i].f1 - l[i].f0)) = acc + (l[i].f1 - l[i].f0) := wrap_id (by omega) (by omega)
    have iv : worktime_valid.f l[i].f0 l[i].f1 = some true := by
      unfold worktime_valid.f
      rw [if_pos (by omega), if_pos (by omega), decide_eq_true (by omega)]
    have := ih (i + 1) (acc + (l[i].f1 - l[i].f0)) _ (by omega) h3 (by omega) (by omega) (by omega)
    rw [show acc + (l[i].f1 - l[i].f0 + tot (l.drop (i + 1))) = acc + (l[i].f1 - l[i].f0) + tot (l.drop (i + 1)) from by omega]
    refine Ev.step (fun k => ?_) this
    simp only [worktime_Minutes.l0]
    rw [if_pos q1, if_pos q0, if_pos q1, rdI_at l i hil, iv, Option.bind_some, if_pos rfl, w1, w2, w]
theorem wmin_ev {l : List S41} {lo e : Int} (h : BrOk lo e l) (h0 : 0 ≤ lo) (he : e ≤ 120968640) (hl : l.length ≤ 1024) : Ev (fun k => worktime_Minutes.f k l) (tot l) := by
  have h1 := tot_le _ _ _ h
  have e1 : mn (l.length : Int) 1024 = (l.length : Int) := by rw [mn_eq, if_pos (by omega)]
  have e2 : (l.take ((l.length : Int)).toNat : List S41) = l := by rw [Int.toNat_natCast, List.take_length]
  have := wmin_loop l hl e he l.length 0 0 lo (by omega) (by simpa using h) h0 (by omega) (by simp; omega)
  have e : (0 : Int) + tot (l.drop 0) = tot l := by simp
  rw [e] at this
  unfold worktime_Minutes.f
  rw [e1]
  refine Ev.pos (by omega) (Ev.pos (by omega) ?_)
  rw [e2]
  exact Ev.bind0 rfl this
/-! how many intervals 'without' makes -/
theorem cutB_len (z : Int) (bs : List S41) : ∀ (out : List S41) (a : Int), (cutB z out a bs).1.length ≤ out.length + bs.length := by
  induction bs with
  | nil => intro out a; exact Nat.le_refl _
  | cons b l ih =>
    intro out a
    rw [cutB]
    split
    · have := ih (addIv out a b.f0) (mx a b.f1)
      have := addIv_len out a b.f0
      rw [List.length_cons]; omega
    · rw [List.length_cons]; show out.length ≤ _; omega
theorem dropW_len (bs : List S41) (p : S41 → Bool) : (bs.dropWhile p).length ≤ bs.length := by
  induction bs with
  | nil => exact Nat.le_refl _
  | cons b l ih => rw [List.dropWhile_cons]; split <;> simp <;> omega
theorem withoutGo_len (l : List S41) : ∀ (out bs : List S41), (withoutGo out bs l).length ≤ out.length + l.length * (bs.length + 1) := by
  induction l with
  | nil => intro out bs; simp [withoutGo]
  | cons x l ih =>
    intro out bs
    rw [withoutGo]
    have d := dropW_len bs (fun b => decide (b.f1 ≤ x.f0))
    generalize bs.dropWhile (fun b => decide (b.f1 ≤ x.f0)) = bs' at *
    have c := cutB_len x.f1 bs' out x.f0
    have a := addIv_len (cutB x.f1 out x.f0 bs').1 (cutB x.f1 out x.f0 bs').2 x.f1
    have i := ih (addIv (cutB x.f1 out x.f0 bs').1 (cutB x.f1 out x.f0 bs').2 x.f1) bs'
    have m := Nat.mul_le_mul_left l.length (show bs'.length + 1 ≤ bs.length + 1 by omega)
    rw [List.length_cons, Nat.succ_mul]
    omega
theorem sane_ev : Ev (fun k => payrolllaw11_sane.f k) true := Ev.of payrolllaw11_sane.mono (k := 40) (by decide +kernel)
theorem psum_le {M : Int} {B : Nat} {a e : Int} {l : List S48} (h : PresOk M B a e l) : 0 ≤ psum l ∧ psum l ≤ e - a := by
  induction l generalizing a with
  | nil => simp only [PresOk] at h; simp only [psum]; omega
  | cons p l ih =>
    obtain ⟨h1, h2, h3, h4, h5, h6⟩ := h
    have := ih h6
    have := tot_le _ _ _ h5
    simp only [psum]; omega
/-! the law -/
theorem law_loop (ps : List S48) (hl : ps.length ≤ 10) (sh day : Int) (da db dc : Int) (a b c : List S41) (r : Bool) (d : Nat) : ∀ (i : Nat) (acc lo : Int), i + d = ps.length → PresOk 545 10 lo 29474240 (ps.drop i) → 0 ≤ lo → 0 ≤ acc → acc + psum (ps.drop i) ≤ 200000000 → Ev (fun k => payrolllaw11_WorktimeNeverMore.l0 k 0 0 0 (acc + psum (ps.drop i)) (ps.length : Int) sh day ps da a db b dc c) r → Ev (fun k => payrolllaw11_WorktimeNeverMore.l0 k 0 0 0 acc (i : Int) sh day ps da a db b dc c) r := by
  induction d with
  | zero =>
    intro i acc lo hi h h0 ha hb hr
    have : i = ps.length := by omega
    subst this
    rw [List.drop_of_length_le (Nat.le_refl _)] at hr
    simpa [psum] using hr
  | succ d ih =>
    intro i acc lo hi h h0 ha hb hr
    have hil : i < ps.length := by omega
    have q0 : (0 : Int) ≤ (i : Int) := Int.natCast_nonneg i
    have q1 : (i : Int) < (ps.length : Int) := Int.ofNat_lt.2 hil
    rw [List.drop_eq_getElem_cons hil] at h hb hr
    obtain ⟨h1, h2, h3, h4, h5, h6⟩ := h
    have h7 := h6.le
    have h8 := tot_le _ _ _ h5
    have h9 := psum_le h6
    simp only [psum] at hb hr
    have w : wrap64 ((i : Int) + 1) = ((i + 1 : Nat) : Int) := by rw [wrap_id (by omega) (by omega)]; rfl
    have w2 : wrap64 (acc + (ps[i].f0.f1 - ps[i].f0.f0 - tot ps[i].f1)) = acc + (ps[i].f0.f1 - ps[i].f0.f0 - tot ps[i].f1) := wrap_id (by omega) (by omega)
    have em := ref_min h5 (by omega) h2 (by omega) (by omega)
    refine Ev.step (f := fun k => (payrollref9_Minutes.f k ps[i].f0.f0 ps[i].f0.f1 ps[i].f1).bind fun t => payrolllaw11_WorktimeNeverMore.l0 k 0 0 0 (wrap64 (acc + t)) ((i + 1 : Nat) : Int) sh day ps da a db b dc c) (fun k => ?_) (Ev.bind em ?_)
    · simp only [payrolllaw11_WorktimeNeverMore.l0]
      rw [if_pos q1, if_pos q0, rdT_at ps i hil, w]
    · rw [w2]
      refine ih (i + 1) _ _ (by omega) h6 (by omega) (by omega) (by omega) ?_
      rw [show acc + (ps[i].f0.f1 - ps[i].f0.f0 - tot ps[i].f1) + psum (ps.drop (i + 1)) = acc + (ps[i].f0.f1 - ps[i].f0.f0 - tot ps[i].f1 + psum (ps.drop (i + 1))) from by omega]
      exact hr
theorem WorktimeNeverMore : payrolllaw11_WorktimeNeverMore.Pure := by
  intro l0 a1 _ hl _ _
  refine Ev.rounds ?_
  obtain ⟨ps, pf, pt, p', hp, hev, hP, hn, _⟩ := duty_ev (AtOk.new hl)
  have hm0 := Int.emod_nonneg a1 (show (60 : Int) ≠ 0 by omega)
  have hm1 := Int.emod_lt_of_pos a1 (show (0 : Int) < 60 by omega)
  have w1 : wrap64 (1 + a1 % 60) = 1 + a1 % 60 := wrap_id (by omega) (by omega)
  generalize hg : 1 + a1 % 60 = g at *
  have nor : ∀ b ∈ ([] : List S60), 0 ≤ b.f0 ∧ b.f0 ≤ 1440 ∧ 1 ≤ b.f1 ∧ b.f1 ≤ 1440 := fun b hb => by cases hb
  have r1 : RulesOk g 1 0 [] := ⟨.inr ⟨by omega, by omega, by omega, by omega⟩, ⟨by omega, by omega⟩, by simp, nor, fun i h => by simp at h⟩
  have r2 : RulesOk g 2 0 [] := ⟨.inr ⟨by omega, by omega, by omega, by omega⟩, ⟨by omega, by omega⟩, by simp, nor, fun i h => by simp at h⟩
  have r0 : RulesOk 0 0 0 [] := ⟨.inl ⟨rfl, rfl⟩, ⟨by omega, by omega⟩, by simp, nor, fun i h => by simp at h⟩
  obtain ⟨wi, i1, i2, i3, i4, i5, i6, i7⟩ := adjust_ev (sh := -1) (day := 20454) r1 (.inl ⟨rfl, rfl⟩) hP hn
  obtain ⟨wo, o1, o2, o3, o4, o5, o6, o7⟩ := adjust_ev (sh := -1) (day := 20454) r2 (.inl ⟨rfl, rfl⟩) hP hn
  obtain ⟨wn, n1, n2, n3, n4, n5, n6, n7⟩ := adjust_ev (sh := -1) (day := 20454) r0 (.inl ⟨rfl, rfl⟩) hP hn
  obtain ⟨b1, b2⟩ := brsOf_ok hP
  obtain ⟨s1, s2, s3⟩ := stayOf_ok hP
  have hb2 : (brsOf ps).length ≤ 100 := by have := Nat.mul_le_mul_right 10 hn; omega
  have len : ∀ st : List S41, st.length ≤ ps.length → (withoutGo [] (brsOf ps) st).length ≤ 1024 := by
    intro st h
    have := withoutGo_len st [] (brsOf ps)
    have := Nat.mul_le_mul (show st.length ≤ 10 by omega) (show (brsOf ps).length + 1 ≤ 101 by omega)
    simp only [List.length_nil] at *; omega
  have he := hP.each
  have pz : ∀ (gg mm : Int) (p : S48), pr gg mm 0 0 0 p = (mvd gg mm p.f0.f0 false, mvd gg mm p.f0.f1 true) := fun gg mm p => by unfold pr; rw [if_neg (by simp)]
  -- without a grid: the stays themselves
  have inN : ∀ t, Ins t (adjGo (pr 0 0 0 0 0) 0 [] ps) ↔ ExP t ps := by
    intro t
    constructor
    · intro h
      exact (adjGo_sub _ t ps 0 [] (fun p _ => by rw [pz, mvd_none, mvd_none]; exact ⟨Int.le_refl _, Int.le_refl _⟩) h).resolve_left Ins.nil
    · intro h
      exact adjGo_sup _ 545 10 29474240 t ps 0 29453760 [] hP (fun p hp => by rw [pz, mvd_none, mvd_none]; have := he p hp; exact ⟨Int.le_refl _, Int.le_refl _, by show p.f0.f1 ≤ 120968640; omega⟩) (fun u h1 h2 => by omega) (.inr h)
  have inI : ∀ t, Ins t (adjGo (pr g 1 0 0 0) 0 [] ps) → ExP t ps := by
    intro t h
    exact (adjGo_sub _ t ps 0 [] (fun p _ => by rw [pz]; exact ⟨mvd_up (by omega) (.inl ⟨rfl, rfl⟩), mvd_down (by omega) (.inl ⟨rfl, rfl⟩)⟩) h).resolve_left Ins.nil
  have inO : ∀ t, ExP t ps → Ins t (adjGo (pr g 2 0 0 0) 0 [] ps) := by
    intro t h
    exact adjGo_sup _ 545 10 29474240 t ps 0 29453760 [] hP (fun p hp => by
      rw [pz]
      have := he p hp
      have b := mvd_bd (g := g) (m := 2) (t := p.f0.f1) (e := true) (.inr ⟨by omega, by omega⟩)
      exact ⟨mvd_down (by omega) (.inr ⟨rfl, rfl⟩), mvd_up (by omega) (.inr ⟨rfl, rfl⟩), by show mvd g 2 p.f0.f1 true ≤ (120968640 : Int); omega⟩) (fun u h1 h2 => by omega) (.inr h)
  have i8 := i7 rfl
  have o8 := o7 rfl
  have n8 := n7 rfl
  have b1' : BrOk 29453000 29475000 (brsOf ps) := (b1.less (by omega)).more (by omega)
  have s1' : BrOk 29453000 29475000 (stayOf ps) := (s1.less (by omega)).more (by omega)
  have spec := fun {m : Int} {st : List S41} (h : BrOk 29453000 29475000 st) => (without_spec h b1).2.2
  have tn : tot wn = psum ps := by
    have e1 : tot (adjGo (pr 0 0 0 0 0) 0 [] ps) = tot wn + tot (brsOf ps) := by
      refine tot_add n4 b1' n2 (fun t => ?_) (fun t h1 h2 => (n6 t h1).2 h2)
      rw [n8, (without_spec n2 b1).2.2 t]
      constructor
      · intro h
        by_cases c : Ins t (brsOf ps)
        · exact .inr c
        · exact .inl ⟨h, c⟩
      · rintro (h | h)
        · exact h.1
        · exact (inN t).2 (brsOf_exP hP h)
    have e2 : tot (adjGo (pr 0 0 0 0 0) 0 [] ps) = tot (stayOf ps) := by
      have := tot_mono n2 s1' (fun t h => (s2 t).2 ((inN t).1 h))
      have := tot_mono s1' n2 (fun t h => (inN t).2 ((s2 t).1 h))
      omega
    omega
  have ti : tot wi ≤ psum ps := by
    rw [← tn]
    refine tot_mono i4 n4 (fun t h => ?_)
    obtain ⟨h1, h2⟩ := i6 t h
    rw [n8]
    exact ((without_spec n2 b1).2.2 t).2 ⟨(inN t).2 (inI t h1), h2⟩
  have to_ : psum ps ≤ tot wo := by
    rw [← tn]
    refine tot_mono n4 o4 (fun t h => ?_)
    obtain ⟨h1, h2⟩ := n6 t h
    rw [o8]
    exact ((without_spec o2 b1).2.2 t).2 ⟨inO t ((inN t).1 h1), h2⟩
  have hps := psum_le hP
  have mi := wmin_ev i4 (by omega) (by omega) (by rw [i8]; exact len _ i3)
  have mo := wmin_ev o4 (by omega) (by omega) (by rw [o8]; exact len _ o3)
  have mn_ := wmin_ev n4 (by omega) (by omega) (by rw [n8]; exact len _ n3)
  have fin : Ev (fun k => payrolllaw11_WorktimeNeverMore.l0 k 0 0 0 (psum ps) (ps.length : Int) (-1) 20454 ps 20454 wi 20454 wo 20454 wn) true := by
    refine Ev.step (f := fun k => (worktime_Minutes.f k wi).bind fun t135 => (if t135 ≤ psum ps then ((worktime_Minutes.f k wo).bind fun t136 => (if t136 ≥ psum ps then ((worktime_Minutes.f k wn).bind fun t137 => (if t137 = psum ps then ((payrolllaw11_sane.f k).bind fun t138 => (some t138)) else (some false))) else (some false))) else (some false))) (fun k => ?_) (Ev.bind mi (Ev.pos ti (Ev.bind mo (Ev.pos to_ (Ev.bind mn_ (Ev.pos tn (Ev.bind sane_ev (Ev.now _))))))))
    simp only [payrolllaw11_WorktimeNeverMore.l0]
    rw [if_neg (by omega), if_pos trivial, if_pos trivial, if_pos trivial]
  have whole := law_loop ps hn (-1) 20454 20454 20454 20454 wi wo wn true ps.length 0 0 29453760 (by omega) (by simpa using hP) (by omega) (by omega) (by simp; omega) (by simpa using fin)
  unfold payrolllaw11_WorktimeNeverMore.f
  refine Ev.bind0 (show payrollgen_New.f l0 = some (l0, 0) from rfl) ?_
  refine Ev.bind hev ?_
  refine Ev.bind0 (mod_eq a1 60 (by omega) (by omega)) ?_
  simp only [hg, w1]
  exact Ev.bind i1 (Ev.bind o1 (Ev.bind n1 whole))

end Go.Proofs.Ythdohkabcpdpdaa.Pure
