import Derived.Test.YthdohkabcpdpdaaM0
import Derived.Test.YthdohkabcpdpdaaM14
import Derived.Test.YthdohkabcpdpdaaM5
import Derived.Test.YthdohkabcpdpdaaM6
import Derived.Test.YthdohkabcpdpdaaPlGen
namespace Go.Proofs.Ythdohkabcpdpdaa.Pure
open Go.RowKit Go.Proofs.Ythdohkabcpdpdaa.M Go.Proofs.YthdohkabcpdpdaaW.PrintWords Go.Proofs.YthdohkabcpdpdaaW.PrintLast Go.Proofs.YthdohkabcpdpdaaW.PrintMore
set_option linter.unusedVariables false
set_option linter.unusedSimpArgs false
theorem rdI_at' (l : List S41) (i : Nat) (h : i < l.length) : rd_T41 l (i : Int) = l[i] := by
  unfold rd_T41
  rw [Int.toNat_natCast, List.getD_eq_getElem?_getD, List.getElem?_eq_getElem h]; rfl
theorem rdW_at (l : List S30) (i : Nat) (h : i < l.length) : rd_T30 l (i : Int) = l[i] := by
  unfold rd_T30
  rw [Int.toNat_natCast, List.getD_eq_getElem?_getD, List.getElem?_eq_getElem h]; rfl
def vB (x : S41) : Bool := decide (0 ≤ x.f0 ∧ x.f0 < x.f1 ∧ x.f1 ≤ 120968640)
def sumW (acc : Int) : List S41 → Int
  | [] => acc
  | x :: l => sumW (if vB x = true then wrap64 (acc + wrap64 (x.f1 - x.f0)) else acc) l
theorem valid_eq (x : S41) : worktime_valid.f x.f0 x.f1 = some (vB x) := by
  unfold worktime_valid.f vB
  by_cases c1 : x.f0 ≥ 0
  · rw [if_pos c1]
    by_cases c2 : x.f1 > x.f0
    · rw [if_pos c2]; congr 1; rw [decide_eq_decide]; omega
    · rw [if_neg c2, decide_eq_false (by omega)]
  · rw [if_neg c1, decide_eq_false (by omega)]
theorem isIv_eq (x : S41) : payrollref9_IsInterval.f x.f0 x.f1 = some (vB x) := by
  unfold payrollref9_IsInterval.f vB
  by_cases c1 : x.f0 ≥ 0
  · rw [if_pos c1]
    by_cases c2 : x.f0 < x.f1
    · rw [if_pos c2]; congr 1; rw [decide_eq_decide]; omega
    · rw [if_neg c2, decide_eq_false (by omega)]
  · rw [if_neg c1, decide_eq_false (by omega)]
theorem prog_loop (l : List S41) (hl : l.length ≤ 1000000) (d : Nat) : ∀ (i : Nat) (acc : Int), i + d = l.length → Ev (fun k => worktime_Minutes.l0 k acc l (l.length : Int) (i : Int)) (sumW acc (l.drop i)) := by
  induction d with
  | zero =>
    intro i acc hi
    rw [List.drop_of_length_le (by omega)]
    refine Ev.step (f := fun _ => some acc) (fun k => ?_) (Ev.now acc)
    simp only [worktime_Minutes.l0]
    rw [if_neg (by omega)]
  | succ d ih =>
    intro i acc hi
    have hil : i < l.length := by omega
    have q0 : (0 : Int) ≤ (i : Int) := Int.natCast_nonneg i
    have q1 : (i : Int) < (l.length : Int) := Int.ofNat_lt.2 hil
    have w : wrap64 ((i : Int) + 1) = ((i + 1 : Nat) : Int) := by rw [wrap_id (by omega) (by omega)]; rfl
    rw [List.drop_eq_getElem_cons hil]
    simp only [sumW]
    refine Ev.step (fun k => ?_) (ih (i + 1) _ (by omega))
    simp only [worktime_Minutes.l0]
    rw [if_pos q1, if_pos q0, if_pos q1, rdI_at' l i hil, valid_eq, Option.bind_some, w]
    by_cases c : vB l[i] = true
    · rw [if_pos c, if_pos c]
    · rw [if_neg c, if_neg c]
theorem prog_min (l : List S41) (hl : l.length ≤ 1000000) : Ev (fun k => worktime_Minutes.f k l) (sumW 0 (l.take 1024)) := by
  have e1 : mn (l.length : Int) 1024 = ((min l.length 1024 : Nat) : Int) := by unfold mn; (repeat' split) <;> omega
  have e2 : (l.take (((min l.length 1024 : Nat) : Int)).toNat : List S41) = l.take 1024 := by
    rw [Int.toNat_natCast]
    by_cases c : l.length ≤ 1024
    · rw [Nat.min_eq_left c, List.take_length, List.take_of_length_le c]
    · rw [Nat.min_eq_right (by omega)]
  have := prog_loop (l.take 1024) (by rw [List.length_take]; omega) (l.take 1024).length 0 0 (by omega)
  rw [List.drop_zero] at this
  unfold worktime_Minutes.f
  rw [e1]
  refine Ev.pos (by omega) (Ev.pos (by omega) ?_)
  rw [e2]
  exact Ev.bind0 rfl this
theorem gen_loop (l : List S41) (hl : l.length ≤ 1000000) (d : Nat) : ∀ (i : Nat) (acc : Int), i + d = l.length → Ev (fun k => payrollgen_Minutes.l0 k l acc (i : Int)) (sumW acc (l.drop i)) := by
  induction d with
  | zero =>
    intro i acc hi
    rw [List.drop_of_length_le (by omega)]
    refine Ev.step (f := fun _ => some acc) (fun k => ?_) (Ev.now acc)
    simp only [payrollgen_Minutes.l0]
    rw [if_neg (by omega)]
  | succ d ih =>
    intro i acc hi
    have hil : i < l.length := by omega
    have q0 : (0 : Int) ≤ (i : Int) := Int.natCast_nonneg i
    have q1 : (i : Int) < (l.length : Int) := Int.ofNat_lt.2 hil
    have w : wrap64 ((i : Int) + 1) = ((i + 1 : Nat) : Int) := by rw [wrap_id (by omega) (by omega)]; rfl
    rw [List.drop_eq_getElem_cons hil]
    simp only [sumW]
    refine Ev.step (fun k => ?_) (ih (i + 1) _ (by omega))
    simp only [payrollgen_Minutes.l0]
    rw [if_pos q1, if_pos q0, rdI_at' l i hil, isIv_eq, Option.bind_some, w]
    by_cases c : vB l[i] = true
    · rw [if_pos c, if_pos c]
    · rw [if_neg c, if_neg c]
theorem ref_loop (l : List S41) (hl : l.length ≤ 1000000) (d : Nat) : ∀ (i : Nat) (acc : Int), i + d = (l.take 1024).length → Ev (fun k => payrollref11_Minutes.l0 k l acc (i : Int)) (sumW acc ((l.take 1024).drop i)) := by
  have hlt : (l.take 1024).length = min 1024 l.length := List.length_take
  induction d with
  | zero =>
    intro i acc hi
    rw [List.drop_of_length_le (by omega)]
    have e : Ev (fun k => payrollref11_Minutes.j1 k l acc (i : Int) false) acc := by
      refine Ev.step (f := fun _ => some acc) (fun k => ?_) (Ev.now acc)
      simp only [payrollref11_Minutes.j1]
      rw [if_neg (by simp)]
    refine Ev.step (fun k => ?_) e
    simp only [payrollref11_Minutes.l0]
    by_cases c : (i : Int) < (l.length : Int)
    · rw [if_pos c, decide_eq_false (by omega)]
    · rw [if_neg c]
  | succ d ih =>
    intro i acc hi
    have hil : i < l.length := by omega
    have hit : i < (l.take 1024).length := by omega
    have q0 : (0 : Int) ≤ (i : Int) := Int.natCast_nonneg i
    have q1 : (i : Int) < (l.length : Int) := Int.ofNat_lt.2 hil
    have w : wrap64 ((i : Int) + 1) = ((i + 1 : Nat) : Int) := by rw [wrap_id (by omega) (by omega)]; rfl
    rw [List.drop_eq_getElem_cons hit, List.getElem_take]
    simp only [sumW]
    have e:Ev (fun k=>payrollref11_Minutes.j1 k l acc (i:Int) true) (sumW (if vB l[i] = true then wrap64 (acc + wrap64 (l[i].f1 - l[i].f0)) else acc) ((l.take 1024).drop (i + 1))):=by
      refine Ev.step (fun k => ?_) (ih (i + 1) _ (by omega))
      simp only [payrollref11_Minutes.j1]
      rw [if_pos trivial, if_pos q0, if_pos q1, rdI_at' l i hil, isIv_eq, Option.bind_some, w]
      by_cases c : vB l[i] = true
      · rw [if_pos c, if_pos c]
      · rw [if_neg c, if_neg c]
    refine Ev.step (fun k => ?_) e
    simp only [payrollref11_Minutes.l0]
    rw [if_pos q1, decide_eq_true (by omega)]
theorem mem_swap {l : List S30} {i : Int} (h0 : 0 ≤ i) (h1 : i < l.length) : ∀ x ∈ swapW l i, x ∈ l := by
  have r : ∀ j : Int, 0 ≤ j → j < l.length → rd_T30 l j ∈ l := by
    intro j hj hj2
    have hjl : j.toNat < l.length := by omega
    have : j = ((j.toNat : Nat) : Int) := by omega
    rw [this, rdW_at l _ hjl]
    exact List.getElem_mem hjl
  intro x hx
  unfold swapW at hx
  rcases List.mem_or_eq_of_mem_set hx with hx | rfl
  · rcases List.mem_or_eq_of_mem_set hx with hx | rfl
    · exact hx
    · exact r i h0 h1
  · exact r 0 (Int.le_refl _) (by omega)
theorem works_inner {s : List Int} (out : List S30) (i day : Int) (m : Nat) (hm : m ≤ 100) : ∀ (a : Int) (iv : List S41) (p : Int), AtOk s p → iv.length + m ≤ 100 →
    ∃ a' iv' p', AtOk s p' ∧ iv'.length ≤ 100 ∧ ∀ r, Ev (fun k => payrollgen_Tape_Works.l1 k out a' i 0 s p' day iv') r → Ev (fun k => payrollgen_Tape_Works.l1 k out a i (m : Int) s p day iv) r := by
  induction m with
  | zero => intro a iv p hp hl; exact ⟨a, iv, p, hp, by omega, fun r h => h⟩
  | succ m ih =>
    intro a iv p hp hl
    obtain ⟨v1, p1, e1, hp1, _⟩ := pick_ok hp [0, 30, 400, 1] (by decide) (by decide)
    obtain ⟨v2, p2, e2, hp2, _⟩ := pick_ok hp1 [240, 60, 480, 1] (by decide) (by decide)
    have w3 : wrap64 (((m + 1 : Nat) : Int) - 1) = (m : Int) := by rw [wrap_id (by omega) (by omega)]; omega
    obtain ⟨a',iv',p',g1,g2,g3⟩:=ih (by omega) (wrap64 (wrap64 (a + v1) + v2)) (iv ++ [⟨wrap64 (a + v1),wrap64 (wrap64 (a + v1) + v2)⟩]) p2 hp2 (by simp;omega)
    refine ⟨a', iv', p', g1, g2, fun r h => Ev.step (fun k => ?_) (g3 r h)⟩
    simp only [payrollgen_Tape_Works.l1]
    rw [if_pos (by omega), e1]; simp only [Option.bind_some]
    rw [e2]; simp only [Option.bind_some]
    rw [if_pos (by omega), w3]
theorem works_outer {s : List Int} (d : Nat) (hd : d ≤ 100) : ∀ (a : Int) (out : List S30) (p : Int), AtOk s p → out.length + d ≤ 100 → (∀ x ∈ out, x.f1.length ≤ 100) →
    ∃ L p', AtOk s p' ∧ L.length ≤ 100 ∧ (∀ x ∈ L, x.f1.length ≤ 100) ∧ Ev (fun k => payrollgen_Tape_Works.l0 k out a (d : Int) s p) (L, p') := by
  induction d with
  | zero =>
    intro a out p hp hl ho
    by_cases c : (out.length : Int) > 1
    · obtain ⟨v, p1, e1, hp1, _⟩ := next_ok hp 2 (by omega)
      by_cases c2 : v = 0
      · obtain ⟨v2, p2, e2, hp2, h20, h21, _⟩ := next_ok hp1 (out.length : Int) (by omega)
        have h21 := h21 (by omega)
        refine⟨swapW out v2,p2,hp2,by simp[swapW];omega,fun x hx=>ho x (mem_swap h20 h21 x hx),Ev.step (f:=fun _=>some (swapW out v2,p2)) (fun k=>?_) (Ev.now _)⟩
        simp only [payrollgen_Tape_Works.l0]
        rw [if_neg (by omega), if_pos c, e1]; simp only [Option.bind_some]
        rw [if_pos c2, e2]; simp only [Option.bind_some]
        rw [if_pos ⟨h20, h21⟩]
      · refine ⟨out, p1, hp1, by omega, ho, Ev.step (f := fun _ => some (out, p1)) (fun k => ?_) (Ev.now _)⟩
        simp only [payrollgen_Tape_Works.l0]
        rw [if_neg (by omega), if_pos c, e1]; simp only [Option.bind_some]
        rw [if_neg c2]
    · refine ⟨out, p, hp, by omega, ho, Ev.step (f := fun _ => some (out, p)) (fun k => ?_) (Ev.now _)⟩
      simp only [payrollgen_Tape_Works.l0]
      rw [if_neg (by omega), if_neg c]
  | succ d ih =>
    intro a out p hp hl ho
    obtain ⟨v1, p1, e1, hp1, _⟩ := next_ok hp 5 (by omega)
    obtain ⟨v2, p2, e2, hp2, h20, h21, _⟩ := next_ok hp1 2 (by omega)
    have h21 := h21 (by omega)
    have w1 : wrap64 (1 + v2) = 1 + v2 := wrap_id (by omega) (by omega)
    obtain ⟨a',iv',p3,hp3,hiv,hin⟩:=works_inner (s:=s) out ((d + 1:Nat):Int) (wrap64 (wrap64 (Int.tdiv a 1440) - wrap64 (Int.tdiv v1 4))) (1 + v2).toNat (by omega) a [] p2 hp2 (by simp;omega)
    have hm : (((1 + v2).toNat : Nat) : Int) = 1 + v2 := by omega
    rw [hm] at hin
    obtain ⟨v4, p4, e4, hp4, _⟩ := pick_ok hp3 [600, 0, 1440, 60] (by decide) (by decide)
    have w4 : wrap64 (((d + 1 : Nat) : Int) - 1) = (d : Int) := by rw [wrap_id (by omega) (by omega)]; omega
    obtain ⟨L,p',g1,g2,g3,g4⟩:=ih (by omega) (wrap64 (a' + v4)) (out ++ [⟨wrap64 (wrap64 (Int.tdiv a 1440) - wrap64 (Int.tdiv v1 4)),iv'⟩]) p4 hp4 (by simp;omega) (fun x hx=>by
      rcases List.mem_append.1 hx with hx | hx
      · exact ho x hx
      · rw [List.mem_singleton.1 hx]; exact hiv)
    refine ⟨L, p', g1, g2, g3, Ev.step (fun k => ?_) (hin _ (Ev.step (fun k => ?_) g4))⟩
    · simp only [payrollgen_Tape_Works.l0]
      rw [if_pos (by omega), e1]; simp only [Option.bind_some]
      rw [e2]; simp only [Option.bind_some]
      rw [w1]
    · simp only [payrollgen_Tape_Works.l1]
      rw [if_neg (by omega), if_pos (by omega), e4]; simp only [Option.bind_some]
      rw [w4]
theorem works_ok {s : List Int} {p : Int} (hp : AtOk s p) (n : Int) (h0 : 0 ≤ n) (h1 : n ≤ 90) : ∃ L p', AtOk s p' ∧ L.length ≤ 100 ∧ (∀ x ∈ L, x.f1.length ≤ 100) ∧ Ev (fun k => payrollgen_Tape_Works.f k s p n) (L, p') := by
  obtain ⟨v1, p1, e1, hp1, _⟩ := next_ok hp 3 (by omega)
  have w1 : wrap64 (n + 1) = n + 1 := wrap_id (by omega) (by omega)
  obtain ⟨m, p2, e2, hp2, hm0, hm1, _⟩ := next_ok hp1 (n + 1) (by omega)
  have hm1 := hm1 (by omega)
  obtain ⟨L,p',g1,g2,g3,g4⟩:=works_outer (s:=s) m.toNat (by omega) (wrap64 (29453760 - wrap64 (v1 * 1440))) [] p2 hp2 (by simp;omega) (fun x hx=>by cases hx)
  have hm : ((m.toNat : Nat) : Int) = m := by omega
  rw [hm] at g4
  refine ⟨L, p', g1, g2, g3, ?_⟩
  unfold payrollgen_Tape_Works.f
  rw [w1]
  exact Ev.bind0 e1 (Ev.bind0 e2 g4)
theorem sane_ev : Ev (fun k => payrolllaw11_sane.f k) true := Ev.of payrolllaw11_sane.mono (k := 40) (by decide +kernel)
theorem law_loop (l1 : List S41) (ws : List S30) (hw : ws.length ≤ 1000) (he : ∀ x ∈ ws, x.f1.length ≤ 100) (d : Nat) : ∀ i : Nat, i + d = ws.length → Ev (fun k => payrolllaw11_WorktimeMinutes.l0 k l1 ws (i : Int)) true := by
  induction d with
  | zero =>
    intro i hi
    by_cases c : (l1.length : Int) > 2000
    · refine Ev.step (f := fun k => (payrolllaw11_sane.f k).bind fun t => some t) (fun k => ?_) (Ev.bind sane_ev (Ev.now _))
      simp only [payrolllaw11_WorktimeMinutes.l0]
      rw [if_neg (by omega), if_pos c]
    · have r := ref_loop l1 (by omega) (l1.take 1024).length 0 0 (by omega)
      rw [List.drop_zero] at r
      have r' : Ev (fun k => payrollref11_Minutes.f k l1) (sumW 0 (l1.take 1024)) := r
      refine Ev.step (f:=fun k=>(worktime_Minutes.f k l1).bind fun t109=>((payrollref11_Minutes.f k l1).bind fun t110=>(if t109 = t110 then ((payrolllaw11_sane.f k).bind fun t111=>(some t111)) else (some false)))) (fun k=>?_) (Ev.bind (prog_min l1 (by omega)) (Ev.bind r' (Ev.pos rfl (Ev.bind sane_ev (Ev.now _)))))
      simp only [payrolllaw11_WorktimeMinutes.l0]
      rw [if_neg (by omega), if_neg c]
  | succ d ih =>
    intro i hi
    have hil : i < ws.length := by omega
    have q0 : (0 : Int) ≤ (i : Int) := Int.natCast_nonneg i
    have q1 : (i : Int) < (ws.length : Int) := Int.ofNat_lt.2 hil
    have hb := he _ (List.getElem_mem hil)
    have w : wrap64 ((i : Int) + 1) = ((i + 1 : Nat) : Int) := by rw [wrap_id (by omega) (by omega)]; rfl
    have e1 := prog_min ws[i].f1 (by omega)
    rw [List.take_of_length_le (by omega)] at e1
    have e2 := gen_loop ws[i].f1 (by omega) ws[i].f1.length 0 0 (by omega)
    rw [List.drop_zero] at e2
    have e2' : Ev (fun k => payrollgen_Minutes.f k ws[i].f1) (sumW 0 ws[i].f1) := e2
    refine Ev.step (f:=fun k=>(worktime_Minutes.f k ws[i].f1).bind fun t113=>((payrollgen_Minutes.f k ws[i].f1).bind fun t115=>(if t113 = t115 then (payrolllaw11_WorktimeMinutes.l0 k l1 ws ((i + 1:Nat):Int)) else (some false)))) (fun k=>?_) (Ev.bind e1 (Ev.bind e2' (Ev.pos rfl (ih (i + 1) (by omega)))))
    simp only [payrolllaw11_WorktimeMinutes.l0]
    rw [if_pos q1, if_pos q0, rdW_at ws i hil, w]
theorem WorktimeMinutes : payrolllaw11_WorktimeMinutes.Pure := by
  intro l0 l1 _ hl _
  refine Ev.rounds ?_
  obtain ⟨L, p', hp, hn, he, hev⟩ := works_ok (AtOk.new hl) 3 (by omega) (by omega)
  unfold payrolllaw11_WorktimeMinutes.f
  refine Ev.bind0 (show payrollgen_New.f l0 = some (l0, 0) from rfl) ?_
  exact Ev.bind hev (law_loop l1 L (by omega) he L.length 0 (by omega))
end Go.Proofs.Ythdohkabcpdpdaa.Pure
