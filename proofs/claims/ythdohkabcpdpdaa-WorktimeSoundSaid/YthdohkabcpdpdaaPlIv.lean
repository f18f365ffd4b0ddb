import Derived.Test.YthdohkabcpdpdaaP0
import Derived.Test.YthdohkabcpdpdaaP10
import Derived.Test.YthdohkabcpdpdaaPlPresGen
namespace Go.Proofs.Ythdohkabcpdpdaa.Pure
open Go.RowKit Go.Proofs.Ythdohkabcpdpdaa.P Go.Proofs.YthdohkabcpdpdaaW.PrintWords Go.Proofs.YthdohkabcpdpdaaW.PrintLast Go.Proofs.YthdohkabcpdpdaaW.PrintMore
set_option linter.unusedVariables false
set_option linter.unusedSimpArgs false
def Ins (t : Int) (l : List S41) : Prop := ∃ x ∈ l, x.f0 ≤ t ∧ t < x.f1
def Pw (l : List S41) : Prop := l.Pairwise (fun x y => x.f1 < y.f0) ∧ ∀ x ∈ l, x.f0 < x.f1
def Ub (c : Int) (l : List S41) : Prop := ∀ x ∈ l, x.f1 ≤ c
theorem Ub.more {c c' : Int} {l : List S41} (h : Ub c l) (hc : c ≤ c') : Ub c' l := fun x hx => by have := h x hx; omega
theorem Ins.append {t : Int} {l m : List S41} : Ins t (l ++ m) ↔ Ins t l ∨ Ins t m := by
  constructor
  · rintro ⟨x, hx, h⟩
    rcases List.mem_append.1 hx with hx | hx
    · exact .inl ⟨x, hx, h⟩
    · exact .inr ⟨x, hx, h⟩
  · rintro (⟨x, hx, h⟩ | ⟨x, hx, h⟩)
    · exact ⟨x, List.mem_append.2 (.inl hx), h⟩
    · exact ⟨x, List.mem_append.2 (.inr hx), h⟩
theorem Ins.one {t : Int} {x : S41} : Ins t [x] ↔ x.f0 ≤ t ∧ t < x.f1 := by
  constructor
  · rintro ⟨y, hy, h⟩; rw [List.mem_singleton.1 hy] at h; exact h
  · intro h; exact ⟨x, List.mem_singleton.2 rfl, h⟩
theorem Ins.nil {t : Int} : ¬ Ins t [] := by rintro ⟨x, hx, _⟩; cases hx
theorem Ins.cons {t : Int} {x : S41} {l : List S41} : Ins t (x :: l) ↔ (x.f0 ≤ t ∧ t < x.f1) ∨ Ins t l := by
  rw [← List.singleton_append, Ins.append, Ins.one]
theorem Pw.snoc {l : List S41} {x : S41} (h : Pw l) (hx : x.f0 < x.f1) (hb : ∀ y ∈ l, y.f1 < x.f0) : Pw (l ++ [x]) := by
  refine ⟨List.pairwise_append.2 ⟨h.1, List.pairwise_singleton _ _, fun y hy z hz => ?_⟩, fun y hy => ?_⟩
  · rw [List.mem_singleton.1 hz]; exact hb y hy
  · rcases List.mem_append.1 hy with hy | hy
    · exact h.2 y hy
    · rw [List.mem_singleton.1 hy]; exact hx
theorem Pw.init {l : List S41} {x : S41} (h : Pw (l ++ [x])) : Pw l ∧ x.f0 < x.f1 ∧ ∀ y ∈ l, y.f1 < x.f0 := by
  obtain ⟨h1, h2⟩ := h
  rw [List.pairwise_append] at h1
  exact ⟨⟨h1.1, fun y hy => h2 y (List.mem_append.2 (.inl hy))⟩, h2 x (by simp), fun y hy => h1.2.2 y hy x (by simp)⟩
theorem addIv_spec {out : List S41} {a b : Int} (h : Pw out) (hu : Ub a out) : Pw (addIv out a b) ∧ (∀ t, Ins t (addIv out a b) ↔ Ins t out ∨ (a ≤ t ∧ t < b)) ∧ (∀ c, Ub c out → b ≤ c → Ub c (addIv out a b)) ∧ Ub (mx a b) (addIv out a b) := by
  have mx1 : a ≤ mx a b ∧ b ≤ mx a b := by unfold mx; split <;> omega
  unfold addIv
  by_cases c : b ≤ a
  · rw [if_pos c]; exact ⟨h, fun t => ⟨.inl, fun q => q.elim id (fun q => by omega)⟩, fun c hc _ => hc, hu.more mx1.1⟩
  rw [if_neg c]
  by_cases c2 : 0 < out.length ∧ (rd_T41 out ((out.length - 1 : Nat) : Int)).f1 = a
  · rw [if_pos c2]
    obtain ⟨h0, h1⟩ := c2
    obtain ⟨l,x,rfl⟩:∃ l x,out = l ++ [x]:=⟨out.dropLast,out.getLast (fun h=>by simp[h] at h0),(List.dropLast_concat_getLast _).symm⟩
    have e1 : (l ++ [x]).length - 1 = l.length := by simp
    have e2 : rd_T41 (l ++ [x]) (((l ++ [x]).length - 1 : Nat) : Int) = x := by
      rw [rdI_at _ _ (by simp)]; simp
    rw [e2] at h1 ⊢
    rw [e1]
    have e3:(l ++ [x]).set l.length ⟨x.f0,b⟩ = l ++ [⟨x.f0,b⟩]:=by rw[List.set_append_right _ _ (Nat.le_refl _)];simp
    rw [e3]
    obtain ⟨p1, p2, p3⟩ := h.init
    refine ⟨p1.snoc (by show x.f0 < b; omega) p3, fun t => ?_, fun c hc hb y hy => ?_, fun y hy => ?_⟩
    · rw [Ins.append, Ins.append, Ins.one, Ins.one]
      show _ ∨ (x.f0 ≤ t ∧ t < b) ↔ _
      constructor
      · rintro (q | q)
        · exact .inl (.inl q)
        · by_cases ht : t < x.f1
          · exact .inl (.inr ⟨q.1, ht⟩)
          · exact .inr ⟨by omega, q.2⟩
      · rintro ((q | q) | q)
        · exact .inl q
        · exact .inr ⟨q.1, by omega⟩
        · exact .inr ⟨by omega, q.2⟩
    · rcases List.mem_append.1 hy with hy | hy
      · exact hc y (List.mem_append.2 (.inl hy))
      · rw [List.mem_singleton.1 hy]; exact hb
    · rcases List.mem_append.1 hy with hy | hy
      · have := hu y (List.mem_append.2 (.inl hy)); omega
      · rw [List.mem_singleton.1 hy]; exact mx1.2
  · rw [if_neg c2]
    have hlt : ∀ y ∈ out, y.f1 < a := by
      intro y hy
      have hya := hu y hy
      rcases Nat.eq_zero_or_pos out.length with h0 | h0
      · rw [List.length_eq_zero_iff] at h0; subst h0; cases hy
      obtain ⟨l,x,rfl⟩:∃ l x,out = l ++ [x]:=⟨out.dropLast,out.getLast (fun h=>by simp[h] at h0),(List.dropLast_concat_getLast _).symm⟩
      have e2 : rd_T41 (l ++ [x]) (((l ++ [x]).length - 1 : Nat) : Int) = x := by
        rw [rdI_at _ _ (by simp)]; simp
      rw [e2] at c2
      have hx : x.f1 ≠ a := fun h => c2 ⟨h0, h⟩
      obtain ⟨p1, p2, p3⟩ := h.init
      rcases List.mem_append.1 hy with hy | hy
      · have := p3 y hy; have := hu x (by simp); omega
      · rw [List.mem_singleton.1 hy] at hya ⊢; omega
    refine ⟨h.snoc (by show a < b; omega) hlt, fun t => ?_, fun c hc hb y hy => ?_, fun y hy => ?_⟩
    · rw [Ins.append, Ins.one]
    · rcases List.mem_append.1 hy with hy | hy
      · exact hc y hy
      · rw [List.mem_singleton.1 hy]; exact hb
    · rcases List.mem_append.1 hy with hy | hy
      · have := hu y hy; omega
      · rw [List.mem_singleton.1 hy]; exact mx1.2
theorem BrOk.ins {a e t : Int} {l : List S41} (h : BrOk a e l) (ht : Ins t l) : a ≤ t ∧ t < e := by
  induction l generalizing a with
  | nil => exact absurd ht Ins.nil
  | cons b l ih =>
    obtain ⟨h1, h2, h3⟩ := h
    have h4 := h3.le
    rcases Ins.cons.1 ht with q | q
    · omega
    · have := ih h3 q; omega
theorem BrOk.less {a a' e : Int} {l : List S41} (h : BrOk a e l) (ha : a' ≤ a) : BrOk a' e l := by
  cases l with
  | nil => simp only [BrOk] at h ⊢; omega
  | cons b l => exact ⟨by have := h.1; omega, h.2.1, h.2.2⟩
theorem cutB_spec (z : Int) (bs : List S41) : ∀ (out : List S41) (a s e : Int), Pw out → Ub a out → Ub z out → BrOk s e bs →
    Pw (cutB z out a bs).1 ∧ Ub (cutB z out a bs).2 (cutB z out a bs).1 ∧ Ub z (cutB z out a bs).1 ∧ (∀ t, (Ins t (cutB z out a bs).1 ∨ ((cutB z out a bs).2 ≤ t ∧ t < z)) ↔ (Ins t out ∨ (a ≤ t ∧ t < z ∧ ¬ Ins t bs))) := by
  induction bs with
  | nil =>
    intro out a s e h hu hz hb
    exact⟨h,hu,hz,fun t=>⟨fun q=>q.imp id (fun q=>⟨q.1,q.2,Ins.nil⟩),fun q=>q.imp id (fun q=>⟨q.1,q.2.1⟩)⟩⟩
  | cons b l ih =>
    intro out a s e h hu hz hb
    obtain ⟨h1, h2, h3⟩ := hb
    have mx1 : a ≤ mx a b.f1 ∧ b.f1 ≤ mx a b.f1 ∧ (mx a b.f1 = a ∨ mx a b.f1 = b.f1) := by unfold mx; split <;> omega
    by_cases c : b.f0 < z
    · obtain ⟨a1, a2, a3, a4⟩ := addIv_spec (b := b.f0) h hu
      obtain ⟨g1,g2,g3,g4⟩:=ih (addIv out a b.f0) (mx a b.f1) b.f1 e a1 (a4.more (by unfold mx;(repeat' split) <;> omega)) (a3 z hz (by omega)) h3
      have e1 : cutB z out a (b :: l) = cutB z (addIv out a b.f0) (mx a b.f1) l := by rw [cutB, if_pos c]
      rw [e1]
      refine ⟨g1, g2, g3, fun t => (g4 t).trans ?_⟩
      rw [a2 t, Ins.cons]
      constructor
      · rintro ((q | q) | q)
        · exact .inl q
        · refine .inr ⟨q.1, by omega, ?_⟩
          rintro (p | p)
          · omega
          · have := h3.ins p; omega
        · refine .inr ⟨by omega, q.2.1, ?_⟩
          rintro (p | p)
          · omega
          · exact q.2.2 p
      · rintro (q | ⟨q1, q2, q3⟩)
        · exact .inl (.inl q)
        · by_cases ht : t < b.f0
          · exact .inl (.inr ⟨q1, ht⟩)
          · refine .inr ⟨?_, q2, fun p => q3 (.inr p)⟩
            by_cases ht2 : t < b.f1
            · exact absurd (.inl ⟨by omega, ht2⟩) q3
            · omega
    · have e1 : cutB z out a (b :: l) = (out, a) := by rw [cutB, if_neg c]
      rw [e1]
      refine⟨h,hu,hz,fun t=>⟨fun q=>q.imp id (fun q=>⟨q.1,q.2,?_⟩),fun q=>q.imp id (fun q=>⟨q.1,q.2.1⟩)⟩⟩
      intro p
      rcases Ins.cons.1 p with p | p
      · have := q.2; omega
      · have := h3.ins p; have := q.2; omega
theorem drop_spec (z : Int) (bs : List S41) : ∀ (s e : Int), BrOk s e bs → BrOk s e (bs.dropWhile fun b => decide (b.f1 ≤ z)) ∧ (∀ t, z ≤ t → (Ins t (bs.dropWhile fun b => decide (b.f1 ≤ z)) ↔ Ins t bs)) ∧ (bs.dropWhile fun b => decide (b.f1 ≤ z)).length ≤ bs.length := by
  induction bs with
  | nil => intro s e h; exact ⟨h, fun _ _ => Iff.rfl, Nat.le_refl _⟩
  | cons b l ih =>
    intro s e h
    obtain ⟨h1, h2, h3⟩ := h
    rw [List.dropWhile_cons]
    by_cases c : b.f1 ≤ z
    · rw [if_pos (by simpa using c)]
      obtain ⟨g1, g2, g3⟩ := ih b.f1 e h3
      refine⟨g1.less (by omega),fun t ht=>(g2 t ht).trans ⟨fun q=>Ins.cons.2 (.inr q),fun q=>(Ins.cons.1 q).elim (fun p=>by omega) id⟩,by simp only[List.length_cons];omega⟩
    · rw [if_neg (by simpa using c)]
      exact ⟨⟨h1, h2, h3⟩, fun _ _ => Iff.rfl, Nat.le_refl _⟩
theorem withoutGo_spec (l : List S41) : ∀ (out bs : List S41) (s e sb eb : Int), Pw out → Ub s out → BrOk s e l → BrOk sb eb bs →
    Pw (withoutGo out bs l) ∧ Ub e (withoutGo out bs l) ∧ ∀ t, Ins t (withoutGo out bs l) ↔ Ins t out ∨ (Ins t l ∧ ¬ Ins t bs) := by
  induction l with
  | nil =>
    intro out bs s e sb eb h hu hl hb
    exact ⟨h, hu.more hl, fun t => ⟨.inl, fun q => q.elim id (fun q => absurd q.1 Ins.nil)⟩⟩
  | cons x l ih =>
    intro out bs s e sb eb h hu hl hb
    obtain ⟨h1, h2, h3⟩ := hl
    obtain ⟨d1, d2, d3⟩ := drop_spec x.f0 bs sb eb hb
    rw [withoutGo]
    generalize bs.dropWhile (fun b => decide (b.f1 ≤ x.f0)) = bs' at *
    obtain ⟨c1, c2, c3, c4⟩ := cutB_spec x.f1 bs' out x.f0 sb eb h (hu.more h1) (hu.more (by omega)) d1
    generalize cutB x.f1 out x.f0 bs' = r at *
    obtain ⟨a1, a2, a3, a4⟩ := addIv_spec (b := x.f1) c1 c2
    obtain ⟨g1, g2, g3⟩ := ih (addIv r.1 r.2 x.f1) bs' x.f1 e sb eb a1 (a3 x.f1 c3 (Int.le_refl _)) h3 d1
    refine ⟨g1, g2, fun t => (g3 t).trans ?_⟩
    rw [a2 t, c4 t, Ins.cons]
    constructor
    · rintro ((q | q) | q)
      · exact .inl q
      · exact .inr ⟨.inl ⟨q.1, q.2.1⟩, fun p => q.2.2 ((d2 t q.1).2 p)⟩
      · have := h3.ins q.1
        exact .inr ⟨.inr q.1, fun p => q.2 ((d2 t (by omega)).2 p)⟩
    · rintro (q | ⟨q | q, q2⟩)
      · exact .inl (.inl q)
      · exact .inl (.inr ⟨q.1, q.2, fun p => q2 ((d2 t q.1).1 p)⟩)
      · have := h3.ins q
        exact .inr ⟨q, fun p => q2 ((d2 t (by omega)).1 p)⟩
theorem Pw.brOk {l : List S41} {lo e : Int} (h : Pw l) (hu : Ub e l) (hl : ∀ x ∈ l, lo ≤ x.f0) (he : lo ≤ e) : BrOk lo e l := by
  induction l generalizing lo with
  | nil => exact he
  | cons x l ih =>
    obtain ⟨h1, h2⟩ := h
    rw [List.pairwise_cons] at h1
    refine⟨hl x List.mem_cons_self,h2 x List.mem_cons_self,ih ⟨h1.2,fun y hy=>h2 y (List.mem_cons_of_mem _ hy)⟩ (fun y hy=>hu y (List.mem_cons_of_mem _ hy)) (fun y hy=>by have:=h1.1 y hy;omega) (hu x List.mem_cons_self)⟩
theorem without_spec {l bs : List S41} {s e sb eb : Int} (hl : BrOk s e l) (hb : BrOk sb eb bs) : Pw (withoutGo [] bs l) ∧ BrOk s e (withoutGo [] bs l) ∧ ∀ t, Ins t (withoutGo [] bs l) ↔ Ins t l ∧ ¬ Ins t bs := by
  obtain ⟨g1,g2,g3⟩:=withoutGo_spec l [] bs s e sb eb ⟨List.Pairwise.nil,fun x hx=>by cases hx⟩ (fun x hx=>by cases hx) hl hb
  have g4:∀ t,Ins t (withoutGo [] bs l) ↔ Ins t l∧¬ Ins t bs:=fun t=>(g3 t).trans ⟨fun q=>q.elim (fun q=>absurd q Ins.nil) id,.inr⟩
  refine ⟨g1, g1.brOk g2 (fun x hx => ?_) hl.le, g4⟩
  exact (hl.ins ((g4 x.f0).1 ⟨x, hx, Int.le_refl _, g1.2 x hx⟩).1).1
def tot : List S41 → Int
  | [] => 0
  | x :: l => (x.f1 - x.f0) + tot l
def cnt (p : Int → Bool) (lo : Int) : Nat → Int
  | 0 => 0
  | n + 1 => (if p (lo + n) = true then 1 else 0) + cnt p lo n
def insB (l : List S41) (t : Int) : Bool := l.any fun x => decide (x.f0 ≤ t ∧ t < x.f1)
end Go.Proofs.Ythdohkabcpdpdaa.Pure
