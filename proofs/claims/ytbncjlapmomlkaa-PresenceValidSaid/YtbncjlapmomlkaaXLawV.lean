/- Chapter 9: the law PresenceValid. -/
import Derived.Test.YtbncjlapmomlkaaXLaw
set_option linter.unusedSimpArgs false
set_option linter.unusedVariables false
namespace Go.Abs.C9
open Go.Proofs
set_option maxRecDepth 100000

def spV : FuncId → List PV → List Blk → Option Rets
  | 14, [.ptr 0 0, .d (.i _ n)], [.var [.d (.l _ t), .d (.i _ p)]] => some (.one [.d (.l 29 (presV t p n).2)] [tp t (presV t p n).1])
  | 15, [.ptr 0 0, .d (.l _ l)], [.var [.d (.l _ t), .d (.i _ p)]] => some (.one [.d (.l 29 (spoilV t p l).2)] [tp t (spoilV t p l).1])
  | f, a, s => spL f a s
def sgV : Sg := ⟨mdL, spV, fun _ _ => none⟩

def vI (t l x : List D) (p : Int) (i n : Nat) : St := ⟨[(1, .d (.l 29 l)), (5, .ptr 0 0), (6, .d (.i .i64 i)), (7, .d (.l 29 x)), (8, .d (.i .i64 n))], [tp t p]⟩
def vIFin (t l : List D) (p : Int) (i : Nat) (_ : Nat) : Ends := .one (.exit 3) ⟨[(1, .d (.l 29 l)), (4, .u), (5, .ptr 0 0), (6, .d (.i .i64 i))], [tp t p]⟩
theorem v_inner (t l x : List D) (p : Int) (i : Nat) (hx : (x.length : Int) ≤ 1000) (hb : ∀ y ∈ x, BrkOK y) : ∀ n : Nat, n ≤ x.length → LCalls Try.prog tt 61 0 (loopOf Try.f4.body 15 0) (vI t l x p i n) (vIFin t l p i n) := by
  refine LCalls.ind (sg := sgV) pok (vI t l x p i) (fun n => x.length - n) (fun n => n ≤ x.length) (vIFin t l p i) [1, 5, 6, 7, 8] [] [1, 4, 5, 6] [] fun n hn => ?_
  refine (to_res (B := ((((decide (((n : Nat) : Int) < (((List.length x) : Nat) : Int))) = true) → ((((0 : Int) ≤ ((n : Nat) : Int)) ∧ (((n : Nat) : Int) < (((List.length x) : Nat) : Int))) ∧ ((((decide ((((List.length (D.toL (D.leafAt (List.getD x (Int.toNat ((n : Nat) : Int)) (D.b false)) 2))) : Nat) : Int) ≤ (100 : Int))) = true) → ((((0 : Int) ≤ ((n : Nat) : Int)) ∧ (((n : Nat) : Int) < (((List.length x) : Nat) : Int))) ∧ ((ACalls Try.prog tt 10 [(PV.st [(PV.d (D.i .i64 (D.toI (D.leafAt (List.getD x (Int.toNat ((n : Nat) : Int)) (D.b false)) 0)))), (PV.d (D.i .i64 (D.toI (D.leafAt (List.getD x (Int.toNat ((n : Nat) : Int)) (D.b false)) 1)))), (PV.d (D.l 26 (D.toL (D.leafAt (List.getD x (Int.toNat ((n : Nat) : Int)) (D.b false)) 2))))])] [] [(PV.d (D.i .i64 (minV (D.toI (D.leafAt (List.getD x (Int.toNat ((n : Nat) : Int)) (D.b false)) 0)) (D.toI (D.leafAt (List.getD x (Int.toNat ((n : Nat) : Int)) (D.b false)) 1)) (D.toL (D.leafAt (List.getD x (Int.toNat ((n : Nat) : Int)) (D.b false)) 2)))))] []) ∧ ((((0 : Int) ≤ ((n : Nat) : Int)) ∧ (((n : Nat) : Int) < (((List.length x) : Nat) : Int))) ∧ ((ACalls Try.prog tt 17 [(PV.st [(PV.d (D.i .i64 (D.toI (D.leafAt (List.getD x (Int.toNat ((n : Nat) : Int)) (D.b false)) 0)))), (PV.d (D.i .i64 (D.toI (D.leafAt (List.getD x (Int.toNat ((n : Nat) : Int)) (D.b false)) 1)))), (PV.d (D.l 26 (D.toL (D.leafAt (List.getD x (Int.toNat ((n : Nat) : Int)) (D.b false)) 2))))])] [] [(PV.d (D.i .i64 (rminV (D.toI (D.leafAt (List.getD x (Int.toNat ((n : Nat) : Int)) (D.b false)) 0)) (D.toI (D.leafAt (List.getD x (Int.toNat ((n : Nat) : Int)) (D.b false)) 1)) (D.toL (D.leafAt (List.getD x (Int.toNat ((n : Nat) : Int)) (D.b false)) 2)))))] []) ∧ ((((decide ((minV (D.toI (D.leafAt (List.getD x (Int.toNat ((n : Nat) : Int)) (D.b false)) 0)) (D.toI (D.leafAt (List.getD x (Int.toNat ((n : Nat) : Int)) (D.b false)) 1)) (D.toL (D.leafAt (List.getD x (Int.toNat ((n : Nat) : Int)) (D.b false)) 2))) ≠ (rminV (D.toI (D.leafAt (List.getD x (Int.toNat ((n : Nat) : Int)) (D.b false)) 0)) (D.toI (D.leafAt (List.getD x (Int.toNat ((n : Nat) : Int)) (D.b false)) 1)) (D.toL (D.leafAt (List.getD x (Int.toNat ((n : Nat) : Int)) (D.b false)) 2))))) = true) → ((Prod.mk (Exit.exit 3) (St.mk [(Prod.mk 1 (PV.d (D.l 29 l))), (Prod.mk 4 PV.u), (Prod.mk 5 (PV.ptr 0 0)), (Prod.mk 6 (PV.d (D.i .i64 ((i : Nat) : Int))))] [(Blk.var [(PV.d (D.l 3 t)), (PV.d (D.i .i64 p))])])) = (Prod.mk Exit.ret (St.mk [(Prod.mk 1 (PV.d (D.l 29 l))), (Prod.mk 4 (PV.kb false)), (Prod.mk 5 (PV.ptr 0 0)), (Prod.mk 6 (PV.d (D.i .i64 ((i : Nat) : Int))))] [(Blk.var [(PV.d (D.l 3 t)), (PV.d (D.i .i64 p))])])))) ∧ (((decide ((minV (D.toI (D.leafAt (List.getD x (Int.toNat ((n : Nat) : Int)) (D.b false)) 0)) (D.toI (D.leafAt (List.getD x (Int.toNat ((n : Nat) : Int)) (D.b false)) 1)) (D.toL (D.leafAt (List.getD x (Int.toNat ((n : Nat) : Int)) (D.b false)) 2))) ≠ (rminV (D.toI (D.leafAt (List.getD x (Int.toNat ((n : Nat) : Int)) (D.b false)) 0)) (D.toI (D.leafAt (List.getD x (Int.toNat ((n : Nat) : Int)) (D.b false)) 1)) (D.toL (D.leafAt (List.getD x (Int.toNat ((n : Nat) : Int)) (D.b false)) 2))))) = false) → (∃ s' : Nat, (((St.mk [(Prod.mk 1 (PV.d (D.l 29 l))), (Prod.mk 5 (PV.ptr 0 0)), (Prod.mk 6 (PV.d (D.i .i64 ((i : Nat) : Int)))), (Prod.mk 7 (PV.d (D.l 29 x))), (Prod.mk 8 (PV.d (D.i .i64 (IntKind.wrap .i64 (((n : Nat) : Int) + (1 : Int))))))] [(Blk.var [(PV.d (D.l 3 t)), (PV.d (D.i .i64 p))])]) = (St.mk [(Prod.mk 1 (PV.d (D.l 29 l))), (Prod.mk 5 (PV.ptr 0 0)), (Prod.mk 6 (PV.d (D.i .i64 ((i : Nat) : Int)))), (Prod.mk 7 (PV.d (D.l 29 x))), (Prod.mk 8 (PV.d (D.i .i64 ((s' : Nat) : Int))))] [(Blk.var [(PV.d (D.l 3 t)), (PV.d (D.i .i64 p))])])) ∧ ((s' ≤ (List.length x)) ∧ ((((List.length x) - s') < ((List.length x) - n)) ∧ ((Prod.mk (Exit.exit 3) (St.mk [(Prod.mk 1 (PV.d (D.l 29 l))), (Prod.mk 4 PV.u), (Prod.mk 5 (PV.ptr 0 0)), (Prod.mk 6 (PV.d (D.i .i64 ((i : Nat) : Int))))] [(Blk.var [(PV.d (D.l 3 t)), (PV.d (D.i .i64 p))])])) = (Prod.mk (Exit.exit 3) (St.mk [(Prod.mk 1 (PV.d (D.l 29 l))), (Prod.mk 4 PV.u), (Prod.mk 5 (PV.ptr 0 0)), (Prod.mk 6 (PV.d (D.i .i64 ((i : Nat) : Int))))] [(Blk.var [(PV.d (D.l 3 t)), (PV.d (D.i .i64 p))])])))))))))))))) ∧ (((decide ((((List.length (D.toL (D.leafAt (List.getD x (Int.toNat ((n : Nat) : Int)) (D.b false)) 2))) : Nat) : Int) ≤ (100 : Int))) = false) → (∃ s' : Nat, (((St.mk [(Prod.mk 1 (PV.d (D.l 29 l))), (Prod.mk 5 (PV.ptr 0 0)), (Prod.mk 6 (PV.d (D.i .i64 ((i : Nat) : Int)))), (Prod.mk 7 (PV.d (D.l 29 x))), (Prod.mk 8 (PV.d (D.i .i64 (IntKind.wrap .i64 (((n : Nat) : Int) + (1 : Int))))))] [(Blk.var [(PV.d (D.l 3 t)), (PV.d (D.i .i64 p))])]) = (St.mk [(Prod.mk 1 (PV.d (D.l 29 l))), (Prod.mk 5 (PV.ptr 0 0)), (Prod.mk 6 (PV.d (D.i .i64 ((i : Nat) : Int)))), (Prod.mk 7 (PV.d (D.l 29 x))), (Prod.mk 8 (PV.d (D.i .i64 ((s' : Nat) : Int))))] [(Blk.var [(PV.d (D.l 3 t)), (PV.d (D.i .i64 p))])])) ∧ ((s' ≤ (List.length x)) ∧ ((((List.length x) - s') < ((List.length x) - n)) ∧ ((Prod.mk (Exit.exit 3) (St.mk [(Prod.mk 1 (PV.d (D.l 29 l))), (Prod.mk 4 PV.u), (Prod.mk 5 (PV.ptr 0 0)), (Prod.mk 6 (PV.d (D.i .i64 ((i : Nat) : Int))))] [(Blk.var [(PV.d (D.l 3 t)), (PV.d (D.i .i64 p))])])) = (Prod.mk (Exit.exit 3) (St.mk [(Prod.mk 1 (PV.d (D.l 29 l))), (Prod.mk 4 PV.u), (Prod.mk 5 (PV.ptr 0 0)), (Prod.mk 6 (PV.d (D.i .i64 ((i : Nat) : Int))))] [(Blk.var [(PV.d (D.l 3 t)), (PV.d (D.i .i64 p))])]))))))))))) ∧ (((decide (((n : Nat) : Int) < (((List.length x) : Nat) : Int))) = false) → ((Prod.mk (Exit.exit 3) (St.mk [(Prod.mk 1 (PV.d (D.l 29 l))), (Prod.mk 4 PV.u), (Prod.mk 5 (PV.ptr 0 0)), (Prod.mk 6 (PV.d (D.i .i64 ((i : Nat) : Int))))] [(Blk.var [(PV.d (D.l 3 t)), (PV.d (D.i .i64 p))])])) = (Prod.mk (Exit.exit 3) (St.mk [(Prod.mk 1 (PV.d (D.l 29 l))), (Prod.mk 4 PV.u), (Prod.mk 5 (PV.ptr 0 0)), (Prod.mk 6 (PV.d (D.i .i64 ((i : Nat) : Int))))] [(Blk.var [(PV.d (D.l 3 t)), (PV.d (D.i .i64 p))])])))))) (by kernel_rfl) ?_ :)
  simp only [decide_eq_true_eq, decide_eq_false_iff_not, Bool.not_eq_true', Bool.not_eq_false', List.length_nil, List.take_length, Int.toNat_natCast, List.nil_append, Nat.zero_add, eq_self, true_and, and_true, implies_true, Bool.and_true, Bool.true_and, Bool.false_and, beq_iff_eq, beq_eq_false_iff_ne, ne_eq, not_true_eq_false, not_false_eq_true, reduceCtorEq, false_implies, true_implies, cond_true, cond_false]
  intro c
  have hi := hb _ (getD_mem (l := x) (i := n) (by omega))
  have e := minutes_same (D.toI (D.leafAt (x.getD n (.b false)) 0)) (D.toI (D.leafAt (x.getD n (.b false)) 1)) (D.toL (D.leafAt (x.getD n (.b false)) 2))
  rw [wrap64 (x := (n : Int) + 1) (by omega) (by omega)]
  exact ⟨by omega, fun d => ⟨by omega, Minutes_ok _ _ _ hi, by omega, rMinutes_ok _ _ _, fun g => absurd e g, fun _ => ⟨n + 1, rfl, by omega, by omega⟩⟩, fun d => ⟨n + 1, rfl, by omega, by omega⟩⟩

/-! ## What made presences are -/
def PF (x : D) : Prop := (brk x).length ≤ 1000 ∧ iv1 x ≤ 1000000000 ∧ -1000000000 ≤ iv1 x

theorem brkLoop_len (t : List D) : ∀ (n : Nat) (p b to : Int) (acc : List D), (brkLoop t n p b to acc).2.length ≤ acc.length + n
  | 0, _, _, _, acc => by simp [brkLoop]
  | n + 1, p, b, to, acc => by
    unfold brkLoop
    split
    · have := brkLoop_len t n (nextK t (nextK t p 4) 3) (b + pickV [D.i .i64 0, D.i .i64 60, D.i .i64 120, D.i .i64 7] t p + pickV [D.i .i64 15, D.i .i64 30, D.i .i64 45] t (nextK t p 4)) to (acc ++ [mkIv (b + pickV [D.i .i64 0, D.i .i64 60, D.i .i64 120, D.i .i64 7] t p) (b + pickV [D.i .i64 0, D.i .i64 60, D.i .i64 120, D.i .i64 7] t p + pickV [D.i .i64 15, D.i .i64 30, D.i .i64 45] t (nextK t p 4))])
      simp only [List.length_append, List.length_singleton] at this
      omega
    · have := brkLoop_len t n (nextK t (nextK t p 4) 3) b to acc
      omega

theorem presLoop_facts (t : List D) : ∀ (c : Nat) (p at' : Int) (acc : List D), 0 ≤ at' → at' + 2000 * c ≤ 100000000 → (∀ x ∈ acc, PF x) → (∀ x ∈ (presLoop t c p at' acc).2, PF x) ∧ (presLoop t c p at' acc).2.length ≤ acc.length + c
  | 0, _, _, acc, _, _, h => ⟨h, by simp [presLoop]⟩
  | c + 1, p, at', acc, h0, h1, h => by
    have q1 : 1 ≤ pickV [D.i .i64 480, D.i .i64 1, D.i .i64 300, D.i .i64 545, D.i .i64 90] t p ∧ pickV [D.i .i64 480, D.i .i64 1, D.i .i64 300, D.i .i64 545, D.i .i64 90] t p ≤ 545 := pickR [480, 1, 300, 545, 90] 1 545 (by decide) (by decide) t p
    have q2 : ∀ k, 0 ≤ pickV [D.i .i64 0, D.i .i64 15, D.i .i64 960, D.i .i64 480, D.i .i64 1] t k ∧ pickV [D.i .i64 0, D.i .i64 15, D.i .i64 960, D.i .i64 480, D.i .i64 1] t k ≤ 960 := fun k => pickR [0, 15, 960, 480, 1] 0 960 (by decide) (by decide) t k
    have v := nextV_range t (nextK t p 5) (n := 3) (by omega)
    unfold presLoop
    simp only
    have hb := brkLoop_len t (nextV t (nextK t p 5) 3).toNat (nextK t (nextK t p 5) 3) at' (at' + pickV [D.i .i64 480, D.i .i64 1, D.i .i64 300, D.i .i64 545, D.i .i64 90] t p) []
    generalize brkLoop t (nextV t (nextK t p 5) 3).toNat (nextK t (nextK t p 5) 3) at' (at' + pickV [D.i .i64 480, D.i .i64 1, D.i .i64 300, D.i .i64 545, D.i .i64 90] t p) [] = r at *
    have := q2 r.1
    obtain ⟨k1, k2⟩ := presLoop_facts t c (nextK t r.1 5) (at' + pickV [D.i .i64 480, D.i .i64 1, D.i .i64 300, D.i .i64 545, D.i .i64 90] t p + pickV [D.i .i64 0, D.i .i64 15, D.i .i64 960, D.i .i64 480, D.i .i64 1] t r.1) (acc ++ [mkP at' (at' + pickV [D.i .i64 480, D.i .i64 1, D.i .i64 300, D.i .i64 545, D.i .i64 90] t p) r.2]) (by omega) (by omega) (fun x hx => by
      rcases List.mem_append.1 hx with hx | hx
      · exact h x hx
      · simp only [List.mem_singleton] at hx; subst hx
        refine ⟨?_, ?_, ?_⟩
        · show r.2.length ≤ 1000
          simp only [List.length_nil] at hb
          omega
        · show at' + pickV [D.i .i64 480, D.i .i64 1, D.i .i64 300, D.i .i64 545, D.i .i64 90] t p ≤ _
          omega
        · show _ ≤ at' + pickV [D.i .i64 480, D.i .i64 1, D.i .i64 300, D.i .i64 545, D.i .i64 90] t p
          omega)
    refine ⟨k1, ?_⟩
    simp only [List.length_append, List.length_singleton] at k2
    omega

theorem presV_facts (t : List D) (p n : Int) (hn : 0 ≤ n ∧ n ≤ 100) : (∀ x ∈ (presV t p n).2, PF x) ∧ ((presV t p n).2.length : Int) ≤ n := by
  have q0 : 0 ≤ pickV [D.i .i64 0, D.i .i64 420, D.i .i64 470, D.i .i64 480] t p ∧ pickV [D.i .i64 0, D.i .i64 420, D.i .i64 470, D.i .i64 480] t p ≤ 480 := pickR [0, 420, 470, 480] 0 480 (by decide) (by decide) t p
  have v := nextV_range t (nextK t p 4) (n := n + 1) (by omega)
  obtain ⟨k1, k2⟩ := presLoop_facts t (nextV t (nextK t p 4) (n + 1)).toNat (nextK t (nextK t p 4) (n + 1)) (29453760 + pickV [D.i .i64 0, D.i .i64 420, D.i .i64 470, D.i .i64 480] t p) [] (by omega) (by omega) (by simp)
  refine ⟨k1, ?_⟩
  simp only [List.length_nil] at k2
  show (((presLoop t _ _ _ []).2.length : Nat) : Int) ≤ n
  omega

theorem spoilV_facts (t : List D) (p : Int) (l : List D) (h : ∀ x ∈ l, PF x) (hl : (l.length : Int) ≤ 100) : (∀ x ∈ (spoilV t p l).2, BrkOK x) ∧ ((spoilV t p l).2.length : Int) ≤ 101 := by
  have ok : ∀ {x}, PF x → BrkOK x := fun hx => by have := hx.1; unfold BrkOK; omega
  unfold spoilV
  split
  · exact ⟨fun x hx => by
      rcases List.mem_append.1 hx with hx | hx
      · exact ok (h x hx)
      · simp only [List.mem_singleton] at hx; subst hx; show (([] : List D).length : Int) ≤ _; decide, by simp only [List.length_append, List.length_singleton]; omega⟩
  · rename_i h0
    have v := nextV_range t p (n := l.length) (by omega)
    have hm := h _ (getD_mem (l := l) (i := (nextV t p l.length).toNat) (by omega))
    simp only
    generalize l.getD (nextV t p l.length).toNat (.b false) = x at *
    have setOK : ∀ {y : D}, BrkOK y → ∀ z ∈ l.set (nextV t p l.length).toNat y, BrkOK z := fun hy z hz => by
      rcases List.mem_or_eq_of_mem_set hz with hz | rfl
      · exact ok (h z hz)
      · exact hy
    split
    · exact ⟨setOK (y := setTo x (iv0 x)) (ok (x := x) hm), by rw [List.length_set]; omega⟩
    · split
      · refine ⟨setOK ?_, by rw [List.length_set]; omega⟩
        show (((brk x ++ [mkIv (iv0 x) (iv1 x + 1)]).length : Nat) : Int) ≤ _
        have := hm.1
        simp only [List.length_append, List.length_singleton]; omega
      · split
        · refine ⟨fun z hz => ?_, by simp only [List.length_append, List.length_singleton]; omega⟩
          rcases List.mem_append.1 hz with hz | hz
          · exact ok (h z hz)
          · simp only [List.mem_singleton] at hz; subst hz
            have := h _ (getD_mem (l := l) (i := 0) (by omega))
            exact ok (x := l.getD 0 (.b false)) this
        · exact ⟨setOK (y := setTo x 120968641) (ok (x := x) hm), by rw [List.length_set]; omega⟩

theorem spoilV_tape (t : List D) (p : Int) (l : List D) (h : TapeOK t p) : TapeOK t (spoilV t p l).1 := by
  unfold spoilV
  split
  · exact h
  · exact (h.next _).next _

def vO (t l : List D) (s : Nat × Int) : St := ⟨[(1, .d (.l 29 l)), (5, .ptr 0 0), (6, .d (.i .i64 s.1))], [tp t s.2]⟩
def vOFin (_ : List D) (_ : Nat × Int) : Ends := .one (.exit 0) ⟨[(4, .u)], []⟩
def sgVO : Sg := ⟨mdL, spV, fun k d => match k, d with
  | 15, 0 => some ⟨[1, 5, 6, 7, 8], [], fun st => match st with
    | ⟨[(_, .d (.l _ l)), _, (_, .d (.i _ i)), _, _], [.var [.d (.l _ t), .d (.i _ p)]]⟩ => some (vIFin t l p i.toNat 0)
    | _ => none⟩
  | 3, 1 => some ⟨[1, 5, 6], [], fun st => match st with
    | ⟨[(_, .d (.l _ l)), _, _], _⟩ => some (vOFin l (0, 0))
    | _ => none⟩
  | _, _ => none⟩

theorem v_outer (t l : List D) (hl : (l.length : Int) ≤ 4611686018427387904) (hb : ∀ y ∈ l, BrkOK y) : ∀ s : Nat × Int, s.1 ≤ 4 ∧ TapeOK t s.2 → LCalls Try.prog tt 61 0 (loopOf Try.f4.body 3 1) (vO t l s) (vOFin l s) := by
  refine LCalls.ind (sg := sgVO) pok (vO t l) (fun s => 4 - s.1) (fun s => s.1 ≤ 4 ∧ TapeOK t s.2) (vOFin l) [1, 5, 6] [] [4] [] fun s hs => ?_
  obtain ⟨i, p⟩ := s
  obtain ⟨h1, h2⟩ := hs
  simp only at h1 h2
  refine (to_res (B := ((((decide (((i : Nat) : Int) < (4 : Int))) = true) → ((ACalls Try.prog tt 14 [(PV.ptr 0 0), (PV.d (D.i .i64 (4 : Int)))] [(Blk.var [(PV.d (D.l 3 t)), (PV.d (D.i .i64 p))])] [(PV.d (D.l 29 (Prod.snd (presV t p (4 : Int)))))] [(Blk.var [(PV.d (D.l 3 t)), (PV.d (D.i .i64 (Prod.fst (presV t p (4 : Int)))))])]) ∧ ((((decide (((i : Nat) : Int) = (2 : Int))) = true) → ((ACalls Try.prog tt 15 [(PV.ptr 0 0), (PV.d (D.l 29 (Prod.snd (presV t p (4 : Int)))))] [(Blk.var [(PV.d (D.l 3 t)), (PV.d (D.i .i64 (Prod.fst (presV t p (4 : Int)))))])] [(PV.d (D.l 29 (Prod.snd (spoilV t (Prod.fst (presV t p (4 : Int))) (Prod.snd (presV t p (4 : Int)))))))] [(Blk.var [(PV.d (D.l 3 t)), (PV.d (D.i .i64 (Prod.fst (spoilV t (Prod.fst (presV t p (4 : Int))) (Prod.snd (presV t p (4 : Int)))))))])]) ∧ ((((decide ((100 : Int) < (((List.length (Prod.snd (spoilV t (Prod.fst (presV t p (4 : Int))) (Prod.snd (presV t p (4 : Int)))))) : Nat) : Int))) = true) → (∃ s' : (Prod Nat Int), (((St.mk [(Prod.mk 1 (PV.d (D.l 29 l))), (Prod.mk 5 (PV.ptr 0 0)), (Prod.mk 6 (PV.d (D.i .i64 (IntKind.wrap .i64 (((i : Nat) : Int) + (1 : Int))))))] [(Blk.var [(PV.d (D.l 3 t)), (PV.d (D.i .i64 (Prod.fst (spoilV t (Prod.fst (presV t p (4 : Int))) (Prod.snd (presV t p (4 : Int)))))))])]) = (St.mk [(Prod.mk 1 (PV.d (D.l 29 l))), (Prod.mk 5 (PV.ptr 0 0)), (Prod.mk 6 (PV.d (D.i .i64 (((Prod.fst s') : Nat) : Int))))] [(Blk.var [(PV.d (D.l 3 t)), (PV.d (D.i .i64 (Prod.snd s')))])])) ∧ ((((Prod.fst s') ≤ 4) ∧ (((0 : Int) ≤ (Prod.snd s')) ∧ (((Prod.snd s') ≤ (((List.length t) : Nat) : Int)) ∧ ((((List.length t) : Nat) : Int) ≤ (4611686018427387904 : Int))))) ∧ (((4 - (Prod.fst s')) < (4 - i)) ∧ ((Prod.mk (Exit.exit 0) (St.mk [(Prod.mk 4 PV.u)] [])) = (Prod.mk (Exit.exit 0) (St.mk [(Prod.mk 4 PV.u)] [])))))))) ∧ (((decide ((100 : Int) < (((List.length (Prod.snd (spoilV t (Prod.fst (presV t p (4 : Int))) (Prod.snd (presV t p (4 : Int)))))) : Nat) : Int))) = false) → ((ACalls Try.prog tt 9 [(PV.d (D.l 29 (Prod.snd (spoilV t (Prod.fst (presV t p (4 : Int))) (Prod.snd (presV t p (4 : Int)))))))] [] [(PV.d (D.i .i64 (validV (Prod.snd (spoilV t (Prod.fst (presV t p (4 : Int))) (Prod.snd (presV t p (4 : Int))))))))] []) ∧ ((ACalls Try.prog tt 16 [(PV.d (D.l 29 (Prod.snd (spoilV t (Prod.fst (presV t p (4 : Int))) (Prod.snd (presV t p (4 : Int)))))))] [] [(PV.d (D.i .i64 (rvV (Prod.snd (spoilV t (Prod.fst (presV t p (4 : Int))) (Prod.snd (presV t p (4 : Int))))))))] []) ∧ ((((decide ((validV (Prod.snd (spoilV t (Prod.fst (presV t p (4 : Int))) (Prod.snd (presV t p (4 : Int)))))) ≠ (rvV (Prod.snd (spoilV t (Prod.fst (presV t p (4 : Int))) (Prod.snd (presV t p (4 : Int)))))))) = true) → ((Prod.mk (Exit.exit 0) (St.mk [(Prod.mk 4 PV.u)] [])) = (Prod.mk Exit.ret (St.mk [(Prod.mk 4 (PV.kb false))] [])))) ∧ (((decide ((validV (Prod.snd (spoilV t (Prod.fst (presV t p (4 : Int))) (Prod.snd (presV t p (4 : Int)))))) ≠ (rvV (Prod.snd (spoilV t (Prod.fst (presV t p (4 : Int))) (Prod.snd (presV t p (4 : Int)))))))) = false) → ((LCalls Try.prog tt 61 0 (loopOf Try.f4.body 15 0) (St.mk [(Prod.mk 1 (PV.d (D.l 29 l))), (Prod.mk 5 (PV.ptr 0 0)), (Prod.mk 6 (PV.d (D.i .i64 ((i : Nat) : Int)))), (Prod.mk 7 (PV.d (D.l 29 (Prod.snd (spoilV t (Prod.fst (presV t p (4 : Int))) (Prod.snd (presV t p (4 : Int)))))))), (Prod.mk 8 (PV.d (D.i .i64 (0 : Int))))] [(Blk.var [(PV.d (D.l 3 t)), (PV.d (D.i .i64 (Prod.fst (spoilV t (Prod.fst (presV t p (4 : Int))) (Prod.snd (presV t p (4 : Int)))))))])]) (vIFin t l (Prod.fst (spoilV t (Prod.fst (presV t p (4 : Int))) (Prod.snd (presV t p (4 : Int))))) (Int.toNat ((i : Nat) : Int)) 0)) ∧ (∃ s' : (Prod Nat Int), (((St.mk [(Prod.mk 1 (PV.d (D.l 29 l))), (Prod.mk 5 (PV.ptr 0 0)), (Prod.mk 6 (PV.d (D.i .i64 (IntKind.wrap .i64 ((((Int.toNat ((i : Nat) : Int)) : Nat) : Int) + (1 : Int))))))] [(Blk.var [(PV.d (D.l 3 t)), (PV.d (D.i .i64 (Prod.fst (spoilV t (Prod.fst (presV t p (4 : Int))) (Prod.snd (presV t p (4 : Int)))))))])]) = (St.mk [(Prod.mk 1 (PV.d (D.l 29 l))), (Prod.mk 5 (PV.ptr 0 0)), (Prod.mk 6 (PV.d (D.i .i64 (((Prod.fst s') : Nat) : Int))))] [(Blk.var [(PV.d (D.l 3 t)), (PV.d (D.i .i64 (Prod.snd s')))])])) ∧ ((((Prod.fst s') ≤ 4) ∧ (((0 : Int) ≤ (Prod.snd s')) ∧ (((Prod.snd s') ≤ (((List.length t) : Nat) : Int)) ∧ ((((List.length t) : Nat) : Int) ≤ (4611686018427387904 : Int))))) ∧ (((4 - (Prod.fst s')) < (4 - i)) ∧ ((Prod.mk (Exit.exit 0) (St.mk [(Prod.mk 4 PV.u)] [])) = (Prod.mk (Exit.exit 0) (St.mk [(Prod.mk 4 PV.u)] [])))))))))))))))) ∧ (((decide (((i : Nat) : Int) = (2 : Int))) = false) → ((((decide (((i : Nat) : Int) = (3 : Int))) = true) → ((((decide ((100 : Int) < (((List.length l) : Nat) : Int))) = true) → (∃ s' : (Prod Nat Int), (((St.mk [(Prod.mk 1 (PV.d (D.l 29 l))), (Prod.mk 5 (PV.ptr 0 0)), (Prod.mk 6 (PV.d (D.i .i64 (IntKind.wrap .i64 (((i : Nat) : Int) + (1 : Int))))))] [(Blk.var [(PV.d (D.l 3 t)), (PV.d (D.i .i64 (Prod.fst (presV t p (4 : Int)))))])]) = (St.mk [(Prod.mk 1 (PV.d (D.l 29 l))), (Prod.mk 5 (PV.ptr 0 0)), (Prod.mk 6 (PV.d (D.i .i64 (((Prod.fst s') : Nat) : Int))))] [(Blk.var [(PV.d (D.l 3 t)), (PV.d (D.i .i64 (Prod.snd s')))])])) ∧ ((((Prod.fst s') ≤ 4) ∧ (((0 : Int) ≤ (Prod.snd s')) ∧ (((Prod.snd s') ≤ (((List.length t) : Nat) : Int)) ∧ ((((List.length t) : Nat) : Int) ≤ (4611686018427387904 : Int))))) ∧ (((4 - (Prod.fst s')) < (4 - i)) ∧ ((Prod.mk (Exit.exit 0) (St.mk [(Prod.mk 4 PV.u)] [])) = (Prod.mk (Exit.exit 0) (St.mk [(Prod.mk 4 PV.u)] [])))))))) ∧ (((decide ((100 : Int) < (((List.length l) : Nat) : Int))) = false) → ((ACalls Try.prog tt 9 [(PV.d (D.l 29 l))] [] [(PV.d (D.i .i64 (validV l)))] []) ∧ ((ACalls Try.prog tt 16 [(PV.d (D.l 29 l))] [] [(PV.d (D.i .i64 (rvV l)))] []) ∧ ((((decide ((validV l) ≠ (rvV l))) = true) → ((Prod.mk (Exit.exit 0) (St.mk [(Prod.mk 4 PV.u)] [])) = (Prod.mk Exit.ret (St.mk [(Prod.mk 4 (PV.kb false))] [])))) ∧ (((decide ((validV l) ≠ (rvV l))) = false) → ((LCalls Try.prog tt 61 0 (loopOf Try.f4.body 15 0) (St.mk [(Prod.mk 1 (PV.d (D.l 29 l))), (Prod.mk 5 (PV.ptr 0 0)), (Prod.mk 6 (PV.d (D.i .i64 ((i : Nat) : Int)))), (Prod.mk 7 (PV.d (D.l 29 l))), (Prod.mk 8 (PV.d (D.i .i64 (0 : Int))))] [(Blk.var [(PV.d (D.l 3 t)), (PV.d (D.i .i64 (Prod.fst (presV t p (4 : Int)))))])]) (vIFin t l (Prod.fst (presV t p (4 : Int))) (Int.toNat ((i : Nat) : Int)) 0)) ∧ (∃ s' : (Prod Nat Int), (((St.mk [(Prod.mk 1 (PV.d (D.l 29 l))), (Prod.mk 5 (PV.ptr 0 0)), (Prod.mk 6 (PV.d (D.i .i64 (IntKind.wrap .i64 ((((Int.toNat ((i : Nat) : Int)) : Nat) : Int) + (1 : Int))))))] [(Blk.var [(PV.d (D.l 3 t)), (PV.d (D.i .i64 (Prod.fst (presV t p (4 : Int)))))])]) = (St.mk [(Prod.mk 1 (PV.d (D.l 29 l))), (Prod.mk 5 (PV.ptr 0 0)), (Prod.mk 6 (PV.d (D.i .i64 (((Prod.fst s') : Nat) : Int))))] [(Blk.var [(PV.d (D.l 3 t)), (PV.d (D.i .i64 (Prod.snd s')))])])) ∧ ((((Prod.fst s') ≤ 4) ∧ (((0 : Int) ≤ (Prod.snd s')) ∧ (((Prod.snd s') ≤ (((List.length t) : Nat) : Int)) ∧ ((((List.length t) : Nat) : Int) ≤ (4611686018427387904 : Int))))) ∧ (((4 - (Prod.fst s')) < (4 - i)) ∧ ((Prod.mk (Exit.exit 0) (St.mk [(Prod.mk 4 PV.u)] [])) = (Prod.mk (Exit.exit 0) (St.mk [(Prod.mk 4 PV.u)] []))))))))))))))) ∧ (((decide (((i : Nat) : Int) = (3 : Int))) = false) → ((((decide ((100 : Int) < (((List.length (Prod.snd (presV t p (4 : Int)))) : Nat) : Int))) = true) → (∃ s' : (Prod Nat Int), (((St.mk [(Prod.mk 1 (PV.d (D.l 29 l))), (Prod.mk 5 (PV.ptr 0 0)), (Prod.mk 6 (PV.d (D.i .i64 (IntKind.wrap .i64 (((i : Nat) : Int) + (1 : Int))))))] [(Blk.var [(PV.d (D.l 3 t)), (PV.d (D.i .i64 (Prod.fst (presV t p (4 : Int)))))])]) = (St.mk [(Prod.mk 1 (PV.d (D.l 29 l))), (Prod.mk 5 (PV.ptr 0 0)), (Prod.mk 6 (PV.d (D.i .i64 (((Prod.fst s') : Nat) : Int))))] [(Blk.var [(PV.d (D.l 3 t)), (PV.d (D.i .i64 (Prod.snd s')))])])) ∧ ((((Prod.fst s') ≤ 4) ∧ (((0 : Int) ≤ (Prod.snd s')) ∧ (((Prod.snd s') ≤ (((List.length t) : Nat) : Int)) ∧ ((((List.length t) : Nat) : Int) ≤ (4611686018427387904 : Int))))) ∧ (((4 - (Prod.fst s')) < (4 - i)) ∧ ((Prod.mk (Exit.exit 0) (St.mk [(Prod.mk 4 PV.u)] [])) = (Prod.mk (Exit.exit 0) (St.mk [(Prod.mk 4 PV.u)] [])))))))) ∧ (((decide ((100 : Int) < (((List.length (Prod.snd (presV t p (4 : Int)))) : Nat) : Int))) = false) → ((ACalls Try.prog tt 9 [(PV.d (D.l 29 (Prod.snd (presV t p (4 : Int)))))] [] [(PV.d (D.i .i64 (validV (Prod.snd (presV t p (4 : Int))))))] []) ∧ ((ACalls Try.prog tt 16 [(PV.d (D.l 29 (Prod.snd (presV t p (4 : Int)))))] [] [(PV.d (D.i .i64 (rvV (Prod.snd (presV t p (4 : Int))))))] []) ∧ ((((decide ((validV (Prod.snd (presV t p (4 : Int)))) ≠ (rvV (Prod.snd (presV t p (4 : Int)))))) = true) → ((Prod.mk (Exit.exit 0) (St.mk [(Prod.mk 4 PV.u)] [])) = (Prod.mk Exit.ret (St.mk [(Prod.mk 4 (PV.kb false))] [])))) ∧ (((decide ((validV (Prod.snd (presV t p (4 : Int)))) ≠ (rvV (Prod.snd (presV t p (4 : Int)))))) = false) → ((LCalls Try.prog tt 61 0 (loopOf Try.f4.body 15 0) (St.mk [(Prod.mk 1 (PV.d (D.l 29 l))), (Prod.mk 5 (PV.ptr 0 0)), (Prod.mk 6 (PV.d (D.i .i64 ((i : Nat) : Int)))), (Prod.mk 7 (PV.d (D.l 29 (Prod.snd (presV t p (4 : Int)))))), (Prod.mk 8 (PV.d (D.i .i64 (0 : Int))))] [(Blk.var [(PV.d (D.l 3 t)), (PV.d (D.i .i64 (Prod.fst (presV t p (4 : Int)))))])]) (vIFin t l (Prod.fst (presV t p (4 : Int))) (Int.toNat ((i : Nat) : Int)) 0)) ∧ (∃ s' : (Prod Nat Int), (((St.mk [(Prod.mk 1 (PV.d (D.l 29 l))), (Prod.mk 5 (PV.ptr 0 0)), (Prod.mk 6 (PV.d (D.i .i64 (IntKind.wrap .i64 ((((Int.toNat ((i : Nat) : Int)) : Nat) : Int) + (1 : Int))))))] [(Blk.var [(PV.d (D.l 3 t)), (PV.d (D.i .i64 (Prod.fst (presV t p (4 : Int)))))])]) = (St.mk [(Prod.mk 1 (PV.d (D.l 29 l))), (Prod.mk 5 (PV.ptr 0 0)), (Prod.mk 6 (PV.d (D.i .i64 (((Prod.fst s') : Nat) : Int))))] [(Blk.var [(PV.d (D.l 3 t)), (PV.d (D.i .i64 (Prod.snd s')))])])) ∧ ((((Prod.fst s') ≤ 4) ∧ (((0 : Int) ≤ (Prod.snd s')) ∧ (((Prod.snd s') ≤ (((List.length t) : Nat) : Int)) ∧ ((((List.length t) : Nat) : Int) ≤ (4611686018427387904 : Int))))) ∧ (((4 - (Prod.fst s')) < (4 - i)) ∧ ((Prod.mk (Exit.exit 0) (St.mk [(Prod.mk 4 PV.u)] [])) = (Prod.mk (Exit.exit 0) (St.mk [(Prod.mk 4 PV.u)] [])))))))))))))))))))) ∧ (((decide (((i : Nat) : Int) < (4 : Int))) = false) → ((Prod.mk (Exit.exit 0) (St.mk [(Prod.mk 4 PV.u)] [])) = (Prod.mk (Exit.exit 0) (St.mk [(Prod.mk 4 PV.u)] [])))))) (by kernel_rfl) ?_ :)
  simp only [decide_eq_true_eq, decide_eq_false_iff_not, Bool.not_eq_true', Bool.not_eq_false', List.length_nil, List.take_length, Int.toNat_natCast, List.nil_append, Nat.zero_add, eq_self, true_and, and_true, implies_true, Bool.and_true, Bool.true_and, Bool.false_and, beq_iff_eq, beq_eq_false_iff_ne, ne_eq, not_true_eq_false, not_false_eq_true, reduceCtorEq, false_implies, true_implies, cond_true, cond_false]
  intro c
  rw [wrap64 (x := (i : Int) + 1) (by omega) (by omega)]
  have T1 : TapeOK t (presV t p 4).1 := presV_tape t p 4 h2
  obtain ⟨f1, f2⟩ := presV_facts t p 4 (by omega)
  have f3 : ∀ x ∈ (presV t p 4).2, BrkOK x := fun x hx => by have := (f1 x hx).1; unfold BrkOK; omega
  obtain ⟨g1, g2⟩ := spoilV_facts t (presV t p 4).1 (presV t p 4).2 f1 (by omega)
  have T2 := spoilV_tape t (presV t p 4).1 (presV t p 4).2 T1
  refine ⟨Presences_ok t p 4 h2 (by omega), fun a => ⟨Spoil_ok t _ _ T1 (by omega) (fun x hx => by have := f1 x hx; exact ⟨by have := this.1; omega, this.2.1, this.2.2⟩), ?_⟩, fun a => ⟨fun b => ?_, fun b => ?_⟩⟩
  · exact ⟨fun g => ⟨(i + 1, (spoilV t (presV t p 4).1 (presV t p 4).2).1), rfl, ⟨by dsimp only; omega, T2⟩, by dsimp only; omega⟩, fun g => ⟨Valid_ok _ (by omega) g1, rValid_ok _, fun h => absurd (valid_same _) h, fun _ => ⟨v_inner t l _ _ i (by omega) g1 0 (by omega), (i + 1, (spoilV t (presV t p 4).1 (presV t p 4).2).1), rfl, ⟨by dsimp only; omega, T2⟩, by dsimp only; omega⟩⟩⟩
  · exact ⟨fun g => ⟨(i + 1, (presV t p 4).1), rfl, ⟨by dsimp only; omega, T1⟩, by dsimp only; omega⟩, fun g => ⟨Valid_ok _ (by omega) hb, rValid_ok _, fun h => absurd (valid_same _) h, fun _ => ⟨v_inner t l _ _ i (by omega) hb 0 (by omega), (i + 1, (presV t p 4).1), rfl, ⟨by dsimp only; omega, T1⟩, by dsimp only; omega⟩⟩⟩
  · exact ⟨fun g => ⟨(i + 1, (presV t p 4).1), rfl, ⟨by dsimp only; omega, T1⟩, by dsimp only; omega⟩, fun g => ⟨Valid_ok _ (by omega) f3, rValid_ok _, fun h => absurd (valid_same _) h, fun _ => ⟨v_inner t l _ _ i (by omega) f3 0 (by omega), (i + 1, (presV t p 4).1), rfl, ⟨by dsimp only; omega, T1⟩, by dsimp only; omega⟩⟩⟩

theorem PresenceValid_ok (t l : List D) (ht : (t.length : Int) ≤ 4611686018427387904) (hl : (l.length : Int) ≤ 4611686018427387904) (hb : ∀ y ∈ l, BrkOK y) : ACalls Try.prog tt 4 [.d (.l 3 t), .d (.l 29 l)] [] [.d (.b true)] [] := by
  refine ACalls.intro (sg := sgVO) [.d] pok Try.func4 rfl rfl rfl ?_
  refine (to_res (B := ((ACalls Try.prog tt 13 [(PV.d (D.l 3 t))] [] [(PV.ptr 0 0)] [(Blk.var [(PV.d (D.l 3 t)), (PV.d (D.i .i64 (0 : Int)))])]) ∧ ((LCalls Try.prog tt 61 0 (loopOf Try.f4.body 3 1) (St.mk [(Prod.mk 1 (PV.d (D.l 29 l))), (Prod.mk 5 (PV.ptr 0 0)), (Prod.mk 6 (PV.d (D.i .i64 (0 : Int))))] [(Blk.var [(PV.d (D.l 3 t)), (PV.d (D.i .i64 (0 : Int)))])]) (vOFin l (Prod.mk 0 (0 : Int)))) ∧ ((ACalls Try.prog tt 12 [] [] [(PV.d (D.b true))] []) ∧ (([(PV.d (D.b true))] = [(PV.d (D.b true))]) ∧ (@Eq (List Blk) [] [])))))) (by kernel_rfl) ?_ :)
  simp only [decide_eq_true_eq, decide_eq_false_iff_not, Bool.not_eq_true', Bool.not_eq_false', List.length_nil, List.take_length, Int.toNat_natCast, List.nil_append, Nat.zero_add, eq_self, true_and, and_true, implies_true, Bool.and_true, Bool.true_and, Bool.false_and, beq_iff_eq, beq_eq_false_iff_ne, ne_eq, not_true_eq_false, not_false_eq_true, reduceCtorEq, false_implies, true_implies, cond_true, cond_false]
  exact ⟨New_ok t, v_outer t l hl hb (0, 0) ⟨by omega, by unfold TapeOK; dsimp only; omega⟩, sane_ok⟩

end Go.Abs.C9
