/- Chapter 9: made presences. -/
import Derived.Test.YtbncjlapmomlkaaXRef
set_option linter.unusedSimpArgs false
set_option linter.unusedVariables false
namespace Go.Abs.C9
open Go.Proofs
set_option maxRecDepth 100000

def iL (l : List Int) : List D := l.map (D.i .i64)
theorem pick_mem (l : List D) (t : List D) (k : Int) (hl : 0 < l.length) : ∃ x ∈ l, pickV l t k = D.toI (D.leafAt x 0) := by
  have h := nextV_range t k (n := l.length) (by omega)
  exact ⟨_, getD_mem (i := (nextV t k l.length).toNat) (by omega), rfl⟩

theorem pickR (l : List Int) (lo hi : Int) (h : ∀ x ∈ l, lo ≤ x ∧ x ≤ hi) (hl : 0 < l.length) (t : List D) (k : Int) : lo ≤ pickV (iL l) t k ∧ pickV (iL l) t k ≤ hi := by
  obtain ⟨x, hx, e⟩ := pick_mem (iL l) t k (by simpa [iL] using hl)
  rw [e]
  simp only [iL, List.mem_map] at hx
  obtain ⟨y, hy, rfl⟩ := hx
  exact h y hy

def brkLoop (t : List D) : Nat → Int → Int → Int → List D → Int × List D
  | 0, p, _, _, acc => (p, acc)
  | n + 1, p, b, to, acc =>
    if b + pickV [D.i .i64 0, D.i .i64 60, D.i .i64 120, D.i .i64 7] t p + pickV [D.i .i64 15, D.i .i64 30, D.i .i64 45] t (nextK t p 4) ≤ to then
      brkLoop t n (nextK t (nextK t p 4) 3) (b + pickV [D.i .i64 0, D.i .i64 60, D.i .i64 120, D.i .i64 7] t p + pickV [D.i .i64 15, D.i .i64 30, D.i .i64 45] t (nextK t p 4)) to (acc ++ [mkIv (b + pickV [D.i .i64 0, D.i .i64 60, D.i .i64 120, D.i .i64 7] t p) (b + pickV [D.i .i64 0, D.i .i64 60, D.i .i64 120, D.i .i64 7] t p + pickV [D.i .i64 15, D.i .i64 30, D.i .i64 45] t (nextK t p 4))])
    else brkLoop t n (nextK t (nextK t p 4) 3) b to acc

def spG : FuncId → List PV → List Blk → Option Rets
  | f, a, s => spR f a s
def mdG : FuncId → List Md
  | 26 => [.r, .d]
  | 14 => [.r, .d]
  | 15 => [.r, .d]
  | f => md9 f

structure Bs where
  c : Nat
  p : Int
  b : Int
  br : List D
def bMk (t : List D) (xs : List D) (c7 a to : Int) (s : Bs) : St := ⟨[(0, .ptr 0 0), (6, .sl 1 1 xs.length), (7, .d (.i .i64 c7)), (8, .ptr 2 0), (9, .d (.i .i64 s.b)), (10, .d (.i .i64 s.c))],
  [tp t s.p, .buf 1 29 xs, .var [.d (.i .i64 a), .d (.i .i64 to), .sl 3 1 s.br.length], .buf 1 26 s.br]⟩
def bFin (t : List D) (xs : List D) (c7 a to : Int) (s : Bs) : Ends := .one (.exit 2) ⟨[(0, .ptr 0 0), (6, .sl 1 1 xs.length), (7, .d (.i .i64 c7)), (8, .ptr 2 0)],
  [tp t (brkLoop t s.c s.p s.b to s.br).1, .buf 1 29 xs, .var [.d (.i .i64 a), .d (.i .i64 to), .sl 3 1 (brkLoop t s.c s.p s.b to s.br).2.length], .buf 1 26 (brkLoop t s.c s.p s.b to s.br).2]⟩
structure BOk (t : List D) (to : Int) (s : Bs) : Prop where
  tape : TapeOK t s.p
  c : s.c ≤ 1000
  b : 0 ≤ s.b ∧ s.b ≤ 1000000000
  to : to ≤ 1000000000
  len : (s.br.length : Int) + s.c ≤ 1000

theorem b_loop (t xs : List D) (c7 a to : Int) : ∀ s : Bs, BOk t to s → LCalls Try.prog tt 78 1 (loopOf Try.f14.body 9 0) (bMk t xs c7 a to s) (bFin t xs c7 a to s) := by
  refine LCalls.ind (sg := ⟨mdG, spG, fun _ _ => none⟩) pok (bMk t xs c7 a to) (fun s => s.c) (BOk t to) (bFin t xs c7 a to) [0, 6, 7, 8, 9, 10] [] [0, 6, 7, 8] [] fun s hs => ?_
  refine (to_res (B := ((((decide ((0 : Int) < (((Bs.c s) : Nat) : Int))) = true) → ((1 = 1) ∧ ((ACalls Try.prog tt 26 [(PV.ptr 0 0), (PV.d (D.l 3 [(D.i .i64 (0 : Int)), (D.i .i64 (60 : Int)), (D.i .i64 (120 : Int)), (D.i .i64 (7 : Int))]))] [(Blk.var [(PV.d (D.l 3 t)), (PV.d (D.i .i64 (Bs.p s)))])] [(PV.d (D.i .i64 (pickV [(D.i .i64 (0 : Int)), (D.i .i64 (60 : Int)), (D.i .i64 (120 : Int)), (D.i .i64 (7 : Int))] t (Bs.p s))))] [(Blk.var [(PV.d (D.l 3 t)), (PV.d (D.i .i64 (nextK t (Bs.p s) (4 : Int))))])]) ∧ ((1 = 1) ∧ ((ACalls Try.prog tt 26 [(PV.ptr 0 0), (PV.d (D.l 3 [(D.i .i64 (15 : Int)), (D.i .i64 (30 : Int)), (D.i .i64 (45 : Int))]))] [(Blk.var [(PV.d (D.l 3 t)), (PV.d (D.i .i64 (nextK t (Bs.p s) (4 : Int))))])] [(PV.d (D.i .i64 (pickV [(D.i .i64 (15 : Int)), (D.i .i64 (30 : Int)), (D.i .i64 (45 : Int))] t (nextK t (Bs.p s) (4 : Int)))))] [(Blk.var [(PV.d (D.l 3 t)), (PV.d (D.i .i64 (nextK t (nextK t (Bs.p s) (4 : Int)) (3 : Int))))])]) ∧ ((((decide ((IntKind.wrap .i64 ((IntKind.wrap .i64 ((Bs.b s) + (pickV [(D.i .i64 (0 : Int)), (D.i .i64 (60 : Int)), (D.i .i64 (120 : Int)), (D.i .i64 (7 : Int))] t (Bs.p s)))) + (pickV [(D.i .i64 (15 : Int)), (D.i .i64 (30 : Int)), (D.i .i64 (45 : Int))] t (nextK t (Bs.p s) (4 : Int))))) ≤ to)) = true) → ((1 = 1) ∧ (((1 = 1) ∧ (((List.length (Bs.br s)) = (List.length (Bs.br s))) ∧ ((((List.length (Bs.br s)) + 1) * 16) ≤ 140737488355328))) ∧ ((2 = 2) ∧ (∃ s' : Bs, (((St.mk [(Prod.mk 0 (PV.ptr 0 0)), (Prod.mk 6 (PV.sl 1 1 (List.length xs))), (Prod.mk 7 (PV.d (D.i .i64 c7))), (Prod.mk 8 (PV.ptr 2 0)), (Prod.mk 9 (PV.d (D.i .i64 (IntKind.wrap .i64 ((IntKind.wrap .i64 ((Bs.b s) + (pickV [(D.i .i64 (0 : Int)), (D.i .i64 (60 : Int)), (D.i .i64 (120 : Int)), (D.i .i64 (7 : Int))] t (Bs.p s)))) + (pickV [(D.i .i64 (15 : Int)), (D.i .i64 (30 : Int)), (D.i .i64 (45 : Int))] t (nextK t (Bs.p s) (4 : Int)))))))), (Prod.mk 10 (PV.d (D.i .i64 (IntKind.wrap .i64 ((((Bs.c s) : Nat) : Int) - (1 : Int))))))] [(Blk.var [(PV.d (D.l 3 t)), (PV.d (D.i .i64 (nextK t (nextK t (Bs.p s) (4 : Int)) (3 : Int))))]), (Blk.buf 1 29 xs), (Blk.var [(PV.d (D.i .i64 a)), (PV.d (D.i .i64 to)), (PV.sl 3 1 ((List.length (Bs.br s)) + 1))]), (Blk.buf 1 26 ((Bs.br s) ++ [(D.g [(D.i .i64 (IntKind.wrap .i64 ((Bs.b s) + (pickV [(D.i .i64 (0 : Int)), (D.i .i64 (60 : Int)), (D.i .i64 (120 : Int)), (D.i .i64 (7 : Int))] t (Bs.p s))))), (D.i .i64 (IntKind.wrap .i64 ((IntKind.wrap .i64 ((Bs.b s) + (pickV [(D.i .i64 (0 : Int)), (D.i .i64 (60 : Int)), (D.i .i64 (120 : Int)), (D.i .i64 (7 : Int))] t (Bs.p s)))) + (pickV [(D.i .i64 (15 : Int)), (D.i .i64 (30 : Int)), (D.i .i64 (45 : Int))] t (nextK t (Bs.p s) (4 : Int))))))])]))]) = (St.mk [(Prod.mk 0 (PV.ptr 0 0)), (Prod.mk 6 (PV.sl 1 1 (List.length xs))), (Prod.mk 7 (PV.d (D.i .i64 c7))), (Prod.mk 8 (PV.ptr 2 0)), (Prod.mk 9 (PV.d (D.i .i64 (Bs.b s')))), (Prod.mk 10 (PV.d (D.i .i64 (((Bs.c s') : Nat) : Int))))] [(Blk.var [(PV.d (D.l 3 t)), (PV.d (D.i .i64 (Bs.p s')))]), (Blk.buf 1 29 xs), (Blk.var [(PV.d (D.i .i64 a)), (PV.d (D.i .i64 to)), (PV.sl 3 1 (List.length (Bs.br s')))]), (Blk.buf 1 26 (Bs.br s'))])) ∧ ((BOk t to s') ∧ (((Bs.c s') < (Bs.c s)) ∧ ((Prod.mk (Exit.exit 2) (St.mk [(Prod.mk 0 (PV.ptr 0 0)), (Prod.mk 6 (PV.sl 1 1 (List.length xs))), (Prod.mk 7 (PV.d (D.i .i64 c7))), (Prod.mk 8 (PV.ptr 2 0))] [(Blk.var [(PV.d (D.l 3 t)), (PV.d (D.i .i64 (Prod.fst (brkLoop t (Bs.c s') (Bs.p s') (Bs.b s') to (Bs.br s')))))]), (Blk.buf 1 29 xs), (Blk.var [(PV.d (D.i .i64 a)), (PV.d (D.i .i64 to)), (PV.sl 3 1 (List.length (Prod.snd (brkLoop t (Bs.c s') (Bs.p s') (Bs.b s') to (Bs.br s')))))]), (Blk.buf 1 26 (Prod.snd (brkLoop t (Bs.c s') (Bs.p s') (Bs.b s') to (Bs.br s'))))])) = (Prod.mk (Exit.exit 2) (St.mk [(Prod.mk 0 (PV.ptr 0 0)), (Prod.mk 6 (PV.sl 1 1 (List.length xs))), (Prod.mk 7 (PV.d (D.i .i64 c7))), (Prod.mk 8 (PV.ptr 2 0))] [(Blk.var [(PV.d (D.l 3 t)), (PV.d (D.i .i64 (Prod.fst (brkLoop t (Bs.c s) (Bs.p s) (Bs.b s) to (Bs.br s)))))]), (Blk.buf 1 29 xs), (Blk.var [(PV.d (D.i .i64 a)), (PV.d (D.i .i64 to)), (PV.sl 3 1 (List.length (Prod.snd (brkLoop t (Bs.c s) (Bs.p s) (Bs.b s) to (Bs.br s)))))]), (Blk.buf 1 26 (Prod.snd (brkLoop t (Bs.c s) (Bs.p s) (Bs.b s) to (Bs.br s))))]))))))))))) ∧ (((decide ((IntKind.wrap .i64 ((IntKind.wrap .i64 ((Bs.b s) + (pickV [(D.i .i64 (0 : Int)), (D.i .i64 (60 : Int)), (D.i .i64 (120 : Int)), (D.i .i64 (7 : Int))] t (Bs.p s)))) + (pickV [(D.i .i64 (15 : Int)), (D.i .i64 (30 : Int)), (D.i .i64 (45 : Int))] t (nextK t (Bs.p s) (4 : Int))))) ≤ to)) = false) → (∃ s' : Bs, (((St.mk [(Prod.mk 0 (PV.ptr 0 0)), (Prod.mk 6 (PV.sl 1 1 (List.length xs))), (Prod.mk 7 (PV.d (D.i .i64 c7))), (Prod.mk 8 (PV.ptr 2 0)), (Prod.mk 9 (PV.d (D.i .i64 (Bs.b s)))), (Prod.mk 10 (PV.d (D.i .i64 (IntKind.wrap .i64 ((((Bs.c s) : Nat) : Int) - (1 : Int))))))] [(Blk.var [(PV.d (D.l 3 t)), (PV.d (D.i .i64 (nextK t (nextK t (Bs.p s) (4 : Int)) (3 : Int))))]), (Blk.buf 1 29 xs), (Blk.var [(PV.d (D.i .i64 a)), (PV.d (D.i .i64 to)), (PV.sl 3 1 (List.length (Bs.br s)))]), (Blk.buf 1 26 (Bs.br s))]) = (St.mk [(Prod.mk 0 (PV.ptr 0 0)), (Prod.mk 6 (PV.sl 1 1 (List.length xs))), (Prod.mk 7 (PV.d (D.i .i64 c7))), (Prod.mk 8 (PV.ptr 2 0)), (Prod.mk 9 (PV.d (D.i .i64 (Bs.b s')))), (Prod.mk 10 (PV.d (D.i .i64 (((Bs.c s') : Nat) : Int))))] [(Blk.var [(PV.d (D.l 3 t)), (PV.d (D.i .i64 (Bs.p s')))]), (Blk.buf 1 29 xs), (Blk.var [(PV.d (D.i .i64 a)), (PV.d (D.i .i64 to)), (PV.sl 3 1 (List.length (Bs.br s')))]), (Blk.buf 1 26 (Bs.br s'))])) ∧ ((BOk t to s') ∧ (((Bs.c s') < (Bs.c s)) ∧ ((Prod.mk (Exit.exit 2) (St.mk [(Prod.mk 0 (PV.ptr 0 0)), (Prod.mk 6 (PV.sl 1 1 (List.length xs))), (Prod.mk 7 (PV.d (D.i .i64 c7))), (Prod.mk 8 (PV.ptr 2 0))] [(Blk.var [(PV.d (D.l 3 t)), (PV.d (D.i .i64 (Prod.fst (brkLoop t (Bs.c s') (Bs.p s') (Bs.b s') to (Bs.br s')))))]), (Blk.buf 1 29 xs), (Blk.var [(PV.d (D.i .i64 a)), (PV.d (D.i .i64 to)), (PV.sl 3 1 (List.length (Prod.snd (brkLoop t (Bs.c s') (Bs.p s') (Bs.b s') to (Bs.br s')))))]), (Blk.buf 1 26 (Prod.snd (brkLoop t (Bs.c s') (Bs.p s') (Bs.b s') to (Bs.br s'))))])) = (Prod.mk (Exit.exit 2) (St.mk [(Prod.mk 0 (PV.ptr 0 0)), (Prod.mk 6 (PV.sl 1 1 (List.length xs))), (Prod.mk 7 (PV.d (D.i .i64 c7))), (Prod.mk 8 (PV.ptr 2 0))] [(Blk.var [(PV.d (D.l 3 t)), (PV.d (D.i .i64 (Prod.fst (brkLoop t (Bs.c s) (Bs.p s) (Bs.b s) to (Bs.br s)))))]), (Blk.buf 1 29 xs), (Blk.var [(PV.d (D.i .i64 a)), (PV.d (D.i .i64 to)), (PV.sl 3 1 (List.length (Prod.snd (brkLoop t (Bs.c s) (Bs.p s) (Bs.b s) to (Bs.br s)))))]), (Blk.buf 1 26 (Prod.snd (brkLoop t (Bs.c s) (Bs.p s) (Bs.b s) to (Bs.br s))))])))))))))))))) ∧ (((decide ((0 : Int) < (((Bs.c s) : Nat) : Int))) = false) → ((Prod.mk (Exit.exit 2) (St.mk [(Prod.mk 0 (PV.ptr 0 0)), (Prod.mk 6 (PV.sl 1 1 (List.length xs))), (Prod.mk 7 (PV.d (D.i .i64 c7))), (Prod.mk 8 (PV.ptr 2 0))] [(Blk.var [(PV.d (D.l 3 t)), (PV.d (D.i .i64 (Prod.fst (brkLoop t (Bs.c s) (Bs.p s) (Bs.b s) to (Bs.br s)))))]), (Blk.buf 1 29 xs), (Blk.var [(PV.d (D.i .i64 a)), (PV.d (D.i .i64 to)), (PV.sl 3 1 (List.length (Prod.snd (brkLoop t (Bs.c s) (Bs.p s) (Bs.b s) to (Bs.br s)))))]), (Blk.buf 1 26 (Prod.snd (brkLoop t (Bs.c s) (Bs.p s) (Bs.b s) to (Bs.br s))))])) = (Prod.mk (Exit.exit 2) (St.mk [(Prod.mk 0 (PV.ptr 0 0)), (Prod.mk 6 (PV.sl 1 1 (List.length xs))), (Prod.mk 7 (PV.d (D.i .i64 c7))), (Prod.mk 8 (PV.ptr 2 0))] [(Blk.var [(PV.d (D.l 3 t)), (PV.d (D.i .i64 (Bs.p s)))]), (Blk.buf 1 29 xs), (Blk.var [(PV.d (D.i .i64 a)), (PV.d (D.i .i64 to)), (PV.sl 3 1 (List.length (Bs.br s)))]), (Blk.buf 1 26 (Bs.br s))])))))) (by kernel_rfl) ?_ :)
  obtain ⟨c, p, b, br⟩ := s
  obtain ⟨h1, h2, h3, h4, h5⟩ := hs
  simp only at h1 h2 h3 h4 h5
  have q1 : 0 ≤ pickV [D.i .i64 0, D.i .i64 60, D.i .i64 120, D.i .i64 7] t p ∧ pickV [D.i .i64 0, D.i .i64 60, D.i .i64 120, D.i .i64 7] t p ≤ 120 := pickR [0, 60, 120, 7] 0 120 (by decide) (by decide) t p
  have q2 : 15 ≤ pickV [D.i .i64 15, D.i .i64 30, D.i .i64 45] t (nextK t p 4) ∧ pickV [D.i .i64 15, D.i .i64 30, D.i .i64 45] t (nextK t p 4) ≤ 45 := pickR [15, 30, 45] 15 45 (by decide) (by decide) t _
  have p1 := Pick_ok [D.i .i64 0, D.i .i64 60, D.i .i64 120, D.i .i64 7] t p h1 (by decide) (by decide)
  have p2 := Pick_ok [D.i .i64 15, D.i .i64 30, D.i .i64 45] t (nextK t p 4) (h1.next 4) (by decide) (by decide)
  cases c with
  | zero => exact ⟨fun h => absurd (d_true h) (by simp), fun _ => rfl⟩
  | succ c =>
    have e : brkLoop t (c + 1) p b to br = if b + pickV [D.i .i64 0, D.i .i64 60, D.i .i64 120, D.i .i64 7] t p + pickV [D.i .i64 15, D.i .i64 30, D.i .i64 45] t (nextK t p 4) ≤ to then
      brkLoop t c (nextK t (nextK t p 4) 3) (b + pickV [D.i .i64 0, D.i .i64 60, D.i .i64 120, D.i .i64 7] t p + pickV [D.i .i64 15, D.i .i64 30, D.i .i64 45] t (nextK t p 4)) to (br ++ [mkIv (b + pickV [D.i .i64 0, D.i .i64 60, D.i .i64 120, D.i .i64 7] t p) (b + pickV [D.i .i64 0, D.i .i64 60, D.i .i64 120, D.i .i64 7] t p + pickV [D.i .i64 15, D.i .i64 30, D.i .i64 45] t (nextK t p 4))])
      else brkLoop t c (nextK t (nextK t p 4) 3) b to br := rfl
    dsimp only
    rw [e]
    generalize pickV [D.i .i64 0, D.i .i64 60, D.i .i64 120, D.i .i64 7] t p = a1 at *
    generalize pickV [D.i .i64 15, D.i .i64 30, D.i .i64 45] t (nextK t p 4) = a2 at *
    rw [wrap64 (x := b + a1) (by omega) (by omega), wrap64 (x := b + a1 + a2) (by omega) (by omega), wrap64 (x := ((c + 1 : Nat) : Int) - 1) (by omega) (by omega), show ((c + 1 : Nat) : Int) - 1 = (c : Int) by omega]
    refine ⟨fun _ => ⟨rfl, p1, rfl, p2, fun g => ⟨rfl, ⟨rfl, rfl, by omega⟩, rfl, ⟨c, nextK t (nextK t p 4) 3, b + a1 + a2, br ++ [mkIv (b + a1) (b + a1 + a2)]⟩, ?_, ⟨(h1.next 4).next 3, by dsimp only; omega, ?_, h4, ?_⟩, ?_, ?_⟩, fun g => ⟨⟨c, nextK t (nextK t p 4) 3, b, br⟩, rfl, ⟨(h1.next 4).next 3, by dsimp only; omega, h3, h4, by dsimp only; omega⟩, Nat.le_refl _, ?_⟩⟩, fun h => absurd (d_false h) (by simp)⟩
    · simp only [List.length_append, List.length_singleton]; rfl
    · have g := d_true g; dsimp only; omega
    · simp only [List.length_append, List.length_singleton]; omega
    · exact Nat.le_refl _
    · rw [if_pos (d_true g)]
    · rw [if_neg (d_false g)]

def presLoop (t : List D) : Nat → Int → Int → List D → Int × List D
  | 0, p, _, acc => (p, acc)
  | n + 1, p, at', acc =>
    let to := at' + pickV [D.i .i64 480, D.i .i64 1, D.i .i64 300, D.i .i64 545, D.i .i64 90] t p
    let r := brkLoop t (nextV t (nextK t p 5) 3).toNat (nextK t (nextK t p 5) 3) at' to []
    presLoop t n (nextK t r.1 5) (to + pickV [D.i .i64 0, D.i .i64 15, D.i .i64 960, D.i .i64 480, D.i .i64 1] t r.1) (acc ++ [mkP at' to r.2])
def presV (t : List D) (p n : Int) : Int × List D :=
  presLoop t (nextV t (nextK t p 4) (n + 1)).toNat (nextK t (nextK t p 4) (n + 1)) (29453760 + pickV [D.i .i64 0, D.i .i64 420, D.i .i64 470, D.i .i64 480] t p) []

structure Ps where
  c : Nat
  p : Int
  at' : Int
  xs : List D
def pMk (t : List D) (s : Ps) : St := ⟨[(0, .ptr 0 0), (5, .d (.i .i64 s.at')), (6, .sl 1 1 s.xs.length), (7, .d (.i .i64 s.c))], [tp t s.p, .buf 1 29 s.xs]⟩
def pFin (t : List D) (s : Ps) : Ends := .one (.exit 0) ⟨[(0, .ptr 0 0), (6, .sl 1 1 (presLoop t s.c s.p s.at' s.xs).2.length)], [tp t (presLoop t s.c s.p s.at' s.xs).1, .buf 1 29 (presLoop t s.c s.p s.at' s.xs).2]⟩
structure POk (t : List D) (s : Ps) : Prop where
  tape : TapeOK t s.p
  c : s.c ≤ 1000
  at' : 0 ≤ s.at' ∧ s.at' + 2000 * s.c ≤ 100000000
  len : (s.xs.length : Int) + s.c ≤ 1000
def sgP : Sg := ⟨mdG, spG, fun k d => match k, d with
  | 9, 0 => some ⟨[0, 6, 7, 8, 9, 10], [(.cell 8 2, 26)], fun st => match st with
    | ⟨[_, _, (_, .d (.i _ c7)), _, (_, .d (.i _ b)), (_, .d (.i _ c))], [.var [.d (.l _ t), .d (.i _ p)], .buf _ _ xs, .var [.d (.i _ a), .d (.i _ to), _], .buf _ _ br]⟩ => some (bFin t xs c7 a to ⟨c.toNat, p, b, br⟩)
    | _ => none⟩
  | 4, 1 => some ⟨[0, 5, 6, 7], [(.slot 6, 29)], fun st => match st with
    | ⟨[_, (_, .d (.i _ a)), _, (_, .d (.i _ c))], [.var [.d (.l _ t), .d (.i _ p)], .buf _ _ xs]⟩ => some (pFin t ⟨c.toNat, p, a, xs⟩)
    | _ => none⟩
  | _, _ => none⟩

theorem brk_pos (t : List D) : ∀ (n : Nat) (p b to : Int) (acc : List D), TapeOK t p → TapeOK t (brkLoop t n p b to acc).1
  | 0, p, b, to, acc, h => h
  | n + 1, p, b, to, acc, h => by
    unfold brkLoop
    split
    · exact brk_pos t n _ _ _ _ ((h.next 4).next 3)
    · exact brk_pos t n _ _ _ _ ((h.next 4).next 3)

theorem p_loop (t : List D) : ∀ s : Ps, POk t s → LCalls Try.prog tt 78 1 (loopOf Try.f14.body 4 1) (pMk t s) (pFin t s) := by
  refine LCalls.ind (sg := sgP) pok (pMk t) (fun s => s.c) (POk t) (pFin t) [0, 5, 6, 7] [] [0, 6] [] fun s hs => ?_
  refine (to_res (B := ((((decide ((0 : Int) < (((Ps.c s) : Nat) : Int))) = true) → ((1 = 1) ∧ ((ACalls Try.prog tt 26 [(PV.ptr 0 0), (PV.d (D.l 3 [(D.i .i64 (480 : Int)), (D.i .i64 (1 : Int)), (D.i .i64 (300 : Int)), (D.i .i64 (545 : Int)), (D.i .i64 (90 : Int))]))] [(Blk.var [(PV.d (D.l 3 t)), (PV.d (D.i .i64 (Ps.p s)))])] [(PV.d (D.i .i64 (pickV [(D.i .i64 (480 : Int)), (D.i .i64 (1 : Int)), (D.i .i64 (300 : Int)), (D.i .i64 (545 : Int)), (D.i .i64 (90 : Int))] t (Ps.p s))))] [(Blk.var [(PV.d (D.l 3 t)), (PV.d (D.i .i64 (nextK t (Ps.p s) (5 : Int))))])]) ∧ ((ACalls Try.prog tt 27 [(PV.ptr 0 0), (PV.d (D.i .i64 (3 : Int)))] [(Blk.var [(PV.d (D.l 3 t)), (PV.d (D.i .i64 (nextK t (Ps.p s) (5 : Int))))])] [(PV.d (D.i .i64 (nextV t (nextK t (Ps.p s) (5 : Int)) (3 : Int))))] [(Blk.var [(PV.d (D.l 3 t)), (PV.d (D.i .i64 (nextK t (nextK t (Ps.p s) (5 : Int)) (3 : Int))))])]) ∧ ((LCalls Try.prog tt 78 1 (loopOf Try.f14.body 9 0) (St.mk [(Prod.mk 0 (PV.ptr 0 0)), (Prod.mk 6 (PV.sl 1 1 (List.length (Ps.xs s)))), (Prod.mk 7 (PV.d (D.i .i64 (((Ps.c s) : Nat) : Int)))), (Prod.mk 8 (PV.ptr 2 0)), (Prod.mk 9 (PV.d (D.i .i64 (Ps.at' s)))), (Prod.mk 10 (PV.d (D.i .i64 (nextV t (nextK t (Ps.p s) (5 : Int)) (3 : Int)))))] [(Blk.var [(PV.d (D.l 3 t)), (PV.d (D.i .i64 (nextK t (nextK t (Ps.p s) (5 : Int)) (3 : Int))))]), (Blk.buf 1 29 (Ps.xs s)), (Blk.var [(PV.d (D.i .i64 (Ps.at' s))), (PV.d (D.i .i64 (IntKind.wrap .i64 ((Ps.at' s) + (pickV [(D.i .i64 (480 : Int)), (D.i .i64 (1 : Int)), (D.i .i64 (300 : Int)), (D.i .i64 (545 : Int)), (D.i .i64 (90 : Int))] t (Ps.p s)))))), (PV.sl 3 1 0)]), (Blk.buf 1 26 [])]) (bFin t (Ps.xs s) (((Ps.c s) : Nat) : Int) (Ps.at' s) (IntKind.wrap .i64 ((Ps.at' s) + (pickV [(D.i .i64 (480 : Int)), (D.i .i64 (1 : Int)), (D.i .i64 (300 : Int)), (D.i .i64 (545 : Int)), (D.i .i64 (90 : Int))] t (Ps.p s)))) (Bs.mk (Int.toNat (nextV t (nextK t (Ps.p s) (5 : Int)) (3 : Int))) (nextK t (nextK t (Ps.p s) (5 : Int)) (3 : Int)) (Ps.at' s) []))) ∧ ((1 = 1) ∧ ((1 = 1) ∧ (((1 = 1) ∧ (((List.length (Ps.xs s)) = (List.length (Ps.xs s))) ∧ ((((List.length (Ps.xs s)) + 1) * 40) ≤ 140737488355328))) ∧ ((1 = 1) ∧ ((ACalls Try.prog tt 26 [(PV.ptr 0 0), (PV.d (D.l 3 [(D.i .i64 (0 : Int)), (D.i .i64 (15 : Int)), (D.i .i64 (960 : Int)), (D.i .i64 (480 : Int)), (D.i .i64 (1 : Int))]))] [(Blk.var [(PV.d (D.l 3 t)), (PV.d (D.i .i64 (Prod.fst (brkLoop t (Int.toNat (nextV t (nextK t (Ps.p s) (5 : Int)) (3 : Int))) (nextK t (nextK t (Ps.p s) (5 : Int)) (3 : Int)) (Ps.at' s) (IntKind.wrap .i64 ((Ps.at' s) + (pickV [(D.i .i64 (480 : Int)), (D.i .i64 (1 : Int)), (D.i .i64 (300 : Int)), (D.i .i64 (545 : Int)), (D.i .i64 (90 : Int))] t (Ps.p s)))) []))))])] [(PV.d (D.i .i64 (pickV [(D.i .i64 (0 : Int)), (D.i .i64 (15 : Int)), (D.i .i64 (960 : Int)), (D.i .i64 (480 : Int)), (D.i .i64 (1 : Int))] t (Prod.fst (brkLoop t (Int.toNat (nextV t (nextK t (Ps.p s) (5 : Int)) (3 : Int))) (nextK t (nextK t (Ps.p s) (5 : Int)) (3 : Int)) (Ps.at' s) (IntKind.wrap .i64 ((Ps.at' s) + (pickV [(D.i .i64 (480 : Int)), (D.i .i64 (1 : Int)), (D.i .i64 (300 : Int)), (D.i .i64 (545 : Int)), (D.i .i64 (90 : Int))] t (Ps.p s)))) [])))))] [(Blk.var [(PV.d (D.l 3 t)), (PV.d (D.i .i64 (nextK t (Prod.fst (brkLoop t (Int.toNat (nextV t (nextK t (Ps.p s) (5 : Int)) (3 : Int))) (nextK t (nextK t (Ps.p s) (5 : Int)) (3 : Int)) (Ps.at' s) (IntKind.wrap .i64 ((Ps.at' s) + (pickV [(D.i .i64 (480 : Int)), (D.i .i64 (1 : Int)), (D.i .i64 (300 : Int)), (D.i .i64 (545 : Int)), (D.i .i64 (90 : Int))] t (Ps.p s)))) [])) (5 : Int))))])]) ∧ (∃ s' : Ps, (((St.mk [(Prod.mk 0 (PV.ptr 0 0)), (Prod.mk 5 (PV.d (D.i .i64 (IntKind.wrap .i64 ((IntKind.wrap .i64 ((Ps.at' s) + (pickV [(D.i .i64 (480 : Int)), (D.i .i64 (1 : Int)), (D.i .i64 (300 : Int)), (D.i .i64 (545 : Int)), (D.i .i64 (90 : Int))] t (Ps.p s)))) + (pickV [(D.i .i64 (0 : Int)), (D.i .i64 (15 : Int)), (D.i .i64 (960 : Int)), (D.i .i64 (480 : Int)), (D.i .i64 (1 : Int))] t (Prod.fst (brkLoop t (Int.toNat (nextV t (nextK t (Ps.p s) (5 : Int)) (3 : Int))) (nextK t (nextK t (Ps.p s) (5 : Int)) (3 : Int)) (Ps.at' s) (IntKind.wrap .i64 ((Ps.at' s) + (pickV [(D.i .i64 (480 : Int)), (D.i .i64 (1 : Int)), (D.i .i64 (300 : Int)), (D.i .i64 (545 : Int)), (D.i .i64 (90 : Int))] t (Ps.p s)))) [])))))))), (Prod.mk 6 (PV.sl 1 1 ((List.length (Ps.xs s)) + 1))), (Prod.mk 7 (PV.d (D.i .i64 (IntKind.wrap .i64 ((((Ps.c s) : Nat) : Int) - (1 : Int))))))] [(Blk.var [(PV.d (D.l 3 t)), (PV.d (D.i .i64 (nextK t (Prod.fst (brkLoop t (Int.toNat (nextV t (nextK t (Ps.p s) (5 : Int)) (3 : Int))) (nextK t (nextK t (Ps.p s) (5 : Int)) (3 : Int)) (Ps.at' s) (IntKind.wrap .i64 ((Ps.at' s) + (pickV [(D.i .i64 (480 : Int)), (D.i .i64 (1 : Int)), (D.i .i64 (300 : Int)), (D.i .i64 (545 : Int)), (D.i .i64 (90 : Int))] t (Ps.p s)))) [])) (5 : Int))))]), (Blk.buf 1 29 ((Ps.xs s) ++ [(D.g [(D.i .i64 (Ps.at' s)), (D.i .i64 (IntKind.wrap .i64 ((Ps.at' s) + (pickV [(D.i .i64 (480 : Int)), (D.i .i64 (1 : Int)), (D.i .i64 (300 : Int)), (D.i .i64 (545 : Int)), (D.i .i64 (90 : Int))] t (Ps.p s))))), (D.l 26 (List.take (List.length (Prod.snd (brkLoop t (Int.toNat (nextV t (nextK t (Ps.p s) (5 : Int)) (3 : Int))) (nextK t (nextK t (Ps.p s) (5 : Int)) (3 : Int)) (Ps.at' s) (IntKind.wrap .i64 ((Ps.at' s) + (pickV [(D.i .i64 (480 : Int)), (D.i .i64 (1 : Int)), (D.i .i64 (300 : Int)), (D.i .i64 (545 : Int)), (D.i .i64 (90 : Int))] t (Ps.p s)))) []))) (Prod.snd (brkLoop t (Int.toNat (nextV t (nextK t (Ps.p s) (5 : Int)) (3 : Int))) (nextK t (nextK t (Ps.p s) (5 : Int)) (3 : Int)) (Ps.at' s) (IntKind.wrap .i64 ((Ps.at' s) + (pickV [(D.i .i64 (480 : Int)), (D.i .i64 (1 : Int)), (D.i .i64 (300 : Int)), (D.i .i64 (545 : Int)), (D.i .i64 (90 : Int))] t (Ps.p s)))) []))))])]))]) = (St.mk [(Prod.mk 0 (PV.ptr 0 0)), (Prod.mk 5 (PV.d (D.i .i64 (Ps.at' s')))), (Prod.mk 6 (PV.sl 1 1 (List.length (Ps.xs s')))), (Prod.mk 7 (PV.d (D.i .i64 (((Ps.c s') : Nat) : Int))))] [(Blk.var [(PV.d (D.l 3 t)), (PV.d (D.i .i64 (Ps.p s')))]), (Blk.buf 1 29 (Ps.xs s'))])) ∧ ((POk t s') ∧ (((Ps.c s') < (Ps.c s)) ∧ ((Prod.mk (Exit.exit 0) (St.mk [(Prod.mk 0 (PV.ptr 0 0)), (Prod.mk 6 (PV.sl 1 1 (List.length (Prod.snd (presLoop t (Ps.c s') (Ps.p s') (Ps.at' s') (Ps.xs s'))))))] [(Blk.var [(PV.d (D.l 3 t)), (PV.d (D.i .i64 (Prod.fst (presLoop t (Ps.c s') (Ps.p s') (Ps.at' s') (Ps.xs s')))))]), (Blk.buf 1 29 (Prod.snd (presLoop t (Ps.c s') (Ps.p s') (Ps.at' s') (Ps.xs s'))))])) = (Prod.mk (Exit.exit 0) (St.mk [(Prod.mk 0 (PV.ptr 0 0)), (Prod.mk 6 (PV.sl 1 1 (List.length (Prod.snd (presLoop t (Ps.c s) (Ps.p s) (Ps.at' s) (Ps.xs s))))))] [(Blk.var [(PV.d (D.l 3 t)), (PV.d (D.i .i64 (Prod.fst (presLoop t (Ps.c s) (Ps.p s) (Ps.at' s) (Ps.xs s)))))]), (Blk.buf 1 29 (Prod.snd (presLoop t (Ps.c s) (Ps.p s) (Ps.at' s) (Ps.xs s))))]))))))))))))))))) ∧ (((decide ((0 : Int) < (((Ps.c s) : Nat) : Int))) = false) → ((Prod.mk (Exit.exit 0) (St.mk [(Prod.mk 0 (PV.ptr 0 0)), (Prod.mk 6 (PV.sl 1 1 (List.length (Prod.snd (presLoop t (Ps.c s) (Ps.p s) (Ps.at' s) (Ps.xs s))))))] [(Blk.var [(PV.d (D.l 3 t)), (PV.d (D.i .i64 (Prod.fst (presLoop t (Ps.c s) (Ps.p s) (Ps.at' s) (Ps.xs s)))))]), (Blk.buf 1 29 (Prod.snd (presLoop t (Ps.c s) (Ps.p s) (Ps.at' s) (Ps.xs s))))])) = (Prod.mk (Exit.exit 0) (St.mk [(Prod.mk 0 (PV.ptr 0 0)), (Prod.mk 6 (PV.sl 1 1 (List.length (Ps.xs s))))] [(Blk.var [(PV.d (D.l 3 t)), (PV.d (D.i .i64 (Ps.p s)))]), (Blk.buf 1 29 (Ps.xs s))])))))) (by kernel_rfl) ?_ :)
  obtain ⟨c, p, at', xs⟩ := s
  obtain ⟨h1, h2, h3, h5⟩ := hs
  simp only at h1 h2 h3 h5
  have q1 : 1 ≤ pickV [D.i .i64 480, D.i .i64 1, D.i .i64 300, D.i .i64 545, D.i .i64 90] t p ∧ pickV [D.i .i64 480, D.i .i64 1, D.i .i64 300, D.i .i64 545, D.i .i64 90] t p ≤ 545 := pickR [480, 1, 300, 545, 90] 1 545 (by decide) (by decide) t p
  have q2 : ∀ k, 0 ≤ pickV [D.i .i64 0, D.i .i64 15, D.i .i64 960, D.i .i64 480, D.i .i64 1] t k ∧ pickV [D.i .i64 0, D.i .i64 15, D.i .i64 960, D.i .i64 480, D.i .i64 1] t k ≤ 960 := fun k => pickR [0, 15, 960, 480, 1] 0 960 (by decide) (by decide) t k
  have v := nextV_range t (nextK t p 5) (n := 3) (by omega)
  have hv : ((nextV t (nextK t p 5) 3).toNat : Int) = nextV t (nextK t p 5) 3 := Int.toNat_of_nonneg v.1
  have p1 := Pick_ok [D.i .i64 480, D.i .i64 1, D.i .i64 300, D.i .i64 545, D.i .i64 90] t p h1 (by decide) (by decide)
  cases c with
  | zero => exact ⟨fun h => absurd (d_true h) (by simp), fun _ => rfl⟩
  | succ c =>
    dsimp only
    rw [wrap64 (x := at' + pickV [D.i .i64 480, D.i .i64 1, D.i .i64 300, D.i .i64 545, D.i .i64 90] t p) (by omega) (by omega)]
    have hl := b_loop t xs ((c + 1 : Nat) : Int) at' (at' + pickV [D.i .i64 480, D.i .i64 1, D.i .i64 300, D.i .i64 545, D.i .i64 90] t p) ⟨(nextV t (nextK t p 5) 3).toNat, nextK t (nextK t p 5) 3, at', []⟩ ⟨(h1.next 5).next 3, by dsimp only; omega, by dsimp only; omega, by omega, by simp only [List.length_nil]; omega⟩
    unfold bMk at hl
    dsimp only at hl
    rw [hv] at hl
    have hp := brk_pos t (nextV t (nextK t p 5) 3).toNat (nextK t (nextK t p 5) 3) at' (at' + pickV [D.i .i64 480, D.i .i64 1, D.i .i64 300, D.i .i64 545, D.i .i64 90] t p) [] ((h1.next 5).next 3)
    have e : presLoop t (c + 1) p at' xs = presLoop t c (nextK t (brkLoop t (nextV t (nextK t p 5) 3).toNat (nextK t (nextK t p 5) 3) at' (at' + pickV [D.i .i64 480, D.i .i64 1, D.i .i64 300, D.i .i64 545, D.i .i64 90] t p) []).1 5) (at' + pickV [D.i .i64 480, D.i .i64 1, D.i .i64 300, D.i .i64 545, D.i .i64 90] t p + pickV [D.i .i64 0, D.i .i64 15, D.i .i64 960, D.i .i64 480, D.i .i64 1] t (brkLoop t (nextV t (nextK t p 5) 3).toNat (nextK t (nextK t p 5) 3) at' (at' + pickV [D.i .i64 480, D.i .i64 1, D.i .i64 300, D.i .i64 545, D.i .i64 90] t p) []).1) (xs ++ [mkP at' (at' + pickV [D.i .i64 480, D.i .i64 1, D.i .i64 300, D.i .i64 545, D.i .i64 90] t p) (brkLoop t (nextV t (nextK t p 5) 3).toNat (nextK t (nextK t p 5) 3) at' (at' + pickV [D.i .i64 480, D.i .i64 1, D.i .i64 300, D.i .i64 545, D.i .i64 90] t p) []).2]) := rfl
    rw [e]
    refine ⟨fun _ => ⟨rfl, p1, Next_ok t _ 3 (h1.next 5) (by decide), hl, rfl, rfl, ⟨rfl, rfl, by omega⟩, rfl, Pick_ok [D.i .i64 0, D.i .i64 15, D.i .i64 960, D.i .i64 480, D.i .i64 1] t _ hp (by decide) (by decide), ⟨c, _, _, _⟩, ?_, ⟨hp.next 5, by dsimp only; omega, ?_, ?_⟩, Nat.le_refl _, rfl⟩, fun h => absurd (d_false h) (by simp)⟩
    · generalize brkLoop t (nextV t (nextK t p 5) 3).toNat (nextK t (nextK t p 5) 3) at' (at' + pickV [D.i .i64 480, D.i .i64 1, D.i .i64 300, D.i .i64 545, D.i .i64 90] t p) [] = r at *
      have := q2 r.1
      rw [wrap64 (x := at' + pickV [D.i .i64 480, D.i .i64 1, D.i .i64 300, D.i .i64 545, D.i .i64 90] t p + pickV [D.i .i64 0, D.i .i64 15, D.i .i64 960, D.i .i64 480, D.i .i64 1] t r.1) (by omega) (by omega), wrap64 (x := ((c + 1 : Nat) : Int) - 1) (by omega) (by omega), show ((c + 1 : Nat) : Int) - 1 = (c : Int) by omega, List.take_length]
      simp only [List.length_append, List.length_singleton]; rfl
    · have := q2 (brkLoop t (nextV t (nextK t p 5) 3).toNat (nextK t (nextK t p 5) 3) at' (at' + pickV [D.i .i64 480, D.i .i64 1, D.i .i64 300, D.i .i64 545, D.i .i64 90] t p) []).1
      dsimp only; omega
    · simp only [List.length_append, List.length_singleton]; omega

theorem pres_pos (t : List D) : ∀ (n : Nat) (p at' : Int) (acc : List D), TapeOK t p → TapeOK t (presLoop t n p at' acc).1
  | 0, p, at', acc, h => h
  | n + 1, p, at', acc, h => pres_pos t n _ _ _ ((brk_pos t _ _ _ _ _ ((h.next 5).next 3)).next 5)

theorem Presences_ok (t : List D) (p n : Int) (h : TapeOK t p) (hn : 0 ≤ n ∧ n ≤ 100) : ACalls Try.prog tt 14 [.ptr 0 0, .d (.i .i64 n)] [tp t p] [.d (.l 29 (presV t p n).2)] [tp t (presV t p n).1] := by
  refine ACalls.intro (sg := sgP) [.d] pok Try.func14 rfl rfl rfl ?_
  refine (to_res (B := ((1 = 1) ∧ ((ACalls Try.prog tt 26 [(PV.ptr 0 0), (PV.d (D.l 3 [(D.i .i64 (0 : Int)), (D.i .i64 (420 : Int)), (D.i .i64 (470 : Int)), (D.i .i64 (480 : Int))]))] [(Blk.var [(PV.d (D.l 3 t)), (PV.d (D.i .i64 p))])] [(PV.d (D.i .i64 (pickV [(D.i .i64 (0 : Int)), (D.i .i64 (420 : Int)), (D.i .i64 (470 : Int)), (D.i .i64 (480 : Int))] t p)))] [(Blk.var [(PV.d (D.l 3 t)), (PV.d (D.i .i64 (nextK t p (4 : Int))))])]) ∧ ((ACalls Try.prog tt 27 [(PV.ptr 0 0), (PV.d (D.i .i64 (IntKind.wrap .i64 (n + (1 : Int)))))] [(Blk.var [(PV.d (D.l 3 t)), (PV.d (D.i .i64 (nextK t p (4 : Int))))])] [(PV.d (D.i .i64 (nextV t (nextK t p (4 : Int)) (IntKind.wrap .i64 (n + (1 : Int))))))] [(Blk.var [(PV.d (D.l 3 t)), (PV.d (D.i .i64 (nextK t (nextK t p (4 : Int)) (IntKind.wrap .i64 (n + (1 : Int))))))])]) ∧ ((LCalls Try.prog tt 78 1 (loopOf Try.f14.body 4 1) (St.mk [(Prod.mk 0 (PV.ptr 0 0)), (Prod.mk 5 (PV.d (D.i .i64 (IntKind.wrap .i64 ((29453760 : Int) + (pickV [(D.i .i64 (0 : Int)), (D.i .i64 (420 : Int)), (D.i .i64 (470 : Int)), (D.i .i64 (480 : Int))] t p)))))), (Prod.mk 6 (PV.sl 1 1 0)), (Prod.mk 7 (PV.d (D.i .i64 (nextV t (nextK t p (4 : Int)) (IntKind.wrap .i64 (n + (1 : Int)))))))] [(Blk.var [(PV.d (D.l 3 t)), (PV.d (D.i .i64 (nextK t (nextK t p (4 : Int)) (IntKind.wrap .i64 (n + (1 : Int))))))]), (Blk.buf 1 29 [])]) (pFin t (Ps.mk (Int.toNat (nextV t (nextK t p (4 : Int)) (IntKind.wrap .i64 (n + (1 : Int))))) (nextK t (nextK t p (4 : Int)) (IntKind.wrap .i64 (n + (1 : Int)))) (IntKind.wrap .i64 ((29453760 : Int) + (pickV [(D.i .i64 (0 : Int)), (D.i .i64 (420 : Int)), (D.i .i64 (470 : Int)), (D.i .i64 (480 : Int))] t p))) []))) ∧ ((1 = 1) ∧ (([(PV.d (D.l 29 (List.take (List.length (Prod.snd (presLoop t (Int.toNat (nextV t (nextK t p (4 : Int)) (IntKind.wrap .i64 (n + (1 : Int))))) (nextK t (nextK t p (4 : Int)) (IntKind.wrap .i64 (n + (1 : Int)))) (IntKind.wrap .i64 ((29453760 : Int) + (pickV [(D.i .i64 (0 : Int)), (D.i .i64 (420 : Int)), (D.i .i64 (470 : Int)), (D.i .i64 (480 : Int))] t p))) []))) (Prod.snd (presLoop t (Int.toNat (nextV t (nextK t p (4 : Int)) (IntKind.wrap .i64 (n + (1 : Int))))) (nextK t (nextK t p (4 : Int)) (IntKind.wrap .i64 (n + (1 : Int)))) (IntKind.wrap .i64 ((29453760 : Int) + (pickV [(D.i .i64 (0 : Int)), (D.i .i64 (420 : Int)), (D.i .i64 (470 : Int)), (D.i .i64 (480 : Int))] t p))) [])))))] = [(PV.d (D.l 29 (Prod.snd (presV t p n))))]) ∧ ([(Blk.var [(PV.d (D.l 3 t)), (PV.d (D.i .i64 (Prod.fst (presLoop t (Int.toNat (nextV t (nextK t p (4 : Int)) (IntKind.wrap .i64 (n + (1 : Int))))) (nextK t (nextK t p (4 : Int)) (IntKind.wrap .i64 (n + (1 : Int)))) (IntKind.wrap .i64 ((29453760 : Int) + (pickV [(D.i .i64 (0 : Int)), (D.i .i64 (420 : Int)), (D.i .i64 (470 : Int)), (D.i .i64 (480 : Int))] t p))) []))))])] = [(Blk.var [(PV.d (D.l 3 t)), (PV.d (D.i .i64 (Prod.fst (presV t p n))))])])))))))) (by kernel_rfl) ?_ :)
  have q0 : 0 ≤ pickV [D.i .i64 0, D.i .i64 420, D.i .i64 470, D.i .i64 480] t p ∧ pickV [D.i .i64 0, D.i .i64 420, D.i .i64 470, D.i .i64 480] t p ≤ 480 := pickR [0, 420, 470, 480] 0 480 (by decide) (by decide) t p
  have v := nextV_range t (nextK t p 4) (n := n + 1) (by omega)
  have hv : ((nextV t (nextK t p 4) (n + 1)).toNat : Int) = nextV t (nextK t p 4) (n + 1) := Int.toNat_of_nonneg v.1
  rw [wrap64 (x := n + 1) (by omega) (by omega), wrap64 (x := 29453760 + pickV [D.i .i64 0, D.i .i64 420, D.i .i64 470, D.i .i64 480] t p) (by omega) (by omega), List.take_length]
  have hl := p_loop t ⟨(nextV t (nextK t p 4) (n + 1)).toNat, nextK t (nextK t p 4) (n + 1), 29453760 + pickV [D.i .i64 0, D.i .i64 420, D.i .i64 470, D.i .i64 480] t p, []⟩ ⟨(h.next 4).next _, by dsimp only; omega, by dsimp only; omega, by simp only [List.length_nil]; omega⟩
  unfold pMk at hl
  dsimp only at hl
  rw [hv] at hl
  exact ⟨rfl, Pick_ok [D.i .i64 0, D.i .i64 420, D.i .i64 470, D.i .i64 480] t p h (by decide) (by decide), Next_ok t _ _ (h.next 4) (by omega), hl, rfl, rfl, rfl⟩

theorem presV_tape (t : List D) (p n : Int) (h : TapeOK t p) : TapeOK t (presV t p n).1 := pres_pos t _ _ _ _ ((h.next 4).next _)

/-- The list with one property changed. -/
def setTo (x : D) (v : Int) : D := mkP (iv0 x) v (brk x)
def spoilV (t : List D) (p : Int) (l : List D) : Int × List D :=
  if (l.length : Int) = 0 then (p, l ++ [mkP (-1) 5 []]) else
    let i := (nextV t p l.length).toNat
    let x := l.getD i (.b false)
    let k := nextV t (nextK t p l.length) 4
    (nextK t (nextK t p l.length) 4,
      if k = 0 then l.set i (setTo x (iv0 x))
      else if k = 1 then l.set i (mkP (iv0 x) (iv1 x) (brk x ++ [mkIv (iv0 x) (iv1 x + 1)]))
      else if k = 2 then l ++ [mkP (iv0 (l.getD 0 (.b false))) (iv1 (l.getD 0 (.b false))) (brk (l.getD 0 (.b false)))]
      else l.set i (setTo x 120968641))

theorem Spoil_ok (t : List D) (p : Int) (l : List D) (h : TapeOK t p) (hl : (l.length : Int) ≤ 1000) (hb : ∀ x ∈ l, ((brk x).length : Int) ≤ 1000 ∧ iv1 x ≤ 1000000000 ∧ -1000000000 ≤ iv1 x) : ACalls Try.prog tt 15 [.ptr 0 0, .d (.l 29 l)] [tp t p] [.d (.l 29 (spoilV t p l).2)] [tp t (spoilV t p l).1] := by
  refine ACalls.intro (sg := ⟨mdG, spG, fun _ _ => none⟩) [.d] pok Try.func15 rfl rfl rfl ?_
  refine (to_res (B := (((1 = 1) ∧ ((0 = 0) ∧ (((0 + (List.length l)) * 40) ≤ 140737488355328))) ∧ ((2 = 2) ∧ ((((decide ((((0 + (List.length l)) : Nat) : Int) = (0 : Int))) = true) → ((1 = 1) ∧ (((2 = 2) ∧ (((0 + (List.length l)) = (List.length ([] ++ l))) ∧ ((((List.length ([] ++ l)) + 1) * 40) ≤ 140737488355328))) ∧ ((3 = 3) ∧ (([(PV.d (D.l 29 (List.take ((List.length ([] ++ l)) + 1) (([] ++ l) ++ [(D.g [(D.i .i64 ((-1) : Int)), (D.i .i64 (5 : Int)), (D.l 26 [])])]))))] = [(PV.d (D.l 29 (Prod.snd (spoilV t p l))))]) ∧ ([(Blk.var [(PV.d (D.l 3 t)), (PV.d (D.i .i64 p))])] = [(Blk.var [(PV.d (D.l 3 t)), (PV.d (D.i .i64 (Prod.fst (spoilV t p l))))])])))))) ∧ (((decide ((((0 + (List.length l)) : Nat) : Int) = (0 : Int))) = false) → ((2 = 2) ∧ ((ACalls Try.prog tt 27 [(PV.ptr 0 0), (PV.d (D.i .i64 (((0 + (List.length l)) : Nat) : Int)))] [(Blk.var [(PV.d (D.l 3 t)), (PV.d (D.i .i64 p))])] [(PV.d (D.i .i64 (nextV t p (((0 + (List.length l)) : Nat) : Int))))] [(Blk.var [(PV.d (D.l 3 t)), (PV.d (D.i .i64 (nextK t p (((0 + (List.length l)) : Nat) : Int))))])]) ∧ ((2 = 2) ∧ ((((0 : Int) ≤ (nextV t p (((0 + (List.length l)) : Nat) : Int))) ∧ ((nextV t p (((0 + (List.length l)) : Nat) : Int)) < (((0 + (List.length l)) : Nat) : Int))) ∧ ((ACalls Try.prog tt 27 [(PV.ptr 0 0), (PV.d (D.i .i64 (4 : Int)))] [(Blk.var [(PV.d (D.l 3 t)), (PV.d (D.i .i64 (nextK t p (((0 + (List.length l)) : Nat) : Int))))])] [(PV.d (D.i .i64 (nextV t (nextK t p (((0 + (List.length l)) : Nat) : Int)) (4 : Int))))] [(Blk.var [(PV.d (D.l 3 t)), (PV.d (D.i .i64 (nextK t (nextK t p (((0 + (List.length l)) : Nat) : Int)) (4 : Int))))])]) ∧ ((((decide ((nextV t (nextK t p (((0 + (List.length l)) : Nat) : Int)) (4 : Int)) = (0 : Int))) = true) → ((2 = 2) ∧ ((2 = 2) ∧ ((2 = 2) ∧ ((2 = 2) ∧ ((2 = 2) ∧ ((2 = 2) ∧ ((2 = 2) ∧ ((2 = 2) ∧ ((2 = 2) ∧ (([(PV.d (D.l 29 (List.take (0 + (List.length l)) (List.set ([] ++ l) (Int.toNat (nextV t p (((0 + (List.length l)) : Nat) : Int))) (D.g [(D.i .i64 (D.toI (D.leafAt (List.getD ([] ++ l) (Int.toNat (nextV t p (((0 + (List.length l)) : Nat) : Int))) (D.b false)) 0))), (D.i .i64 (D.toI (D.leafAt (List.getD ([] ++ l) (Int.toNat (nextV t p (((0 + (List.length l)) : Nat) : Int))) (D.b false)) 0))), (D.l 26 (D.toL (D.leafAt (List.getD ([] ++ l) (Int.toNat (nextV t p (((0 + (List.length l)) : Nat) : Int))) (D.b false)) 2)))])))))] = [(PV.d (D.l 29 (Prod.snd (spoilV t p l))))]) ∧ ([(Blk.var [(PV.d (D.l 3 t)), (PV.d (D.i .i64 (nextK t (nextK t p (((0 + (List.length l)) : Nat) : Int)) (4 : Int))))])] = [(Blk.var [(PV.d (D.l 3 t)), (PV.d (D.i .i64 (Prod.fst (spoilV t p l))))])])))))))))))) ∧ (((decide ((nextV t (nextK t p (((0 + (List.length l)) : Nat) : Int)) (4 : Int)) = (0 : Int))) = false) → ((((decide ((nextV t (nextK t p (((0 + (List.length l)) : Nat) : Int)) (4 : Int)) = (1 : Int))) = true) → ((2 = 2) ∧ ((2 = 2) ∧ ((2 = 2) ∧ (((1 = 1) ∧ ((0 = 0) ∧ (((0 + (List.length (D.toL (D.leafAt (List.getD ([] ++ l) (Int.toNat (nextV t p (((0 + (List.length l)) : Nat) : Int))) (D.b false)) 2)))) * 16) ≤ 140737488355328))) ∧ ((2 = 2) ∧ ((2 = 2) ∧ ((2 = 2) ∧ ((2 = 2) ∧ ((2 = 2) ∧ ((2 = 2) ∧ ((2 = 2) ∧ ((2 = 2) ∧ ((1 = 1) ∧ (((2 = 2) ∧ (((0 + (List.length (D.toL (D.leafAt (List.getD ([] ++ l) (Int.toNat (nextV t p (((0 + (List.length l)) : Nat) : Int))) (D.b false)) 2)))) = (List.length ([] ++ (D.toL (D.leafAt (List.getD ([] ++ l) (Int.toNat (nextV t p (((0 + (List.length l)) : Nat) : Int))) (D.b false)) 2))))) ∧ ((((List.length ([] ++ (D.toL (D.leafAt (List.getD ([] ++ l) (Int.toNat (nextV t p (((0 + (List.length l)) : Nat) : Int))) (D.b false)) 2)))) + 1) * 16) ≤ 140737488355328))) ∧ ((2 = 2) ∧ ((2 = 2) ∧ ((3 = 3) ∧ ((2 = 2) ∧ ((2 = 2) ∧ (([(PV.d (D.l 29 (List.take (0 + (List.length l)) (List.set ([] ++ l) (Int.toNat (nextV t p (((0 + (List.length l)) : Nat) : Int))) (D.g [(D.i .i64 (D.toI (D.leafAt (List.getD ([] ++ l) (Int.toNat (nextV t p (((0 + (List.length l)) : Nat) : Int))) (D.b false)) 0))), (D.i .i64 (D.toI (D.leafAt (List.getD ([] ++ l) (Int.toNat (nextV t p (((0 + (List.length l)) : Nat) : Int))) (D.b false)) 1))), (D.l 26 (List.take ((List.length ([] ++ (D.toL (D.leafAt (List.getD ([] ++ l) (Int.toNat (nextV t p (((0 + (List.length l)) : Nat) : Int))) (D.b false)) 2)))) + 1) (([] ++ (D.toL (D.leafAt (List.getD ([] ++ l) (Int.toNat (nextV t p (((0 + (List.length l)) : Nat) : Int))) (D.b false)) 2))) ++ [(D.g [(D.i .i64 (D.toI (D.leafAt (List.getD ([] ++ l) (Int.toNat (nextV t p (((0 + (List.length l)) : Nat) : Int))) (D.b false)) 0))), (D.i .i64 (IntKind.wrap .i64 ((D.toI (D.leafAt (List.getD ([] ++ l) (Int.toNat (nextV t p (((0 + (List.length l)) : Nat) : Int))) (D.b false)) 1)) + (1 : Int))))])])))])))))] = [(PV.d (D.l 29 (Prod.snd (spoilV t p l))))]) ∧ ([(Blk.var [(PV.d (D.l 3 t)), (PV.d (D.i .i64 (nextK t (nextK t p (((0 + (List.length l)) : Nat) : Int)) (4 : Int))))])] = [(Blk.var [(PV.d (D.l 3 t)), (PV.d (D.i .i64 (Prod.fst (spoilV t p l))))])])))))))))))))))))))))) ∧ (((decide ((nextV t (nextK t p (((0 + (List.length l)) : Nat) : Int)) (4 : Int)) = (1 : Int))) = false) → ((((decide ((nextV t (nextK t p (((0 + (List.length l)) : Nat) : Int)) (4 : Int)) = (2 : Int))) = true) → ((2 = 2) ∧ ((((0 : Int) ≤ (0 : Int)) ∧ ((0 : Int) < (((0 + (List.length l)) : Nat) : Int))) ∧ ((2 = 2) ∧ ((1 = 1) ∧ (((2 = 2) ∧ (((0 + (List.length l)) = (List.length ([] ++ l))) ∧ ((((List.length ([] ++ l)) + 1) * 40) ≤ 140737488355328))) ∧ ((3 = 3) ∧ (([(PV.d (D.l 29 (List.take ((List.length ([] ++ l)) + 1) (([] ++ l) ++ [(D.g [(D.i .i64 (D.toI (D.leafAt (List.getD ([] ++ l) 0 (D.b false)) 0))), (D.i .i64 (D.toI (D.leafAt (List.getD ([] ++ l) 0 (D.b false)) 1))), (D.l 26 (D.toL (D.leafAt (List.getD ([] ++ l) 0 (D.b false)) 2)))])]))))] = [(PV.d (D.l 29 (Prod.snd (spoilV t p l))))]) ∧ ([(Blk.var [(PV.d (D.l 3 t)), (PV.d (D.i .i64 (nextK t (nextK t p (((0 + (List.length l)) : Nat) : Int)) (4 : Int))))])] = [(Blk.var [(PV.d (D.l 3 t)), (PV.d (D.i .i64 (Prod.fst (spoilV t p l))))])]))))))))) ∧ (((decide ((nextV t (nextK t p (((0 + (List.length l)) : Nat) : Int)) (4 : Int)) = (2 : Int))) = false) → ((2 = 2) ∧ ((2 = 2) ∧ ((2 = 2) ∧ ((2 = 2) ∧ ((2 = 2) ∧ (([(PV.d (D.l 29 (List.take (0 + (List.length l)) (List.set ([] ++ l) (Int.toNat (nextV t p (((0 + (List.length l)) : Nat) : Int))) (D.g [(D.i .i64 (D.toI (D.leafAt (List.getD ([] ++ l) (Int.toNat (nextV t p (((0 + (List.length l)) : Nat) : Int))) (D.b false)) 0))), (D.i .i64 (120968641 : Int)), (D.l 26 (D.toL (D.leafAt (List.getD ([] ++ l) (Int.toNat (nextV t p (((0 + (List.length l)) : Nat) : Int))) (D.b false)) 2)))])))))] = [(PV.d (D.l 29 (Prod.snd (spoilV t p l))))]) ∧ ([(Blk.var [(PV.d (D.l 3 t)), (PV.d (D.i .i64 (nextK t (nextK t p (((0 + (List.length l)) : Nat) : Int)) (4 : Int))))])] = [(Blk.var [(PV.d (D.l 3 t)), (PV.d (D.i .i64 (Prod.fst (spoilV t p l))))])]))))))))))))))))))))))) (by kernel_rfl) ?_ :)
  have v : 0 < l.length → 0 ≤ nextV t p l.length ∧ nextV t p l.length < l.length := fun h0 => nextV_range t p (by omega)
  have e1 : ∀ x : D, List.take (l.length + 1) (l ++ [x]) = l ++ [x] := fun x => List.take_of_length_le (by simp)
  have e2 : ∀ (i : Nat) (x : D), List.take l.length (l.set i x) = l.set i x := fun i x => List.take_of_length_le (by simp)
  have e3 : ∀ (m : List D) (x : D), List.take (m.length + 1) (m ++ [x]) = m ++ [x] := fun m x => List.take_of_length_le (by simp)
  have N := h.next (l.length : Int)
  simp only [List.nil_append, Nat.zero_add, true_and, decide_eq_true_eq, decide_eq_false_iff_not, e1, e2, e3]
  refine ⟨by omega, fun c => ?_, fun c => ?_⟩
  · rw [show spoilV t p l = (p, l ++ [mkP (-1) 5 []]) from if_pos c]
    exact ⟨by omega, rfl, rfl⟩
  · have hp : 0 < l.length := by omega
    have v := v hp
    have hx := hb _ (getD_mem (l := l) (i := (nextV t p l.length).toNat) (by omega))
    have e : spoilV t p l = (nextK t (nextK t p l.length) 4,
      if nextV t (nextK t p l.length) 4 = 0 then l.set (nextV t p l.length).toNat (setTo (l.getD (nextV t p l.length).toNat (.b false)) (iv0 (l.getD (nextV t p l.length).toNat (.b false))))
      else if nextV t (nextK t p l.length) 4 = 1 then l.set (nextV t p l.length).toNat (mkP (iv0 (l.getD (nextV t p l.length).toNat (.b false))) (iv1 (l.getD (nextV t p l.length).toNat (.b false))) (brk (l.getD (nextV t p l.length).toNat (.b false)) ++ [mkIv (iv0 (l.getD (nextV t p l.length).toNat (.b false))) (iv1 (l.getD (nextV t p l.length).toNat (.b false)) + 1)]))
      else if nextV t (nextK t p l.length) 4 = 2 then l ++ [mkP (iv0 (l.getD 0 (.b false))) (iv1 (l.getD 0 (.b false))) (brk (l.getD 0 (.b false)))]
      else l.set (nextV t p l.length).toNat (setTo (l.getD (nextV t p l.length).toNat (.b false)) 120968641)) := if_neg c
    have hx' : (((D.toL (D.leafAt (l.getD (nextV t p l.length).toNat (.b false)) 2)).length : Nat) : Int) ≤ 1000 := hx.1
    have w : IntKind.wrap .i64 (D.toI (D.leafAt (l.getD (nextV t p l.length).toNat (.b false)) 1) + 1) = D.toI (D.leafAt (l.getD (nextV t p l.length).toNat (.b false)) 1) + 1 := wrap64 (by have := hx.2.2; unfold iv1 at this; omega) (by have := hx.2.1; unfold iv1 at this; omega)
    rw [w, e]
    refine ⟨Next_ok t p _ h (by omega), ⟨v.1, by omega⟩, Next_ok t _ 4 N (by decide), fun k0 => ?_, fun k0 => ⟨fun k1 => ?_, fun k1 => ⟨fun k2 => ?_, fun k2 => ?_⟩⟩⟩
    · rw [if_pos k0]; exact ⟨rfl, rfl⟩
    · rw [if_neg k0, if_pos k1]; exact ⟨by omega, by omega, rfl, rfl⟩
    · rw [if_neg k0, if_neg k1, if_pos k2]; exact ⟨⟨Int.NonNeg.mk 0, by omega⟩, by omega, rfl, rfl⟩
    · rw [if_neg k0, if_neg k1, if_neg k2]; exact ⟨rfl, rfl⟩

end Go.Abs.C9
