/- Chapter 9: which presences are valid. -/
import Derived.Test.YtbncjlapmomlkaaXTape
set_option linter.unusedSimpArgs false
set_option linter.unusedVariables false
namespace Go.Abs.C9
open Go.Proofs
set_option maxRecDepth 100000

def iv0 (x : D) : Int := D.toI (D.leafAt x 0)
def iv1 (x : D) : Int := D.toI (D.leafAt x 1)
def ordL : List D → Int → Int → Bool
  | [], _, _ => true
  | x :: r, f, t => if iv0 x < f ∨ iv1 x ≤ iv0 x ∨ t < iv1 x then false else ordL r (iv1 x) t
def ordV (l : List D) (f t : Int) : Bool := ordL l f t && decide ((l.length : Int) ≤ 1024)

def ordMk (l : List D) (to : Int) (s : Nat × Int) : St := ⟨[(0, .d (.l 26 l)), (2, .d (.i .i64 to)), (1, .d (.i .i64 s.2)), (9, .d (.l 26 l)), (10, .d (.i .i64 l.length)), (11, .d (.i .i64 s.1)), (6, .kb false)], []⟩
def ordFin (l : List D) (to : Int) (s : Nat × Int) : Ends := .cond (ordL (l.drop s.1) s.2 to) (.one (.exit 0) ⟨[(0, .d (.l 26 l)), (6, .kb false)], []⟩) (.one .ret ⟨[(0, .d (.l 26 l)), (6, .kb false)], []⟩)
def sgOrd : Sg := ⟨fun _ => [], spT, fun k d => match k, d with
  | 2, 0 => some ⟨[0, 2, 1, 9, 10, 11, 6], [], fun st => match st.sl with
    | [(_, .d (.l _ l)), (_, .d (.i _ to)), (_, .d (.i _ f)), _, _, _, _] => some (ordFin l to (0, f))
    | _ => none⟩
  | _, _ => none⟩

theorem ord_loop (l : List D) (to : Int) (hl : (l.length : Int) ≤ 4611686018427387904) : ∀ s : Nat × Int, s.1 ≤ l.length → LCalls Try.prog tt 38 0 (loopOf Try.f24.body 2 0) (ordMk l to s) (ordFin l to s) := by
  refine LCalls.ind (sg := sgT) pok (ordMk l to) (fun s => l.length - s.1) (fun s => s.1 ≤ l.length) (ordFin l to) [0, 2, 1, 9, 10, 11, 6] [] [0, 6] [] fun s hs => ?_
  refine (to_res (B := ((((decide ((((Prod.fst s) : Nat) : Int) < (((List.length l) : Nat) : Int))) = true) → ((((0 : Int) ≤ (((Prod.fst s) : Nat) : Int)) ∧ ((((Prod.fst s) : Nat) : Int) < (((List.length l) : Nat) : Int))) ∧ ((((decide ((D.toI (D.leafAt (List.getD l (Int.toNat (((Prod.fst s) : Nat) : Int)) (D.b false)) 0)) < (Prod.snd s))) = true) → ((Ends.pick (ordFin l to s)) = (Prod.mk Exit.ret (St.mk [(Prod.mk 0 (PV.d (D.l 26 l))), (Prod.mk 6 (PV.kb false))] [])))) ∧ (((decide ((D.toI (D.leafAt (List.getD l (Int.toNat (((Prod.fst s) : Nat) : Int)) (D.b false)) 0)) < (Prod.snd s))) = false) → ((((decide ((D.toI (D.leafAt (List.getD l (Int.toNat (((Prod.fst s) : Nat) : Int)) (D.b false)) 1)) ≤ (D.toI (D.leafAt (List.getD l (Int.toNat (((Prod.fst s) : Nat) : Int)) (D.b false)) 0)))) = true) → ((Ends.pick (ordFin l to s)) = (Prod.mk Exit.ret (St.mk [(Prod.mk 0 (PV.d (D.l 26 l))), (Prod.mk 6 (PV.kb false))] [])))) ∧ (((decide ((D.toI (D.leafAt (List.getD l (Int.toNat (((Prod.fst s) : Nat) : Int)) (D.b false)) 1)) ≤ (D.toI (D.leafAt (List.getD l (Int.toNat (((Prod.fst s) : Nat) : Int)) (D.b false)) 0)))) = false) → ((((decide (to < (D.toI (D.leafAt (List.getD l (Int.toNat (((Prod.fst s) : Nat) : Int)) (D.b false)) 1)))) = true) → ((Ends.pick (ordFin l to s)) = (Prod.mk Exit.ret (St.mk [(Prod.mk 0 (PV.d (D.l 26 l))), (Prod.mk 6 (PV.kb false))] [])))) ∧ (((decide (to < (D.toI (D.leafAt (List.getD l (Int.toNat (((Prod.fst s) : Nat) : Int)) (D.b false)) 1)))) = false) → (∃ s' : (Prod Nat Int), (((St.mk [(Prod.mk 0 (PV.d (D.l 26 l))), (Prod.mk 2 (PV.d (D.i .i64 to))), (Prod.mk 1 (PV.d (D.i .i64 (D.toI (D.leafAt (List.getD l (Int.toNat (((Prod.fst s) : Nat) : Int)) (D.b false)) 1))))), (Prod.mk 9 (PV.d (D.l 26 l))), (Prod.mk 10 (PV.d (D.i .i64 (((List.length l) : Nat) : Int)))), (Prod.mk 11 (PV.d (D.i .i64 (IntKind.wrap .i64 ((((Prod.fst s) : Nat) : Int) + (1 : Int)))))), (Prod.mk 6 (PV.kb false))] []) = (St.mk [(Prod.mk 0 (PV.d (D.l 26 l))), (Prod.mk 2 (PV.d (D.i .i64 to))), (Prod.mk 1 (PV.d (D.i .i64 (Prod.snd s')))), (Prod.mk 9 (PV.d (D.l 26 l))), (Prod.mk 10 (PV.d (D.i .i64 (((List.length l) : Nat) : Int)))), (Prod.mk 11 (PV.d (D.i .i64 (((Prod.fst s') : Nat) : Int)))), (Prod.mk 6 (PV.kb false))] [])) ∧ (((Prod.fst s') ≤ (List.length l)) ∧ ((((List.length l) - (Prod.fst s')) < ((List.length l) - (Prod.fst s))) ∧ ((Ends.pick (ordFin l to s')) = (Ends.pick (ordFin l to s))))))))))))))) ∧ (((decide ((((Prod.fst s) : Nat) : Int) < (((List.length l) : Nat) : Int))) = false) → ((Ends.pick (ordFin l to s)) = (Prod.mk (Exit.exit 0) (St.mk [(Prod.mk 0 (PV.d (D.l 26 l))), (Prod.mk 6 (PV.kb false))] [])))))) (by kernel_rfl) ?_ :)
  obtain ⟨i, f⟩ := s
  refine ⟨fun c => ?_, fun c => ?_⟩
  · have c := d_true c
    have hi : i < l.length := by omega
    have e := drop_get hi
    have e2 : ordL (l.drop i) f to = if iv0 (l.getD i (.b false)) < f ∨ iv1 (l.getD i (.b false)) ≤ iv0 (l.getD i (.b false)) ∨ to < iv1 (l.getD i (.b false)) then false else ordL (l.drop (i + 1)) (iv1 (l.getD i (.b false))) to := by rw [e]; rfl
    rw [Int.toNat_natCast]
    generalize l.getD i (.b false) = x at *
    refine ⟨⟨by omega, by omega⟩, fun a => ?_, fun a => ⟨fun b => ?_, fun b => ⟨fun d => ?_, fun d => ⟨(i + 1, iv1 x), ?_, hi, ?_, ?_⟩⟩⟩⟩
    · exact pick_false (e2.trans (if_pos (.inl (d_true a))))
    · exact pick_false (e2.trans (if_pos (.inr (.inl (d_true b)))))
    · exact pick_false (e2.trans (if_pos (.inr (.inr (d_true d)))))
    · rw [wrap64 (by omega) (by omega)]; rfl
    · show l.length - (i + 1) + 1 ≤ l.length - i; omega
    · exact pick_congr (e2.trans (if_neg (fun h => h.elim (d_false a) (fun h => h.elim (d_false b) (d_false d))))).symm
  · have c := d_false c
    have : l.drop i = [] := List.drop_eq_nil_of_le (by have : i ≤ l.length := hs; omega)
    exact pick_true (by rw [this]; rfl)

theorem ordered_ok (l : List D) (f to : Int) (hl : (l.length : Int) ≤ 4611686018427387904) : ACalls Try.prog tt 24 [.d (.l 26 l), .d (.i .i64 f), .d (.i .i64 to)] [] [.d (.b (ordV l f to))] [] := by
  refine ACalls.intro (sg := sgOrd) [.d] pok Try.func24 rfl rfl rfl ?_
  refine (to_res (B := ((LCalls Try.prog tt 38 0 (loopOf Try.f24.body 2 0) (St.mk [(Prod.mk 0 (PV.d (D.l 26 l))), (Prod.mk 2 (PV.d (D.i .i64 to))), (Prod.mk 1 (PV.d (D.i .i64 f))), (Prod.mk 9 (PV.d (D.l 26 l))), (Prod.mk 10 (PV.d (D.i .i64 (((List.length l) : Nat) : Int)))), (Prod.mk 11 (PV.d (D.i .i64 (0 : Int)))), (Prod.mk 6 (PV.kb false))] []) (ordFin l to (Prod.mk 0 f))) ∧ ((((ordL (List.drop 0 l) f to) = true) → (([(PV.d (D.b (decide ((((List.length l) : Nat) : Int) ≤ (1024 : Int)))))] = [(PV.d (D.b (ordV l f to)))]) ∧ (@Eq (List Blk) [] []))) ∧ (((ordL (List.drop 0 l) f to) = false) → (([(PV.d (D.b false))] = [(PV.d (D.b (ordV l f to)))]) ∧ (@Eq (List Blk) [] [])))))) (by kernel_rfl) ?_ :)
  refine ⟨ord_loop l to hl (0, f) (by simp), fun h => ⟨?_, rfl⟩, fun h => ⟨?_, rfl⟩⟩
  · have h : ordL l f to = true := h
    rw [ordV, h]; rfl
  · have h : ordL l f to = false := h
    rw [ordV, h]; rfl

def brk (x : D) : List D := D.toL (D.leafAt x 2)
def mkIv (a b : Int) : D := .g [.i .i64 a, .i .i64 b]
def validL : List D → Int → Bool
  | [], _ => true
  | x :: r, e => if ordV [mkIv (iv0 x) (iv1 x)] e 120968640 = true ∧ ordV (brk x) (iv0 x) (iv1 x) = true then validL r (iv1 x) else false
def validV (l : List D) : Int := if (l.length : Int) ≤ 1024 ∧ validL l 0 = true then 0 else 1

def sp9 : FuncId → List PV → List Blk → Option Rets
  | 24, [.d (.l _ l), .d (.i _ f), .d (.i _ to)], [] => some (.one [.d (.b (ordV l f to))] [])
  | 9, [.d (.l _ l)], [] => some (.one [.d (.i .i64 (validV l))] [])
  | f, a, s => spT f a s
def md9 : FuncId → List Md
  | 24 => [.d, .d, .d]
  | 9 => [.d]
  | _ => []

def valMk (l : List D) (s : Nat × Int) : St := ⟨[(0, .d (.l 29 l)), (2, .d (.i .i64 0)), (3, .d (.i .i64 s.2)), (9, .d (.l 29 l)), (10, .d (.i .i64 l.length)), (11, .d (.i .i64 s.1))], []⟩
def valFin (l : List D) (s : Nat × Int) : Ends := .cond (validL (l.drop s.1) s.2) (.one (.exit 0) ⟨[(2, .d (.i .i64 0))], []⟩) (.one .ret ⟨[(2, .d (.i .i64 1))], []⟩)
def sgVal : Sg := ⟨md9, sp9, fun k d => match k, d with
  | 5, 0 => some ⟨[0, 2, 3, 9, 10, 11], [], fun st => match st.sl with
    | [(_, .d (.l _ l)), _, (_, .d (.i _ e)), _, _, _] => some (valFin l (0, e))
    | _ => none⟩
  | _, _ => none⟩

theorem val_loop (l : List D) (hl : (l.length : Int) ≤ 4611686018427387904) (hb : ∀ x ∈ l, ((brk x).length : Int) ≤ 4611686018427387904) : ∀ s : Nat × Int, s.1 ≤ l.length → LCalls Try.prog tt 37 0 (loopOf Try.f9.body 5 0) (valMk l s) (valFin l s) := by
  refine LCalls.ind (sg := ⟨md9, sp9, fun _ _ => none⟩) pok (valMk l) (fun s => l.length - s.1) (fun s => s.1 ≤ l.length) (valFin l) [0, 2, 3, 9, 10, 11] [] [2] [] fun s hs => ?_
  refine (to_res (B := ((((decide ((((Prod.fst s) : Nat) : Int) < (((List.length l) : Nat) : Int))) = true) → ((((0 : Int) ≤ (((Prod.fst s) : Nat) : Int)) ∧ ((((Prod.fst s) : Nat) : Int) < (((List.length l) : Nat) : Int))) ∧ ((1 = 1) ∧ ((ACalls Try.prog tt 24 [(PV.d (D.l 26 [(D.g [(D.i .i64 (D.toI (D.leafAt (List.getD l (Int.toNat (((Prod.fst s) : Nat) : Int)) (D.b false)) 0))), (D.i .i64 (D.toI (D.leafAt (List.getD l (Int.toNat (((Prod.fst s) : Nat) : Int)) (D.b false)) 1)))])])), (PV.d (D.i .i64 (Prod.snd s))), (PV.d (D.i .i64 (120968640 : Int)))] [] [(PV.d (D.b (ordV [(D.g [(D.i .i64 (D.toI (D.leafAt (List.getD l (Int.toNat (((Prod.fst s) : Nat) : Int)) (D.b false)) 0))), (D.i .i64 (D.toI (D.leafAt (List.getD l (Int.toNat (((Prod.fst s) : Nat) : Int)) (D.b false)) 1)))])] (Prod.snd s) (120968640 : Int))))] []) ∧ ((((Bool.not (ordV [(D.g [(D.i .i64 (D.toI (D.leafAt (List.getD l (Int.toNat (((Prod.fst s) : Nat) : Int)) (D.b false)) 0))), (D.i .i64 (D.toI (D.leafAt (List.getD l (Int.toNat (((Prod.fst s) : Nat) : Int)) (D.b false)) 1)))])] (Prod.snd s) (120968640 : Int))) = true) → ((Ends.pick (valFin l s)) = (Prod.mk Exit.ret (St.mk [(Prod.mk 2 (PV.d (D.i .i64 (1 : Int))))] [])))) ∧ (((Bool.not (ordV [(D.g [(D.i .i64 (D.toI (D.leafAt (List.getD l (Int.toNat (((Prod.fst s) : Nat) : Int)) (D.b false)) 0))), (D.i .i64 (D.toI (D.leafAt (List.getD l (Int.toNat (((Prod.fst s) : Nat) : Int)) (D.b false)) 1)))])] (Prod.snd s) (120968640 : Int))) = false) → ((ACalls Try.prog tt 24 [(PV.d (D.l 26 (D.toL (D.leafAt (List.getD l (Int.toNat (((Prod.fst s) : Nat) : Int)) (D.b false)) 2)))), (PV.d (D.i .i64 (D.toI (D.leafAt (List.getD l (Int.toNat (((Prod.fst s) : Nat) : Int)) (D.b false)) 0)))), (PV.d (D.i .i64 (D.toI (D.leafAt (List.getD l (Int.toNat (((Prod.fst s) : Nat) : Int)) (D.b false)) 1))))] [] [(PV.d (D.b (ordV (D.toL (D.leafAt (List.getD l (Int.toNat (((Prod.fst s) : Nat) : Int)) (D.b false)) 2)) (D.toI (D.leafAt (List.getD l (Int.toNat (((Prod.fst s) : Nat) : Int)) (D.b false)) 0)) (D.toI (D.leafAt (List.getD l (Int.toNat (((Prod.fst s) : Nat) : Int)) (D.b false)) 1)))))] []) ∧ ((((Bool.not (ordV (D.toL (D.leafAt (List.getD l (Int.toNat (((Prod.fst s) : Nat) : Int)) (D.b false)) 2)) (D.toI (D.leafAt (List.getD l (Int.toNat (((Prod.fst s) : Nat) : Int)) (D.b false)) 0)) (D.toI (D.leafAt (List.getD l (Int.toNat (((Prod.fst s) : Nat) : Int)) (D.b false)) 1)))) = true) → ((Ends.pick (valFin l s)) = (Prod.mk Exit.ret (St.mk [(Prod.mk 2 (PV.d (D.i .i64 (1 : Int))))] [])))) ∧ (((Bool.not (ordV (D.toL (D.leafAt (List.getD l (Int.toNat (((Prod.fst s) : Nat) : Int)) (D.b false)) 2)) (D.toI (D.leafAt (List.getD l (Int.toNat (((Prod.fst s) : Nat) : Int)) (D.b false)) 0)) (D.toI (D.leafAt (List.getD l (Int.toNat (((Prod.fst s) : Nat) : Int)) (D.b false)) 1)))) = false) → (∃ s' : (Prod Nat Int), (((St.mk [(Prod.mk 0 (PV.d (D.l 29 l))), (Prod.mk 2 (PV.d (D.i .i64 (0 : Int)))), (Prod.mk 3 (PV.d (D.i .i64 (D.toI (D.leafAt (List.getD l (Int.toNat (((Prod.fst s) : Nat) : Int)) (D.b false)) 1))))), (Prod.mk 9 (PV.d (D.l 29 l))), (Prod.mk 10 (PV.d (D.i .i64 (((List.length l) : Nat) : Int)))), (Prod.mk 11 (PV.d (D.i .i64 (IntKind.wrap .i64 ((((Prod.fst s) : Nat) : Int) + (1 : Int))))))] []) = (St.mk [(Prod.mk 0 (PV.d (D.l 29 l))), (Prod.mk 2 (PV.d (D.i .i64 (0 : Int)))), (Prod.mk 3 (PV.d (D.i .i64 (Prod.snd s')))), (Prod.mk 9 (PV.d (D.l 29 l))), (Prod.mk 10 (PV.d (D.i .i64 (((List.length l) : Nat) : Int)))), (Prod.mk 11 (PV.d (D.i .i64 (((Prod.fst s') : Nat) : Int))))] [])) ∧ (((Prod.fst s') ≤ (List.length l)) ∧ ((((List.length l) - (Prod.fst s')) < ((List.length l) - (Prod.fst s))) ∧ ((Ends.pick (valFin l s')) = (Ends.pick (valFin l s)))))))))))))))) ∧ (((decide ((((Prod.fst s) : Nat) : Int) < (((List.length l) : Nat) : Int))) = false) → ((Ends.pick (valFin l s)) = (Prod.mk (Exit.exit 0) (St.mk [(Prod.mk 2 (PV.d (D.i .i64 (0 : Int))))] [])))))) (by kernel_rfl) ?_ :)
  obtain ⟨i, e0⟩ := s
  refine ⟨fun c => ?_, fun c => ?_⟩
  · have c := d_true c
    have hi : i < l.length := by omega
    have e := drop_get hi
    have hx := getD_mem hi
    have e2 : validL (l.drop i) e0 = if ordV [mkIv (iv0 (l.getD i (.b false))) (iv1 (l.getD i (.b false)))] e0 120968640 = true ∧ ordV (brk (l.getD i (.b false))) (iv0 (l.getD i (.b false))) (iv1 (l.getD i (.b false))) = true then validL (l.drop (i + 1)) (iv1 (l.getD i (.b false))) else false := by rw [e]; rfl
    rw [Int.toNat_natCast]
    generalize l.getD i (.b false) = x at *
    refine ⟨⟨by omega, by omega⟩, rfl, ordered_ok _ _ _ (by simp), fun a => ?_, fun a => ⟨ordered_ok _ _ _ (hb x hx), fun b => ?_, fun b => ⟨(i + 1, iv1 x), ?_, hi, ?_, ?_⟩⟩⟩
    · exact pick_false (e2.trans (if_neg (fun h => absurd h.1 (by have := n_true a; exact fun k => by rw [show ordV [mkIv (iv0 x) (iv1 x)] e0 120968640 = false from this] at k; cases k))))
    · exact pick_false (e2.trans (if_neg (fun h => absurd h.2 (by have := n_true b; exact fun k => by rw [show ordV (brk x) (iv0 x) (iv1 x) = false from this] at k; cases k))))
    · rw [wrap64 (by omega) (by omega)]; rfl
    · show l.length - (i + 1) + 1 ≤ l.length - i; omega
    · exact pick_congr (e2.trans (if_pos ⟨n_false a, n_false b⟩)).symm
  · have c := d_false c
    have : l.drop i = [] := List.drop_eq_nil_of_le (by have : i ≤ l.length := hs; omega)
    exact pick_true (by rw [this]; rfl)

def BrkOK (x : D) : Prop := ((brk x).length : Int) ≤ 4611686018427387904

theorem Valid_ok (l : List D) (hl : (l.length : Int) ≤ 4611686018427387904) (hb : ∀ x ∈ l, BrkOK x) : ACalls Try.prog tt 9 [.d (.l 29 l)] [] [.d (.i .i64 (validV l))] [] := by
  refine ACalls.intro (sg := sgVal) [.d] pok Try.func9 rfl rfl rfl ?_
  refine (to_res (B := ((((decide ((1024 : Int) < (((List.length l) : Nat) : Int))) = true) → (([(PV.d (D.i .i64 (1 : Int)))] = [(PV.d (D.i .i64 (validV l)))]) ∧ (@Eq (List Blk) [] []))) ∧ (((decide ((1024 : Int) < (((List.length l) : Nat) : Int))) = false) → ((LCalls Try.prog tt 37 0 (loopOf Try.f9.body 5 0) (St.mk [(Prod.mk 0 (PV.d (D.l 29 l))), (Prod.mk 2 (PV.d (D.i .i64 (0 : Int)))), (Prod.mk 3 (PV.d (D.i .i64 (0 : Int)))), (Prod.mk 9 (PV.d (D.l 29 l))), (Prod.mk 10 (PV.d (D.i .i64 (((List.length l) : Nat) : Int)))), (Prod.mk 11 (PV.d (D.i .i64 (0 : Int))))] []) (valFin l (Prod.mk 0 (0 : Int)))) ∧ ((((validL (List.drop 0 l) (0 : Int)) = true) → (([(PV.d (D.i .i64 (0 : Int)))] = [(PV.d (D.i .i64 (validV l)))]) ∧ (@Eq (List Blk) [] []))) ∧ (((validL (List.drop 0 l) (0 : Int)) = false) → (([(PV.d (D.i .i64 (1 : Int)))] = [(PV.d (D.i .i64 (validV l)))]) ∧ (@Eq (List Blk) [] [])))))))) (by kernel_rfl) ?_ :)
  refine ⟨fun a => ⟨?_, rfl⟩, fun a => ⟨val_loop l hl hb (0, 0) (by simp), fun b => ⟨?_, rfl⟩, fun b => ⟨?_, rfl⟩⟩⟩
  · have a := d_true a
    rw [show validV l = 1 from if_neg (by omega)]
  · have a := d_false a
    rw [show validV l = 0 from if_pos ⟨by omega, b⟩]
  · have b : validL l 0 = false := b
    rw [show validV l = 1 from if_neg (by rw [b]; simp)]

def minL : List D → Int → Int
  | [], n => n
  | x :: r, n => minL r (n - (iv1 x - iv0 x))
def mkP (a b : Int) (br : List D) : D := .g [.i .i64 a, .i .i64 b, .l 26 br]
def minV (a b : Int) (br : List D) : Int := if validV [mkP a b br] = 0 then minL br (b - a) else 0

def minMk (l : List D) (s : Nat × Int × Int) : St := ⟨[(3, .d (.i .i64 s.2.1)), (18, .d (.l 26 l)), (19, .d (.i .i64 l.length)), (20, .d (.i .i64 s.1))], []⟩
def minFin (l : List D) (s : Nat × Int × Int) : Ends := .one (.exit 0) ⟨[(3, .d (.i .i64 (minL (l.drop s.1) s.2.1)))], []⟩
def sgMin : Sg := ⟨md9, sp9, fun k d => match k, d with
  | 5, 0 => some ⟨[3, 18, 19, 20], [], fun st => match st.sl with
    | [(_, .d (.i _ n)), (_, .d (.l _ l)), _, _] => some (minFin l (0, n, 0))
    | _ => none⟩
  | _, _ => none⟩

theorem min_loop (l : List D) (to : Int) (hl : (l.length : Int) ≤ 4611686018427387904) : ∀ s : Nat × Int × Int, (s.1 ≤ l.length ∧ ordL (l.drop s.1) s.2.2 to = true ∧ 0 ≤ s.2.2 ∧ to - s.2.2 ≤ s.2.1 ∧ s.2.1 ≤ 120968640 ∧ s.2.2 ≤ to) → LCalls Try.prog tt 33 0 (loopOf Try.f10.body 5 0) (minMk l s) (minFin l s) := by
  refine LCalls.ind (sg := ⟨md9, sp9, fun _ _ => none⟩) pok (minMk l) (fun s => l.length - s.1) (fun s => s.1 ≤ l.length ∧ ordL (l.drop s.1) s.2.2 to = true ∧ 0 ≤ s.2.2 ∧ to - s.2.2 ≤ s.2.1 ∧ s.2.1 ≤ 120968640 ∧ s.2.2 ≤ to) (minFin l) [3, 18, 19, 20] [] [3] [] fun s hs => ?_
  refine (to_res (B := ((((decide ((((Prod.fst s) : Nat) : Int) < (((List.length l) : Nat) : Int))) = true) → ((((0 : Int) ≤ (((Prod.fst s) : Nat) : Int)) ∧ ((((Prod.fst s) : Nat) : Int) < (((List.length l) : Nat) : Int))) ∧ (∃ s' : (Prod Nat (Prod Int Int)), (((St.mk [(Prod.mk 3 (PV.d (D.i .i64 (IntKind.wrap .i64 ((Prod.fst (Prod.snd s)) - (IntKind.wrap .i64 ((D.toI (D.leafAt (List.getD l (Int.toNat (((Prod.fst s) : Nat) : Int)) (D.b false)) 1)) - (D.toI (D.leafAt (List.getD l (Int.toNat (((Prod.fst s) : Nat) : Int)) (D.b false)) 0))))))))), (Prod.mk 18 (PV.d (D.l 26 l))), (Prod.mk 19 (PV.d (D.i .i64 (((List.length l) : Nat) : Int)))), (Prod.mk 20 (PV.d (D.i .i64 (IntKind.wrap .i64 ((((Prod.fst s) : Nat) : Int) + (1 : Int))))))] []) = (St.mk [(Prod.mk 3 (PV.d (D.i .i64 (Prod.fst (Prod.snd s'))))), (Prod.mk 18 (PV.d (D.l 26 l))), (Prod.mk 19 (PV.d (D.i .i64 (((List.length l) : Nat) : Int)))), (Prod.mk 20 (PV.d (D.i .i64 (((Prod.fst s') : Nat) : Int))))] [])) ∧ ((((Prod.fst s') ≤ (List.length l)) ∧ (((ordL (List.drop (Prod.fst s') l) (Prod.snd (Prod.snd s')) to) = true) ∧ (((0 : Int) ≤ (Prod.snd (Prod.snd s'))) ∧ (((to - (Prod.snd (Prod.snd s'))) ≤ (Prod.fst (Prod.snd s'))) ∧ (((Prod.fst (Prod.snd s')) ≤ (120968640 : Int)) ∧ ((Prod.snd (Prod.snd s')) ≤ to)))))) ∧ ((((List.length l) - (Prod.fst s')) < ((List.length l) - (Prod.fst s))) ∧ ((Prod.mk (Exit.exit 0) (St.mk [(Prod.mk 3 (PV.d (D.i .i64 (minL (List.drop (Prod.fst s') l) (Prod.fst (Prod.snd s'))))))] [])) = (Prod.mk (Exit.exit 0) (St.mk [(Prod.mk 3 (PV.d (D.i .i64 (minL (List.drop (Prod.fst s) l) (Prod.fst (Prod.snd s))))))] []))))))))) ∧ (((decide ((((Prod.fst s) : Nat) : Int) < (((List.length l) : Nat) : Int))) = false) → ((Prod.mk (Exit.exit 0) (St.mk [(Prod.mk 3 (PV.d (D.i .i64 (minL (List.drop (Prod.fst s) l) (Prod.fst (Prod.snd s))))))] [])) = (Prod.mk (Exit.exit 0) (St.mk [(Prod.mk 3 (PV.d (D.i .i64 (Prod.fst (Prod.snd s)))))] [])))))) (by kernel_rfl) ?_ :)
  obtain ⟨i, n, f⟩ := s
  obtain ⟨k1, k2, k3, k4, k5, k6⟩ := hs
  refine ⟨fun c => ?_, fun c => ?_⟩
  · have c := d_true c
    have hi : i < l.length := by omega
    have e := drop_get hi
    have e2 : minL (l.drop i) n = minL (l.drop (i + 1)) (n - (iv1 (l.getD i (.b false)) - iv0 (l.getD i (.b false)))) := by rw [e]; rfl
    have e3 : (if iv0 (l.getD i (.b false)) < f ∨ iv1 (l.getD i (.b false)) ≤ iv0 (l.getD i (.b false)) ∨ to < iv1 (l.getD i (.b false)) then false else ordL (l.drop (i + 1)) (iv1 (l.getD i (.b false))) to) = true := by rw [e] at k2; exact k2
    rw [Int.toNat_natCast]
    generalize l.getD i (.b false) = x at *
    simp only at k3 k4 k5
    have e4 : ¬ (iv0 x < f ∨ iv1 x ≤ iv0 x ∨ to < iv1 x) := fun h => by rw [if_pos h] at e3; cases e3
    rw [if_neg e4] at e3
    refine ⟨⟨by omega, by omega⟩, (i + 1, n - (iv1 x - iv0 x), iv1 x), ?_, ⟨hi, e3, by dsimp only; omega, by dsimp only; omega, by dsimp only; omega, by dsimp only; omega⟩, ?_, ?_⟩
    · show (⟨[(3, .d (.i .i64 (IntKind.wrap .i64 (n - IntKind.wrap .i64 (iv1 x - iv0 x))))), _, _, _], _⟩ : St) = _
      rw [wrap64 (x := iv1 x - iv0 x) (by omega) (by omega), wrap64 (by omega) (by omega), wrap64 (by omega) (by omega)]; rfl
    · show l.length - (i + 1) + 1 ≤ l.length - i; omega
    · show (minFin l (i + 1, n - (iv1 x - iv0 x), iv1 x)).pick = (minFin l (i, n, f)).pick
      simp only [minFin, e2]
  · have c := d_false c
    have : l.drop i = [] := List.drop_eq_nil_of_le (by omega)
    show Ends.pick (.one _ ⟨[(3, .d (.i .i64 (minL (l.drop i) n)))], []⟩) = _
    rw [this]; rfl

theorem valid_one {a b : Int} {br : List D} (h : validV [mkP a b br] = 0) : 0 ≤ a ∧ a < b ∧ b ≤ 120968640 ∧ ordL br a b = true := by
  have h : validL [mkP a b br] 0 = true := by
    by_cases c : (([mkP a b br] : List D).length : Int) ≤ 1024 ∧ validL [mkP a b br] 0 = true
    · exact c.2
    · rw [show validV [mkP a b br] = 1 from if_neg c] at h; cases h
  have h' : (if ordV [mkIv a b] 0 120968640 = true ∧ ordV br a b = true then true else false) = true := h
  by_cases c : ordV [mkIv a b] 0 120968640 = true ∧ ordV br a b = true
  case neg => rw [if_neg c] at h'; cases h'
  obtain ⟨c1, c2⟩ := c
  simp only [ordV, Bool.and_eq_true] at c1 c2
  have c3 : (if a < 0 ∨ b ≤ a ∨ (120968640 : Int) < b then false else true) = true := c1.1
  by_cases c4 : a < 0 ∨ b ≤ a ∨ (120968640 : Int) < b
  · rw [if_pos c4] at c3; cases c3
  · exact ⟨by omega, by omega, by omega, c2.1⟩

theorem Minutes_ok (a b : Int) (br : List D) (hb : (br.length : Int) ≤ 4611686018427387904) : ACalls Try.prog tt 10 [.st [.d (.i .i64 a), .d (.i .i64 b), .d (.l 26 br)]] [] [.d (.i .i64 (minV a b br))] [] := by
  refine ACalls.intro (sg := sgMin) [.d] pok Try.func10 rfl rfl rfl ?_
  refine (to_res (B := ((1 = 1) ∧ ((ACalls Try.prog tt 9 [(PV.d (D.l 29 [(D.g [(D.i .i64 a), (D.i .i64 b), (D.l 26 br)])]))] [] [(PV.d (D.i .i64 (validV [(D.g [(D.i .i64 a), (D.i .i64 b), (D.l 26 br)])])))] []) ∧ ((((decide ((validV [(D.g [(D.i .i64 a), (D.i .i64 b), (D.l 26 br)])]) ≠ (0 : Int))) = true) → (([(PV.d (D.i .i64 (0 : Int)))] = [(PV.d (D.i .i64 (minV a b br)))]) ∧ (@Eq (List Blk) [] []))) ∧ (((decide ((validV [(D.g [(D.i .i64 a), (D.i .i64 b), (D.l 26 br)])]) ≠ (0 : Int))) = false) → ((LCalls Try.prog tt 33 0 (loopOf Try.f10.body 5 0) (St.mk [(Prod.mk 3 (PV.d (D.i .i64 (IntKind.wrap .i64 (b - a))))), (Prod.mk 18 (PV.d (D.l 26 br))), (Prod.mk 19 (PV.d (D.i .i64 (((List.length br) : Nat) : Int)))), (Prod.mk 20 (PV.d (D.i .i64 (0 : Int))))] []) (minFin br (Prod.mk 0 (Prod.mk (IntKind.wrap .i64 (b - a)) (0 : Int))))) ∧ (([(PV.d (D.i .i64 (minL (List.drop 0 br) (IntKind.wrap .i64 (b - a)))))] = [(PV.d (D.i .i64 (minV a b br)))]) ∧ (@Eq (List Blk) [] [])))))))) (by kernel_rfl) ?_ :)
  refine ⟨rfl, Valid_ok _ (by simp) (fun x hx => by simp only [List.mem_singleton] at hx; subst hx; exact hb), fun h => ?_, fun h => ?_⟩
  · have h := d_true h
    exact ⟨by rw [show minV a b br = 0 from if_neg h], rfl⟩
  · have h : validV [mkP a b br] = 0 := by have := d_false h; exact Decidable.byContradiction this
    obtain ⟨h1, h2, h3, h4⟩ := valid_one h
    rw [wrap64 (by omega) (by omega)]
    exact ⟨min_loop br b hb (0, b - a, a) ⟨by simp, h4, h1, by dsimp only; omega, by dsimp only; omega, by dsimp only; omega⟩, by rw [show minV a b br = minL br (b - a) from if_pos h]; rfl, rfl⟩

end Go.Abs.C9
