/- Chapter 9: the reference. -/
import Derived.Test.YtbncjlapmomlkaaXPres
set_option linter.unusedSimpArgs false
set_option linter.unusedVariables false
namespace Go.Abs.C9
open Go.Proofs
set_option maxRecDepth 100000

def isIv (a b : Int) : Bool := decide (0 ≤ a ∧ a < b ∧ b ≤ 120968640)

theorem IsInterval_ok (a b : Int) : ACalls Try.prog tt 35 [.st [.d (.i .i64 a), .d (.i .i64 b)]] [] [.d (.b (isIv a b))] [] := by
  refine ACalls.intro (sg := ⟨md9, sp9, fun _ _ => none⟩) [.d] pok Try.func35 rfl rfl rfl ?_
  refine (to_res (B := ((((decide ((0 : Int) ≤ a)) = true) → ((((decide (a < b)) = true) → (([(PV.d (D.b (decide (b ≤ (120968640 : Int)))))] = [(PV.d (D.b (isIv a b)))]) ∧ (@Eq (List Blk) [] []))) ∧ (((decide (a < b)) = false) → (([(PV.d (D.b false))] = [(PV.d (D.b (isIv a b)))]) ∧ (@Eq (List Blk) [] []))))) ∧ (((decide ((0 : Int) ≤ a)) = false) → (([(PV.d (D.b false))] = [(PV.d (D.b (isIv a b)))]) ∧ (@Eq (List Blk) [] []))))) (by kernel_rfl) ?_ :)
  refine ⟨fun a' => ⟨fun b' => ⟨?_, rfl⟩, fun b' => ⟨?_, rfl⟩⟩, fun a' => ⟨?_, rfl⟩⟩
  · have h1 := d_true a'; have h2 := d_true b'
    rw [show isIv a b = decide (b ≤ 120968640) from decide_eq_decide.2 (by omega)]
  · have h1 := d_true a'; have h2 := d_false b'
    rw [show isIv a b = false from decide_eq_false (by omega)]
  · have h1 := d_false a'
    rw [show isIv a b = false from decide_eq_false (by omega)]

def oneL : List D → Int → Int → Bool
  | [], _, _ => true
  | x :: r, at', to => if isIv (iv0 x) (iv1 x) = true ∧ ¬ iv0 x < at' ∧ ¬ to < iv1 x then oneL r (iv1 x) to else false
def oneV (a b : Int) (br : List D) : Bool := decide (isIv a b = true ∧ (br.length : Int) ≤ 1024 ∧ oneL br a b = true)
def rvL : List D → Int → Bool
  | [], _ => true
  | x :: r, e => if oneV (iv0 x) (iv1 x) (brk x) = true ∧ ¬ iv0 x < e then rvL r (iv1 x) else false
def rvV (l : List D) : Int := if (l.length : Int) ≤ 1024 ∧ rvL l 0 = true then 0 else 1
def rminV (a b : Int) (br : List D) : Int := if oneV a b br = true then minL br (b - a) else 0

def spR : FuncId → List PV → List Blk → Option Rets
  | 35, [.st [.d (.i _ a), .d (.i _ b)]], [] => some (.one [.d (.b (isIv a b))] [])
  | 28, [.st [.d (.i _ a), .d (.i _ b), .d (.l _ br)]], [] => some (.one [.d (.b (oneV a b br))] [])
  | 16, [.d (.l _ l)], [] => some (.one [.d (.i .i64 (rvV l))] [])
  | 17, [.st [.d (.i _ a), .d (.i _ b), .d (.l _ br)]], [] => some (.one [.d (.i .i64 (rminV a b br))] [])
  | 10, [.st [.d (.i _ a), .d (.i _ b), .d (.l _ br)]], [] => some (.one [.d (.i .i64 (minV a b br))] [])
  | f, a, s => sp9 f a s

def oneMk (a b : Int) (br : List D) (s : Nat × Int) : St := ⟨[(1, .ptr 0 0), (3, .d (.i .i64 s.2)), (4, .d (.i .i64 s.1)), (2, .kb false)], [.var [.d (.i .i64 a), .d (.i .i64 b), .d (.l 26 br)]]⟩
def oneFin (b : Int) (br : List D) (s : Nat × Int) : Ends := .cond (oneL (br.drop s.1) s.2 b) (.one (.exit 0) ⟨[(2, .kb false)], []⟩) (.one .ret ⟨[(2, .kb false)], []⟩)
def sgOne : Sg := ⟨md9, spR, fun k d => match k, d with
  | 5, 0 => some ⟨[1, 3, 4, 2], [], fun st => match st with
    | ⟨[_, (_, .d (.i _ a)), _, _], [.var [_, .d (.i _ b), .d (.l _ br)]]⟩ => some (oneFin b br (0, a))
    | _ => none⟩
  | _, _ => none⟩

theorem one_loop (a b : Int) (br : List D) (hl : (br.length : Int) ≤ 1024) : ∀ s : Nat × Int, s.1 ≤ br.length → LCalls Try.prog tt 50 0 (loopOf Try.f28.body 5 0) (oneMk a b br s) (oneFin b br s) := by
  refine LCalls.ind (sg := ⟨md9, spR, fun _ _ => none⟩) pok (oneMk a b br) (fun s => br.length - s.1) (fun s => s.1 ≤ br.length) (oneFin b br) [1, 3, 4, 2] [] [2] [] fun s hs => ?_
  refine (to_res (B := ((((decide ((((Prod.fst s) : Nat) : Int) < (((List.length br) : Nat) : Int))) = true) → ((((0 : Int) ≤ (((Prod.fst s) : Nat) : Int)) ∧ ((((Prod.fst s) : Nat) : Int) < (((List.length br) : Nat) : Int))) ∧ ((ACalls Try.prog tt 35 [(PV.st [(PV.d (D.i .i64 (D.toI (D.leafAt (List.getD br (Int.toNat (((Prod.fst s) : Nat) : Int)) (D.b false)) 0)))), (PV.d (D.i .i64 (D.toI (D.leafAt (List.getD br (Int.toNat (((Prod.fst s) : Nat) : Int)) (D.b false)) 1))))])] [] [(PV.d (D.b (isIv (D.toI (D.leafAt (List.getD br (Int.toNat (((Prod.fst s) : Nat) : Int)) (D.b false)) 0)) (D.toI (D.leafAt (List.getD br (Int.toNat (((Prod.fst s) : Nat) : Int)) (D.b false)) 1)))))] []) ∧ ((((Bool.not (isIv (D.toI (D.leafAt (List.getD br (Int.toNat (((Prod.fst s) : Nat) : Int)) (D.b false)) 0)) (D.toI (D.leafAt (List.getD br (Int.toNat (((Prod.fst s) : Nat) : Int)) (D.b false)) 1)))) = true) → ((Ends.pick (oneFin b br s)) = (Prod.mk Exit.ret (St.mk [(Prod.mk 2 (PV.kb false))] [])))) ∧ (((Bool.not (isIv (D.toI (D.leafAt (List.getD br (Int.toNat (((Prod.fst s) : Nat) : Int)) (D.b false)) 0)) (D.toI (D.leafAt (List.getD br (Int.toNat (((Prod.fst s) : Nat) : Int)) (D.b false)) 1)))) = false) → ((((decide ((D.toI (D.leafAt (List.getD br (Int.toNat (((Prod.fst s) : Nat) : Int)) (D.b false)) 0)) < (Prod.snd s))) = true) → ((Ends.pick (oneFin b br s)) = (Prod.mk Exit.ret (St.mk [(Prod.mk 2 (PV.kb false))] [])))) ∧ (((decide ((D.toI (D.leafAt (List.getD br (Int.toNat (((Prod.fst s) : Nat) : Int)) (D.b false)) 0)) < (Prod.snd s))) = false) → ((((decide (b < (D.toI (D.leafAt (List.getD br (Int.toNat (((Prod.fst s) : Nat) : Int)) (D.b false)) 1)))) = true) → ((Ends.pick (oneFin b br s)) = (Prod.mk Exit.ret (St.mk [(Prod.mk 2 (PV.kb false))] [])))) ∧ (((decide (b < (D.toI (D.leafAt (List.getD br (Int.toNat (((Prod.fst s) : Nat) : Int)) (D.b false)) 1)))) = false) → (∃ s' : (Prod Nat Int), (((St.mk [(Prod.mk 1 (PV.ptr 0 0)), (Prod.mk 3 (PV.d (D.i .i64 (D.toI (D.leafAt (List.getD br (Int.toNat (((Prod.fst s) : Nat) : Int)) (D.b false)) 1))))), (Prod.mk 4 (PV.d (D.i .i64 (IntKind.wrap .i64 ((((Prod.fst s) : Nat) : Int) + (1 : Int)))))), (Prod.mk 2 (PV.kb false))] [(Blk.var [(PV.d (D.i .i64 a)), (PV.d (D.i .i64 b)), (PV.d (D.l 26 br))])]) = (St.mk [(Prod.mk 1 (PV.ptr 0 0)), (Prod.mk 3 (PV.d (D.i .i64 (Prod.snd s')))), (Prod.mk 4 (PV.d (D.i .i64 (((Prod.fst s') : Nat) : Int)))), (Prod.mk 2 (PV.kb false))] [(Blk.var [(PV.d (D.i .i64 a)), (PV.d (D.i .i64 b)), (PV.d (D.l 26 br))])])) ∧ (((Prod.fst s') ≤ (List.length br)) ∧ ((((List.length br) - (Prod.fst s')) < ((List.length br) - (Prod.fst s))) ∧ ((Ends.pick (oneFin b br s')) = (Ends.pick (oneFin b br s)))))))))))))))) ∧ (((decide ((((Prod.fst s) : Nat) : Int) < (((List.length br) : Nat) : Int))) = false) → ((Ends.pick (oneFin b br s)) = (Prod.mk (Exit.exit 0) (St.mk [(Prod.mk 2 (PV.kb false))] [])))))) (by kernel_rfl) ?_ :)
  obtain ⟨i, f⟩ := s
  refine ⟨fun c => ?_, fun c => ?_⟩
  · have c := d_true c
    have hi : i < br.length := by omega
    have e := drop_get hi
    have e2 : oneL (br.drop i) f b = if isIv (iv0 (br.getD i (.b false))) (iv1 (br.getD i (.b false))) = true ∧ ¬ iv0 (br.getD i (.b false)) < f ∧ ¬ b < iv1 (br.getD i (.b false)) then oneL (br.drop (i + 1)) (iv1 (br.getD i (.b false))) b else false := by rw [e]; rfl
    rw [Int.toNat_natCast]
    generalize br.getD i (.b false) = x at *
    refine ⟨⟨by omega, by omega⟩, IsInterval_ok _ _, fun a1 => ?_, fun a1 => ⟨fun a2 => ?_, fun a2 => ⟨fun a3 => ?_, fun a3 => ⟨(i + 1, iv1 x), ?_, hi, ?_, ?_⟩⟩⟩⟩
    · exact pick_false (e2.trans (if_neg (fun h => not_both h.1 (n_true a1))))
    · exact pick_false (e2.trans (if_neg (fun h => h.2.1 (d_true a2))))
    · exact pick_false (e2.trans (if_neg (fun h => h.2.2 (d_true a3))))
    · rw [wrap64 (by omega) (by omega)]; rfl
    · show br.length - (i + 1) + 1 ≤ br.length - i; omega
    · exact pick_congr (e2.trans (if_pos ⟨n_false a1, d_false a2, d_false a3⟩)).symm
  · have c := d_false c
    have : br.drop i = [] := List.drop_eq_nil_of_le (by have : i ≤ br.length := hs; omega)
    exact pick_true (by rw [this]; rfl)

theorem one_ok (a b : Int) (br : List D) : ACalls Try.prog tt 28 [.st [.d (.i .i64 a), .d (.i .i64 b), .d (.l 26 br)]] [] [.d (.b (oneV a b br))] [] := by
  refine ACalls.intro (sg := sgOne) [.d] pok Try.func28 rfl rfl rfl ?_
  refine (to_res (B := ((ACalls Try.prog tt 35 [(PV.st [(PV.d (D.i .i64 a)), (PV.d (D.i .i64 b))])] [] [(PV.d (D.b (isIv a b)))] []) ∧ ((((Bool.not (isIv a b)) = true) → (([(PV.d (D.b false))] = [(PV.d (D.b (oneV a b br)))]) ∧ (@Eq (List Blk) [] []))) ∧ (((Bool.not (isIv a b)) = false) → ((((decide ((1024 : Int) < (((List.length br) : Nat) : Int))) = true) → (([(PV.d (D.b false))] = [(PV.d (D.b (oneV a b br)))]) ∧ (@Eq (List Blk) [] []))) ∧ (((decide ((1024 : Int) < (((List.length br) : Nat) : Int))) = false) → ((LCalls Try.prog tt 50 0 (loopOf Try.f28.body 5 0) (St.mk [(Prod.mk 1 (PV.ptr 0 0)), (Prod.mk 3 (PV.d (D.i .i64 a))), (Prod.mk 4 (PV.d (D.i .i64 (0 : Int)))), (Prod.mk 2 (PV.kb false))] [(Blk.var [(PV.d (D.i .i64 a)), (PV.d (D.i .i64 b)), (PV.d (D.l 26 br))])]) (oneFin b br (Prod.mk 0 a))) ∧ ((((oneL (List.drop 0 br) a b) = true) → (([(PV.d (D.b true))] = [(PV.d (D.b (oneV a b br)))]) ∧ (@Eq (List Blk) [] []))) ∧ (((oneL (List.drop 0 br) a b) = false) → (([(PV.d (D.b false))] = [(PV.d (D.b (oneV a b br)))]) ∧ (@Eq (List Blk) [] []))))))))))) (by kernel_rfl) ?_ :)
  refine ⟨IsInterval_ok a b, fun a1 => ⟨?_, rfl⟩, fun a1 => ⟨fun a2 => ⟨?_, rfl⟩, fun a2 => ⟨one_loop a b br (by have := d_false a2; omega) (0, a) (by simp), fun a3 => ⟨?_, rfl⟩, fun a3 => ⟨?_, rfl⟩⟩⟩⟩
  · rw [show oneV a b br = false from decide_eq_false (fun h => not_both h.1 (n_true a1))]
  · rw [show oneV a b br = false from decide_eq_false (fun h => by have := d_true a2; omega)]
  · rw [show oneV a b br = true from decide_eq_true ⟨n_false a1, by have := d_false a2; omega, a3⟩]
  · rw [show oneV a b br = false from decide_eq_false (fun h => not_both h.2.2 a3)]

def rvMk (l : List D) (s : Nat × Int) : St := ⟨[(0, .d (.l 29 l)), (3, .d (.i .i64 s.1)), (2, .d (.i .i64 0))], []⟩
def rvFin (l : List D) (s : Nat × Int) : Ends := .cond (rvL (l.drop s.1) s.2) (.one (.exit 0) ⟨[(2, .d (.i .i64 0))], []⟩) (.one .ret ⟨[(2, .d (.i .i64 1))], []⟩)
def sgRv : Sg := ⟨md9, spR, fun k d => match k, d with
  | 4, 0 => some ⟨[0, 3, 2], [], fun st => match st.sl with
    | [(_, .d (.l _ l)), _, _] => some (rvFin l (0, 0))
    | _ => none⟩
  | _, _ => none⟩
def rvI (l : List D) (s : Nat × Int) : Prop := s.1 ≤ l.length ∧ (s.1 = 0 → s.2 = 0) ∧ (0 < s.1 → s.2 = iv1 (l.getD (s.1 - 1) (.b false)))

theorem one_pos {a b : Int} {br : List D} (h : oneV a b br = true) : 0 ≤ a ∧ a < b ∧ b ≤ 120968640 ∧ oneL br a b = true := by
  obtain ⟨h1, _, h3⟩ := of_decide_eq_true h
  obtain ⟨k1, k2, k3⟩ := of_decide_eq_true h1
  exact ⟨k1, k2, k3, h3⟩

theorem rv_loop (l : List D) (hl : (l.length : Int) ≤ 1024) : ∀ s : Nat × Int, rvI l s → LCalls Try.prog tt 39 0 (loopOf Try.f16.body 4 0) (rvMk l s) (rvFin l s) := by
  refine LCalls.ind (sg := ⟨md9, spR, fun _ _ => none⟩) pok (rvMk l) (fun s => l.length - s.1) (rvI l) (rvFin l) [0, 3, 2] [] [2] [] fun s hs => ?_
  refine (to_res (B := ((((decide ((((Prod.fst s) : Nat) : Int) < (((List.length l) : Nat) : Int))) = true) → ((((0 : Int) ≤ (((Prod.fst s) : Nat) : Int)) ∧ ((((Prod.fst s) : Nat) : Int) < (((List.length l) : Nat) : Int))) ∧ ((ACalls Try.prog tt 28 [(PV.st [(PV.d (D.i .i64 (D.toI (D.leafAt (List.getD l (Int.toNat (((Prod.fst s) : Nat) : Int)) (D.b false)) 0)))), (PV.d (D.i .i64 (D.toI (D.leafAt (List.getD l (Int.toNat (((Prod.fst s) : Nat) : Int)) (D.b false)) 1)))), (PV.d (D.l 26 (D.toL (D.leafAt (List.getD l (Int.toNat (((Prod.fst s) : Nat) : Int)) (D.b false)) 2))))])] [] [(PV.d (D.b (oneV (D.toI (D.leafAt (List.getD l (Int.toNat (((Prod.fst s) : Nat) : Int)) (D.b false)) 0)) (D.toI (D.leafAt (List.getD l (Int.toNat (((Prod.fst s) : Nat) : Int)) (D.b false)) 1)) (D.toL (D.leafAt (List.getD l (Int.toNat (((Prod.fst s) : Nat) : Int)) (D.b false)) 2)))))] []) ∧ ((((Bool.not (oneV (D.toI (D.leafAt (List.getD l (Int.toNat (((Prod.fst s) : Nat) : Int)) (D.b false)) 0)) (D.toI (D.leafAt (List.getD l (Int.toNat (((Prod.fst s) : Nat) : Int)) (D.b false)) 1)) (D.toL (D.leafAt (List.getD l (Int.toNat (((Prod.fst s) : Nat) : Int)) (D.b false)) 2)))) = true) → ((Ends.pick (rvFin l s)) = (Prod.mk Exit.ret (St.mk [(Prod.mk 2 (PV.d (D.i .i64 (1 : Int))))] [])))) ∧ (((Bool.not (oneV (D.toI (D.leafAt (List.getD l (Int.toNat (((Prod.fst s) : Nat) : Int)) (D.b false)) 0)) (D.toI (D.leafAt (List.getD l (Int.toNat (((Prod.fst s) : Nat) : Int)) (D.b false)) 1)) (D.toL (D.leafAt (List.getD l (Int.toNat (((Prod.fst s) : Nat) : Int)) (D.b false)) 2)))) = false) → ((((decide ((0 : Int) < (((Prod.fst s) : Nat) : Int))) = true) → ((((0 : Int) ≤ (((Prod.fst s) : Nat) : Int)) ∧ ((((Prod.fst s) : Nat) : Int) < (((List.length l) : Nat) : Int))) ∧ ((((0 : Int) ≤ (IntKind.wrap .i64 ((((Prod.fst s) : Nat) : Int) - (1 : Int)))) ∧ ((IntKind.wrap .i64 ((((Prod.fst s) : Nat) : Int) - (1 : Int))) < (((List.length l) : Nat) : Int))) ∧ ((((decide ((D.toI (D.leafAt (List.getD l (Int.toNat (((Prod.fst s) : Nat) : Int)) (D.b false)) 0)) < (D.toI (D.leafAt (List.getD l (Int.toNat (IntKind.wrap .i64 ((((Prod.fst s) : Nat) : Int) - (1 : Int)))) (D.b false)) 1)))) = true) → ((Ends.pick (rvFin l s)) = (Prod.mk Exit.ret (St.mk [(Prod.mk 2 (PV.d (D.i .i64 (1 : Int))))] [])))) ∧ (((decide ((D.toI (D.leafAt (List.getD l (Int.toNat (((Prod.fst s) : Nat) : Int)) (D.b false)) 0)) < (D.toI (D.leafAt (List.getD l (Int.toNat (IntKind.wrap .i64 ((((Prod.fst s) : Nat) : Int) - (1 : Int)))) (D.b false)) 1)))) = false) → (∃ s' : (Prod Nat Int), (((St.mk [(Prod.mk 0 (PV.d (D.l 29 l))), (Prod.mk 3 (PV.d (D.i .i64 (IntKind.wrap .i64 ((((Prod.fst s) : Nat) : Int) + (1 : Int)))))), (Prod.mk 2 (PV.d (D.i .i64 (0 : Int))))] []) = (St.mk [(Prod.mk 0 (PV.d (D.l 29 l))), (Prod.mk 3 (PV.d (D.i .i64 (((Prod.fst s') : Nat) : Int)))), (Prod.mk 2 (PV.d (D.i .i64 (0 : Int))))] [])) ∧ ((((Prod.fst s') ≤ (List.length l)) ∧ ((((Prod.fst s') = 0) → ((Prod.snd s') = (0 : Int))) ∧ ((0 < (Prod.fst s')) → ((Prod.snd s') = (iv1 (List.getD l ((Prod.fst s') - 1) (D.b false))))))) ∧ ((((List.length l) - (Prod.fst s')) < ((List.length l) - (Prod.fst s))) ∧ ((Ends.pick (rvFin l s')) = (Ends.pick (rvFin l s)))))))))))) ∧ (((decide ((0 : Int) < (((Prod.fst s) : Nat) : Int))) = false) → (∃ s' : (Prod Nat Int), (((St.mk [(Prod.mk 0 (PV.d (D.l 29 l))), (Prod.mk 3 (PV.d (D.i .i64 (IntKind.wrap .i64 ((((Prod.fst s) : Nat) : Int) + (1 : Int)))))), (Prod.mk 2 (PV.d (D.i .i64 (0 : Int))))] []) = (St.mk [(Prod.mk 0 (PV.d (D.l 29 l))), (Prod.mk 3 (PV.d (D.i .i64 (((Prod.fst s') : Nat) : Int)))), (Prod.mk 2 (PV.d (D.i .i64 (0 : Int))))] [])) ∧ ((((Prod.fst s') ≤ (List.length l)) ∧ ((((Prod.fst s') = 0) → ((Prod.snd s') = (0 : Int))) ∧ ((0 < (Prod.fst s')) → ((Prod.snd s') = (iv1 (List.getD l ((Prod.fst s') - 1) (D.b false))))))) ∧ ((((List.length l) - (Prod.fst s')) < ((List.length l) - (Prod.fst s))) ∧ ((Ends.pick (rvFin l s')) = (Ends.pick (rvFin l s)))))))))))))) ∧ (((decide ((((Prod.fst s) : Nat) : Int) < (((List.length l) : Nat) : Int))) = false) → ((Ends.pick (rvFin l s)) = (Prod.mk (Exit.exit 0) (St.mk [(Prod.mk 2 (PV.d (D.i .i64 (0 : Int))))] [])))))) (by kernel_rfl) ?_ :)
  obtain ⟨i, f⟩ := s
  obtain ⟨k1, k2, k3⟩ := hs
  simp only at k1 k2 k3
  refine ⟨fun c => ?_, fun c => ?_⟩
  · have c := d_true c
    have hi : i < l.length := by omega
    have e := drop_get hi
    have e2 : rvL (l.drop i) f = if oneV (iv0 (l.getD i (.b false))) (iv1 (l.getD i (.b false))) (brk (l.getD i (.b false))) = true ∧ ¬ iv0 (l.getD i (.b false)) < f then rvL (l.drop (i + 1)) (iv1 (l.getD i (.b false))) else false := by rw [e]; rfl
    have next : iv1 (l.getD i (.b false)) = iv1 (l.getD (i + 1 - 1) (.b false)) := rfl
    have w1 : IntKind.wrap .i64 ((i : Int) + 1) = ((i + 1 : Nat) : Int) := by rw [wrap64 (by omega) (by omega)]; rfl
    have step : oneV (iv0 (l.getD i (.b false))) (iv1 (l.getD i (.b false))) (brk (l.getD i (.b false))) = true → ¬ iv0 (l.getD i (.b false)) < f → RoundQ 0 (rvMk l) (fun s => l.length - s.1) (rvI l) (rvFin l) [0, 3, 2] [] [2] [] (i, f) .normal (rvMk l (i + 1, iv1 (l.getD i (.b false)))) := fun g1 g2 =>
      ⟨(i + 1, iv1 (l.getD i (.b false))), rfl, ⟨hi, by simp, fun _ => next⟩, by show l.length - (i + 1) < l.length - i; omega, pick_congr (e2.trans (if_pos ⟨g1, g2⟩)).symm⟩
    refine ⟨⟨by omega, by omega⟩, one_ok _ _ _, fun a1 => ?_, fun a1 => ⟨fun a2 => ?_, fun a2 => ?_⟩⟩
    · exact pick_false (e2.trans (if_neg (fun h => not_both h.1 (by have := n_true a1; rw [Int.toNat_natCast] at this; exact this))))
    · have a2 := d_true a2
      have a2 : 0 < i := by omega
      have hw : IntKind.wrap .i64 ((i : Int) - 1) = ((i - 1 : Nat) : Int) := by rw [wrap64 (by omega) (by omega)]; omega
      have hf := k3 a2
      show (_ ∧ _) ∧ (0 ≤ IntKind.wrap .i64 ((i : Int) - 1) ∧ IntKind.wrap .i64 ((i : Int) - 1) + 1 ≤ _) ∧ (decide (iv0 (l.getD (i : Int).toNat (.b false)) < iv1 (l.getD (IntKind.wrap .i64 ((i : Int) - 1)).toNat (.b false))) = true → _) ∧ (decide (iv0 (l.getD (i : Int).toNat (.b false)) < iv1 (l.getD (IntKind.wrap .i64 ((i : Int) - 1)).toNat (.b false))) = false → _)
      rw [hw, Int.toNat_natCast, Int.toNat_natCast, ← hf]
      refine ⟨⟨by omega, by omega⟩, ⟨by omega, by omega⟩, fun a3 => ?_, fun a3 => ?_⟩
      · exact pick_false (e2.trans (if_neg (fun h => h.2 (d_true a3))))
      · rw [w1]; exact step (by have := n_false a1; rw [Int.toNat_natCast] at this; exact this) (d_false a3)
    · have a2 := d_false a2
      have hi0 : i = 0 := by omega
      have hf := k2 hi0
      rw [w1]
      have g1 : oneV (iv0 (l.getD i (.b false))) (iv1 (l.getD i (.b false))) (brk (l.getD i (.b false))) = true := by have := n_false a1; rw [Int.toNat_natCast] at this; exact this
      exact step g1 (by rw [hf]; have := (one_pos g1).1; omega)
  · have c := d_false c
    have : l.drop i = [] := List.drop_eq_nil_of_le (by omega)
    exact pick_true (by rw [this]; rfl)

theorem rValid_ok (l : List D) : ACalls Try.prog tt 16 [.d (.l 29 l)] [] [.d (.i .i64 (rvV l))] [] := by
  refine ACalls.intro (sg := sgRv) [.d] pok Try.func16 rfl rfl rfl ?_
  refine (to_res (B := ((((decide ((1024 : Int) < (((List.length l) : Nat) : Int))) = true) → (([(PV.d (D.i .i64 (1 : Int)))] = [(PV.d (D.i .i64 (rvV l)))]) ∧ (@Eq (List Blk) [] []))) ∧ (((decide ((1024 : Int) < (((List.length l) : Nat) : Int))) = false) → ((LCalls Try.prog tt 39 0 (loopOf Try.f16.body 4 0) (St.mk [(Prod.mk 0 (PV.d (D.l 29 l))), (Prod.mk 3 (PV.d (D.i .i64 (0 : Int)))), (Prod.mk 2 (PV.d (D.i .i64 (0 : Int))))] []) (rvFin l (Prod.mk 0 (0 : Int)))) ∧ ((((rvL (List.drop 0 l) (0 : Int)) = true) → (([(PV.d (D.i .i64 (0 : Int)))] = [(PV.d (D.i .i64 (rvV l)))]) ∧ (@Eq (List Blk) [] []))) ∧ (((rvL (List.drop 0 l) (0 : Int)) = false) → (([(PV.d (D.i .i64 (1 : Int)))] = [(PV.d (D.i .i64 (rvV l)))]) ∧ (@Eq (List Blk) [] [])))))))) (by kernel_rfl) ?_ :)
  refine ⟨fun a => ⟨?_, rfl⟩, fun a => ⟨rv_loop l (by have := d_false a; omega) (0, 0) ⟨by simp, fun _ => rfl, fun h => by simp at h⟩, fun b => ⟨?_, rfl⟩, fun b => ⟨?_, rfl⟩⟩⟩
  · have a := d_true a
    rw [show rvV l = 1 from if_neg (by omega)]
  · have a := d_false a
    rw [show rvV l = 0 from if_pos ⟨by omega, b⟩]
  · have b : rvL l 0 = false := b
    rw [show rvV l = 1 from if_neg (by rw [b]; simp)]

def rmMk (a b : Int) (l : List D) (s : Nat × Int × Int) : St := ⟨[(1, .ptr 0 0), (3, .d (.i .i64 s.2.1)), (4, .d (.i .i64 s.1))], [.var [.d (.i .i64 a), .d (.i .i64 b), .d (.l 26 l)]]⟩
def sgRm : Sg := ⟨md9, spR, fun k d => match k, d with
  | 5, 0 => some ⟨[1, 3, 4], [], fun st => match st with
    | ⟨[_, (_, .d (.i _ n)), _], [.var [_, _, .d (.l _ l)]]⟩ => some (minFin l (0, n, 0))
    | _ => none⟩
  | _, _ => none⟩

theorem rm_loop (a to : Int) (l : List D) (hl : (l.length : Int) ≤ 1024) : ∀ s : Nat × Int × Int, (s.1 ≤ l.length ∧ oneL (l.drop s.1) s.2.2 to = true ∧ 0 ≤ s.2.2 ∧ to - s.2.2 ≤ s.2.1 ∧ s.2.1 ≤ 120968640 ∧ s.2.2 ≤ to) → LCalls Try.prog tt 38 0 (loopOf Try.f17.body 5 0) (rmMk a to l s) (minFin l s) := by
  refine LCalls.ind (sg := ⟨md9, spR, fun _ _ => none⟩) pok (rmMk a to l) (fun s => l.length - s.1) (fun s => s.1 ≤ l.length ∧ oneL (l.drop s.1) s.2.2 to = true ∧ 0 ≤ s.2.2 ∧ to - s.2.2 ≤ s.2.1 ∧ s.2.1 ≤ 120968640 ∧ s.2.2 ≤ to) (minFin l) [1, 3, 4] [] [3] [] fun s hs => ?_
  refine (to_res (B := ((((decide ((((Prod.fst s) : Nat) : Int) < (((List.length l) : Nat) : Int))) = true) → ((((0 : Int) ≤ (((Prod.fst s) : Nat) : Int)) ∧ ((((Prod.fst s) : Nat) : Int) < (((List.length l) : Nat) : Int))) ∧ ((((0 : Int) ≤ (((Prod.fst s) : Nat) : Int)) ∧ ((((Prod.fst s) : Nat) : Int) < (((List.length l) : Nat) : Int))) ∧ (∃ s' : (Prod Nat (Prod Int Int)), (((St.mk [(Prod.mk 1 (PV.ptr 0 0)), (Prod.mk 3 (PV.d (D.i .i64 (IntKind.wrap .i64 ((Prod.fst (Prod.snd s)) - (IntKind.wrap .i64 ((D.toI (D.leafAt (List.getD l (Int.toNat (((Prod.fst s) : Nat) : Int)) (D.b false)) 1)) - (D.toI (D.leafAt (List.getD l (Int.toNat (((Prod.fst s) : Nat) : Int)) (D.b false)) 0))))))))), (Prod.mk 4 (PV.d (D.i .i64 (IntKind.wrap .i64 ((((Prod.fst s) : Nat) : Int) + (1 : Int))))))] [(Blk.var [(PV.d (D.i .i64 a)), (PV.d (D.i .i64 to)), (PV.d (D.l 26 l))])]) = (St.mk [(Prod.mk 1 (PV.ptr 0 0)), (Prod.mk 3 (PV.d (D.i .i64 (Prod.fst (Prod.snd s'))))), (Prod.mk 4 (PV.d (D.i .i64 (((Prod.fst s') : Nat) : Int))))] [(Blk.var [(PV.d (D.i .i64 a)), (PV.d (D.i .i64 to)), (PV.d (D.l 26 l))])])) ∧ ((((Prod.fst s') ≤ (List.length l)) ∧ (((oneL (List.drop (Prod.fst s') l) (Prod.snd (Prod.snd s')) to) = true) ∧ (((0 : Int) ≤ (Prod.snd (Prod.snd s'))) ∧ (((to - (Prod.snd (Prod.snd s'))) ≤ (Prod.fst (Prod.snd s'))) ∧ (((Prod.fst (Prod.snd s')) ≤ (120968640 : Int)) ∧ ((Prod.snd (Prod.snd s')) ≤ to)))))) ∧ ((((List.length l) - (Prod.fst s')) < ((List.length l) - (Prod.fst s))) ∧ ((Prod.mk (Exit.exit 0) (St.mk [(Prod.mk 3 (PV.d (D.i .i64 (minL (List.drop (Prod.fst s') l) (Prod.fst (Prod.snd s'))))))] [])) = (Prod.mk (Exit.exit 0) (St.mk [(Prod.mk 3 (PV.d (D.i .i64 (minL (List.drop (Prod.fst s) l) (Prod.fst (Prod.snd s))))))] [])))))))))) ∧ (((decide ((((Prod.fst s) : Nat) : Int) < (((List.length l) : Nat) : Int))) = false) → ((Prod.mk (Exit.exit 0) (St.mk [(Prod.mk 3 (PV.d (D.i .i64 (minL (List.drop (Prod.fst s) l) (Prod.fst (Prod.snd s))))))] [])) = (Prod.mk (Exit.exit 0) (St.mk [(Prod.mk 3 (PV.d (D.i .i64 (Prod.fst (Prod.snd s)))))] [])))))) (by kernel_rfl) ?_ :)
  obtain ⟨i, n, f⟩ := s
  obtain ⟨k1, k2, k3, k4, k5, k6⟩ := hs
  refine ⟨fun c => ?_, fun c => ?_⟩
  · have c := d_true c
    have hi : i < l.length := by omega
    have e := drop_get hi
    have e2 : minL (l.drop i) n = minL (l.drop (i + 1)) (n - (iv1 (l.getD i (.b false)) - iv0 (l.getD i (.b false)))) := by rw [e]; rfl
    have e3 : (if isIv (iv0 (l.getD i (.b false))) (iv1 (l.getD i (.b false))) = true ∧ ¬ iv0 (l.getD i (.b false)) < f ∧ ¬ to < iv1 (l.getD i (.b false)) then oneL (l.drop (i + 1)) (iv1 (l.getD i (.b false))) to else false) = true := by rw [e] at k2; exact k2
    rw [Int.toNat_natCast]
    generalize l.getD i (.b false) = x at *
    simp only at k3 k4 k5
    by_cases e4 : isIv (iv0 x) (iv1 x) = true ∧ ¬ iv0 x < f ∧ ¬ to < iv1 x
    case neg => rw [if_neg e4] at e3; cases e3
    rw [if_pos e4] at e3
    obtain ⟨g1, g2, g3⟩ := of_decide_eq_true e4.1
    refine ⟨⟨by omega, by omega⟩, ⟨by omega, by omega⟩, (i + 1, n - (iv1 x - iv0 x), iv1 x), ?_, ⟨hi, e3, by dsimp only; omega, by dsimp only; omega, by dsimp only; omega, by dsimp only; omega⟩, ?_, ?_⟩
    · show (⟨[_, (3, .d (.i .i64 (IntKind.wrap .i64 (n - IntKind.wrap .i64 (iv1 x - iv0 x))))), _], _⟩ : St) = _
      rw [wrap64 (x := iv1 x - iv0 x) (by omega) (by omega), wrap64 (by omega) (by omega), wrap64 (by omega) (by omega)]; rfl
    · show l.length - (i + 1) + 1 ≤ l.length - i; omega
    · show (minFin l (i + 1, n - (iv1 x - iv0 x), iv1 x)).pick = (minFin l (i, n, f)).pick
      simp only [minFin, e2]
  · have c := d_false c
    have : l.drop i = [] := List.drop_eq_nil_of_le (by omega)
    show Ends.pick (.one _ ⟨[(3, .d (.i .i64 (minL (l.drop i) n)))], []⟩) = _
    rw [this]; rfl

theorem rMinutes_ok (a b : Int) (br : List D) : ACalls Try.prog tt 17 [.st [.d (.i .i64 a), .d (.i .i64 b), .d (.l 26 br)]] [] [.d (.i .i64 (rminV a b br))] [] := by
  refine ACalls.intro (sg := sgRm) [.d] pok Try.func17 rfl rfl rfl ?_
  refine (to_res (B := ((ACalls Try.prog tt 28 [(PV.st [(PV.d (D.i .i64 a)), (PV.d (D.i .i64 b)), (PV.d (D.l 26 br))])] [] [(PV.d (D.b (oneV a b br)))] []) ∧ ((((Bool.not (oneV a b br)) = true) → (([(PV.d (D.i .i64 (0 : Int)))] = [(PV.d (D.i .i64 (rminV a b br)))]) ∧ (@Eq (List Blk) [] []))) ∧ (((Bool.not (oneV a b br)) = false) → ((LCalls Try.prog tt 38 0 (loopOf Try.f17.body 5 0) (St.mk [(Prod.mk 1 (PV.ptr 0 0)), (Prod.mk 3 (PV.d (D.i .i64 (IntKind.wrap .i64 (b - a))))), (Prod.mk 4 (PV.d (D.i .i64 (0 : Int))))] [(Blk.var [(PV.d (D.i .i64 a)), (PV.d (D.i .i64 b)), (PV.d (D.l 26 br))])]) (minFin br (Prod.mk 0 (Prod.mk (IntKind.wrap .i64 (b - a)) (0 : Int))))) ∧ (([(PV.d (D.i .i64 (minL (List.drop 0 br) (IntKind.wrap .i64 (b - a)))))] = [(PV.d (D.i .i64 (rminV a b br)))]) ∧ (@Eq (List Blk) [] []))))))) (by kernel_rfl) ?_ :)
  refine ⟨one_ok a b br, fun h => ⟨?_, rfl⟩, fun h => ?_⟩
  · rw [show rminV a b br = 0 from if_neg (fun k => not_both k (n_true h))]
  · have h : oneV a b br = true := n_false h
    obtain ⟨h1, h2, h3, h4⟩ := one_pos h
    rw [wrap64 (by omega) (by omega)]
    exact ⟨rm_loop a b br (of_decide_eq_true h).2.1 (0, b - a, a) ⟨by simp, h4, h1, by dsimp only; omega, by dsimp only; omega, by dsimp only; omega⟩, by rw [show rminV a b br = minL br (b - a) from if_pos h]; rfl, rfl⟩

theorem ord_one : ∀ (br : List D) (a b : Int), 0 ≤ a → b ≤ 120968640 → ordL br a b = oneL br a b
  | [], _, _, _, _ => rfl
  | x :: r, a, b, ha, hb => by
    show (if _ then false else ordL r (iv1 x) b) = (if _ then oneL r (iv1 x) b else false)
    by_cases c : iv0 x < a ∨ iv1 x ≤ iv0 x ∨ b < iv1 x
    · rw [if_pos c, if_neg]
      rintro ⟨h1, h2, h3⟩
      have := of_decide_eq_true h1
      omega
    · rw [if_neg c, if_pos ⟨decide_eq_true (by omega), by omega, by omega⟩]
      exact ord_one r (iv1 x) b (by omega) hb

theorem val_rv : ∀ (l : List D) (e : Int), 0 ≤ e → validL l e = rvL l e
  | [], _, _ => rfl
  | x :: r, e, he => by
    show (if ordV [mkIv (iv0 x) (iv1 x)] e 120968640 = true ∧ ordV (brk x) (iv0 x) (iv1 x) = true then validL r (iv1 x) else false) = (if oneV (iv0 x) (iv1 x) (brk x) = true ∧ ¬ iv0 x < e then rvL r (iv1 x) else false)
    have e1 : ordV [mkIv (iv0 x) (iv1 x)] e 120968640 = true ↔ ¬ (iv0 x < e ∨ iv1 x ≤ iv0 x ∨ (120968640 : Int) < iv1 x) := by
      show ((if iv0 x < e ∨ iv1 x ≤ iv0 x ∨ (120968640 : Int) < iv1 x then false else true) && true) = true ↔ _
      by_cases c : iv0 x < e ∨ iv1 x ≤ iv0 x ∨ (120968640 : Int) < iv1 x
      · rw [if_pos c]; simp [c]
      · rw [if_neg c]; simp only [c, not_false_eq_true, iff_true]; rfl
    by_cases c : ordV [mkIv (iv0 x) (iv1 x)] e 120968640 = true ∧ ordV (brk x) (iv0 x) (iv1 x) = true
    · have c1 := e1.1 c.1
      have c2 := c.2
      simp only [ordV, Bool.and_eq_true, decide_eq_true_eq] at c2
      rw [if_pos c, if_pos ⟨decide_eq_true ⟨decide_eq_true (by omega), c2.2, by rw [← ord_one _ _ _ (by omega) (by omega)]; exact c2.1⟩, by omega⟩]
      exact val_rv r (iv1 x) (by omega)
    · rw [if_neg c, if_neg]
      rintro ⟨h1, h2⟩
      obtain ⟨k1, k2, k3⟩ := of_decide_eq_true h1
      obtain ⟨m1, m2, m3⟩ := of_decide_eq_true k1
      refine c ⟨e1.2 (by omega), ?_⟩
      rw [ordV, ord_one _ _ _ m1 m3, k3, decide_eq_true k2]; rfl

/-- Both ways to say which lists are valid agree. -/
theorem valid_same (l : List D) : validV l = rvV l := by
  unfold validV rvV
  rw [val_rv l 0 (by omega)]

theorem minutes_same (a b : Int) (br : List D) : minV a b br = rminV a b br := by
  unfold minV rminV
  have e : validV [mkP a b br] = 0 ↔ oneV a b br = true := by
    rw [valid_same]
    unfold rvV
    have : rvL [mkP a b br] 0 = true ↔ oneV a b br = true := by
      show (if oneV a b br = true ∧ ¬ a < 0 then true else false) = true ↔ _
      by_cases c : oneV a b br = true
      · rw [if_pos ⟨c, by have := (one_pos c).1; omega⟩]; simp [c]
      · rw [if_neg (fun h => c h.1)]; simp [c]
    by_cases c : oneV a b br = true
    · rw [if_pos ⟨by simp, this.2 c⟩]; simp [c]
    · rw [if_neg (fun h => c (this.1 h.2))]; simp [c]
  by_cases c : oneV a b br = true
  · rw [if_pos (e.2 c), if_pos c]
  · rw [if_neg (fun h => c (e.1 h)), if_neg c]

end Go.Abs.C9
