/- The tape of choices: Mod, Next, Pick, New. -/
import Derived.Test.YtbncjlapmomlkaaA3
import Derived.Test.YtbncjlapmomlkaaTab
set_option linter.unusedSimpArgs false
set_option linter.unusedVariables false
namespace Go.Abs.C9
open Go.Proofs
set_option maxRecDepth 100000

def tp (t : List D) (k : Int) : Blk := .var [.d (.l 3 t), .d (.i .i64 k)]
def pickV (l t : List D) (k : Int) : Int := D.toI (D.leafAt (l.getD (nextV t k l.length).toNat (.b false)) 0)

/-- What the walks below are told of callees. -/
def spT : FuncId → List PV → List Blk → Option Rets
  | 7, [.d (.i _ a), .d (.i _ n)], [] => some (.one [.d (.i .i64 (a % n))] [])
  | 27, [.ptr 0 0, .d (.i _ n)], [.var [.d (.l _ t), .d (.i _ k)]] => some (.one [.d (.i .i64 (nextV t k n))] [tp t (nextK t k n)])
  | 26, [.ptr 0 0, .d (.l _ l)], [.var [.d (.l _ t), .d (.i _ k)]] => some (.one [.d (.i .i64 (pickV l t k))] [tp t (nextK t k l.length)])
  | 13, [.d (.l _ t)], [] => some (.one [.ptr 0 0] [tp t 0])
  | _, _, _ => none
def sgT : Sg := ⟨fun _ => [], spT, fun _ _ => none⟩

theorem Mod_ok (a n : Int) (hn : 0 < n) (h2 : n ≤ 9223372036854775807) : ACalls Try.prog tt 7 [.d (.i .i64 a), .d (.i .i64 n)] [] [.d (.i .i64 (a % n))] [] := by
  refine ACalls.intro (sg := sgT) [.d] pok Try.func7 rfl rfl rfl ?_
  obtain ⟨h1, h2, h3, h4⟩ := tmod_mod (a := a) hn
  refine (to_res (B := (((n = (0 : Int)) → False) ∧ ((((decide ((Int.tmod a n) < (0 : Int))) = true) → (([(PV.d (D.i .i64 (IntKind.wrap .i64 ((Int.tmod a n) + n))))] = [(PV.d (D.i .i64 (a % n)))]) ∧ (@Eq (List Blk) [] []))) ∧ (((decide ((Int.tmod a n) < (0 : Int))) = false) → (([(PV.d (D.i .i64 (Int.tmod a n)))] = [(PV.d (D.i .i64 (a % n)))]) ∧ (@Eq (List Blk) [] [])))))) (by kernel_rfl) ?_ :)
  refine ⟨fun h => by omega, fun h => ?_, fun h => ?_⟩
  · have h := d_true h
    rw [wrap64 (by omega) (by omega), h1 h]; exact ⟨rfl, rfl⟩
  · rw [h2 (d_false h)]; exact ⟨rfl, rfl⟩

theorem Next_ok (t : List D) (k n : Int) (h : TapeOK t k) (hn : n ≤ 9223372036854775807) : ACalls Try.prog tt 27 [.ptr 0 0, .d (.i .i64 n)] [tp t k] [.d (.i .i64 (nextV t k n))] [tp t (nextK t k n)] := by
  refine ACalls.intro (sg := sgT) [.d] pok Try.func27 rfl rfl rfl ?_
  refine (to_res (B := ((((decide (n < (1 : Int))) = true) → (([(PV.d (D.i .i64 (0 : Int)))] = [(PV.d (D.i .i64 (nextV t k n)))]) ∧ ([(Blk.var [(PV.d (D.l 3 t)), (PV.d (D.i .i64 k))])] = [(Blk.var [(PV.d (D.l 3 t)), (PV.d (D.i .i64 (nextK t k n)))])]))) ∧ (((decide (n < (1 : Int))) = false) → ((((decide ((((List.length t) : Nat) : Int) ≤ k)) = true) → (([(PV.d (D.i .i64 (0 : Int)))] = [(PV.d (D.i .i64 (nextV t k n)))]) ∧ ([(Blk.var [(PV.d (D.l 3 t)), (PV.d (D.i .i64 k))])] = [(Blk.var [(PV.d (D.l 3 t)), (PV.d (D.i .i64 (nextK t k n)))])]))) ∧ (((decide ((((List.length t) : Nat) : Int) ≤ k)) = false) → ((((0 : Int) ≤ (IntKind.wrap .i64 ((IntKind.wrap .i64 (k + (1 : Int))) - (1 : Int)))) ∧ ((IntKind.wrap .i64 ((IntKind.wrap .i64 (k + (1 : Int))) - (1 : Int))) < (((List.length t) : Nat) : Int))) ∧ ((ACalls Try.prog tt 7 [(PV.d (D.i .i64 (D.toI (D.leafAt (List.getD t (Int.toNat (IntKind.wrap .i64 ((IntKind.wrap .i64 (k + (1 : Int))) - (1 : Int)))) (D.b false)) 0)))), (PV.d (D.i .i64 n))] [] [(PV.d (D.i .i64 ((D.toI (D.leafAt (List.getD t (Int.toNat (IntKind.wrap .i64 ((IntKind.wrap .i64 (k + (1 : Int))) - (1 : Int)))) (D.b false)) 0)) % n)))] []) ∧ (([(PV.d (D.i .i64 ((D.toI (D.leafAt (List.getD t (Int.toNat (IntKind.wrap .i64 ((IntKind.wrap .i64 (k + (1 : Int))) - (1 : Int)))) (D.b false)) 0)) % n)))] = [(PV.d (D.i .i64 (nextV t k n)))]) ∧ ([(Blk.var [(PV.d (D.l 3 t)), (PV.d (D.i .i64 (IntKind.wrap .i64 (k + (1 : Int)))))])] = [(Blk.var [(PV.d (D.l 3 t)), (PV.d (D.i .i64 (nextK t k n)))])]))))))))) (by kernel_rfl) ?_ :)
  obtain ⟨h1, h2, h3⟩ := h
  refine ⟨fun c => ?_, fun c => ⟨fun d => ?_, fun d => ?_⟩⟩
  · have c := d_true c
    rw [show nextV t k n = 0 from if_pos (Or.inl c), show nextK t k n = k from if_pos (Or.inl c)]; exact ⟨rfl, rfl⟩
  · have d := d_true d
    rw [show nextV t k n = 0 from if_pos (Or.inr d), show nextK t k n = k from if_pos (Or.inr d)]; exact ⟨rfl, rfl⟩
  · have c := d_false c
    have d := d_false d
    have e : ¬ (n < 1 ∨ (t.length : Int) ≤ k) := by omega
    rw [show nextV t k n = _ from if_neg e, show nextK t k n = k + 1 from if_neg e]
    rw [wrap64 (x := k + 1) (by omega) (by omega), wrap64 (by omega) (by omega), show k + 1 - 1 = k by omega]
    exact ⟨⟨by omega, by omega⟩, Mod_ok _ _ (by omega) hn, rfl, rfl⟩

theorem Pick_ok (l t : List D) (k : Int) (h : TapeOK t k) (hl : 0 < l.length) (hn : (l.length : Int) ≤ 9223372036854775807) : ACalls Try.prog tt 26 [.ptr 0 0, .d (.l 3 l)] [tp t k] [.d (.i .i64 (pickV l t k))] [tp t (nextK t k l.length)] := by
  refine ACalls.intro (sg := sgT) [.d] pok Try.func26 rfl rfl rfl ?_
  refine (to_res (B := ((ACalls Try.prog tt 27 [(PV.ptr 0 0), (PV.d (D.i .i64 (((List.length l) : Nat) : Int)))] [(Blk.var [(PV.d (D.l 3 t)), (PV.d (D.i .i64 k))])] [(PV.d (D.i .i64 (nextV t k (((List.length l) : Nat) : Int))))] [(Blk.var [(PV.d (D.l 3 t)), (PV.d (D.i .i64 (nextK t k (((List.length l) : Nat) : Int))))])]) ∧ ((((0 : Int) ≤ (nextV t k (((List.length l) : Nat) : Int))) ∧ ((nextV t k (((List.length l) : Nat) : Int)) < (((List.length l) : Nat) : Int))) ∧ (([(PV.d (D.i .i64 (D.toI (D.leafAt (List.getD l (Int.toNat (nextV t k (((List.length l) : Nat) : Int))) (D.b false)) 0))))] = [(PV.d (D.i .i64 (pickV l t k)))]) ∧ ([(Blk.var [(PV.d (D.l 3 t)), (PV.d (D.i .i64 (nextK t k (((List.length l) : Nat) : Int))))])] = [(Blk.var [(PV.d (D.l 3 t)), (PV.d (D.i .i64 (nextK t k (((List.length l) : Nat) : Int))))])]))))) (by kernel_rfl) ?_ :)
  have := nextV_range t k (n := l.length) (by omega)
  exact ⟨Next_ok t k _ h hn, ⟨by omega, by omega⟩, rfl, rfl⟩

theorem New_ok (t : List D) : ACalls Try.prog tt 13 [.d (.l 3 t)] [] [.ptr 0 0] [tp t 0] := by
  refine ACalls.intro (sg := sgT) [.r] pok Try.func13 rfl rfl rfl ?_
  refine (to_res (B := (([(PV.ptr 0 0)] = [(PV.ptr 0 0)]) ∧ ([(Blk.var [(PV.d (D.l 3 t)), (PV.d (D.i .i64 (0 : Int)))])] = [(Blk.var [(PV.d (D.l 3 t)), (PV.d (D.i .i64 (0 : Int)))])]))) (by kernel_rfl) ?_ :)
  exact ⟨rfl, rfl⟩

end Go.Abs.C9
