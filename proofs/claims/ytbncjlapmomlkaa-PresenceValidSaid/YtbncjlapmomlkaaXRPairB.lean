/- Chapter 9: the reference's Pair, the whole; both agree. -/
import Derived.Test.YtbncjlapmomlkaaXRPair
set_option linter.unusedSimpArgs false
set_option linter.unusedVariables false
namespace Go.Abs.C9
open Go.Proofs
set_option maxRecDepth 100000

def rchkL : List D → Bool → Int → Bool
  | [], _, _ => true
  | x :: r, fst, prev => if sK x < 1 ∨ 4 < sK x ∨ sT x < 0 ∨ 120968639 < sT x ∨ (fst = false ∧ sT x < prev) then false else rchkL r false (sT x)

def d1Mk (l : List D) (lg : Int) (i : Nat) : St := ⟨[(0, .d (.l 34 l)), (1, .d (.i .i64 lg)), (7, .d (.i .i64 i))], []⟩
def d1Fin (l : List D) (lg : Int) (i : Nat) : Ends := .cond (rchkL (l.drop i) (decide (i = 0)) (sT (l.getD (i - 1) (.b false))))
  (.one (.exit 0) ⟨[(0, .d (.l 34 l)), (1, .d (.i .i64 lg)), (4, .u), (5, .u), (6, .u)], []⟩)
  (.one .ret ⟨[(0, .d (.l 34 l)), (1, .d (.i .i64 lg)), (4, .c (.slice none 0 0)), (5, .c (.slice none 0 0)), (6, .d (.i .i64 1))], []⟩)

theorem d1_loop (l : List D) (lg : Int) (hl : (l.length : Int) ≤ 1024) : ∀ s : Nat, s ≤ l.length → LCalls Try.prog tt 96 0 (loopOf Try.f25.body 6 0) (d1Mk l lg s) (d1Fin l lg s) := by
  refine LCalls.ind (sg := sgT) pok (d1Mk l lg) (fun s => l.length - s) (fun s => s ≤ l.length) (d1Fin l lg) [0, 1, 7] [] [0, 1, 4, 5, 6] [] fun i hs => ?_
  refine (to_res (B := ((((decide (((i : Nat) : Int) < (((List.length l) : Nat) : Int))) = true) → ((((0 : Int) ≤ ((i : Nat) : Int)) ∧ (((i : Nat) : Int) < (((List.length l) : Nat) : Int))) ∧ ((((decide ((D.toI (D.leafAt (List.getD l (Int.toNat ((i : Nat) : Int)) (D.b false)) 1)) < (1 : Int))) = true) → ((Ends.pick (d1Fin l lg i)) = (Prod.mk Exit.ret (St.mk [(Prod.mk 0 (PV.d (D.l 34 l))), (Prod.mk 1 (PV.d (D.i .i64 lg))), (Prod.mk 4 (PV.c (Value.slice Option.none 0 0))), (Prod.mk 5 (PV.c (Value.slice Option.none 0 0))), (Prod.mk 6 (PV.d (D.i .i64 (1 : Int))))] [])))) ∧ (((decide ((D.toI (D.leafAt (List.getD l (Int.toNat ((i : Nat) : Int)) (D.b false)) 1)) < (1 : Int))) = false) → ((((decide ((4 : Int) < (D.toI (D.leafAt (List.getD l (Int.toNat ((i : Nat) : Int)) (D.b false)) 1)))) = true) → ((Ends.pick (d1Fin l lg i)) = (Prod.mk Exit.ret (St.mk [(Prod.mk 0 (PV.d (D.l 34 l))), (Prod.mk 1 (PV.d (D.i .i64 lg))), (Prod.mk 4 (PV.c (Value.slice Option.none 0 0))), (Prod.mk 5 (PV.c (Value.slice Option.none 0 0))), (Prod.mk 6 (PV.d (D.i .i64 (1 : Int))))] [])))) ∧ (((decide ((4 : Int) < (D.toI (D.leafAt (List.getD l (Int.toNat ((i : Nat) : Int)) (D.b false)) 1)))) = false) → ((((decide ((D.toI (D.leafAt (List.getD l (Int.toNat ((i : Nat) : Int)) (D.b false)) 0)) < (0 : Int))) = true) → ((Ends.pick (d1Fin l lg i)) = (Prod.mk Exit.ret (St.mk [(Prod.mk 0 (PV.d (D.l 34 l))), (Prod.mk 1 (PV.d (D.i .i64 lg))), (Prod.mk 4 (PV.c (Value.slice Option.none 0 0))), (Prod.mk 5 (PV.c (Value.slice Option.none 0 0))), (Prod.mk 6 (PV.d (D.i .i64 (1 : Int))))] [])))) ∧ (((decide ((D.toI (D.leafAt (List.getD l (Int.toNat ((i : Nat) : Int)) (D.b false)) 0)) < (0 : Int))) = false) → ((((decide ((120968639 : Int) < (D.toI (D.leafAt (List.getD l (Int.toNat ((i : Nat) : Int)) (D.b false)) 0)))) = true) → ((Ends.pick (d1Fin l lg i)) = (Prod.mk Exit.ret (St.mk [(Prod.mk 0 (PV.d (D.l 34 l))), (Prod.mk 1 (PV.d (D.i .i64 lg))), (Prod.mk 4 (PV.c (Value.slice Option.none 0 0))), (Prod.mk 5 (PV.c (Value.slice Option.none 0 0))), (Prod.mk 6 (PV.d (D.i .i64 (1 : Int))))] [])))) ∧ (((decide ((120968639 : Int) < (D.toI (D.leafAt (List.getD l (Int.toNat ((i : Nat) : Int)) (D.b false)) 0)))) = false) → ((((decide ((0 : Int) < ((i : Nat) : Int))) = true) → ((((0 : Int) ≤ (IntKind.wrap .i64 (((i : Nat) : Int) - (1 : Int)))) ∧ ((IntKind.wrap .i64 (((i : Nat) : Int) - (1 : Int))) < (((List.length l) : Nat) : Int))) ∧ ((((decide ((D.toI (D.leafAt (List.getD l (Int.toNat ((i : Nat) : Int)) (D.b false)) 0)) < (D.toI (D.leafAt (List.getD l (Int.toNat (IntKind.wrap .i64 (((i : Nat) : Int) - (1 : Int)))) (D.b false)) 0)))) = true) → ((Ends.pick (d1Fin l lg i)) = (Prod.mk Exit.ret (St.mk [(Prod.mk 0 (PV.d (D.l 34 l))), (Prod.mk 1 (PV.d (D.i .i64 lg))), (Prod.mk 4 (PV.c (Value.slice Option.none 0 0))), (Prod.mk 5 (PV.c (Value.slice Option.none 0 0))), (Prod.mk 6 (PV.d (D.i .i64 (1 : Int))))] [])))) ∧ (((decide ((D.toI (D.leafAt (List.getD l (Int.toNat ((i : Nat) : Int)) (D.b false)) 0)) < (D.toI (D.leafAt (List.getD l (Int.toNat (IntKind.wrap .i64 (((i : Nat) : Int) - (1 : Int)))) (D.b false)) 0)))) = false) → (∃ s' : Nat, (((St.mk [(Prod.mk 0 (PV.d (D.l 34 l))), (Prod.mk 1 (PV.d (D.i .i64 lg))), (Prod.mk 7 (PV.d (D.i .i64 (IntKind.wrap .i64 (((i : Nat) : Int) + (1 : Int))))))] []) = (St.mk [(Prod.mk 0 (PV.d (D.l 34 l))), (Prod.mk 1 (PV.d (D.i .i64 lg))), (Prod.mk 7 (PV.d (D.i .i64 ((s' : Nat) : Int))))] [])) ∧ ((s' ≤ (List.length l)) ∧ ((((List.length l) - s') < ((List.length l) - i)) ∧ ((Ends.pick (d1Fin l lg s')) = (Ends.pick (d1Fin l lg i))))))))))) ∧ (((decide ((0 : Int) < ((i : Nat) : Int))) = false) → (∃ s' : Nat, (((St.mk [(Prod.mk 0 (PV.d (D.l 34 l))), (Prod.mk 1 (PV.d (D.i .i64 lg))), (Prod.mk 7 (PV.d (D.i .i64 (IntKind.wrap .i64 (((i : Nat) : Int) + (1 : Int))))))] []) = (St.mk [(Prod.mk 0 (PV.d (D.l 34 l))), (Prod.mk 1 (PV.d (D.i .i64 lg))), (Prod.mk 7 (PV.d (D.i .i64 ((s' : Nat) : Int))))] [])) ∧ ((s' ≤ (List.length l)) ∧ ((((List.length l) - s') < ((List.length l) - i)) ∧ ((Ends.pick (d1Fin l lg s')) = (Ends.pick (d1Fin l lg i))))))))))))))))))) ∧ (((decide (((i : Nat) : Int) < (((List.length l) : Nat) : Int))) = false) → ((Ends.pick (d1Fin l lg i)) = (Prod.mk (Exit.exit 0) (St.mk [(Prod.mk 0 (PV.d (D.l 34 l))), (Prod.mk 1 (PV.d (D.i .i64 lg))), (Prod.mk 4 PV.u), (Prod.mk 5 PV.u), (Prod.mk 6 PV.u)] [])))))) (by kernel_rfl) ?_ :)
  simp only [decide_eq_true_eq, decide_eq_false_iff_not, Bool.not_eq_true', Bool.not_eq_false', List.length_nil, List.take_length, Int.toNat_natCast, List.nil_append, Nat.zero_add, eq_self, true_and, and_true, implies_true, Bool.and_true, Bool.true_and, Bool.false_and, beq_iff_eq, beq_eq_false_iff_ne, ne_eq, not_true_eq_false, not_false_eq_true, reduceCtorEq, false_implies, true_implies, cond_true, cond_false]
  refine ⟨fun c => ?_, fun c => ?_⟩
  · have hi : i < l.length := by omega
    have e2 : rchkL (l.drop i) (decide (i = 0)) (sT (l.getD (i - 1) (.b false))) = if sK (l.getD i (.b false)) < 1 ∨ 4 < sK (l.getD i (.b false)) ∨ sT (l.getD i (.b false)) < 0 ∨ 120968639 < sT (l.getD i (.b false)) ∨ (decide (i = 0) = false ∧ sT (l.getD i (.b false)) < sT (l.getD (i - 1) (.b false))) then false else rchkL (l.drop (i + 1)) false (sT (l.getD i (.b false))) := by rw [drop_get hi]; rfl
    have next : ¬ (sK (l.getD i (.b false)) < 1 ∨ 4 < sK (l.getD i (.b false)) ∨ sT (l.getD i (.b false)) < 0 ∨ 120968639 < sT (l.getD i (.b false)) ∨ (decide (i = 0) = false ∧ sT (l.getD i (.b false)) < sT (l.getD (i - 1) (.b false)))) → (d1Fin l lg (i + 1)).pick = (d1Fin l lg i).pick := by
      intro hn
      refine pick_congr (e2.trans (if_neg hn)).symm
    rw [wrap64 (x := (i : Int) + 1) (by omega) (by omega)]
    have w1 : 0 < (i : Int) → IntKind.wrap .i64 ((i : Int) - 1) = ((i - 1 : Nat) : Int) := fun h => by rw [wrap64 (by omega) (by omega)]; omega
    have end' : (sK (l.getD i (.b false)) < 1 ∨ 4 < sK (l.getD i (.b false)) ∨ sT (l.getD i (.b false)) < 0 ∨ 120968639 < sT (l.getD i (.b false)) ∨ (decide (i = 0) = false ∧ sT (l.getD i (.b false)) < sT (l.getD (i - 1) (.b false)))) → (d1Fin l lg i).pick = (.ret, ⟨[(0, .d (.l 34 l)), (1, .d (.i .i64 lg)), (4, .c (.slice none 0 0)), (5, .c (.slice none 0 0)), (6, .d (.i .i64 1))], []⟩) := fun h => pick_false (e2.trans (if_pos h))
    refine ⟨by omega, fun a => end' (.inl a), fun a => ⟨fun b => end' (.inr (.inl b)), fun b => ⟨fun d => end' (.inr (.inr (.inl d))), fun d => ⟨fun g => end' (.inr (.inr (.inr (.inl g)))), fun g => ⟨fun z => ?_, fun z => ⟨i + 1, rfl, hi, by omega, next ?_⟩⟩⟩⟩⟩⟩
    · rw [w1 z, Int.toNat_natCast]
      refine ⟨by omega, fun q => end' (.inr (.inr (.inr (.inr ⟨by simp; omega, q⟩)))), fun q => ⟨i + 1, rfl, hi, by omega, next ?_⟩⟩
      rintro (h | h | h | h | ⟨_, h⟩)
      · exact a h
      · exact b h
      · exact d h
      · exact g h
      · exact q h
    · rintro (h | h | h | h | ⟨h, _⟩)
      · exact a h
      · exact b h
      · exact d h
      · exact g h
      · have : i = 0 := by omega
        simp [this] at h
  · have : l.drop i = [] := List.drop_eq_nil_of_le (by omega)
    exact pick_true (by rw [this]; rfl)

def sgRp : Sg := ⟨fun _ => [], spS, fun k d => match k, d with
  | 6, 0 => some ⟨[0, 1, 7], [], fun st => match st.sl with
    | [(_, .d (.l _ l)), (_, .d (.i _ lg)), _] => some (d1Fin l lg 0)
    | _ => none⟩
  | 13, 0 => some ⟨[0, 1, 9, 10], [(.cell 9 4, 26), (.cell 9 5, 29), (.cell 9 6, 62)], fun st => match st.sl with
    | [(_, .d (.l _ l)), (_, .d (.i _ lg)), _, _] => some (d2Fin l lg (0, ⟨.abs, 0, 0, [], [], []⟩))
    | _ => none⟩
  | _, _ => none⟩
def rpairE (l : List D) (lg : Int) : RS := stampL lg l ⟨.abs, 0, 0, [], [], []⟩
def rpairV (l : List D) (lg : Int) : List D × List D × Int :=
  if 1024 < (l.length : Int) then ([], [], 3) else if lg < 1 ∨ 10080 < lg then ([], [], 2) else if rchkL l true 0 = true then
    ((rpairE l lg).pr, if (rpairE l lg).ph.p = true then (rpairE l lg).an ++ [mkA 1 (rpairE l lg).fr] else (rpairE l lg).an, 0) else ([], [], 1)

theorem stampS_len (lg : Int) (s : RS) (k t : Int) : (stampS lg s k t).an.length ≤ s.an.length + 2 := by
  obtain ⟨ph, stay, pause, br, pr, an⟩ := s
  cases ph <;> simp only [stampS, lvS, stS] <;> (repeat' split) <;> simp
theorem stampL_len (lg : Int) : ∀ (l : List D) (s : RS), (stampL lg l s).an.length ≤ s.an.length + 2 * l.length
  | [], s => by simp [stampL]
  | x :: r, s => by
    have h1 := stampL_len lg r (stampS lg s (sK x) (sT x))
    have h2 := stampS_len lg s (sK x) (sT x)
    simp only [stampL, List.length_cons]
    omega

theorem rchk_chk : ∀ (l : List D) (f : Int), 0 ≤ f → rchkL l false f = chkL l f
  | [], _, _ => rfl
  | x :: r, f, hf => by
    show (if _ then false else rchkL r false (sT x)) = (if _ then false else chkL r (sT x))
    by_cases c : sK x < 1 ∨ 4 < sK x ∨ sT x < f ∨ 120968639 < sT x
    · rw [if_pos c, if_pos (by simp; omega)]
    · rw [if_neg c, if_neg (by simp; omega)]
      exact rchk_chk r (sT x) (by omega)
theorem rchk_chk0 (l : List D) (f : Int) : rchkL l true f = chkL l 0 := by
  cases l with
  | nil => rfl
  | cons x r =>
    show (if _ then false else rchkL r false (sT x)) = (if _ then false else chkL r (sT x))
    by_cases c : sK x < 1 ∨ 4 < sK x ∨ sT x < 0 ∨ 120968639 < sT x
    · rw [if_pos c, if_pos (by simp; omega)]
    · rw [if_neg c, if_neg (by simp; omega)]
      exact rchk_chk r (sT x) (by omega)

theorem rPair_ok (l : List D) (lg : Int) (hl : (l.length : Int) ≤ 4611686018427387904) : ACalls Try.prog tt 25 [.d (.l 34 l), .d (.i .i64 lg)] [] [.d (.l 29 (rpairV l lg).1), .d (.l 62 (rpairV l lg).2.1), .d (.i .i64 (rpairV l lg).2.2)] [] := by
  refine ACalls.intro (sg := sgRp) [.d, .d] pok Try.func25 rfl rfl rfl ?_
  refine (to_res (B := ((((decide ((1024 : Int) < (((List.length l) : Nat) : Int))) = true) → (([(PV.d (D.l 29 [])), (PV.d (D.l 62 [])), (PV.d (D.i .i64 (3 : Int)))] = [(PV.d (D.l 29 (Prod.fst (rpairV l lg)))), (PV.d (D.l 62 (Prod.fst (Prod.snd (rpairV l lg))))), (PV.d (D.i .i64 (Prod.snd (Prod.snd (rpairV l lg)))))]) ∧ (@Eq (List Blk) [] []))) ∧ (((decide ((1024 : Int) < (((List.length l) : Nat) : Int))) = false) → ((((decide (lg < (1 : Int))) = true) → (([(PV.d (D.l 29 [])), (PV.d (D.l 62 [])), (PV.d (D.i .i64 (2 : Int)))] = [(PV.d (D.l 29 (Prod.fst (rpairV l lg)))), (PV.d (D.l 62 (Prod.fst (Prod.snd (rpairV l lg))))), (PV.d (D.i .i64 (Prod.snd (Prod.snd (rpairV l lg)))))]) ∧ (@Eq (List Blk) [] []))) ∧ (((decide (lg < (1 : Int))) = false) → ((((decide ((10080 : Int) < lg)) = true) → (([(PV.d (D.l 29 [])), (PV.d (D.l 62 [])), (PV.d (D.i .i64 (2 : Int)))] = [(PV.d (D.l 29 (Prod.fst (rpairV l lg)))), (PV.d (D.l 62 (Prod.fst (Prod.snd (rpairV l lg))))), (PV.d (D.i .i64 (Prod.snd (Prod.snd (rpairV l lg)))))]) ∧ (@Eq (List Blk) [] []))) ∧ (((decide ((10080 : Int) < lg)) = false) → ((LCalls Try.prog tt 96 0 (loopOf Try.f25.body 6 0) (St.mk [(Prod.mk 0 (PV.d (D.l 34 l))), (Prod.mk 1 (PV.d (D.i .i64 lg))), (Prod.mk 7 (PV.d (D.i .i64 (0 : Int))))] []) (d1Fin l lg 0)) ∧ ((((rchkL (List.drop 0 l) true (sT (List.getD l 0 (D.b false)))) = true) → ((LCalls Try.prog tt 96 0 (loopOf Try.f25.body 13 0) (St.mk [(Prod.mk 0 (PV.d (D.l 34 l))), (Prod.mk 1 (PV.d (D.i .i64 lg))), (Prod.mk 9 (PV.ptr 0 0)), (Prod.mk 10 (PV.d (D.i .i64 (0 : Int))))] [(Blk.var [(PV.kb false), (PV.kb false), (PV.d (D.i .i64 (0 : Int))), (PV.d (D.i .i64 (0 : Int))), (PV.sl 1 1 0), (PV.sl 2 1 0), (PV.sl 3 1 0)]), (Blk.buf 1 26 []), (Blk.buf 1 29 []), (Blk.buf 1 62 [])]) (d2Fin l lg (Prod.mk 0 (RS.mk Rh.abs (0 : Int) (0 : Int) [] [] [])))) ∧ ((((Rh.p (RS.ph (stampL lg (List.drop 0 l) (RS.mk Rh.abs (0 : Int) (0 : Int) [] [] [])))) = true) → ((ACalls Try.prog tt 34 [(PV.ptr 0 0), (PV.d (D.i .i64 (1 : Int))), (PV.d (D.i .i64 (RS.fr (stampL lg (List.drop 0 l) (RS.mk Rh.abs (0 : Int) (0 : Int) [] [] [])))))] [(Blk.var [(PV.kb true), (PV.kb (Rh.q (RS.ph (stampL lg (List.drop 0 l) (RS.mk Rh.abs (0 : Int) (0 : Int) [] [] []))))), (PV.d (D.i .i64 (RS.fr (stampL lg (List.drop 0 l) (RS.mk Rh.abs (0 : Int) (0 : Int) [] [] []))))), (PV.d (D.i .i64 (RS.pause (stampL lg (List.drop 0 l) (RS.mk Rh.abs (0 : Int) (0 : Int) [] [] []))))), (PV.sl 1 1 (List.length (RS.br (stampL lg (List.drop 0 l) (RS.mk Rh.abs (0 : Int) (0 : Int) [] [] []))))), (PV.sl 2 1 (List.length (RS.pr (stampL lg (List.drop 0 l) (RS.mk Rh.abs (0 : Int) (0 : Int) [] [] []))))), (PV.sl 3 1 (List.length (RS.an (stampL lg (List.drop 0 l) (RS.mk Rh.abs (0 : Int) (0 : Int) [] [] [])))))]), (Blk.buf 1 26 (RS.br (stampL lg (List.drop 0 l) (RS.mk Rh.abs (0 : Int) (0 : Int) [] [] [])))), (Blk.buf 1 29 (RS.pr (stampL lg (List.drop 0 l) (RS.mk Rh.abs (0 : Int) (0 : Int) [] [] [])))), (Blk.buf 1 62 (RS.an (stampL lg (List.drop 0 l) (RS.mk Rh.abs (0 : Int) (0 : Int) [] [] []))))] [] [(Blk.var [(PV.kb true), (PV.kb (Rh.q (RS.ph (stampL lg (List.drop 0 l) (RS.mk Rh.abs (0 : Int) (0 : Int) [] [] []))))), (PV.d (D.i .i64 (RS.fr (stampL lg (List.drop 0 l) (RS.mk Rh.abs (0 : Int) (0 : Int) [] [] []))))), (PV.d (D.i .i64 (RS.pause (stampL lg (List.drop 0 l) (RS.mk Rh.abs (0 : Int) (0 : Int) [] [] []))))), (PV.sl 1 1 (List.length (RS.br (stampL lg (List.drop 0 l) (RS.mk Rh.abs (0 : Int) (0 : Int) [] [] []))))), (PV.sl 2 1 (List.length (RS.pr (stampL lg (List.drop 0 l) (RS.mk Rh.abs (0 : Int) (0 : Int) [] [] []))))), (PV.sl 3 2 (List.length ((RS.an (stampL lg (List.drop 0 l) (RS.mk Rh.abs (0 : Int) (0 : Int) [] [] []))) ++ [(D.g [(D.i .i64 (1 : Int)), (D.i .i64 (RS.fr (stampL lg (List.drop 0 l) (RS.mk Rh.abs (0 : Int) (0 : Int) [] [] []))))])])))]), (Blk.buf 1 26 (RS.br (stampL lg (List.drop 0 l) (RS.mk Rh.abs (0 : Int) (0 : Int) [] [] [])))), (Blk.buf 1 29 (RS.pr (stampL lg (List.drop 0 l) (RS.mk Rh.abs (0 : Int) (0 : Int) [] [] [])))), (Blk.buf 2 62 ((RS.an (stampL lg (List.drop 0 l) (RS.mk Rh.abs (0 : Int) (0 : Int) [] [] []))) ++ [(D.g [(D.i .i64 (1 : Int)), (D.i .i64 (RS.fr (stampL lg (List.drop 0 l) (RS.mk Rh.abs (0 : Int) (0 : Int) [] [] []))))])]))]) ∧ ((1 = 1) ∧ ((2 = 2) ∧ (([(PV.d (D.l 29 (List.take (List.length (RS.pr (stampL lg (List.drop 0 l) (RS.mk Rh.abs (0 : Int) (0 : Int) [] [] [])))) (RS.pr (stampL lg (List.drop 0 l) (RS.mk Rh.abs (0 : Int) (0 : Int) [] [] [])))))), (PV.d (D.l 62 (List.take (List.length ((RS.an (stampL lg (List.drop 0 l) (RS.mk Rh.abs (0 : Int) (0 : Int) [] [] []))) ++ [(D.g [(D.i .i64 (1 : Int)), (D.i .i64 (RS.fr (stampL lg (List.drop 0 l) (RS.mk Rh.abs (0 : Int) (0 : Int) [] [] []))))])])) ((RS.an (stampL lg (List.drop 0 l) (RS.mk Rh.abs (0 : Int) (0 : Int) [] [] []))) ++ [(D.g [(D.i .i64 (1 : Int)), (D.i .i64 (RS.fr (stampL lg (List.drop 0 l) (RS.mk Rh.abs (0 : Int) (0 : Int) [] [] []))))])])))), (PV.d (D.i .i64 (0 : Int)))] = [(PV.d (D.l 29 (Prod.fst (rpairV l lg)))), (PV.d (D.l 62 (Prod.fst (Prod.snd (rpairV l lg))))), (PV.d (D.i .i64 (Prod.snd (Prod.snd (rpairV l lg)))))]) ∧ (@Eq (List Blk) [] [])))))) ∧ (((Rh.p (RS.ph (stampL lg (List.drop 0 l) (RS.mk Rh.abs (0 : Int) (0 : Int) [] [] [])))) = false) → ((1 = 1) ∧ ((1 = 1) ∧ (([(PV.d (D.l 29 (List.take (List.length (RS.pr (stampL lg (List.drop 0 l) (RS.mk Rh.abs (0 : Int) (0 : Int) [] [] [])))) (RS.pr (stampL lg (List.drop 0 l) (RS.mk Rh.abs (0 : Int) (0 : Int) [] [] [])))))), (PV.d (D.l 62 (List.take (List.length (RS.an (stampL lg (List.drop 0 l) (RS.mk Rh.abs (0 : Int) (0 : Int) [] [] [])))) (RS.an (stampL lg (List.drop 0 l) (RS.mk Rh.abs (0 : Int) (0 : Int) [] [] [])))))), (PV.d (D.i .i64 (0 : Int)))] = [(PV.d (D.l 29 (Prod.fst (rpairV l lg)))), (PV.d (D.l 62 (Prod.fst (Prod.snd (rpairV l lg))))), (PV.d (D.i .i64 (Prod.snd (Prod.snd (rpairV l lg)))))]) ∧ (@Eq (List Blk) [] [])))))))) ∧ (((rchkL (List.drop 0 l) true (sT (List.getD l 0 (D.b false)))) = false) → (([(PV.d (D.l 29 [])), (PV.d (D.l 62 [])), (PV.d (D.i .i64 (1 : Int)))] = [(PV.d (D.l 29 (Prod.fst (rpairV l lg)))), (PV.d (D.l 62 (Prod.fst (Prod.snd (rpairV l lg))))), (PV.d (D.i .i64 (Prod.snd (Prod.snd (rpairV l lg)))))]) ∧ (@Eq (List Blk) [] [])))))))))))) (by kernel_rfl) ?_ :)
  simp only [decide_eq_true_eq, decide_eq_false_iff_not, Bool.not_eq_true', Bool.not_eq_false', List.length_nil, List.take_length, Int.toNat_natCast, List.nil_append, Nat.zero_add, eq_self, true_and, and_true, implies_true, Bool.and_true, Bool.true_and, Bool.false_and, beq_iff_eq, beq_eq_false_iff_ne, ne_eq, not_true_eq_false, not_false_eq_true, reduceCtorEq, false_implies, true_implies, cond_true, cond_false]
  refine ⟨fun a => ?_, fun a => ⟨fun b => ?_, fun b => ⟨fun c => ?_, fun c => ⟨d1_loop l lg (by omega) 0 (by simp), fun d => ⟨?_, ?_⟩, fun d => ?_⟩⟩⟩⟩
  · rw [show rpairV l lg = ([], [], 3) from if_pos a]
  · rw [show rpairV l lg = ([], [], 2) from (if_neg a).trans (if_pos (.inl b))]
  · rw [show rpairV l lg = ([], [], 2) from (if_neg a).trans (if_pos (.inr c))]
  · have d : chkL l 0 = true := by rw [← rchk_chk0 l (sT (l.getD 0 (.b false)))]; exact d
    have hx := chk_all (l := l) d (by omega)
    exact d2_loop l lg (by omega) (fun x h => ⟨(hx x h).1, by have := (hx x h).2; omega⟩) (0, ⟨.abs, 0, 0, [], [], []⟩) ⟨by simp, by simp, by simp, by simp, by simp⟩
  · have d : rchkL l true 0 = true := by rw [rchk_chk0, ← rchk_chk0 l (sT (l.getD 0 (.b false)))]; exact d
    have e : rpairV l lg = ((rpairE l lg).pr, if (rpairE l lg).ph.p = true then (rpairE l lg).an ++ [mkA 1 (rpairE l lg).fr] else (rpairE l lg).an, 0) := (if_neg a).trans ((if_neg (by omega)).trans (if_pos d))
    have hn : ((rpairE l lg).an.length : Int) ≤ 100000 := by have := stampL_len lg l ⟨.abs, 0, 0, [], [], []⟩; simp only [List.length_nil] at this; unfold rpairE; omega
    rw [e]
    have E : stampL lg (List.drop 0 l) ⟨.abs, 0, 0, [], [], []⟩ = rpairE l lg := rfl
    rw [E]
    generalize rpairE l lg = r at *
    refine ⟨fun f => ⟨ranomaly_ok true r.ph.q r.fr r.pause 1 r.br 1 r.pr 1 r.an 1 r.fr hn, ?_⟩, fun f => ?_⟩
    · rw [if_pos f]; rfl
    · rw [if_neg (by rw [f]; simp)]
  · have d : rchkL l true 0 = false := by rw [rchk_chk0, ← rchk_chk0 l (sT (l.getD 0 (.b false)))]; exact d
    rw [show rpairV l lg = ([], [], 1) from (if_neg a).trans ((if_neg (by omega)).trans (if_neg (by rw [d]; simp)))]

/-- Both readers' states agree. -/
def Sim (s : PS) (r : RS) : Prop := s.stay = r.fr ∧ s.pause = r.pause ∧ s.pr = r.pr ∧ s.an = r.an ∧ match s.ph, r.ph with
  | .absO, .abs => True
  | .absF, .abs => True
  | .pres, .pres => s.br = r.br
  | .paus, .paus => s.br = r.br
  | _, _ => False

theorem Sim.step (lg : Int) {s : PS} {r : RS} (h : Sim s r) (k t : Int) : Sim (readS lg s k t) (stampS lg r k t) := by
  obtain ⟨ph, stay, pause, br, pr, an⟩ := s
  obtain ⟨ph', fr, pause', br', pr', an'⟩ := r
  obtain ⟨h1, h2, h3, h4, h5⟩ := h
  simp only at h1 h2 h3 h4 h5
  subst h1; subst h2; subst h3; subst h4
  cases ph <;> cases ph' <;> first
    | exact h5.elim
    | (simp only at h5; try subst h5
       simp only [readS, stampS, endS, lvS, resS, stS]
       by_cases k1 : k = 1
       · simp [k1, Sim]
       by_cases k2 : k = 2
       · by_cases c : pause < t <;> by_cases c2 : lg < t - stay <;> by_cases c3 : stay < t <;> simp [k2, Sim, c, c2, c3, show (0 < t - stay) = (stay < t) by rw [eq_iff_iff]; omega]
       by_cases k3 : k = 3
       · simp [k3, Sim]
       · by_cases c : pause < t <;> simp [k1, k2, k3, c, Sim])

theorem sim_all (lg : Int) : ∀ (l : List D) {s : PS} {r : RS}, Sim s r → Sim (readL lg l s) (stampL lg l r)
  | [], s, r, h => h
  | x :: l, s, r, h => sim_all lg l (h.step lg (sK x) (sT x))

/-- The program and the reference pair alike. -/
theorem pair_same (l : List D) (lg : Int) : pairV l lg = rpairV l lg := by
  unfold pairV rpairV
  rw [rchk_chk0]
  have h := sim_all lg l (s := ⟨.absO, 0, 0, [], [], []⟩) (r := ⟨.abs, 0, 0, [], [], []⟩) ⟨rfl, rfl, rfl, rfl, trivial⟩
  change Sim (pairE l lg) (rpairE l lg) at h
  generalize pairE l lg = s at *
  generalize rpairE l lg = r at *
  obtain ⟨ph, stay, pause, br, pr, an⟩ := s
  obtain ⟨ph', fr, pause', br', pr', an'⟩ := r
  obtain ⟨h1, h2, h3, h4, h5⟩ := h
  simp only at h1 h2 h3 h4 h5
  subst h1; subst h2; subst h3; subst h4
  cases ph <;> cases ph' <;> first
    | exact h5.elim
    | simp [Ph.st, Rh.p]

end Go.Abs.C9
