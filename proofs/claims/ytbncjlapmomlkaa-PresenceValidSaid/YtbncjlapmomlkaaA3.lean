/- The abstract machine of this session, part 3: walks that the kernel reckons. -/
import Derived.Carry
import Derived.ChangeSlices
import Derived.IntWalk
import Derived.OpenShut
import Derived.SizedLaws
import Derived.WalkKit
import Derived.WideShapes
import Derived.Test.YtbncjlapmomlkaaA2
set_option linter.unusedSimpArgs false
set_option linter.unusedVariables false
/- States told anew: empty rows born, blocks in the order of their use, generations from one. -/
namespace Go.Abs
open Go.RowKit

variable {T : TT}

/-! ## Empty rows -/
def isNil : PV → Bool
  | .c (.slice none 0 0) => true
  | _ => false

theorem isNil_eq {p : PV} (h : isNil p = true) : p = .c (.slice none 0 0) := by
  unfold isNil at h
  split at h
  · rfl
  · cases h

def bornAt (e : TypeId) (st : St) : Loc → St
  | .slot k => bif isNil (get st.sl k) then ⟨(k, .sl st.hp.length 1 0) :: st.sl, hput st.hp st.hp.length (.buf 1 e [])⟩ else st
  | .cell k o => match get st.sl k with
    | .ptr b _ => match st.hp.getD b .none with
      | .var cs => bif isNil (cs.getD o .u) && Nat.blt o cs.length then ⟨st.sl, hput (hput st.hp st.hp.length (.buf 1 e [])) b (.var (cs.set o (.sl st.hp.length 1 0)))⟩ else st
      | _ => st
    | _ => st
def bornAll : List (Loc × TypeId) → St → St
  | [], st => st
  | (l, e) :: r, st => bornAll r (bornAt e st l)

theorem bornAt_sound {nt : Nat} {G : Gh} {st : St} {a : Act} {w : World} (h : SRel T nt G st a w) (e : TypeId) (l : Loc) : ∃ G', SRel T nt G' (bornAt e st l) a w ∧ Evo G st.hp w G' (bornAt e st l).hp w := by
  have same : ∃ G', SRel T nt G' st a w ∧ Evo G st.hp w G' st.hp w := ⟨G, h, Evo.refl _ _ _⟩
  have hfr : st.hp.getD st.hp.length Blk.none = Blk.none := by simp [List.getD]
  obtain ⟨q1, q2, q3⟩ := h.hp.bornNil hfr e
  have mono : ∀ k, PRel T _ w (get st.sl k) (a.tmps.getD k undef) := fun k => (h.sl k).mono q3.ext (fun _ _ => rfl)
  cases l with
  | slot k =>
    unfold bornAt
    dsimp only
    cases hn : isNil (get st.sl k) with
    | false => exact same
    | true =>
      have hv := h.sl k
      rw [isNil_eq hn] at hv
      refine ⟨_, ⟨h.n, fun j => ?_, h.df, q2⟩, q3⟩
      show PRel T _ w (get ((k, _) :: st.sl) j) _
      rw [get_cons]
      by_cases hj : k = j
      · subst hj; rw [if_pos rfl]
        generalize a.tmps.getD k undef = u at hv ⊢
        cases hv
        exact q1
      · rw [if_neg hj]; exact mono j
  | cell k o =>
    unfold bornAt
    dsimp only
    split
    case h_2 => exact same
    rename_i b off hk
    split
    case h_2 => exact same
    rename_i cs hb
    cases hn : (isNil (cs.getD o .u) && Nat.blt o cs.length) with
    | false => exact same
    | true =>
      simp only [Bool.and_eq_true] at hn
      have ho : o < cs.length := blt_iff hn.2
      have hbl : b ≠ st.hp.length := fun hx => by rw [hx, hfr] at hb; cases hb
      have hb2 : (hput st.hp st.hp.length (.buf 1 e [])).getD b Blk.none = .var cs := by rw [hput_other _ _ _ _ hbl]; exact hb
      have hblk := q2.blk b
      rw [hb2] at hblk
      cases hblk with
      | var _ n vs ty i1 i2 hh hl hc h1 =>
        have hblk' : BRel T (G.born st.hp.length none 1 0 (szOf T e) 0) w b (.var (cs.set o (.sl st.hp.length 1 0))) := by
          refine .var _ n vs ty i1 i2 hh (by simpa using hl) (fun j x v hx hv => ?_) h1
          rw [List.getElem?_set] at hx
          by_cases hj : o = j
          · subst hj
            rw [if_pos rfl, if_pos ho] at hx
            cases hx
            have hx0 : cs[o]? = some (cs.getD o .u) := by simp [List.getD, List.getElem?_eq_getElem ho]
            have := hc o _ v hx0 hv
            rw [isNil_eq hn.1] at this
            cases this
            exact q1
          · rw [if_neg hj] at hx; exact hc j x v hx hv
        obtain ⟨r1, r2⟩ := q2.step b _ (GExt.refl _) (fun _ _ => ⟨rfl, rfl⟩) rfl rfl rfl (Nat.le_refl _) (fun _ _ _ => rfl) hblk' (fun n hn => .inl hn) (fun _ m hm => ⟨.inr ⟨by rw [hb2]; rfl, hm⟩, q2.sep b m (by rw [hb2]; rfl) hm⟩)
        exact ⟨_, ⟨h.n, mono, h.df, r1⟩, q3.trans r2⟩

theorem bornAll_sound {nt : Nat} : ∀ (l : List (Loc × TypeId)) {G : Gh} {st : St} {a : Act} {w : World}, SRel T nt G st a w → ∃ G', SRel T nt G' (bornAll l st) a w ∧ Evo G st.hp w G' (bornAll l st).hp w
  | [], G, st, a, w, h => ⟨G, h, Evo.refl _ _ _⟩
  | (l, e) :: r, G, st, a, w, h => by
    obtain ⟨G1, h1, e1⟩ := bornAt_sound h e l
    obtain ⟨G2, h2, e2⟩ := bornAll_sound r h1
    exact ⟨G2, h2, e1.trans e2⟩

/-! ## Blocks in the order of their use -/
def seqN : Nat → Nat → List Nat
  | _, 0 => []
  | k, n + 1 => k :: seqN (k + 1) n
theorem seqN_get : ∀ (n k j : Nat), (seqN k n)[j]? = if j < n then some (k + j) else none
  | 0, k, j => by simp [seqN]
  | n + 1, k, j => by
    cases j with
    | zero => simp [seqN]
    | succ j =>
      simp only [seqN, List.getElem?_cons_succ]
      rw [seqN_get n (k + 1) j]
      by_cases h : j < n
      · rw [if_pos h, if_pos (by omega)]; congr 1; omega
      · rw [if_neg h, if_neg (by omega)]
theorem seqN_length (n k : Nat) : (seqN k n).length = n := by
  induction n generalizing k with
  | zero => rfl
  | succ n ih => simp [seqN, ih]

def slP : List (Nat × PV) → List PV
  | [] => []
  | (_, p) :: r => p :: slP r
def rnS (f : Nat → Option Nat) : List (Nat × PV) → Option (List (Nat × PV))
  | [] => some []
  | (k, p) :: r => match rnP f p with
    | some q => match rnS f r with
      | some r' => some ((k, q) :: r')
      | none => none
    | none => none
theorem rnS_get {f : Nat → Option Nat} : ∀ {sl sl' : List (Nat × PV)}, rnS f sl = some sl' → ∀ k, rnP f (get sl k) = some (get sl' k)
  | [], sl', h, k => by simp only [rnS, Option.some.injEq] at h; subst h; rfl
  | (q, p) :: r, sl', h, k => by
    unfold rnS at h
    split at h
    case h_2 => cases h
    rename_i p' hp
    split at h
    case h_2 => cases h
    rename_i r' hr
    cases h
    rw [get_cons, get_cons]
    by_cases hk : q = k
    · rw [if_pos hk, if_pos hk]; exact hp
    · rw [if_neg hk, if_neg hk]; exact rnS_get hr k

def refBs : List Blk → Nat → List Nat
  | [], _ => []
  | _, 0 => []
  | b :: r, n + 1 => refB b ++ refBs r n
/-- The first n0 blocks, and those that the slots or they reach. -/
def idsOf (n0 : Nat) (st : St) : List Nat := reach st.hp 600 (refs (slP st.sl) ++ refBs st.hp n0) (seqN 0 n0)
def startsN : List Nat → Nat → Nat → Bool
  | _, _, 0 => true
  | [], _, _ + 1 => false
  | x :: r, k, n + 1 => Nat.beq x k && startsN r (k + 1) n
theorem startsN_get : ∀ {ids : List Nat} {k n : Nat}, startsN ids k n = true → ∀ j, j < n → ids[j]? = some (k + j)
  | _, _, 0, _, j, hj => by omega
  | [], _, _ + 1, h, _, _ => by cases h
  | x :: r, k, n + 1, h, j, hj => by
    simp only [startsN, Bool.and_eq_true] at h
    cases j with
    | zero => simp [Nat.eq_of_beq_eq_true h.1]
    | succ j => simp only [List.getElem?_cons_succ]; rw [startsN_get h.2 j (by omega)]; congr 1; omega

theorem Evo.sub {G0 G : Gh} {hp0 hp : List Blk} {w0 w : World} (h0 : HRel T G0 hp0 w0) (ev : Evo G0 hp0 w0 G hp w) {n : Nat} (hn : hp0.length ≤ n) {ids : List Nat} (hs : startsN ids 0 n = true) {sub : List Blk}
    (hsub : rnBs (fidx ids) (ids.map fun b => hp.getD b Blk.none) = some sub) : Evo G0 hp0 w0 (G.sub ids) sub w := by
  have un : ∀ b, ¬ b < n → G0.ι b = none ∧ G0.γ b = 0 := fun b hb => h0.unborn (getD_len (by omega))
  have at_ : ∀ b, b < n → ids[b]? = some b := fun b hb => by have := startsN_get hs b hb; simpa using this
  refine ⟨ev.os, ev.tape, ev.output, ev.size, ev.keep, ev.fnew, fun m ho => ?_, ev.ext.F, fun b => ?_, fun b hz hi => ?_, fun b he hi => ?_⟩
  · obtain ⟨j, a, e⟩ := ho
    obtain ⟨_, hg⟩ := rnBs_get _ hsub
    cases hj : sub[j]? with
    | none => simp [List.getD, hj, Blk.alive] at a
    | some k =>
      obtain ⟨p, h1, h2⟩ := hg j k hj
      rw [List.getElem?_map] at h1
      cases hb : ids[j]? with
      | none => simp [hb] at h1
      | some b =>
        simp [hb] at h1
        refine ev.own m ⟨b, ?_, by simpa [Gh.sub, hb] using e⟩
        have a' : k.alive = true := by simpa [List.getD, hj] using a
        rw [rnB_alive h2, ← h1] at a'
        simpa using a'
  · by_cases hb : b < n
    · simpa [Gh.sub, at_ b hb] using ev.ext.le b
    · rw [(un b hb).2]; exact Nat.zero_le _
  · by_cases hb : b < n
    · simpa [Gh.sub, at_ b hb] using ev.ext.zero b hz hi
    · exact absurd (un b hb).1 hi
  · by_cases hb : b < n
    · simpa [Gh.sub, at_ b hb] using ev.ext.same b (by simpa [Gh.sub, at_ b hb] using he) hi
    · rcases hi with hi | hi
      · exact absurd (un b hb).1 hi
      · have := (un b hb).2; omega

/-! ## Generations from one -/
def curG : Blk → Nat
  | .buf g _ _ => g
  | .frz g _ _ => g
  | _ => 0
theorem BRel.cur {G : Gh} {w : World} {b : Nat} {k : Blk} (h : BRel T G w b k) : G.γ b = curG k := by
  cases h <;> simp [curG] <;> omega

def Gh.anew (G : Gh) (n0 : Nat) : Gh := { G with γ := fun b => if n0 ≤ b ∧ 0 < G.γ b then 1 else G.γ b }

mutual
def nwP (n0 : Nat) (hp : List Blk) : PV → PV
  | .el b g i o => bif Nat.ble n0 b then (bif Nat.beq g (curG (hp.getD b .none)) then .el b 1 i o else .u) else .el b g i o
  | .sl b g n => bif Nat.ble n0 b then (bif Nat.beq g (curG (hp.getD b .none)) then .sl b 1 n else .u) else .sl b g n
  | .sv b g o n => bif Nat.ble n0 b then (bif Nat.beq g (curG (hp.getD b .none)) then .sv b 1 o n else .u) else .sv b g o n
  | .st xs => .st (nwPs n0 hp xs)
  | .tup xs => .tup (nwPs n0 hp xs)
  | .fn f xs => .fn f (nwPs n0 hp xs)
  | p => p
def nwPs (n0 : Nat) (hp : List Blk) : List PV → List PV
  | [] => []
  | p :: ps => nwP n0 hp p :: nwPs n0 hp ps
end

theorem nwPs_get (n0 : Nat) (hp : List Blk) : ∀ (ps : List PV), (nwPs n0 hp ps).length = ps.length ∧ ∀ (j : Nat) (q : PV), (nwPs n0 hp ps)[j]? = some q → ∃ p, ps[j]? = some p ∧ nwP n0 hp p = q
  | [] => ⟨rfl, by simp [nwPs]⟩
  | p :: ps => by
    obtain ⟨h1, h2⟩ := nwPs_get n0 hp ps
    refine ⟨by simp [nwPs, h1], fun j q hq => ?_⟩
    cases j with
    | zero => simp [nwPs] at hq; exact ⟨p, rfl, hq⟩
    | succ j => exact h2 j q (by simpa [nwPs] using hq)

theorem PRel.anew {n0 : Nat} {hp : List Blk} {G : Gh} {w : World} (hc : ∀ b, G.γ b = curG (hp.getD b Blk.none)) {p : PV} {v : Value} (h : PRel T G w p v) : PRel T (G.anew n0) w (nwP n0 hp p) v := by
  have F : ∀ n, G.F n → (G.anew n0).F n := fun _ h => h
  induction h with
  | kb c => exact .kb c
  | d x v h => exact .d x v (h.mono F (fun _ _ => rfl))
  | c v => exact PRel.c v
  | st xs vs hl _ h1 ih =>
    obtain ⟨l, g⟩ := nwPs_get n0 hp xs
    unfold nwP
    exact .st _ vs (by omega) (fun j x v hx hv => let ⟨p, a, b⟩ := g j x hx; b ▸ ih j p v a hv) h1
  | tup xs vs hl _ ih =>
    obtain ⟨l, g⟩ := nwPs_get n0 hp xs
    unfold nwP
    exact .tup _ vs (by omega) (fun j x v hx hv => let ⟨p, a, b⟩ := g j x hx; b ▸ ih j p v a hv)
  | ptr b off n h h0 => exact .ptr b off n h (by simp [Gh.anew, h0])
  | elOld b g i off v h =>
    unfold nwP
    cases hb : Nat.ble n0 b with
    | true =>
      have hn : Nat.beq g (curG (hp.getD b .none)) = false := by
        cases hx : Nat.beq g (curG (hp.getD b .none)) with
        | false => rfl
        | true => have := Nat.eq_of_beq_eq_true hx; rw [← hc] at this; omega
      rw [hn]; exact .u v
    | false =>
      have : ¬ n0 ≤ b := fun hx => by rw [Nat.ble_eq_true_of_le hx] at hb; cases hb
      exact .elOld b g i off v (by simp [Gh.anew, this]; exact h)
  | el b g i off n hg h0 h hi =>
    unfold nwP
    cases hb : Nat.ble n0 b with
    | true =>
      rw [show Nat.beq g (curG (hp.getD b .none)) = true by rw [← hc, hg]; exact Nat.beq_refl _]
      have hle := Nat.le_of_ble_eq_true hb
      exact .el b 1 i off n (by simp [Gh.anew, hle]; omega) (by omega) h hi
    | false =>
      have : ¬ n0 ≤ b := fun hx => by rw [Nat.ble_eq_true_of_le hx] at hb; cases hb
      exact .el b g i off n (by simp [Gh.anew, this]; exact hg) h0 h hi
  | rp e x off bl o cs ty fr hF hh hT hc => exact .rp e x off bl o cs ty fr (F _ hF) hh hT fun j y hy => let ⟨q, h1, h2⟩ := hc j y hy; ⟨q, h1, h2.mono F (fun _ _ => rfl)⟩
  | slOld b g n v h =>
    unfold nwP
    cases hb : Nat.ble n0 b with
    | true =>
      have hn : Nat.beq g (curG (hp.getD b .none)) = false := by
        cases hx : Nat.beq g (curG (hp.getD b .none)) with
        | false => rfl
        | true => have := Nat.eq_of_beq_eq_true hx; rw [← hc] at this; omega
      rw [hn]; exact .u v
    | false =>
      have : ¬ n0 ≤ b := fun hx => by rw [Nat.ble_eq_true_of_le hx] at hb; cases hb
      exact .slOld b g n v (by simp [Gh.anew, this]; exact h)
  | slNil b g hg h0 h =>
    unfold nwP
    cases hb : Nat.ble n0 b with
    | true =>
      rw [show Nat.beq g (curG (hp.getD b .none)) = true by rw [← hc, hg]; exact Nat.beq_refl _]
      have hle := Nat.le_of_ble_eq_true hb
      exact .slNil b 1 (by simp [Gh.anew, hle]; omega) (by omega) h
    | false =>
      have : ¬ n0 ≤ b := fun hx => by rw [Nat.ble_eq_true_of_le hx] at hb; cases hb
      exact .slNil b g (by simp [Gh.anew, this]; exact hg) h0 h
  | sl b g n m hg h0 h hn =>
    unfold nwP
    cases hb : Nat.ble n0 b with
    | true =>
      rw [show Nat.beq g (curG (hp.getD b .none)) = true by rw [← hc, hg]; exact Nat.beq_refl _]
      have hle := Nat.le_of_ble_eq_true hb
      exact .sl b 1 n m (by simp [Gh.anew, hle]; omega) (by omega) h hn
    | false =>
      have : ¬ n0 ≤ b := fun hx => by rw [Nat.ble_eq_true_of_le hx] at hb; cases hb
      exact .sl b g n m (by simp [Gh.anew, this]; exact hg) h0 h hn
  | svOld b g o n v h =>
    unfold nwP
    cases hb : Nat.ble n0 b with
    | true =>
      have hn : Nat.beq g (curG (hp.getD b .none)) = false := by
        cases hx : Nat.beq g (curG (hp.getD b .none)) with
        | false => rfl
        | true => have := Nat.eq_of_beq_eq_true hx; rw [← hc] at this; omega
      rw [hn]; exact .u v
    | false =>
      have : ¬ n0 ≤ b := fun hx => by rw [Nat.ble_eq_true_of_le hx] at hb; cases hb
      exact .svOld b g o n v (by simp [Gh.anew, this]; exact h)
  | svZ b g o a cap hg h0 =>
    unfold nwP
    cases hb : Nat.ble n0 b with
    | true =>
      rw [show Nat.beq g (curG (hp.getD b .none)) = true by rw [← hc, hg]; exact Nat.beq_refl _]
      have hle := Nat.le_of_ble_eq_true hb
      exact .svZ b 1 o a cap (by simp [Gh.anew, hle]; omega) (by omega)
    | false =>
      have : ¬ n0 ≤ b := fun hx => by rw [Nat.ble_eq_true_of_le hx] at hb; cases hb
      exact .svZ b g o a cap (by simp [Gh.anew, this]; exact hg) h0
  | sv b g o n m hg h0 h hn =>
    unfold nwP
    cases hb : Nat.ble n0 b with
    | true =>
      rw [show Nat.beq g (curG (hp.getD b .none)) = true by rw [← hc, hg]; exact Nat.beq_refl _]
      have hle := Nat.le_of_ble_eq_true hb
      exact .sv b 1 o n m (by simp [Gh.anew, hle]; omega) (by omega) h hn
    | false =>
      have : ¬ n0 ≤ b := fun hx => by rw [Nat.ble_eq_true_of_le hx] at hb; cases hb
      exact .sv b g o n m (by simp [Gh.anew, this]; exact hg) h0 h hn
  | mp b n h h0 => exact .mp b n h (by simp [Gh.anew, h0])
  | fn g caps vs hl _ ih =>
    obtain ⟨l, k⟩ := nwPs_get n0 hp caps
    unfold nwP
    exact .fn g _ vs (by omega) (fun j x v hx hv => let ⟨p, a, b⟩ := k j x hx; b ▸ ih j p v a hv)
  | u v => exact .u v

def nwB (n0 : Nat) (hp : List Blk) (b : Nat) : Blk → Blk
  | .var cells => .var (nwPs n0 hp cells)
  | .buf g e xs => .buf (bif Nat.ble n0 b then 1 else g) e xs
  | .frz g e xs => .frz (bif Nat.ble n0 b then 1 else g) e xs
  | k => k
theorem nwB_alive {n0 : Nat} {hp : List Blk} {b : Nat} {k : Blk} : (nwB n0 hp b k).alive = k.alive := by cases k <;> rfl
def nwBs (n0 : Nat) (hp : List Blk) : Nat → List Blk → List Blk
  | _, [] => []
  | b, k :: r => nwB n0 hp b k :: nwBs n0 hp (b + 1) r
theorem nwBs_get (n0 : Nat) (hp : List Blk) : ∀ (l : List Blk) (k j : Nat), (nwBs n0 hp k l).getD j Blk.none = nwB n0 hp (k + j) (l.getD j Blk.none)
  | [], k, j => by simp [nwBs, nwB]
  | x :: r, k, j => by
    cases j with
    | zero => simp [nwBs]
    | succ j =>
      have := nwBs_get n0 hp r (k + 1) j
      simp only [nwBs, List.getD_cons_succ]
      rw [this]; congr 1; omega

theorem BRel.anew {n0 : Nat} {hp : List Blk} {G : Gh} {w : World} (hc : ∀ b, G.γ b = curG (hp.getD b Blk.none)) {b : Nat} {k : Blk} (h : BRel T G w b k) : BRel T (G.anew n0) w b (nwB n0 hp b k) := by
  have F : ∀ n, G.F n → (G.anew n0).F n := fun _ h => h
  have gen : ∀ g, g = G.γ b → 0 < g → (bif Nat.ble n0 b then 1 else g) = (G.anew n0).γ b ∧ 0 < (bif Nat.ble n0 b then 1 else g) := by
    intro g hg h0
    cases hb : Nat.ble n0 b with
    | true => have hle := Nat.le_of_ble_eq_true hb; refine ⟨?_, by simp⟩; simp [Gh.anew, hle]; omega
    | false =>
      have : ¬ n0 ≤ b := fun hx => by rw [Nat.ble_eq_true_of_le hx] at hb; cases hb
      exact ⟨by simp [Gh.anew, this]; exact hg, h0⟩
  cases h with
  | none h h0 => exact .none h (by simp [Gh.anew, h0])
  | var cells n cs ty h h0 hh hl hcc h1 =>
    obtain ⟨l, g⟩ := nwPs_get n0 hp cells
    exact .var _ n cs ty h (by simp [Gh.anew, h0]) hh (by omega) (fun j x v hx hv => let ⟨p, a, e⟩ := g j x hx; e ▸ (hcc j p v a hv).anew hc) h1
  | bufNil g e hg h0 h hl he => obtain ⟨g1, g2⟩ := gen g hg h0; exact .bufNil _ e g1 g2 h hl he
  | buf g e xs n cs hg h0 h hl he hh hkk hm hs hrow => obtain ⟨g1, g2⟩ := gen g hg h0; exact .buf _ e xs n cs g1 g2 h hl he hh hkk hm hs (hrow.mono F (fun _ _ => rfl))
  | frzNil g e hg h0 h hl he => obtain ⟨g1, g2⟩ := gen g hg h0; exact .frzNil _ e g1 g2 h hl he
  | frz g e xs n cs ty fr hg h0 h hl he hF hh hkk hrow => obtain ⟨g1, g2⟩ := gen g hg h0; exact .frz _ e xs n cs ty fr g1 g2 h hl he hF hh hkk (hrow.mono F (fun _ _ => rfl))
  | map k v es n ents clock h h0 hh hl hrow => exact .map k v es n ents clock h (by simp [Gh.anew, h0]) hh hl fun j x m hx hm => let ⟨a, c, d, e⟩ := hrow j x m hx hm; ⟨a.mono F (fun _ _ => rfl), c.mono F (fun _ _ => rfl), d, e⟩

theorem HRel.anew {G : Gh} {hp : List Blk} {w : World} (h : HRel T G hp w) (n0 : Nat) : HRel T (G.anew n0) (nwBs n0 hp 0 hp) w := by
  have hc : ∀ b, G.γ b = curG (hp.getD b Blk.none) := fun b => (h.blk b).cur
  have e : ∀ b, (nwBs n0 hp 0 hp).getD b Blk.none = nwB n0 hp b (hp.getD b Blk.none) := fun b => by rw [nwBs_get]; simp
  refine ⟨fun b => ?_, fun b b' n a a' i i' => ?_, fun b n a i => ?_, h.lt⟩
  · rw [e]; exact (h.blk b).anew hc
  · rw [e, nwB_alive] at a a'; exact h.inj b b' n a a' i i'
  · rw [e, nwB_alive] at a; exact h.sep b n a i

theorem Evo.anew {G0 G : Gh} {hp0 hp : List Blk} {w0 w : World} (h0 : HRel T G0 hp0 w0) (ev : Evo G0 hp0 w0 G hp w) {n0 : Nat} (hn : hp0.length ≤ n0) : Evo G0 hp0 w0 (G.anew n0) (nwBs n0 hp 0 hp) w := by
  have un : ∀ b, n0 ≤ b → G0.ι b = none ∧ G0.γ b = 0 := fun b hb => h0.unborn (getD_len (by omega))
  have e : ∀ b, (nwBs n0 hp 0 hp).getD b Blk.none = nwB n0 hp b (hp.getD b Blk.none) := fun b => by rw [nwBs_get]; simp
  have g : ∀ b, ¬ n0 ≤ b → (G.anew n0).γ b = G.γ b := fun b hb => by simp [Gh.anew, hb]
  refine ⟨ev.os, ev.tape, ev.output, ev.size, ev.keep, ev.fnew, fun m ⟨b, a, i⟩ => ?_, ev.ext.F, fun b => ?_, fun b hz hi => ?_, fun b he hi => ?_⟩
  · rw [e, nwB_alive] at a; exact ev.own m ⟨b, a, i⟩
  · by_cases hb : n0 ≤ b
    · rw [(un b hb).2]; exact Nat.zero_le _
    · rw [g b hb]; exact ev.ext.le b
  · by_cases hb : n0 ≤ b
    · exact absurd (un b hb).1 hi
    · rw [g b hb]; exact ev.ext.zero b hz hi
  · by_cases hb : n0 ≤ b
    · rcases hi with hi | hi
      · exact absurd (un b hb).1 hi
      · have := (un b hb).2; omega
    · rw [g b hb] at he; exact ev.ext.same b he hi

def nwS (n0 : Nat) (hp : List Blk) : List (Nat × PV) → List (Nat × PV)
  | [] => []
  | (k, p) :: r => (k, nwP n0 hp p) :: nwS n0 hp r
theorem nwS_get (n0 : Nat) (hp : List Blk) : ∀ (sl : List (Nat × PV)) (k : Nat), get (nwS n0 hp sl) k = nwP n0 hp (get sl k)
  | [], k => rfl
  | (q, p) :: r, k => by
    simp only [nwS]
    rw [get_cons, get_cons]
    by_cases hk : q = k
    · rw [if_pos hk, if_pos hk]
    · rw [if_neg hk, if_neg hk]; exact nwS_get n0 hp r k

/-! ## All of it -/
def tellS (n0 : Nat) (ks : List Nat) (nils : List (Loc × TypeId)) (st : St) : Option St :=
  let st1 := bornAll nils st
  let st2 : St := ⟨pickS st1.sl ks, st1.hp⟩
  let ids := idsOf n0 st2
  bif nodupB ids && startsN ids 0 n0 then
    match rnS (fidx ids) st2.sl, rnBs (fidx ids) (ids.map fun b => st2.hp.getD b .none) with
    | some sl, some hp => some ⟨nwS n0 hp sl, nwBs n0 hp 0 hp⟩
    | _, _ => none
  else none

theorem tellS_sound {nt n0 : Nat} {ks : List Nat} {nils : List (Loc × TypeId)} {st st' : St} (h : tellS n0 ks nils st = some st') {G0 G : Gh} {hp0 : List Blk} {w0 w : World} {a : Act} (h0 : HRel T G0 hp0 w0) (hl : hp0.length ≤ n0)
    (ev : Evo G0 hp0 w0 G st.hp w) (hs : SRel T nt G st a w) : ∃ G', SRel T nt G' st' a w ∧ Evo G0 hp0 w0 G' st'.hp w := by
  unfold tellS at h
  obtain ⟨G1, s1, e1⟩ := bornAll_sound nils hs
  generalize bornAll nils st = st1 at h s1 e1
  simp only at h
  generalize idsOf n0 ⟨pickS st1.sl ks, st1.hp⟩ = ids at h
  cases hb : (nodupB ids && startsN ids 0 n0) with
  | false => rw [hb] at h; cases h
  | true =>
    rw [hb] at h
    simp only [cond_true] at h
    simp only [Bool.and_eq_true] at hb
    have hn := nodupB_iff hb.1
    split at h
    case h_2 => cases h
    rename_i sl hp hsl hhp
    cases h
    have ev1 := ev.trans e1
    have hh := s1.hp.toSub hn hhp
    have ev2 := ev1.sub h0 hl hb.2 hhp
    have hc : ∀ b, (G1.sub ids).γ b = curG (hp.getD b Blk.none) := fun b => (hh.blk b).cur
    refine ⟨(G1.sub ids).anew n0, ⟨s1.n, fun k => ?_, s1.df, hh.anew n0⟩, ev2.anew h0 hl⟩
    rw [nwS_get]
    refine PRel.anew hc ?_
    have := rnS_get hsl k
    refine PRel.ren (Ren.toSub G1 ids) ?_ this
    rcases pickS_get st1.sl ks k with e | e
    · rw [e]; exact s1.sl k
    · rw [e]; exact .u _

end Go.Abs
/- Code over abstract states. -/
namespace Go.Abs
open Go.RowKit

variable {T : TT}

/-- From st on, c does what Q says; what lay ahead of all that (n0 blocks at most) is related to what lies behind. -/
def AWP (P : Program) (T : TT) (nt n0 : Nat) (c : Code) (st : St) (Q : Exit → St → Prop) : Prop :=
  ∀ (G0 : Gh) (hp0 : List Blk) (w0 : World) (G : Gh) (a : Act) (w : World), HRel T G0 hp0 w0 → hp0.length ≤ n0 → Evo G0 hp0 w0 G st.hp w → SRel T nt G st a w → c.wp P (CQ T nt G0 hp0 w0 Q) a w

theorem CQ.mono {nt : Nat} {G0 : Gh} {hp0 : List Blk} {w0 : World} {Q Q' : Exit → St → Prop} (hQ : ∀ e st, Q e st → Q' e st) : ∀ e a w, CQ T nt G0 hp0 w0 Q e a w → CQ T nt G0 hp0 w0 Q' e a w := by
  intro e a w h
  cases e with
  | outgrown => exact h
  | panic c => exact h
  | normal => obtain ⟨G, st, h1, h2, h3⟩ := h; exact ⟨G, st, hQ _ _ h1, h2, h3⟩
  | ret => obtain ⟨G, st, h1, h2, h3⟩ := h; exact ⟨G, st, hQ _ _ h1, h2, h3⟩
  | exit i => obtain ⟨G, st, h1, h2, h3⟩ := h; exact ⟨G, st, hQ _ _ h1, h2, h3⟩
  | goto i => obtain ⟨G, st, h1, h2, h3⟩ := h; exact ⟨G, st, hQ _ _ h1, h2, h3⟩

theorem AWP.mono {P : Program} {nt n0 : Nat} {c : Code} {st : St} {Q Q' : Exit → St → Prop} (h : AWP P T nt n0 c st Q) (hQ : ∀ e st, Q e st → Q' e st) : AWP P T nt n0 c st Q' :=
  fun G0 hp0 w0 G a w h0 hl ev hs => wp_mono (h G0 hp0 w0 G a w h0 hl ev hs) (CQ.mono hQ)

def thenQ (next : St → Prop) (Q : Exit → St → Prop) : Exit → St → Prop
  | .normal, st => next st
  | e, st => Q e st
def blockQ (id : Nat) (Q : Exit → St → Prop) : Exit → St → Prop
  | .exit id', st => bif Nat.beq id' id then Q .normal st else Q (.exit id') st
  | e, st => Q e st

theorem AWP.seq {P : Program} {nt n0 : Nat} {x y : Code} {st : St} {Q : Exit → St → Prop} (h : AWP P T nt n0 x st (thenQ (fun st' => AWP P T nt n0 y st' Q) Q)) : AWP P T nt n0 (.seq x y) st Q := by
  intro G0 hp0 w0 G a w h0 hl ev hs
  refine wp_seq (wp_mono (h G0 hp0 w0 G a w h0 hl ev hs) fun e a' w' q => ?_)
  cases e with
  | normal =>
    obtain ⟨G', st', h1, h2, h3⟩ := q
    exact h1 G0 hp0 w0 G' a' w' h0 hl h3 h2
  | _ => exact q

theorem AWP.block {P : Program} {nt n0 : Nat} {id : Nat} {c : Code} {st : St} {Q : Exit → St → Prop} (h : AWP P T nt n0 c st (blockQ id Q)) : AWP P T nt n0 (.block id c) st Q := by
  intro G0 hp0 w0 G a w h0 hl ev hs
  refine wp_block (wp_mono (h G0 hp0 w0 G a w h0 hl ev hs) fun e a' w' q => ?_)
  cases e with
  | exit id' =>
    obtain ⟨G', st', h1, h2, h3⟩ := q
    simp only [Exit.inBlock]
    simp only [blockQ] at h1
    cases hb : Nat.beq id' id with
    | true => rw [hb] at h1; rw [if_pos (Nat.eq_of_beq_eq_true hb)]; exact ⟨G', st', h1, h2, h3⟩
    | false => rw [hb] at h1; rw [if_neg (Nat.ne_of_beq_eq_false hb)]; exact ⟨G', st', h1, h2, h3⟩
  | _ => exact q

def trimSt (ks : List Nat) (n : Nat) (st : St) : St := ⟨pickS st.sl ks, st.hp.take n⟩
def trimOK (ks : List Nat) (n0 n : Nat) (st : St) : Bool := Nat.ble n0 n && refsLtS n (pickS st.sl ks) && refsLtB n (st.hp.take n)

/-- Less is enough. -/
theorem AWP.trim {P : Program} {nt n0 : Nat} {c : Code} {st : St} {Q : Exit → St → Prop} (ks : List Nat) (n : Nat) (hk : trimOK ks n0 n st = true) (h : AWP P T nt n0 c (trimSt ks n st) Q) : AWP P T nt n0 c st Q := by
  intro G0 hp0 w0 G a w h0 hl ev hs
  simp only [trimOK, Bool.and_eq_true] at hk
  have := Nat.le_of_ble_eq_true hk.1.1
  exact h G0 hp0 w0 (G.cut n) a w h0 hl (ev.cut h0 (by omega)) (hs.trim ks hk.1.2 hk.2)

/-- From a loop's head on. -/
def ALoop (P : Program) (T : TT) (nt n0 : Nat) (c : Code) (st : St) (Q : Exit → St → Prop) : Prop :=
  ∀ (G0 : Gh) (hp0 : List Blk) (w0 : World) (G : Gh) (a : Act) (w : World), HRel T G0 hp0 w0 → hp0.length ≤ n0 → Evo G0 hp0 w0 G st.hp w → SRel T nt G st a w → ∀ (b : Frame) (k : List Item) (cs : List Frame),
    ∃ e a' w', CQ T nt G0 hp0 w0 Q e a' w' ∧ Arrives P (lone (b.at a (.code c :: .inLoop c :: k)) cs w) b k cs e a' w'

theorem ALoop.awp {P : Program} {nt n0 : Nat} {c : Code} {st : St} {Q : Exit → St → Prop} (h : ALoop P T nt n0 c st Q) : AWP P T nt n0 (.loop c) st Q := by
  intro G0 hp0 w0 G a w h0 hl ev hs b k cs
  obtain ⟨e, a', w', h1, h2⟩ := h G0 hp0 w0 G a w h0 hl ev hs b k cs
  exact ⟨e, a', w', h1, .of_steps (.one step_loop) h2⟩

theorem ALoop.trim {P : Program} {nt n0 : Nat} {c : Code} {st : St} {Q : Exit → St → Prop} (ks : List Nat) (n : Nat) (hk : trimOK ks n0 n st = true) (h : ALoop P T nt n0 c (trimSt ks n st) Q) : ALoop P T nt n0 c st Q := by
  intro G0 hp0 w0 G a w h0 hl ev hs
  simp only [trimOK, Bool.and_eq_true] at hk
  have := Nat.le_of_ble_eq_true hk.1.1
  exact h G0 hp0 w0 (G.cut n) a w h0 hl (ev.cut h0 (by omega)) (hs.trim ks hk.1.2 hk.2)

theorem ALoop.anew {P : Program} {nt n0 : Nat} {c : Code} {st st' : St} {Q : Exit → St → Prop} {ks : List Nat} {nils : List (Loc × TypeId)} (hk : tellS n0 ks nils st = some st') (h : ALoop P T nt n0 c st' Q) : ALoop P T nt n0 c st Q := by
  intro G0 hp0 w0 G a w h0 hl ev hs
  obtain ⟨G', hs', ev'⟩ := tellS_sound hk h0 hl ev hs
  exact h G0 hp0 w0 G' a w h0 hl ev' hs'

theorem ALoop.mono {P : Program} {nt n0 : Nat} {c : Code} {st : St} {Q Q' : Exit → St → Prop} (h : ALoop P T nt n0 c st Q) (hQ : ∀ e st, Q e st → Q' e st) : ALoop P T nt n0 c st Q' :=
  fun G0 hp0 w0 G a w h0 hl ev hs b k cs => let ⟨e, a', w', h1, h2⟩ := h G0 hp0 w0 G a w h0 hl ev hs b k cs; ⟨e, a', w', CQ.mono hQ _ _ _ h1, h2⟩

theorem ALoop.unroll {P : Program} {nt n0 : Nat} {c : Code} {st : St} {Q : Exit → St → Prop} (h : AWP P T nt n0 c st (thenQ (fun st' => ALoop P T nt n0 c st' Q) Q)) : ALoop P T nt n0 c st Q := by
  intro G0 hp0 w0 G a w h0 hl ev hs b k cs
  obtain ⟨e, a1, w1, hq, harr⟩ := h G0 hp0 w0 G a w h0 hl ev hs b (.inLoop c :: k) cs
  cases e with
  | normal =>
    obtain ⟨G', st', h1, h2, h3⟩ := hq
    obtain ⟨e2, a2, w2, q2, arr2⟩ := h1 G0 hp0 w0 G' a1 w1 h0 hl h3 h2 b k cs
    exact ⟨e2, a2, w2, q2, .of_steps (Steps.trans harr (.one step_inLoop)) arr2⟩
  | exit id => exact ⟨.exit id, a1, w1, hq, .pass (x := .inLoop c) rfl (fun _ _ => .inl (by simp)) harr⟩
  | goto l => exact ⟨.goto l, a1, w1, hq, .pass (x := .inLoop c) rfl (fun _ _ => .inl (by simp)) harr⟩
  | ret => exact ⟨.ret, a1, w1, hq, .pass (x := .inLoop c) rfl (fun _ _ => .inl (by simp)) harr⟩
  | panic ch => exact hq.elim
  | outgrown => exact hq.elim

/-- What is asked of a program: its types, and that its regions' orders are open. -/
structure POK (P : Program) (T : TT) : Prop where
  types : TOK P T
  mix : P.follows .mixedOrders = true

theorem SRel.drew {nt : Nat} {G : Gh} {st : St} {a : Act} {w : World} (h : SRel T nt G st a w) : SRel T nt G st a { w with drawn := w.drawn + 1 } :=
  ⟨h.n, fun k => PRel.mono (w := w) (w' := { w with drawn := w.drawn + 1 }) (GExt.refl G) (fun _ _ => rfl) (h.sl k), h.df, ⟨fun b => BRel.mono (w := w) (w' := { w with drawn := w.drawn + 1 }) (GExt.refl G) (fun _ _ => rfl) rfl (fun e _ => e) (fun _ _ => rfl) (h.hp.blk b), h.hp.inj, h.hp.sep, h.hp.lt⟩⟩

theorem Evo.drew {G0 G : Gh} {hp0 hp : List Blk} {w0 w : World} (h : Evo G0 hp0 w0 G hp w) : Evo G0 hp0 w0 G hp { w with drawn := w.drawn + 1 } :=
  ⟨h.os, h.tape, h.output, h.size, h.keep, h.fnew, h.own, h.ext⟩

/-- From st on, the loop of c ends as E says. -/
structure LCalls (P : Program) (T : TT) (nt n0 : Nat) (c : Code) (st : St) (E : Ends) : Prop where
  go : ∀ Q : Exit → St → Prop, E.all Q → ALoop P T nt n0 c st Q

/-- Loops have names: the first region's number, and how many loops lie in it. -/
def firstR : Code → Option Nat
  | .region id _ _ => some id
  | .seq x y => match firstR x with | some k => some k | none => firstR y
  | .cond _ x y => match firstR x with | some k => some k | none => firstR y
  | .block _ c => firstR c
  | .loop c => firstR c
  | _ => none
def loopsIn : Code → Nat
  | .seq x y => loopsIn x + loopsIn y
  | .cond _ x y => loopsIn x + loopsIn y
  | .block _ c => loopsIn c
  | .loop c => loopsIn c + 1
  | _ => 0
def loopAt (k d : Nat) : Code → Option Code
  | .seq x y => match loopAt k d x with | some c => some c | none => loopAt k d y
  | .cond _ x y => match loopAt k d x with | some c => some c | none => loopAt k d y
  | .block _ c => loopAt k d c
  | .loop c => bif Nat.beq ((firstR c).getD 0) k && Nat.beq (loopsIn c) d then some c else loopAt k d c
  | _ => none
def loopOf (c : Option Code) (k d : Nat) : Code := match c with | some c => (loopAt k d c).getD .skip | none => .skip

/-- The walk through code; loops go their told ways. -/
def toldC (c : Operand) (b : Bool) (st : St) : St := match c with
  | .tmp k => ⟨(k, .kb b) :: st.sl, st.hp⟩
  | _ => st
theorem toldC_rel {nt : Nat} {G : Gh} {st : St} {a : Act} {w : World} (hs : SRel T nt G st a w) {c : Operand} {b : Bool} (e : a.eval c = .bool b) : SRel T nt G (toldC c b st) a w := by
  cases c with
  | tmp k => exact hs.retell (by have e : a.tmps.getD k undef = .bool b := e; rw [e]; exact .kb b)
  | _ => exact hs

def cwp (P : Program) (T : TT) (sg : Sg) (nt n0 : Nat) : Code → St → (Exit → St → Prop) → Prop
  | .skip, st, Q => Q .normal st
  | .region _ ops dr, st, Q => bif dr then (bif roOK ops 0 ops.toList [] then roW P T sg nt ops ops.toList st (Q .normal) else anyW P T sg nt ops 0 ops.toList st [] (Q .normal)) else regionW P T sg nt ops ops.toList st (Q .normal)
  | .seq x y, st, Q => cwp P T sg nt n0 x st (thenQ (fun st' => cwp P T sg nt n0 y st' Q) Q)
  | .cond c x y, st, Q => match evP st.sl c with
    | .kb t => bif t then cwp P T sg nt n0 x st Q else cwp P T sg nt n0 y st Q
    | .d (.b t) => (t = true → cwp P T sg nt n0 x (toldC c true st) Q) ∧ (t = false → cwp P T sg nt n0 y (toldC c false st) Q)
    | _ => False
  | .block id c, st, Q => cwp P T sg nt n0 c st (blockQ id Q)
  | .loop c, st, Q => match sg.lp ((firstR c).getD 0) (loopsIn c) with
    | some L => match tellS n0 L.ks L.nils st with
      | some st0 => match L.out st0 with
        | some E => LCalls P T nt n0 c st0 E ∧ E.all Q
        | none => False
      | none => False
    | none => False
  | .exit id, st, Q => Q (.exit id) st
  | .ret, st, Q => Q .ret st
  | .label _, st, Q => Q .normal st
  | _, _, _ => False

theorem cwp_sound {P : Program} {sg : Sg} {nt n0 : Nat} (hT : POK P T) : ∀ (c : Code) (st : St) (Q : Exit → St → Prop), cwp P T sg nt n0 c st Q → AWP P T nt n0 c st Q
  | .skip, st, Q, h => fun G0 hp0 w0 G a w h0 hl ev hs => wp_skip ⟨G, st, h, hs, ev⟩
  | .label _, st, Q, h => fun G0 hp0 w0 G a w h0 hl ev hs => wp_label ⟨G, st, h, hs, ev⟩
  | .ret, st, Q, h => fun G0 hp0 w0 G a w h0 hl ev hs => wp_ret ⟨G, st, h, hs, ev⟩
  | .exit id, st, Q, h => fun G0 hp0 w0 G a w h0 hl ev hs => wp_exit ⟨G, st, h, hs, ev⟩
  | .region id ops dr, st, Q, h => fun G0 hp0 w0 G a w h0 hl ev hs => by
    cases dr with
    | true =>
      refine wp_region_any hT.mix ?_
      simp only [cwp, cond_true] at h
      cases hok : roOK ops 0 ops.toList [] with
      | true => rw [hok] at h; exact ro_order hT.types h hok hs.drew ev.drew
      | false => rw [hok] at h; exact any_order hT.types h hs.drew ev.drew
    | false => exact wp_region_list (regionW_sound hT.types ops.toList hs ev h)
  | .seq x y, st, Q, h => .seq ((cwp_sound hT x st _ h).mono fun e st' q => by
      cases e with
      | normal => exact cwp_sound hT y st' Q q
      | _ => exact q)
  | .cond c x y, st, Q, h => fun G0 hp0 w0 G a w h0 hl ev hs => by
    have hv := hs.ev c
    unfold cwp at h
    split at h
    · rename_i t ht
      rw [ht] at hv
      have e : a.eval c = .bool t := by generalize a.eval c = u at hv; cases hv; rfl
      cases t with
      | true => exact wp_cond_true e (cwp_sound hT x st Q h G0 hp0 w0 G a w h0 hl ev hs)
      | false => exact wp_cond_false e (cwp_sound hT y st Q h G0 hp0 w0 G a w h0 hl ev hs)
    · rename_i t ht
      rw [ht] at hv
      have e : a.eval c = .bool t := boolP_rel hv rfl
      have hp : ∀ b, (toldC c b st).hp = st.hp := fun b => by cases c <;> rfl
      exact wp_cond_split e (fun ht => cwp_sound hT x _ Q (h.1 ht) G0 hp0 w0 G a w h0 hl (by rw [hp]; exact ev) (toldC_rel hs (ht ▸ e))) (fun ht => cwp_sound hT y _ Q (h.2 ht) G0 hp0 w0 G a w h0 hl (by rw [hp]; exact ev) (toldC_rel hs (ht ▸ e)))
    · exact h.elim
  | .block id c, st, Q, h => .block (cwp_sound hT c st _ h)
  | .loop c, st, Q, h => by
    unfold cwp at h
    split at h
    · rename_i L hL
      split at h
      · rename_i st0 h0
        split at h
        · rename_i E he
          exact ALoop.awp (ALoop.anew h0 (h.1.go Q h.2))
        · exact h.elim
      · exact h.elim
    · exact h.elim
  | .rangeFunc .., _, _, h => h.elim
  | .scope .., _, _, h => h.elim
  | .goto .., _, _, h => h.elim
  | .refuse .., _, _, h => h.elim

/-- A loop by an induction on what is left: the states at its head are told by σ. -/
theorem ALoop.ind {P : Program} {sg : Sg} {nt n0 : Nat} (hT : POK P T) {c : Code} {st : St} {Q : Exit → St → Prop} {σ : Type} (mk : σ → St) (μ : σ → Nat) (Ok : σ → Prop) (ks : List Nat) (n : Nat) (s0 : σ)
    (h0 : trimOK ks n0 n st = true ∧ trimSt ks n st = mk s0 ∧ Ok s0)
    (round : ∀ s, Ok s → cwp P T sg nt n0 c (mk s) (thenQ (fun st' => trimOK ks n0 n st' = true ∧ ∃ s', trimSt ks n st' = mk s' ∧ Ok s' ∧ μ s' < μ s) Q)) : ALoop P T nt n0 c st Q := by
  have key : ∀ m s, μ s = m → Ok s → ALoop P T nt n0 c (mk s) Q := by
    intro m
    induction m using Nat.strongRecOn with
    | _ m ih =>
      intro s hm hok
      refine ALoop.unroll ((cwp_sound hT c _ _ (round s hok)).mono fun e st' q => ?_)
      cases e with
      | normal =>
        obtain ⟨k1, s', k2, k3, k4⟩ := q
        exact ALoop.trim ks n k1 (by rw [k2]; exact ih (μ s') (by omega) s' rfl k3)
      | _ => exact q
  exact ALoop.trim ks n h0.1 (by rw [h0.2.1]; exact key (μ s0) s0 rfl h0.2.2)

theorem CQ.anew {nt n0 : Nat} {G0 : Gh} {hp0 : List Blk} {w0 : World} {Q : Exit → St → Prop} {ks : List Nat} {nils : List (Loc × TypeId)} (h0 : HRel T G0 hp0 w0) (hl : hp0.length ≤ n0) {e : Exit} {a : Act} {w : World} {Q' : Exit → St → Prop}
    (hQ : ∀ st, Q' e st → ∃ st', tellS n0 ks nils st = some st' ∧ Q e st') (h : CQ T nt G0 hp0 w0 Q' e a w) : CQ T nt G0 hp0 w0 Q e a w := by
  have key : ∀ {st : St} {G : Gh}, Q' e st → SRel T nt G st a w → Evo G0 hp0 w0 G st.hp w → ∃ G' st', Q e st' ∧ SRel T nt G' st' a w ∧ Evo G0 hp0 w0 G' st'.hp w := by
    intro st G q hs ev
    obtain ⟨st', hk, q'⟩ := hQ st q
    obtain ⟨G', hs', ev'⟩ := tellS_sound hk h0 hl ev hs
    exact ⟨_, _, q', hs', ev'⟩
  cases e with
  | outgrown => exact h
  | panic c => exact h
  | normal => obtain ⟨G, st, h1, h2, h3⟩ := h; exact key h1 h2 h3
  | ret => obtain ⟨G, st, h1, h2, h3⟩ := h; exact key h1 h2 h3
  | exit i => obtain ⟨G, st, h1, h2, h3⟩ := h; exact key h1 h2 h3
  | goto i => obtain ⟨G, st, h1, h2, h3⟩ := h; exact key h1 h2 h3

/-- What a round of a loop owes: at its end the head's next state, from which it ends alike; at an exit the told end. -/
def RoundQ {σ : Type} (n0 : Nat) (mk : σ → St) (μ : σ → Nat) (Ok : σ → Prop) (fin : σ → Ends) (ks : List Nat) (nils : List (Loc × TypeId)) (kx : List Nat) (nilx : List (Loc × TypeId)) (s : σ) : Exit → St → Prop
  | .normal, st' => match tellS n0 ks nils st' with
    | some st2 => ∃ s', st2 = mk s' ∧ Ok s' ∧ μ s' < μ s ∧ (fin s').pick = (fin s).pick
    | none => False
  | e, st' => match tellS n0 kx nilx st' with
    | some st2 => (fin s).pick = (e, st2)
    | none => False

/-- A loop's end, by an induction on what is left. -/
theorem LCalls.ind {P : Program} {sg : Sg} {nt n0 : Nat} (hT : POK P T) {c : Code} {σ : Type} (mk : σ → St) (μ : σ → Nat) (Ok : σ → Prop) (fin : σ → Ends) (ks : List Nat) (nils : List (Loc × TypeId)) (kx : List Nat) (nilx : List (Loc × TypeId))
    (round : ∀ s, Ok s → cwp P T sg nt n0 c (mk s) (RoundQ n0 mk μ Ok fin ks nils kx nilx s)) : ∀ s, Ok s → LCalls P T nt n0 c (mk s) (fin s) := by
  intro s hs
  refine ⟨fun Q hQ => ?_⟩
  have key : ∀ m s, μ s = m → Ok s → Q (fin s).pick.1 (fin s).pick.2 → ALoop P T nt n0 c (mk s) Q := by
    intro m
    induction m using Nat.strongRecOn with
    | _ m ih =>
      intro s hm hok hq
      refine ALoop.unroll ?_
      intro G0 hp0 w0 G a w h0 hl ev hs
      refine wp_mono (cwp_sound hT c _ _ (round s hok) G0 hp0 w0 G a w h0 hl ev hs) fun e a' w' q => ?_
      have other : e ≠ .normal → CQ T nt G0 hp0 w0 Q e a' w' := fun hne => CQ.anew (ks := kx) (nils := nilx) h0 hl (fun st h => by
        have h' : match tellS n0 kx nilx st with | some st2 => (fin s).pick = (e, st2) | none => False := by
          cases e <;> first | exact h | exact absurd rfl hne
        split at h'
        · rename_i st2 h2
          rw [h'] at hq
          exact ⟨st2, h2, hq⟩
        · exact h'.elim) q
      cases e with
      | normal =>
        obtain ⟨G', st', k1, h2, h3⟩ := q
        simp only [RoundQ] at k1
        split at k1
        · rename_i st2 hk
          obtain ⟨s', k2, k3, k4, k5⟩ := k1
          exact ⟨G', st', ALoop.anew hk (by rw [k2]; exact ih (μ s') (by omega) s' rfl k3 (by rw [k5]; exact hq)), h2, h3⟩
        · exact k1.elim
      | panic ch => exact q.elim
      | outgrown => exact q.elim
      | ret => have := other (by simp); exact this
      | exit i => have := other (by simp); exact this
      | goto l => have := other (by simp); exact this
  exact key (μ s) s rfl hs (Ends.all_pick hQ)

/-- The walk's remainder, reckoned by the kernel. -/
theorem to_res {A B : Prop} (h : A = B) (k : B) : A := h ▸ k

/-- The values of the results. -/
def resS (sl : List (Nat × PV)) : List ResultVar → Option (List PV)
  | [] => some []
  | .tmp t :: r => match resS sl r with | some ps => some (get sl t :: ps) | none => none
  | .cell _ _ :: _ => none

def argS : Nat → List PV → List (Nat × PV)
  | _, [] => []
  | k, p :: ps => (k, p) :: argS (k + 1) ps

theorem argS_get : ∀ (ps : List PV) (k n : Nat), get (argS k ps) n = if k ≤ n ∧ n < k + ps.length then ps.getD (n - k) .u else .u
  | [], k, n => by simp [argS, get]
  | p :: ps, k, n => by
    simp only [argS]
    rw [get_cons, argS_get ps (k + 1) n]
    by_cases h : k = n
    · subst h; simp
    · rw [if_neg h]
      by_cases h2 : k + 1 ≤ n ∧ n < k + 1 + ps.length
      · rw [if_pos h2, if_pos (by simp; omega), show n - k = (n - (k + 1)) + 1 by omega]; simp
      · rw [if_neg h2, if_neg (by simp; omega)]

def resOne (tmps : Array Value) : ResultVar → Sem Value
  | .tmp t => pure (tmps.getD t undef)
  | .cell x t => do loadVar t (← asAddr (tmps.getD x undef))

theorem results_eq (fn : Func) (tmps : Array Value) : results fn tmps = (do let vs ← fn.results.mapM (resOne tmps); pure (if h : vs.size = 1 then vs[0] else .tuple vs)) := by
  rfl

theorem resS_run {P : Program} {nt : Nat} {G : Gh} {st : St} {a : Act} {w : World} (hs : SRel T nt G st a w) : ∀ (l : List ResultVar) {ps : List PV}, resS st.sl l = some ps →
    ∃ vs, (l.mapM (resOne a.tmps) : Sem (List Value)).run P w = .ok vs w ∧ vs.length = ps.length ∧ ∀ (j : Nat) (p : PV) (v : Value), ps[j]? = some p → vs[j]? = some v → PRel T G w p v
  | [], ps, h => by simp only [resS, Option.some.injEq] at h; subst h; exact ⟨[], by simp, rfl, by simp⟩
  | .tmp t :: r, ps, h => by
    unfold resS at h
    split at h
    case h_2 => cases h
    rename_i ps' hps
    cases h
    obtain ⟨vs, h1, h2, h3⟩ := resS_run (P := P) hs r hps
    refine ⟨a.tmps.getD t undef :: vs, by simp only [List.mapM_cons, resOne, Sem.run_bind, Sem.run_pure, Result.andThen_ok, h1], by simp [h2], fun j p v hp hv => ?_⟩
    cases j with
    | zero => simp only [List.getElem?_cons_zero, Option.some.injEq] at hp hv; subst hp; subst hv; exact hs.sl t
    | succ j => exact h3 j p v (by simpa using hp) (by simpa using hv)
  | .cell _ _ :: _, ps, h => by unfold resS at h; cases h

def nbP : PV → PV
  | .kb c => .d (.b c)
  | p => p

theorem nbP_rel {G : Gh} {w : World} {p : PV} {v : Value} (h : PRel T G w p v) : PRel T G w (nbP p) v := by
  cases h <;> first
    | exact .d _ _ (.b _)
    | exact .d _ _ (by assumption)
    | exact PRel.c _
    | exact .st _ _ (by assumption) (by assumption) (by assumption)
    | exact .tup _ _ (by assumption) (by assumption)
    | exact .ptr _ _ _ (by assumption) (by assumption)
    | exact .elOld _ _ _ _ _ (by assumption)
    | exact .el _ _ _ _ _ (by assumption) (by assumption) (by assumption) (by assumption)
    | exact .rp _ _ _ _ _ _ _ _ (by assumption) (by assumption) (by assumption) (by assumption)
    | exact .slOld _ _ _ _ (by assumption)
    | exact .slNil _ _ (by assumption) (by assumption) (by assumption)
    | exact .sl _ _ _ _ (by assumption) (by assumption) (by assumption) (by assumption)
    | exact .svOld _ _ _ _ _ (by assumption)
    | exact .svZ _ _ _ _ _ (by assumption) (by assumption)
    | exact .sv _ _ _ _ _ (by assumption) (by assumption) (by assumption) (by assumption)
    | exact .mp _ _ (by assumption) (by assumption)
    | exact .fn _ _ _ (by assumption) (by assumption)
    | exact .u _

/-- Rows that are handed back by reference are born, if they are empty. -/
def resNils (T : TT) : List Md → List TypeId → Nat → List (Loc × TypeId)
  | .r :: ms, t :: ts, j => match T t with
    | some i => match i.desc with
      | .slice e => (.slot j, e) :: resNils T ms ts (j + 1)
      | _ => resNils T ms ts (j + 1)
    | none => resNils T ms ts (j + 1)
  | .d :: ms, _ :: ts, j => resNils T ms ts (j + 1)
  | _, _, _ => []
def getsL (sl : List (Nat × PV)) : Nat → Nat → List PV
  | _, 0 => []
  | k, n + 1 => get sl k :: getsL sl (k + 1) n
theorem getsL_get (sl : List (Nat × PV)) : ∀ (n k j : Nat), (getsL sl k n)[j]? = if j < n then some (get sl (k + j)) else none
  | 0, k, j => by simp [getsL]
  | n + 1, k, j => by
    cases j with
    | zero => simp [getsL]
    | succ j =>
      simp only [getsL, List.getElem?_cons_succ]
      rw [getsL_get sl n (k + 1) j]
      by_cases h : j < n
      · rw [if_pos h, if_pos (by omega), show k + 1 + j = k + (j + 1) by omega]
      · rw [if_neg h, if_neg (by omega)]
theorem getsL_length (sl : List (Nat × PV)) : ∀ (n k : Nat), (getsL sl k n).length = n
  | 0, _ => rfl
  | n + 1, k => by simp [getsL, getsL_length sl n (k + 1)]

/-- What a function owes at its end; ms: which results are handed back as data. -/
def EndOK (T : TT) (ms : List Md) (tys : List TypeId) (n0 : Nat) (rs : List ResultVar) (res : List PV) (sub' : List Blk) (st : St) : Prop :=
  match resS st.sl rs with
  | some ps => argsW T ms tys (ps.map nbP) st.hp fun qs hp' => match tellS n0 (seqN 0 qs.length) (resNils T ms tys 0) ⟨argS 0 qs, hp'⟩ with
    | some st2 => getsL st2.sl 0 qs.length = res ∧ st2.hp = sub'
    | none => False
  | none => False

def EndQ (T : TT) (ms : List Md) (tys : List TypeId) (n0 : Nat) (rs : List ResultVar) (res : List PV) (sub' : List Blk) : Exit → St → Prop
  | .normal, st => EndOK T ms tys n0 rs res sub' st
  | .ret, st => EndOK T ms tys n0 rs res sub' st
  | _, _ => False

theorem resP_refs {n : Nat} {res : List PV} (h : refsLtL n res = true) : refsLt n (resP res) = true := by
  match res, h with
  | [p], h => simp only [refsLtL, Bool.and_eq_true] at h; exact h.1
  | [], h => rfl
  | p :: q :: r, h => exact h

/-- A function's body, walked. -/
theorem ACalls.intro {P : Program} {sg : Sg} (ms : List Md) {f : FuncId} {fn : Func} {c : Code} {args res : List PV} {sub sub' : List Blk} (hT : POK P T) (hf : P.funcs[f]? = some fn) (hb : fn.body = some c) (hname : (fn.name == "runtime.NumGoroutine") = false) (hn : Nat.ble args.length fn.ntmps = true)
    (h : cwp P T sg fn.ntmps sub.length c ⟨argS 0 args, sub⟩ (EndQ T ms fn.resultTypes.toList sub.length fn.results.toList res sub')) : ACalls P T f args sub res sub' := by
  refine ⟨fun args w => ?_, fun G w vs hh hl hr => ?_⟩
  · have h1 : fn.name ≠ "runtime.NumGoroutine" := by simpa using hname
    simp [callFunc, hf, h1, hb, mark]
  · have hn := Nat.le_of_ble_eq_true hn
    refine calls_of_wp hf hb ?_
    have hs : SRel T fn.ntmps G ⟨argS 0 args, sub⟩ { tmps := vs ++ Array.replicate (fn.ntmps - vs.size) undef, defers := [] } w := by
      refine ⟨by simp; omega, fun k => ?_, rfl, hh⟩
      rw [argS_get]
      by_cases hk : 0 ≤ k ∧ k < 0 + args.length
      · rw [if_pos hk]
        have hk' : k < vs.size := by omega
        have e1 : args[k]? = some (args.getD k .u) := by simp [List.getD, List.getElem?_eq_getElem (show k < args.length by omega)]
        have e2 : (vs ++ Array.replicate (fn.ntmps - vs.size) undef).getD k undef = vs[k] := by
          rw [Array.getD_eq_getD_getElem?, Array.getElem?_append_left hk', Array.getElem?_eq_getElem hk']; rfl
        show PRel T G w (args.getD (k - 0) .u) ((vs ++ Array.replicate (fn.ntmps - vs.size) undef).getD k undef)
        rw [e2, Nat.sub_zero]
        exact hr k _ _ e1 (Array.getElem?_eq_getElem hk')
      · rw [if_neg hk]; exact .u _
    refine wp_mono (cwp_sound hT c _ _ h G sub w G _ w hh (Nat.le_refl _) (Evo.refl _ _ _) hs) fun e a' w' q => ?_
    have fin : ∀ {a' : Act} {w' : World}, Nx T fn.ntmps G sub w (EndOK T ms fn.resultTypes.toList sub.length fn.results.toList res sub') a' w' → a'.defers = [] ∧ ∃ v, (results fn a'.tmps).run P w' = .ok v w' ∧ ∃ G', HRel T G' sub' w' ∧ PRel T G' w' (resP res) v ∧ Evo G sub w G' sub' w' := by
      rintro a' w' ⟨G1, st', h1, h3, h4'⟩
      unfold EndOK at h1
      split at h1
      case h_2 => exact h1.elim
      rename_i ps hps
      obtain ⟨vs', k1, k2, k3'⟩ := resS_run (P := P) h3 fn.results.toList hps
      obtain ⟨qs, hp', G', h5, q2, k3, q4, q5, _⟩ := argsW_sound ms fn.resultTypes.toList (ps.map nbP) vs' h3.hp (by simpa using k2.symm) (fun j p v hp hv => by
        rw [List.getElem?_map] at hp
        cases hx : ps[j]? with
        | none => simp [hx] at hp
        | some x => simp [hx] at hp; subst hp; exact nbP_rel (k3' j x v hx hv)) h1
      split at h5
      case h_2 => exact h5.elim
      rename_i st2 hst
      obtain ⟨h6, h7⟩ := h5
      have h4 := h4'.trans q5
      have fake : SRel T vs'.length G' ⟨argS 0 qs, hp'⟩ { tmps := vs'.toArray, defers := [] } w' := by
        refine ⟨by simp, fun k => ?_, rfl, q4⟩
        rw [argS_get]
        by_cases hk : 0 ≤ k ∧ k < 0 + qs.length
        · rw [if_pos hk]
          have hk' : k < vs'.length := by omega
          have e1 : qs[k]? = some (qs.getD k .u) := by simp [List.getD, List.getElem?_eq_getElem (show k < qs.length by omega)]
          have e2 : (vs'.toArray).getD k undef = vs'[k] := by
            rw [Array.getD_eq_getD_getElem?]; simp [List.getElem?_eq_getElem hk']
          show PRel T G' w' (qs.getD (k - 0) .u) ((vs'.toArray).getD k undef)
          rw [e2, Nat.sub_zero]
          exact k3 k _ _ e1 (List.getElem?_eq_getElem hk')
        · rw [if_neg hk]; exact .u _
      obtain ⟨G2, s2, ev2⟩ := tellS_sound hst hh (Nat.le_refl _) h4 fake
      refine ⟨h3.df, ?_⟩
      have hrun : (results fn a'.tmps).run P w' = .ok (if h : vs'.length = 1 then vs'[0] else .tuple vs'.toArray) w' := by
        rw [results_eq, Array.mapM_eq_mapM_toList]
        simp only [Sem.run_bind, Sem.run_map]
        rw [k1]
        simp only [Result.andThen_ok, Sem.run_pure, List.size_toArray]
        by_cases h1' : vs'.length = 1
        · simp [h1']
        · simp [h1']
      have hrl : res.length = vs'.length := by rw [← h6, getsL_length]; omega
      have hres : ∀ (j : Nat) (p : PV) (v : Value), res[j]? = some p → vs'[j]? = some v → PRel T G2 w' p v := by
        intro j p v hp hv
        rw [← h6, getsL_get] at hp
        split at hp
        case isFalse => cases hp
        cases hp
        have := s2.sl (0 + j)
        rw [Array.getD_eq_getD_getElem?, Nat.zero_add] at this
        rw [Nat.zero_add]
        simpa [hv] using this
      refine ⟨_, hrun, G2, h7 ▸ s2.hp, ?_, h7 ▸ ev2⟩
      match res, hrl, hres with
      | [p], k2, k3 =>
        have hl1 : vs'.length = 1 := by simpa using k2.symm
        rw [dif_pos hl1]
        exact k3 0 p _ rfl (List.getElem?_eq_getElem (by omega))
      | [], k2, k3 =>
        have : vs' = [] := List.eq_nil_of_length_eq_zero k2.symm
        subst this
        exact .tup [] #[] rfl (by simp)
      | p :: q :: r, k2, k3 =>
        rw [dif_neg (by simp at k2; omega)]
        exact .tup _ _ (by simpa using k2.symm) (fun j x v hx hv => k3 j x v hx (by simpa using hv))
    cases e with
    | normal => exact fin q
    | ret => exact fin q
    | outgrown => exact q
    | panic ch => exact q.elim
    | exit id => obtain ⟨_, _, q, _⟩ := q; exact q.elim
    | goto l => obtain ⟨_, _, q, _⟩ := q; exact q.elim

end Go.Abs
/- Reading a law's arguments: what reads as data of a type is a datum. -/
namespace Go.Abs
open Go.RowKit

variable {T : TT}

/-- Numbers lie in their kinds, and lengths are lengths that memory has. -/
inductive Wf (T : TT) : D → Prop
  | b (x : Bool) : Wf T (.b x)
  | i (k : IntKind) (n : Int) (h : (Lit.int k n).wf = true) : Wf T (.i k n)
  | s (x : ByteArray) (h : x.size ≤ reachBytes) : Wf T (.s x)
  | l (e : TypeId) (xs : List D) (h : ∀ i, T e = some i → xs.length * i.bytes ≤ reachBytes) (ht : ∀ x ∈ xs, HasT T e x) (hx : ∀ x ∈ xs, Wf T x) : Wf T (.l e xs)
  | g (xs : List D) (hx : ∀ x ∈ xs, Wf T x) : Wf T (.g xs)

def sumF (T : TT) : List (Nat × TypeId) → List LK → Nat → Bool
  | [], ls, _ => ls.isEmpty
  | (o, t) :: fs, ls, k => match T t with
    | some i => Nat.beq o k && decide (ls.take i.leaves.length = i.leaves) && sumF T fs (ls.drop i.leaves.length) (k + i.leaves.length)
    | none => false

def goodT (T : TT) (S : List TypeId) (t : TypeId) : Bool := match T t with
  | none => false
  | some i => match i.desc with
    | .bool => decide (i.leaves = [.bool])
    | .int k => decide (i.leaves = [.int k])
    | .str => decide (i.leaves = [.str])
    | .slice e => decide (i.leaves = [.slice e]) && S.contains e && (match T e with | some j => !j.leaves.isEmpty | none => false)
    | .struct fs => sumF T fs i.leaves 0 && fs.all (fun f => S.contains f.2)
    | _ => false
def goodB (T : TT) (S : List TypeId) : Bool := S.all (goodT T S)

/-- The cells cs are the leaves ys. -/
structure RowD (T : TT) (F : Nat → Prop) (w : World) (ls : List LK) (cs : List Value) (ys : List D) : Prop where
  len : ys.length = ls.length
  cl : cs.length = ls.length
  ok : ∀ (j : Nat) (k : LK) (y : D), ls[j]? = some k → ys[j]? = some y → k.okD y
  rep : ∀ (j : Nat) (y : D) (c : Value), ys[j]? = some y → cs[j]? = some c → Rep T F w y c
  wf : ∀ y ∈ ys, Wf T y

theorem RowD.one {F : Nat → Prop} {w : World} {k : LK} {c : Value} {y : D} (h : k.okD y) (hr : Rep T F w y c) (hw : Wf T y) : RowD T F w [k] [c] [y] := by
  refine ⟨rfl, rfl, fun j k' y' h1 h2 => ?_, fun j y' c' h1 h2 => ?_, fun y' hy => by simp at hy; subst hy; exact hw⟩
  · cases j with
    | zero => simp at h1 h2; subst h1; subst h2; exact h
    | succ j => simp at h1
  · cases j with
    | zero => simp at h1 h2; subst h1; subst h2; exact hr
    | succ j => simp at h1

theorem RowD.append {F : Nat → Prop} {w : World} {l1 l2 : List LK} {c1 c2 : List Value} {y1 y2 : List D} (h1 : RowD T F w l1 c1 y1) (h2 : RowD T F w l2 c2 y2) : RowD T F w (l1 ++ l2) (c1 ++ c2) (y1 ++ y2) := by
  have a := h1.len; have b := h1.cl
  refine ⟨by simp [h1.len, h2.len], by simp [h1.cl, h2.cl], fun j k y hk hy => ?_, fun j y c hy hc => ?_, fun y hy => ?_⟩
  · by_cases hj : j < l1.length
    · rw [List.getElem?_append_left hj] at hk; rw [List.getElem?_append_left (by omega)] at hy; exact h1.ok j k y hk hy
    · rw [List.getElem?_append_right (by omega)] at hk hy; rw [a] at hy; exact h2.ok _ k y hk hy
  · by_cases hj : j < y1.length
    · rw [List.getElem?_append_left hj] at hy; rw [List.getElem?_append_left (by omega)] at hc; exact h1.rep j y c hy hc
    · rw [List.getElem?_append_right (by omega)] at hy; rw [List.getElem?_append_right (by omega), b, ← a] at hc; exact h2.rep _ y c hy hc
  · rcases List.mem_append.1 hy with h | h
    · exact h1.wf y h
    · exact h2.wf y h

theorem list_each {α : Type} {R : Nat → α → Prop} : ∀ n : Nat, (∀ i, i < n → ∃ a, R i a) → ∃ l : List α, l.length = n ∧ ∀ i a, l[i]? = some a → R i a
  | 0, _ => ⟨[], rfl, fun i a h => by simp at h⟩
  | n + 1, h => by
    obtain ⟨l, hl, hr⟩ := list_each n (fun i hi => h i (by omega))
    obtain ⟨a, ha⟩ := h n (by omega)
    refine ⟨l ++ [a], by simp [hl], fun i b hb => ?_⟩
    rcases Nat.lt_or_ge i l.length with hi | hi
    · rw [List.getElem?_append_left hi] at hb; exact hr i b hb
    · rw [List.getElem?_append_right hi] at hb
      have : i - l.length = 0 := by
        rcases Nat.eq_zero_or_pos (i - l.length) with h0 | h0
        · exact h0
        · rw [List.getElem?_eq_none (by simp; omega)] at hb; cases hb
      rw [this] at hb
      simp at hb
      subst hb
      rw [show i = n by omega]; exact ha

theorem cells_of {w : World} {base : Nat} {a : Addr} {n : Nat} {cs : List Value} (h : w.cells? base a n = some cs) : cs.length = n ∧ ∀ i u, cs[i]? = some u → w.cell? (a.add i) = some u := by
  unfold World.cells? at h
  split at h
  · refine ⟨by simpa using mapM_some_length h, fun i u hu => ?_⟩
    have hl := mapM_some_length h
    have hi : i < n := by
      have := (List.getElem?_eq_some_iff.1 hu).1
      rw [List.length_range] at hl; omega
    have := mapM_some_get h i i (by simp [hi])
    rw [this, hu]
  · cases h

theorem add_add (a : Addr) (m j : Nat) : (a.add m).add j = a.add (m + j) := by
  unfold Addr.add
  split <;> split <;> simp_all <;> omega

/-- Weights within reach. -/
def Wt {H : Type} (P : Program) (t : TypeId) (d : DataW H) : Prop := ∀ n ∈ d.weights P t, n ≤ reachBytes

theorem weights_all_mem {H : Type} {P : Program} {e : TypeId} : ∀ {ds : List (DataW H)} {d : DataW H}, d ∈ ds → ∀ n ∈ d.weights P e, n ∈ DataW.weightsAll P e ds
  | d0 :: ds, d, hd, n, hn => by
    simp only [DataW.weightsAll, List.mem_append]
    rcases List.mem_cons.1 hd with rfl | h
    · exact .inl hn
    · exact .inr (weights_all_mem h n hn)

section
variable {H : Type} {enc : TypeId × Value → H} {P : Program} {w : World} {base : Nat} {sp : Nat → Bool} {held : Bool} {F : Nat → Prop}

theorem fields_row {S : List TypeId} {n : Nat} (hT : TOK P T)
    (ih : ∀ (t : TypeId) (cs : List Value) (x : DataW H × List MemPlace), t ∈ S → DataW.trod enc P w base sp held n t cs = some x → Wt P t x.1 → ∃ i ys, T t = some i ∧ RowD T F w i.leaves cs ys) :
    ∀ (fs : List (Nat × TypeId)) (ls : List LK) (o : Nat) (cs : List Value), sumF T fs ls o = true → (∀ f ∈ fs, f.2 ∈ S) → cs.length = o + ls.length →
      (∀ f ∈ fs, ∃ x : DataW H × List MemPlace, DataW.trod enc P w base sp held n f.2 ((cs.drop f.1).take (P.cellsOf f.2)) = some x ∧ Wt P f.2 x.1) → ∃ ys, RowD T F w ls (cs.drop o) ys
  | [], ls, o, cs, h, _, hl, _ => by
    simp only [sumF, List.isEmpty_iff] at h
    subst h
    refine ⟨[], rfl, by simp at hl ⊢; omega, by simp, by simp, by simp⟩
  | (o', t) :: fs, ls, o, cs, h, hS, hl, hx => by
    unfold sumF at h
    split at h
    case h_2 => cases h
    rename_i i hi
    simp only [Bool.and_eq_true, decide_eq_true_eq] at h
    obtain ⟨⟨h1, h2⟩, h3⟩ := h
    have h1 := Nat.eq_of_beq_eq_true h1
    subst h1
    obtain ⟨inf, q1, q2, _⟩ := (hT t i hi).info
    have hc : P.cellsOf t = i.leaves.length := by simp [Program.cellsOf, q1, q2]
    obtain ⟨x, hx1, hx2⟩ := hx (o', t) (by simp)
    obtain ⟨i', ys, hi', hr⟩ := ih t _ x (hS (o', t) (by simp)) hx1 hx2
    rw [hi] at hi'; cases hi'
    have hln : i.leaves.length ≤ ls.length := by
      have := congrArg List.length h2
      rw [List.length_take] at this; omega
    obtain ⟨zs, hz⟩ := fields_row hT ih fs (ls.drop i.leaves.length) (o' + i.leaves.length) cs h3 (fun f hf => hS f (by simp [hf])) (by simp; omega) (fun f hf => hx f (by simp [hf]))
    refine ⟨ys ++ zs, ?_⟩
    have e1 : ls = i.leaves ++ ls.drop i.leaves.length := by conv => lhs; rw [← List.take_append_drop i.leaves.length ls, h2]
    have e2 : cs.drop o' = (cs.drop o').take (P.cellsOf t) ++ cs.drop (o' + i.leaves.length) := by
      rw [hc, ← List.drop_drop, List.take_append_drop]
    rw [e1, e2]
    exact hr.append hz

/-- What reads as data of a good type is a row of data. -/
theorem trod_row (hT : TOK P T) {S : List TypeId} (hS : goodB T S = true) (hF : ∀ n, n < w.heap.size → F n) : ∀ (fuel : Nat) (t : TypeId) (cs : List Value) (x : DataW H × List MemPlace), t ∈ S →
    DataW.trod enc P w base sp held fuel t cs = some x → Wt P t x.1 → ∃ i ys, T t = some i ∧ RowD T F w i.leaves cs ys
  | 0, t, cs, x, ht, h, _ => by simp [DataW.trod] at h
  | fuel + 1, t, cs, x, ht, h, hw => by
    have hg := List.all_eq_true.1 hS t ht
    unfold goodT at hg
    split at hg
    case h_1 => cases hg
    rename_i i hi
    refine ⟨i, ?_⟩
    obtain ⟨d, hd, ho⟩ := (hT t i hi).desc
    split at hg
    · rename_i hds
      rw [hds] at ho
      cases d <;> simp [descOK] at ho
      obtain ⟨b, rfl, rfl⟩ := DataW.trod_bool hd h
      simp only [decide_eq_true_eq] at hg
      rw [hg]
      exact ⟨[.b b], hi, .one ⟨b, rfl⟩ (.b b) (.b b)⟩
    · rename_i k hds
      rw [hds] at ho
      cases d <;> simp [descOK] at ho
      subst ho
      obtain ⟨n, rfl, rfl, hn⟩ := DataW.trod_int hd h
      simp only [decide_eq_true_eq] at hg
      rw [hg]
      exact ⟨[.i k n], hi, .one ⟨n, rfl⟩ (.i k n) (.i k n hn)⟩
    · rename_i hds
      rw [hds] at ho
      cases d <;> simp [descOK] at ho
      obtain ⟨s, rfl, rfl, hn⟩ := DataW.trod_string hd h
      simp only [decide_eq_true_eq] at hg
      rw [hg]
      refine ⟨[.s s], hi, .one ⟨s, rfl⟩ (.s s) (.s s ?_)⟩
      have := hw s.data.toList.length (by simp [DataW.weights])
      simpa using this
    · rename_i e hds
      rw [hds] at ho
      cases d <;> simp [descOK] at ho
      subst ho
      simp only [Bool.and_eq_true, decide_eq_true_eq, List.contains_iff_mem] at hg
      obtain ⟨⟨hg1, hg2⟩, hg3⟩ := hg
      rw [hg1]
      rcases DataW.trod_slice hd h with ⟨rfl, rfl⟩ | ⟨a, len, cap, elems, rest, n, hn, rfl, rfl, hb, hl, hm, hel, hcell, _, _⟩
      · exact ⟨[.l e []], hi, .one ⟨[], rfl⟩ (.e e none 0) (.l e [] (by simp) (by simp) (by simp))⟩
      · simp only [Nat.add_right_cancel_iff] at hn
        subst hn
        split at hg3
        case h_2 => cases hg3
        rename_i j hj
        simp only [Bool.not_eq_true', List.isEmpty_eq_false_iff] at hg3
        have hpos : 0 < j.leaves.length := List.length_pos_iff.2 hg3
        obtain ⟨inf, q1, q2, q3, _⟩ := (hT e j hj).info
        have hc : P.cellsOf e = j.leaves.length := by simp [Program.cellsOf, q1, q2]
        have hby : P.bytesOf e = j.bytes := by simp [Program.bytesOf, q1, q3]
        have hwt : ∀ d ∈ elems.map (·.1), Wt P e d := fun d hd' n hn => hw n (by
          simp only [DataW.weights, hd, List.mem_cons, List.mem_append]
          exact .inr (.inl (weights_all_mem hd' n hn)))
        obtain ⟨rows, hrl, hrow⟩ := list_each (R := fun k (p : List Value × List D) => RowD T F w j.leaves p.1 p.2 ∧ ∀ q u, p.1[q]? = some u → w.cell? (a.add (k * j.leaves.length + q)) = some u) len (fun k hk => by
          have h1 := hcell k hk
          have h2 : elems[k]? = some (elems[k]'(by omega)) := List.getElem?_eq_getElem (by omega)
          rw [h2, Option.bind_eq_some_iff] at h1
          obtain ⟨cs', hcs, htr⟩ := h1
          obtain ⟨j', ys, hj', hr⟩ := trod_row hT hS hF fuel e cs' _ hg2 htr (hwt _ (List.mem_map_of_mem (List.getElem_mem (by omega))))
          rw [hj] at hj'; cases hj'
          refine ⟨(cs', ys), hr, fun q u hu => ?_⟩
          have := (cells_of hcs).2 q u hu
          rwa [add_add, hc] at this)
        subst hrl
        by_cases h0 : rows.length = 0
        · refine ⟨[.l e []], hi, .one ⟨[], rfl⟩ ?_ (.l e [] (by simp) (by simp) (by simp))⟩
          rw [h0]; exact .e e (some a) cap
        -- the block of the elements
        have hblk : ∃ cells ty fr, w.heap[a.block]? = some (.cells cells ty fr) ∧ a.spot = none := by
          have e0 : rows[0]? = some (rows[0]'(by omega)) := List.getElem?_eq_getElem (by omega)
          obtain ⟨r0, c0⟩ := hrow 0 _ e0
          have e1 := c0 0 _ (List.getElem?_eq_getElem (by rw [r0.cl]; exact hpos))
          simp only [Nat.zero_mul, Nat.add_zero, Addr.add, if_true] at e1
          unfold World.cell? at e1
          split at e1
          · rename_i c ty fr heq
            refine ⟨c, ty, fr, heq, ?_⟩
            split at e1
            · cases e1
            · rename_i hsp; simpa using hsp
          · cases e1
        obtain ⟨cells, ty, fr, hblk, hspot⟩ := hblk
        obtain ⟨bl, off, spot⟩ := a
        simp only at hspot hblk
        subst hspot
        have hFb : F bl := hF bl (by
          rcases Nat.lt_or_ge bl w.heap.size with h | h
          · exact h
          · rw [Array.getElem?_eq_none h] at hblk; cases hblk)
        have hcc : ∀ k p, rows[k]? = some p → ∀ q u, p.1[q]? = some u → cells[off + k * szOf T e + q]? = some u := fun k p hp q u hu => by
          have := (hrow k p hp).2 q u hu
          rw [addr_add, cell_at hblk] at this
          rw [szOf_eq hj, Nat.add_assoc]; exact this
        have hmk : ∀ p ∈ rows, HasT T e (mkD j.desc.agg p.2) ∧ (mkD j.desc.agg p.2).leaves = p.2 := fun p hp => by
          obtain ⟨k, hk, rfl⟩ := List.mem_iff_getElem.1 hp
          have hr := (hrow k _ (List.getElem?_eq_getElem hk)).1
          exact HasT.mk (hT e j hj) hj hr.len hr.ok
        let xs : List D := rows.map fun p => mkD j.desc.agg p.2
        have hxl : xs.length = rows.length := by simp [xs]
        have hHas : ∀ x ∈ xs, HasT T e x := fun x hx => by
          obtain ⟨p, hp, rfl⟩ := List.mem_map.1 hx
          exact (hmk p hp).1
        have hget : ∀ (k : Nat) (x : D) (q : Nat) (y : D), xs[k]? = some x → x.leaves[q]? = some y → ∃ p, rows[k]? = some p ∧ p.2[q]? = some y := fun k x q y hx hy => by
          have hx' : (rows[k]?).map (fun p => mkD j.desc.agg p.2) = some x := by rw [← List.getElem?_map]; exact hx
          cases hp : rows[k]? with
          | none => simp [hp] at hx'
          | some p =>
            simp only [hp, Option.map_some, Option.some.injEq] at hx'
            subst hx'
            rw [(hmk p (List.mem_of_getElem? hp)).2] at hy
            exact ⟨p, rfl, hy⟩
        refine ⟨[.l e xs], hi, .one ⟨xs, rfl⟩ ?_ (.l e xs (fun j' hj' => ?_) hHas (fun x hx => ?_))⟩
        · rw [← hxl]
          refine .l e xs bl off cap cells ty fr (fun k q => (((rows[k]?).getD default).1[q]?).getD undef) hFb (by omega) hblk hHas (fun k x q y hx hy => ?_) (fun k x q y hx hy => ?_)
          · obtain ⟨p, hp, hq⟩ := hget k x q y hx hy
            have hr := (hrow k p hp).1
            have hlt : q < p.1.length := by rw [hr.cl, ← hr.len]; exact (List.getElem?_eq_some_iff.1 hq).1
            have := hcc k p hp q _ (List.getElem?_eq_getElem hlt)
            rw [this, hp]
            simp [List.getElem?_eq_getElem hlt]
          · obtain ⟨p, hp, hq⟩ := hget k x q y hx hy
            have hr := (hrow k p hp).1
            have hlt : q < p.1.length := by rw [hr.cl, ← hr.len]; exact (List.getElem?_eq_some_iff.1 hq).1
            have := hr.rep q y _ hq (List.getElem?_eq_getElem hlt)
            simp only [hp, Option.getD_some, List.getElem?_eq_getElem hlt]
            exact this
        · rw [hj] at hj'; cases hj'
          have := hw ((elems.length + rest.length) * P.bytesOf e) (by simp [DataW.weights, hd])
          rw [hby] at this
          rw [hxl]
          have : rows.length * j.bytes ≤ (elems.length + rest.length) * j.bytes := Nat.mul_le_mul_right _ (by omega)
          omega
        · obtain ⟨p, hp, rfl⟩ := List.mem_map.1 hx
          obtain ⟨k, hk, rfl⟩ := List.mem_iff_getElem.1 hp
          have hr := (hrow k _ (List.getElem?_eq_getElem hk)).1
          unfold mkD
          cases j.desc.agg with
          | true => exact .g _ hr.wf
          | false =>
            show Wf T (rows[k].2.headD (.b false))
            cases hh : rows[k].2 with
            | nil => exact .b false
            | cons y ys => exact hr.wf y (by rw [hh]; simp)
    · rename_i fs hds
      rw [hds] at ho
      cases d <;> simp [descOK] at ho
      rename_i fields
      simp only [Bool.and_eq_true, List.all_eq_true, List.contains_iff_mem] at hg
      obtain ⟨hg1, hg2⟩ := hg
      obtain ⟨xs, n, hn, rfl, hlen, hsz, hall⟩ := DataW.trod_struct hd h
      simp only [Nat.add_right_cancel_iff] at hn
      subst hn
      obtain ⟨inf, q1, q2, _⟩ := (hT t i hi).info
      have hc : P.cellsOf t = i.leaves.length := by simp [Program.cellsOf, q1, q2]
      obtain ⟨ys, hy⟩ := fields_row (F := F) hT (fun t' cs' x' => trod_row hT hS hF fuel t' cs' x') fs i.leaves 0 cs hg1 hg2 (by omega) (fun f hf => by
        subst ho
        obtain ⟨fd, hfd, rfl⟩ := List.mem_map.1 hf
        obtain ⟨k, hk, rfl⟩ := List.getElem_of_mem hfd
        have h2 := hall k _ (by rw [← Array.getElem?_toList]; exact List.getElem?_eq_getElem hk)
        have hk' : k < xs.length := by rw [hsz]; simpa using hk
        have h3 : xs[k]? = some (xs[k]'hk') := List.getElem?_eq_getElem _
        rw [h3] at h2
        refine ⟨_, h2, fun m hm => hw m ?_⟩
        simp only [DataW.weights, hd]
        exact DataW.weights_mem_each (j := k) (by simp; exact ⟨_, Array.getElem?_eq_getElem (by simpa using hk), rfl⟩) (by simp [h3]) m hm)
      exact ⟨ys, hi, by simpa using hy⟩
    · cases hg

end
end Go.Abs
/- From what a function does over the abstract heap to what a law's row says. -/
namespace Go.Abs
open Go.RowKit Go.ChangeShapes Go.WideShapes

variable {T : TT}

/-- At the entry: all memory is read alone. -/
def G0 (w : World) : Gh := ⟨fun n => n < w.heap.size, fun _ => none, fun _ => 0, fun _ => 0, fun _ => 0, fun _ => 0⟩

theorem HRel.start (w : World) : HRel T (G0 w) [] w :=
  ⟨fun b => .none rfl rfl, fun b b' n h => by simp [Blk.alive] at h, fun b n h => by simp [Blk.alive] at h, fun n h => h⟩

theorem Evo.below {w w' : World} {G : Gh} {hp : List Blk} (h : Evo (G0 w) [] w G hp w') : Below w.heap.size w w' :=
  ⟨h.os, h.tape, h.output, h.size, fun n hn => h.keep n hn (by rintro ⟨b, hb, _⟩; simp [Blk.alive] at hb)⟩

theorem ACalls.run {P : Program} {f : FuncId} {args : List PV} {b : Bool} (h : ACalls P T f args [] [.d (.b b)] []) {vs : Array Value} {w : World} (hl : vs.size = args.length)
    (hr : ∀ (j : Nat) (p : PV) (v : Value), args[j]? = some p → vs[j]? = some v → PRel T (G0 w) w p v) : Calls P f vs w fun e w' => e = .returned (.bool b) ∧ Below w.heap.size w w' := by
  refine (h.2 (G0 w) w vs (HRel.start w) hl hr).mono fun e w' q => ?_
  cases e with
  | returned v =>
    obtain ⟨G', _, h2, h3⟩ := q
    have h2' : PRel T G' w' (.d (.b b)) v := h2
    have := boolP_rel h2' rfl
    subst this
    exact ⟨rfl, h3.below⟩
  | outgrown => exact q.elim
  | panicked _ => exact q.elim

section
variable {H : Type} {enc : TypeId × Value → H} {P : Program} {w : World} {sp : Nat → Bool} {held : Bool}

/-- One argument. -/
theorem opened (hT : TOK P T) {S : List TypeId} (hS : goodB T S = true) {base : Nat} {t : TypeId} {v : Value} {d : DataW H} {p : List MemPlace} (ht : t ∈ S) (hok : Value.okWide P w .any base t v)
    (h : DataW.Trod enc P w 0 sp held t v d p) (hw : Wt P t d) : ∃ x, HasT T t x ∧ Wf T x ∧ PRel T (G0 w) w (.d x) v := by
  obtain ⟨fuel, hf⟩ := h
  obtain ⟨i, ys, hi, hr⟩ := trod_row (F := (G0 w).F) hT hS (fun n hn => hn) fuel t _ _ ht hf hw
  obtain ⟨hh, hlv⟩ := HasT.mk (hT t i hi) hi hr.len hr.ok
  have hg := List.all_eq_true.1 hS t ht
  unfold goodT at hg
  rw [hi] at hg
  obtain ⟨dd, hd, ho⟩ := (hT t i hi).desc
  have single : i.desc.agg = false → v.cells = #[v] → ∃ x, HasT T t x ∧ Wf T x ∧ PRel T (G0 w) w (.d x) v := by
    intro ha hc
    rw [ha] at hh
    have h1 := (hT t i hi).one ha
    obtain ⟨y, rfl⟩ : ∃ y, ys = [y] := by
      have := hr.len
      match ys with
      | [y] => exact ⟨y, rfl⟩
      | [] => simp at this; omega
      | _ :: _ :: _ => simp at this; omega
    exact ⟨y, hh, hr.wf y (by simp), .d _ _ (hr.rep 0 y v rfl (by rw [hc]; rfl))⟩
  simp only at hg
  cases hds : i.desc with
  | bool =>
    rw [hds] at ho
    cases dd <;> simp [descOK] at ho
    obtain ⟨b, rfl⟩ := okWide_bool hd hok
    exact single (by rw [hds]; rfl) rfl
  | int k =>
    rw [hds] at ho
    cases dd <;> simp [descOK] at ho
    obtain ⟨b, rfl⟩ := okWide_int hd hok
    exact single (by rw [hds]; rfl) rfl
  | str =>
    rw [hds] at ho
    cases dd <;> simp [descOK] at ho
    obtain ⟨b, rfl⟩ := okWide_string hd hok
    exact single (by rw [hds]; rfl) rfl
  | slice e =>
    rw [hds] at ho
    cases dd <;> simp [descOK] at ho
    obtain ⟨a, b, c, rfl⟩ := okWide_slice hd hok
    exact single (by rw [hds]; rfl) rfl
  | struct fs =>
    rw [hds] at ho
    cases dd <;> simp [descOK] at ho
    have ha : i.desc.agg = true := by rw [hds]; rfl
    rw [ha] at hh
    unfold Value.okWide at hok
    rw [hd] at hok
    obtain ⟨cs, rfl, hsz, _⟩ := hok
    refine ⟨.g ys, hh, .g ys hr.wf, .d _ _ (.g ys cs (by have := hr.cl; have := hr.len; simp [Value.cells] at *; omega) (fun j x u hx hu => hr.rep j x u hx (by simpa [Value.cells] using hu)) (fun x hx => ?_))⟩
    obtain ⟨j, hj, rfl⟩ := List.mem_iff_getElem.1 hx
    exact LK.okD_leaf (hr.ok j (i.leaves[j]'(by rw [← hr.len]; exact hj)) _ (List.getElem?_eq_getElem _) (List.getElem?_eq_getElem hj))
  | ptr e => rw [hds] at hg; cases hg
  | map k e => rw [hds] at hg; cases hg
  | arr n e => rw [hds] at hg; cases hg
  | func => rw [hds] at hg; cases hg
  | other => rw [hds] at hg; cases hg

theorem openedAll (hT : TOK P T) {S : List TypeId} (hS : goodB T S = true) {base : Nat} : ∀ {tys : List TypeId} {vs : List Value} {ds : List (DataW H)} {p : List MemPlace}, (∀ t ∈ tys, t ∈ S) → (∀ (j : Nat) t v, tys[j]? = some t → vs[j]? = some v → Value.okWide P w .any base t v) →
    DataW.TrodAll enc P w 0 sp held tys vs ds p → (∀ n ∈ DataW.weightsEach P tys ds, n ≤ reachBytes) → vs.length = tys.length ∧ ds.length = tys.length ∧
      ∃ xs : List D, xs.length = tys.length ∧ (∀ (j : Nat) t x, tys[j]? = some t → xs[j]? = some x → HasT T t x ∧ Wf T x) ∧ ∀ (j : Nat) x v, xs[j]? = some x → vs[j]? = some v → PRel T (G0 w) w (.d x) v
  | [], vs, ds, p, _, _, h, _ => by
    obtain ⟨rfl, rfl, _⟩ := trodAll_nil h
    exact ⟨rfl, rfl, [], rfl, by simp, by simp⟩
  | t :: ts, vs, ds, p, hS', hok, h, hw => by
    obtain ⟨v, vs', d, ds', p1, q1, rfl, rfl, rfl, h1, h2⟩ := trodAll_cons h
    obtain ⟨x, a1, a2, a3⟩ := opened hT hS (hS' t (by simp)) (hok 0 t v rfl rfl) h1 (fun n hn => hw n (by simp only [DataW.weightsEach, List.mem_append]; exact .inl hn))
    obtain ⟨l1, l2, xs, b1, b2, b3⟩ := openedAll hT hS (tys := ts) (fun u hu => hS' u (by simp [hu])) (fun j u r hu hr => hok (j + 1) u r (by simpa using hu) (by simpa using hr)) h2 (fun n hn => hw n (by simp only [DataW.weightsEach, List.mem_append]; exact .inr hn))
    refine ⟨by simp [l1], by simp [l2], x :: xs, by simp [b1], fun j u y hu hy => ?_, fun j y r hy hr => ?_⟩
    · cases j with
      | zero => simp at hu hy; subst hu; subst hy; exact ⟨a1, a2⟩
      | succ j => exact b2 j u y (by simpa using hu) (by simpa using hy)
    · cases j with
      | zero => simp at hy hr; subst hy; subst hr; exact a3
      | succ j => exact b3 j y r (by simpa using hy) (by simpa using hr)

theorem trodAll_stays {w' : World} (hl : laidOutB P = true) (hb : Below w.heap.size w w') : ∀ {tys : List TypeId} {vs : List Value} {ds : List (DataW H)} {p : List MemPlace}, (∀ t ∈ tys, P.readableRec t = true ∧ t < P.types.size) →
    DataW.TrodAll enc P w 0 (fun _ => true) true tys vs ds p → DataW.TrodAll enc P w' 0 (fun b => decide (b < w.heap.size)) true tys vs ds p
  | [], vs, ds, p, _, h => by
    obtain ⟨rfl, rfl, rfl⟩ := trodAll_nil h
    exact trodAll_mk0
  | t :: ts, vs, ds, p, hr, h => by
    obtain ⟨v, vs', d, ds', p1, q1, rfl, rfl, rfl, h1, h2⟩ := trodAll_cons h
    refine trodAll_cons_mk (Below.trod hl (hr t (by simp)).1 (hr t (by simp)).2 h1 hb (fun x hx => ?_)) (trodAll_stays hl hb (fun u hu => hr u (by simp [hu])) h2)
    obtain ⟨m, hm⟩ := h1
    exact DataW.trod_lt m _ _ _ hm x hx
end

/-- A law that reads no package variable: its contract. -/
theorem law_ret {H : Type} {enc : TypeId × Value → H} {P : Program} (hlaid : laidOutB P = true) (hT : TOK P T) {S : List TypeId} (hS : goodB T S = true) {f : FuncId} {fn : Func} {tys : List TypeId} {rt : TypeId} (hp : fn.params.toList = tys)
    (hm : tys.all (fun t => S.contains t && P.readableRec t && decide (t < P.types.size)) = true) (hres : fn.resultTypes = #[rt]) (hrt : P.underlying rt = some .bool) {s : ChangeSpec} (hsv : s.vars = [])
    (hsf : ∀ ds : List (DataW H), ds.length = tys.length → (s.fn H ds).results = [.lit (.bool true)] ∧ (s.fn H ds).args = ds ∧ (s.fn H ds).vars = []) {W : World} {base : Nat} {args : Array Value} {ds gs : List (DataW H)} {before : List MemPlace}
    (hval : ∀ (j : Nat) t v, fn.params[j]? = some t → args[j]? = some v → Value.okWide P W .any base t v)
    (hW : DataW.Whole enc P fn.params.toList s.vars false W args.toList ds gs before)
    (hsz : (DataW.weightsEach P (fn.params.toList ++ s.plain.varTypes P) (ds ++ gs)).all (· ≤ reachBytes) = true)
    (main : ∀ xs : List D, xs.length = tys.length → (∀ (j : Nat) t x, tys[j]? = some t → xs[j]? = some x → HasT T t x ∧ Wf T x) → ACalls P T f (xs.map PV.d) [] [.d (.b true)] []) :
    Calls P f args W fun e W' => ∃ v, e = .returned v ∧ s.post enc P fn false true false false W args v W' := by
  have hW' := hW
  obtain ⟨p, q, hA, hV, rfl, hfz, hnd⟩ := hW
  rw [hsv] at hV
  obtain ⟨rfl, rfl⟩ := trodVars_none hV
  rw [hp] at hA
  have hm' : ∀ t ∈ tys, t ∈ S ∧ P.readableRec t = true ∧ t < P.types.size := fun t ht => by
    have := List.all_eq_true.1 hm t ht
    simp only [Bool.and_eq_true, List.contains_iff_mem, decide_eq_true_eq] at this
    exact ⟨this.1.1, this.1.2, this.2⟩
  have hz : ∀ n ∈ DataW.weightsEach P tys ds, n ≤ reachBytes := fun n hn => by
    have hv : s.plain.varTypes P = [] := by simp [ChangeSpec.plain, DataSpec.varTypes, hsv]
    rw [hv, hp, List.append_nil, List.append_nil] at hsz
    simpa using List.all_eq_true.1 hsz n hn
  obtain ⟨l1, l2, xs, a1, a2, a3⟩ := openedAll hT hS (fun t ht => (hm' t ht).1) (fun j t v ht hv => hval j t v (by rw [← Array.getElem?_toList, hp]; exact ht) (by simpa using hv)) hA hz
  refine ((main xs a1 a2).run (w := W) (vs := args) (by simp at l1 ⊢; omega) (fun j p v hp' hv => ?_)).mono fun e W' ⟨he, bel⟩ => ?_
  · rw [List.getElem?_map] at hp'
    cases hx : xs[j]? with
    | none => simp [hx] at hp'
    | some x => simp [hx] at hp'; subst hp'; exact a3 j x v hx (by simpa using hv)
  · subst he
    obtain ⟨s1, s2, s3⟩ := hsf ds l2
    refine ⟨_, rfl, ds, [], _, [], p, [], hW', ?_, ?_, ?_, bel.frame _, fun h => by cases h⟩
    · rw [List.append_nil, s1, hres]
      exact trodAll_mk1 (shut_bool hrt _)
    · rw [List.append_nil, s2, hp]
      exact trodAll_stays hlaid bel (fun t ht => (hm' t ht).2) hA
    · rw [List.append_nil, s3, hsv]; exact rfl

end Go.Abs
/- Words for what walks leave over. -/
namespace Go.Abs

theorem wrap64 {x : Int} (h : -9223372036854775808 ≤ x) (h' : x ≤ 9223372036854775807) : IntKind.wrap .i64 x = x := IntWalk.i64_in x ⟨h, h'⟩

/-- i64 -/
def I64 (x : Int) : Prop := -9223372036854775808 ≤ x ∧ x ≤ 9223372036854775807

def TapeOK (t : List D) (k : Int) : Prop := 0 ≤ k ∧ k ≤ t.length ∧ (t.length : Int) ≤ 4611686018427387904

def nextK (t : List D) (k n : Int) : Int := if n < 1 ∨ (t.length : Int) ≤ k then k else k + 1
def nextV (t : List D) (k n : Int) : Int := if n < 1 ∨ (t.length : Int) ≤ k then 0 else (D.toI (D.leafAt (t.getD k.toNat (.b false)) 0)) % n

theorem TapeOK.next {t : List D} {k : Int} (h : TapeOK t k) (n : Int) : TapeOK t (nextK t k n) := by
  unfold TapeOK nextK at *; split <;> omega

theorem nextV_range (t : List D) (k : Int) {n : Int} (hn : 0 < n) : 0 ≤ nextV t k n ∧ nextV t k n < n := by
  unfold nextV; split
  · omega
  · exact ⟨Int.emod_nonneg _ (by omega), Int.emod_lt_of_pos _ hn⟩

theorem tmod_mod {a n : Int} (hn : 0 < n) : (a.tmod n < 0 → a.tmod n + n = a % n) ∧ (¬ a.tmod n < 0 → a.tmod n = a % n) ∧ -n < a.tmod n ∧ a.tmod n < n := by
  have h1 := Int.tmod_lt_of_pos a hn
  have h2 := Int.lt_tmod_of_pos a hn
  have h3 := Int.tmod_add_mul_tdiv a n
  have h4 := Int.emod_add_mul_ediv a n
  have h5 := Int.emod_nonneg a (show n ≠ 0 by omega)
  have h6 := Int.emod_lt_of_pos a hn
  have key : ∀ x : Int, 0 ≤ x → x < n → (∃ q, x = a - n * q) → x = a % n := by
    rintro x hx hx' ⟨q, rfl⟩
    have : a - n * q = a % n := by
      rw [← Int.emod_eq_of_lt hx hx', Int.sub_mul_emod_self_left]
    exact this
  refine ⟨fun h => key _ (by omega) (by omega) ⟨a.tdiv n - 1, ?_⟩, fun h => key _ (by omega) (by omega) ⟨a.tdiv n, by omega⟩, h2, h1⟩
  rw [Int.mul_sub, Int.mul_one]; omega

theorem d_true {p : Prop} [Decidable p] (h : decide p = true) : p := of_decide_eq_true h
theorem d_false {p : Prop} [Decidable p] (h : decide p = false) : ¬ p := of_decide_eq_false h

theorem not_both {b : Bool} (h : b = true) (h' : b = false) : False := by rw [h] at h'; cases h'
theorem n_true {b : Bool} (h : (!b) = true) : b = false := by simpa using h
theorem n_false {b : Bool} (h : (!b) = false) : b = true := by simpa using h
theorem getD_mem {l : List D} {i : Nat} (h : i < l.length) : l.getD i (.b false) ∈ l := by simp [List.getD, List.getElem?_eq_getElem h]
theorem drop_get {l : List D} {i : Nat} (h : i < l.length) : l.drop i = l.getD i (.b false) :: l.drop (i + 1) := by
  rw [List.drop_eq_getElem_cons h]; simp [List.getD, List.getElem?_eq_getElem h]
theorem pick_true {b : Bool} {x y : Ends} (h : b = true) : (Ends.cond b x y).pick = x.pick := by subst h; rfl
theorem pick_false {b : Bool} {x y : Ends} (h : b = false) : (Ends.cond b x y).pick = y.pick := by subst h; rfl
theorem pick_congr {b b' : Bool} {x y : Ends} (h : b = b') : (Ends.cond b x y).pick = (Ends.cond b' x y).pick := by rw [h]

theorem Rets.pick_t {p : Prop} [Decidable p] {x y : Rets} (h : p) : (Rets.cond (decide p) x y).pick = x.pick := by rw [decide_eq_true h]; rfl
theorem Rets.pick_f {p : Prop} [Decidable p] {x y : Rets} (h : ¬ p) : (Rets.cond (decide p) x y).pick = y.pick := by rw [decide_eq_false h]; rfl
theorem Ends.pick_t {p : Prop} [Decidable p] {x y : Ends} (h : p) : (Ends.cond (decide p) x y).pick = x.pick := by rw [decide_eq_true h]; rfl
theorem Ends.pick_f {p : Prop} [Decidable p] {x y : Ends} (h : ¬ p) : (Ends.cond (decide p) x y).pick = y.pick := by rw [decide_eq_false h]; rfl

/-! ## What a law's arguments are -/
theorem HasT.asL {T : TT} {t e : TypeId} {i : TI} {x : D} (h : HasT T t x) (hi : T t = some i) (hl : i.leaves = [.slice e]) (ha : i.desc.agg = false) : ∃ l, x = .l e l := by
  obtain ⟨i', hi', hl', ho, hg⟩ := h
  rw [hi] at hi'; cases hi'
  have hx : x.leaves = [x] := by cases x <;> first | rfl | (rw [ha] at hg; cases hg)
  exact ho 0 (.slice e) x (by rw [hl]; rfl) (by rw [hx]; rfl)
theorem HasT.asI {T : TT} {t : TypeId} {k : IntKind} {i : TI} {x : D} (h : HasT T t x) (hi : T t = some i) (hl : i.leaves = [.int k]) (ha : i.desc.agg = false) : ∃ n, x = .i k n := by
  obtain ⟨i', hi', hl', ho, hg⟩ := h
  rw [hi] at hi'; cases hi'
  have hx : x.leaves = [x] := by cases x <;> first | rfl | (rw [ha] at hg; cases hg)
  exact ho 0 (.int k) x (by rw [hl]; rfl) (by rw [hx]; rfl)
theorem HasT.asS {T : TT} {t : TypeId} {i : TI} {x : D} (h : HasT T t x) (hi : T t = some i) (hl : i.leaves = [.str]) (ha : i.desc.agg = false) : ∃ s, x = .s s := by
  obtain ⟨i', hi', hl', ho, hg⟩ := h
  rw [hi] at hi'; cases hi'
  have hx : x.leaves = [x] := by cases x <;> first | rfl | (rw [ha] at hg; cases hg)
  exact ho 0 .str x (by rw [hl]; rfl) (by rw [hx]; rfl)
theorem HasT.asG {T : TT} {t : TypeId} {i : TI} {x : D} (h : HasT T t x) (hi : T t = some i) (ha : i.desc.agg = true) : ∃ xs, x = .g xs ∧ xs.length = i.leaves.length ∧ ∀ (j : Nat) (k : LK) (y : D), i.leaves[j]? = some k → xs[j]? = some y → k.okD y := by
  obtain ⟨i', hi', hl', ho, hg⟩ := h
  rw [hi] at hi'; cases hi'
  rw [ha] at hg
  cases x <;> simp [D.isG] at hg
  exact ⟨_, rfl, hl', ho⟩
theorem Wf.len {T : TT} {e : TypeId} {l : List D} (h : Wf T (.l e l)) {i : TI} (hi : T e = some i) : l.length * i.bytes ≤ reachBytes ∧ (∀ x ∈ l, HasT T e x) ∧ ∀ x ∈ l, Wf T x := by
  cases h with
  | l _ _ h1 h2 h3 => exact ⟨h1 i hi, h2, h3⟩
theorem Wf.int {T : TT} {n : Int} (h : Wf T (.i .i64 n)) : -9223372036854775808 ≤ n ∧ n ≤ 9223372036854775807 := by
  cases h with
  | i _ _ h => have := h; simp [Lit.wf, IntKind.min, IntKind.max, IntKind.signed, IntKind.bits] at this; omega
theorem Wf.mem {T : TT} {xs : List D} (h : Wf T (.g xs)) : ∀ x ∈ xs, Wf T x := by
  cases h with
  | g _ h => exact h

def isLT (T : TT) (t e : TypeId) : Bool := match T t with | some i => decide (i.leaves = [.slice e]) && !i.desc.agg | none => false
def isIT (T : TT) (t : TypeId) (k : IntKind) : Bool := match T t with | some i => decide (i.leaves = [.int k]) && !i.desc.agg | none => false
def isST (T : TT) (t : TypeId) : Bool := match T t with | some i => decide (i.leaves = [.str]) && !i.desc.agg | none => false
def leafLT (T : TT) (t : TypeId) (j : Nat) (e : TypeId) : Bool := match T t with | some i => decide (i.leaves[j]? = some (.slice e)) | none => false
def bytesT (T : TT) (t : TypeId) (n : Nat) : Bool := match T t with | some i => Nat.ble n i.bytes | none => false
theorem HasT.isL {T : TT} {t e : TypeId} {x : D} (h : HasT T t x) (hc : isLT T t e = true) : ∃ l, x = .l e l := by
  unfold isLT at hc
  split at hc
  · rename_i i hi; simp only [Bool.and_eq_true, decide_eq_true_eq, Bool.not_eq_true'] at hc; exact h.asL hi hc.1 hc.2
  · cases hc
theorem HasT.isI {T : TT} {t : TypeId} {k : IntKind} {x : D} (h : HasT T t x) (hc : isIT T t k = true) : ∃ n, x = .i k n := by
  unfold isIT at hc
  split at hc
  · rename_i i hi; simp only [Bool.and_eq_true, decide_eq_true_eq, Bool.not_eq_true'] at hc; exact h.asI hi hc.1 hc.2
  · cases hc
theorem HasT.isS {T : TT} {t : TypeId} {x : D} (h : HasT T t x) (hc : isST T t = true) : ∃ s, x = .s s := by
  unfold isST at hc
  split at hc
  · rename_i i hi; simp only [Bool.and_eq_true, decide_eq_true_eq, Bool.not_eq_true'] at hc; exact h.asS hi hc.1 hc.2
  · cases hc
theorem HasT.leafL {T : TT} {t e : TypeId} {j : Nat} {x : D} (h : HasT T t x) (hc : leafLT T t j e = true) : ∃ l, x.leafAt j = .l e l ∧ j < x.leaves.length := by
  unfold leafLT at hc
  split at hc
  · rename_i i hi
    simp only [decide_eq_true_eq] at hc
    obtain ⟨i', hi', hl', ho, hg⟩ := h
    rw [hi] at hi'; cases hi'
    have hj : j < x.leaves.length := by rw [hl']; exact (List.getElem?_eq_some_iff.1 hc).1
    obtain ⟨l, hl⟩ := ho j _ _ hc (List.getElem?_eq_getElem hj)
    exact ⟨l, by simp [D.leafAt, List.getD, List.getElem?_eq_getElem hj, hl], hj⟩
  · cases hc
theorem Wf.leaf {T : TT} {x : D} (h : Wf T x) {j : Nat} (hj : j < x.leaves.length) : Wf T (x.leafAt j) := by
  have e : x.leafAt j = x.leaves[j] := by simp [D.leafAt, List.getD, List.getElem?_eq_getElem hj]
  rw [e]
  cases h with
  | g xs hx => exact hx _ (List.getElem_mem hj)
  | b x => simp only [D.leaves, List.length_singleton] at hj; have : j = 0 := by omega
           subst this; exact .b x
  | i k n h => simp only [D.leaves, List.length_singleton] at hj; have : j = 0 := by omega
               subst this; exact .i k n h
  | s x h => simp only [D.leaves, List.length_singleton] at hj; have : j = 0 := by omega
             subst this; exact .s x h
  | l q xs h1 h2 h3 => simp only [D.leaves, List.length_singleton] at hj; have : j = 0 := by omega
                       subst this; exact .l q xs h1 h2 h3
theorem Wf.leN {T : TT} {e : TypeId} {l : List D} (h : Wf T (.l e l)) {n : Nat} (hc : bytesT T e n = true) : l.length * n ≤ 140737488351232 ∧ (∀ x ∈ l, HasT T e x) ∧ ∀ x ∈ l, Wf T x := by
  unfold bytesT at hc
  split at hc
  · rename_i i hi
    obtain ⟨h1, h2⟩ := h.len hi
    refine ⟨?_, h2⟩
    have := Nat.mul_le_mul_left l.length (Nat.le_of_ble_eq_true hc)
    have e : reachBytes = 140737488351232 := rfl
    omega
  · cases hc

end Go.Abs
