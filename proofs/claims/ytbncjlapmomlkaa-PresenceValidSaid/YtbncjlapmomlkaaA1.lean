/- The abstract machine of this session, part 1: walks that the kernel reckons. -/
import Derived.Below
import Derived.Great.BuildSlice
import Derived.Laws.AppendOwn
import Derived.Laws.CopyRow
import Derived.Laws.MakeOwn
import Derived.Laws.StructEq
import Derived.Maps.AppendAt
import Derived.RegionTactic
set_option linter.unusedSimpArgs false
set_option linter.unusedVariables false
/- The values, blocks and relations of the abstract machine. -/
namespace Go.Abs

inductive LK where
  | bool | int (k : IntKind) | str | slice (e : TypeId) | ptr | map | func | iface | other
  deriving DecidableEq, Inhabited

inductive TK where
  | bool | int (k : IntKind) | str | ptr (e : TypeId) | slice (e : TypeId) | map (k v : TypeId)
  | struct (fs : List (Nat × TypeId)) | arr (n : Nat) (e : TypeId) | func | other
  deriving DecidableEq, Inhabited

structure TI where
  desc : TK
  leaves : List LK
  bytes : Nat
  eq : Bool
  deriving DecidableEq, Inhabited

def TK.agg : TK → Bool
  | .struct _ => true
  | .arr _ _ => true
  | _ => false

abbrev TT := TypeId → Option TI

/-- Immutable data. -/
inductive D where
  | b (x : Bool)
  | i (k : IntKind) (n : Int)
  | s (x : ByteArray)
  | l (e : TypeId) (xs : List D)
  | g (xs : List D)
  deriving Inhabited

def D.leaves : D → List D
  | .g xs => xs
  | x => [x]
def D.leafAt (x : D) (j : Nat) : D := x.leaves.getD j (.b false)
def D.toB : D → Bool | .b x => x | _ => false
def D.toI : D → Int | .i _ n => n | _ => 0
def D.toS : D → ByteArray | .s x => x | _ => ByteArray.empty
def D.toL : D → List D | .l _ xs => xs | _ => []
def D.isG : D → Bool | .g _ => true | _ => false

def LK.norm : LK → D → D
  | .bool, x => .b x.toB
  | .int k, x => .i k x.toI
  | .str, x => .s x.toS
  | .slice e, x => .l e x.toL
  | _, x => x
def LK.isData : LK → Bool
  | .bool => true | .int _ => true | .str => true | .slice _ => true | _ => false
def LK.zeroD : LK → D
  | .bool => .b false
  | .int k => .i k 0
  | .str => .s ⟨#[]⟩
  | .slice e => .l e []
  | _ => .b false
def LK.zeroV : LK → Value
  | .bool => .bool false
  | .int k => .int k 0
  | .str => .string ⟨#[]⟩
  | .slice _ => .slice none 0 0
  | .ptr => .pointer none
  | .map => .map none
  | .func => .nilFunc
  | .iface => .nilIface
  | .other => undef

/-- Values of slots and cells. -/
inductive PV where
  | kb (c : Bool)
  | d (x : D)
  | c (v : Value)
  | st (xs : List PV)
  | tup (xs : List PV)
  | ptr (b off : Nat)
  | el (b g : Nat) (i off : Nat)
  | rp (e : TypeId) (x : D) (off : Nat)
  | sl (b g n : Nat)
  | sv (b g o n : Nat)
  | mp (b : Nat)
  | fn (f : FuncId) (caps : List PV)
  | u
  deriving Inhabited

def PV.nil : PV := .c (.slice none 0 0)

def LK.zeroP : LK → PV
  | .bool => .kb false
  | .int k => .d (.i k 0)
  | .str => .d (.s ⟨#[]⟩)
  | .slice _ => .c (.slice none 0 0)
  | .ptr => .c (.pointer none)
  | .map => .c (.map none)
  | .func => .c .nilFunc
  | .iface => .c .nilIface
  | .other => .u

inductive Blk where
  | none
  | var (cells : List PV)
  | buf (g : Nat) (e : TypeId) (xs : List D)
  | frz (g : Nat) (e : TypeId) (xs : List D)
  | map (k v : TypeId) (es : List (D × D))
  deriving Inhabited

def Blk.alive : Blk → Bool
  | .var _ => true | .buf _ _ _ => true | .map _ _ _ => true | _ => false

/-! ## The ghost state and the relations -/

/-- F: the blocks of memory that are never written any more; of each abstract block: its block of memory (ι), its generation (γ; 0: no buffer), its capacity, its elements' size and its length. -/
structure Gh where
  F : Nat → Prop
  ι : Nat → Option Nat
  γ : Nat → Nat
  κ : Nat → Nat
  et : Nat → Nat
  len : Nat → Nat

def szOf (T : TT) (e : TypeId) : Nat := match T e with | some i => i.leaves.length | none => 0

def LK.okD : LK → D → Prop
  | .bool, x => ∃ b, x = .b b
  | .int k, x => ∃ n, x = .i k n
  | .str, x => ∃ s, x = .s s
  | .slice e, x => ∃ l, x = .l e l
  | _, _ => False

/-- x has the form of type e. -/
def HasT (T : TT) (e : TypeId) (x : D) : Prop :=
  ∃ i, T e = some i ∧ x.leaves.length = i.leaves.length ∧ (∀ (j : Nat) (k : LK) (y : D), i.leaves[j]? = some k → x.leaves[j]? = some y → k.okD y) ∧ x.isG = i.desc.agg

/-- v is, in w, the datum x; memory is read in blocks of F alone. -/
inductive Rep (T : TT) (F : Nat → Prop) (w : World) : D → Value → Prop
  | b (x : Bool) : Rep T F w (.b x) (.bool x)
  | i (k : IntKind) (n : Int) : Rep T F w (.i k n) (.int k n)
  | s (x : ByteArray) : Rep T F w (.s x) (.string x)
  | g (xs : List D) (vs : Array Value) (hl : vs.size = xs.length) (h : ∀ (j : Nat) (x : D) (v : Value), xs[j]? = some x → vs[j]? = some v → Rep T F w x v) (hg : ∀ x ∈ xs, x.isG = false) : Rep T F w (.g xs) (.agg vs)
  | e (e : TypeId) (a : Option Addr) (cap : Nat) : Rep T F w (.l e []) (.slice a 0 cap)
  | l (e : TypeId) (xs : List D) (bl off cap : Nat) (cs : Array Value) (ty : TypeId) (fr : Nat × Nat) (c : Nat → Nat → Value)
      (hF : F bl) (hcap : xs.length ≤ cap) (hh : w.heap[bl]? = some (.cells cs ty fr))
      (hT : ∀ x ∈ xs, HasT T e x)
      (hc : ∀ (i : Nat) (x : D) (j : Nat) (y : D), xs[i]? = some x → x.leaves[j]? = some y → cs[off + i * szOf T e + j]? = some (c i j))
      (hr : ∀ (i : Nat) (x : D) (j : Nat) (y : D), xs[i]? = some x → x.leaves[j]? = some y → Rep T F w y (c i j)) :
      Rep T F w (.l e xs) (.slice (some ⟨bl, off, none⟩) xs.length cap)

/-- From address ⟨bl, off⟩ on lie the cells of the elements xs. -/
def Row (T : TT) (F : Nat → Prop) (w : World) (e : TypeId) (cs : Array Value) (off : Nat) (xs : List D) : Prop :=
  (∀ x ∈ xs, HasT T e x) ∧ ∀ (i : Nat) (x : D) (j : Nat) (y : D), xs[i]? = some x → x.leaves[j]? = some y → ∃ c, cs[off + i * szOf T e + j]? = some c ∧ Rep T F w y c

inductive PRel (T : TT) (G : Gh) (w : World) : PV → Value → Prop
  | kb (c : Bool) : PRel T G w (.kb c) (.bool c)
  | d (x : D) (v : Value) (h : Rep T G.F w x v) : PRel T G w (.d x) v
  | c (v : Value) : PRel T G w (.c v) v
  | st (xs : List PV) (vs : Array Value) (hl : vs.size = xs.length) (h : ∀ (j : Nat) (x : PV) (v : Value), xs[j]? = some x → vs[j]? = some v → PRel T G w x v) (h1 : ∀ v ∈ vs, Value.oneCell' v = true) : PRel T G w (.st xs) (.agg vs)
  | tup (xs : List PV) (vs : Array Value) (hl : vs.size = xs.length) (h : ∀ (j : Nat) (x : PV) (v : Value), xs[j]? = some x → vs[j]? = some v → PRel T G w x v) : PRel T G w (.tup xs) (.tuple vs)
  | ptr (b off n : Nat) (h : G.ι b = some n) (h0 : G.γ b = 0) : PRel T G w (.ptr b off) (.pointer (some ⟨n, off, none⟩))
  | elOld (b g i off : Nat) (v : Value) (hg : g < G.γ b) : PRel T G w (.el b g i off) v
  | el (b g i off n : Nat) (hg : g = G.γ b) (h0 : 0 < g) (h : G.ι b = some n) (hi : i < G.len b) : PRel T G w (.el b g i off) (.pointer (some ⟨n, i * G.et b + off, none⟩))
  | rp (e : TypeId) (x : D) (off : Nat) (bl o : Nat) (cs : Array Value) (ty : TypeId) (fr : Nat × Nat) (hF : G.F bl) (hh : w.heap[bl]? = some (.cells cs ty fr)) (hT : HasT T e x)
      (hc : ∀ (j : Nat) (y : D), x.leaves[j]? = some y → ∃ c, cs[o + j]? = some c ∧ Rep T G.F w y c) : PRel T G w (.rp e x off) (.pointer (some ⟨bl, o + off, none⟩))
  | slOld (b g n : Nat) (v : Value) (hg : g < G.γ b) : PRel T G w (.sl b g n) v
  | slNil (b g : Nat) (hg : g = G.γ b) (h0 : 0 < g) (h : G.ι b = none) : PRel T G w (.sl b g 0) (.slice none 0 0)
  | sl (b g n m : Nat) (hg : g = G.γ b) (h0 : 0 < g) (h : G.ι b = some m) (hn : n ≤ G.len b) : PRel T G w (.sl b g n) (.slice (some ⟨m, 0, none⟩) n (G.κ b))
  | svOld (b g o n : Nat) (v : Value) (hg : g < G.γ b) : PRel T G w (.sv b g o n) v
  | svZ (b g o : Nat) (a : Option Addr) (cap : Nat) (hg : g = G.γ b) (h0 : 0 < g) : PRel T G w (.sv b g o 0) (.slice a 0 cap)
  | sv (b g o n m : Nat) (hg : g = G.γ b) (h0 : 0 < g) (h : G.ι b = some m) (hn : o + n ≤ G.len b) : PRel T G w (.sv b g o n) (.slice (some ⟨m, o * G.et b, none⟩) n (G.κ b - o))
  | mp (b n : Nat) (h : G.ι b = some n) (h0 : G.γ b = 0) : PRel T G w (.mp b) (.map (some n))
  | fn (f : FuncId) (caps : List PV) (vs : Array Value) (hl : vs.size = caps.length) (h : ∀ (j : Nat) (x : PV) (v : Value), caps[j]? = some x → vs[j]? = some v → PRel T G w x v) : PRel T G w (.fn f caps) (.func (.func f) #[] vs)
  | u (v : Value) : PRel T G w .u v

/-! ## A block -/
inductive BRel (T : TT) (G : Gh) (w : World) (b : Nat) : Blk → Prop
  | none (h : G.ι b = Option.none) (h0 : G.γ b = 0) : BRel T G w b .none
  | var (cells : List PV) (n : Nat) (cs : Array Value) (ty : TypeId) (h : G.ι b = some n) (h0 : G.γ b = 0) (hh : w.heap[n]? = some (.cells cs ty (0, 0))) (hl : cs.size = cells.length)
      (hc : ∀ (j : Nat) (x : PV) (v : Value), cells[j]? = some x → cs[j]? = some v → PRel T G w x v) (h1 : ∀ v ∈ cs, Value.oneCell' v = true) : BRel T G w b (.var cells)
  | bufNil (g : Nat) (e : TypeId) (hg : g = G.γ b) (h0 : 0 < g) (h : G.ι b = Option.none) (hl : G.len b = 0) (he : G.et b = szOf T e) : BRel T G w b (.buf g e [])
  | buf (g : Nat) (e : TypeId) (xs : List D) (n : Nat) (cs : Array Value) (hg : g = G.γ b) (h0 : 0 < g) (h : G.ι b = some n) (hl : G.len b = xs.length) (he : G.et b = szOf T e)
      (hh : w.heap[n]? = some (.cells cs e (0, 0))) (hk : xs.length ≤ G.κ b) (hm : G.κ b ≤ maxLen) (hs : cs.size = G.κ b * szOf T e) (hr : Row T G.F w e cs 0 xs) : BRel T G w b (.buf g e xs)
  | frzNil (g : Nat) (e : TypeId) (hg : g = G.γ b) (h0 : 0 < g) (h : G.ι b = Option.none) (hl : G.len b = 0) (he : G.et b = szOf T e) : BRel T G w b (.frz g e [])
  | frz (g : Nat) (e : TypeId) (xs : List D) (n : Nat) (cs : Array Value) (ty : TypeId) (fr : Nat × Nat) (hg : g = G.γ b) (h0 : 0 < g) (h : G.ι b = some n) (hl : G.len b = xs.length) (he : G.et b = szOf T e)
      (hF : G.F n) (hh : w.heap[n]? = some (.cells cs ty fr)) (hk : xs.length ≤ G.κ b) (hr : Row T G.F w e cs 0 xs) : BRel T G w b (.frz g e xs)
  | map (k v : TypeId) (es : List (D × D)) (n : Nat) (ents : Array MapEntry) (clock : Nat) (h : G.ι b = some n) (h0 : G.γ b = 0) (hh : w.heap[n]? = some (.map ents clock)) (hl : ents.size = es.length ∧ clock = ents.size ∧ ∀ (j : Nat) (m : MapEntry), ents[j]? = some m → m.born = j)
      (hr : ∀ (j : Nat) (x : D × D) (m : MapEntry), es[j]? = some x → ents[j]? = some m → Rep T G.F w x.1 m.key ∧ Rep T G.F w x.2 m.val ∧ HasT T k x.1 ∧ HasT T v x.2) : BRel T G w b (.map k v es)

structure HRel (T : TT) (G : Gh) (hp : List Blk) (w : World) : Prop where
  blk : ∀ b, BRel T G w b (hp.getD b .none)
  inj : ∀ b b' n, (hp.getD b .none).alive = true → (hp.getD b' .none).alive = true → G.ι b = some n → G.ι b' = some n → b = b'
  sep : ∀ b n, (hp.getD b .none).alive = true → G.ι b = some n → ¬ G.F n
  lt : ∀ n, G.F n → n < w.heap.size

/-- G' knows all that G knew. -/
structure GExt (G G' : Gh) : Prop where
  F : ∀ n, G.F n → G'.F n
  le : ∀ b, G.γ b ≤ G'.γ b
  zero : ∀ b, G.γ b = 0 → G.ι b ≠ none → G'.γ b = 0
  same : ∀ b, G'.γ b = G.γ b → (G.ι b ≠ none ∨ 0 < G.γ b) → G'.ι b = G.ι b ∧ G'.κ b = G.κ b ∧ G'.et b = G.et b ∧ G'.len b = G.len b

/-- n is a block of memory that the heap hp owns. -/
def Owns (G : Gh) (hp : List Blk) (n : Nat) : Prop := ∃ b, (hp.getD b .none).alive = true ∧ G.ι b = some n

structure Evo (G : Gh) (hp : List Blk) (w : World) (G' : Gh) (hp' : List Blk) (w' : World) : Prop where
  os : w'.os = w.os
  tape : w'.tape = w.tape
  output : w'.output = w.output
  size : w.heap.size ≤ w'.heap.size
  keep : ∀ n, n < w.heap.size → ¬ Owns G hp n → w'.heap[n]? = w.heap[n]?
  fnew : ∀ n, G'.F n → G.F n ∨ w.heap.size ≤ n ∨ Owns G hp n
  own : ∀ n, Owns G' hp' n → w.heap.size ≤ n ∨ Owns G hp n
  ext : GExt G G'

end Go.Abs
/- How the relations stand when memory and the ghost state go on. -/
namespace Go.Abs
open Go.RowKit

variable {T : TT}

theorem Rep.mono {F F' : Nat → Prop} {w w' : World} (hF : ∀ n, F n → F' n) (hw : ∀ n, F n → w'.heap[n]? = w.heap[n]?) {x : D} {v : Value} (h : Rep T F w x v) : Rep T F' w' x v := by
  induction h with
  | b x => exact .b x
  | i k n => exact .i k n
  | s x => exact .s x
  | g xs vs hl _ hg ih => exact .g xs vs hl ih hg
  | e e a cap => exact .e e a cap
  | l e xs bl off cap cs ty fr c hFb hcap hh hT hc _ ih => exact .l e xs bl off cap cs ty fr c (hF _ hFb) hcap ((hw _ hFb).trans hh) hT hc ih

theorem Row.mono {F F' : Nat → Prop} {w w' : World} (hF : ∀ n, F n → F' n) (hw : ∀ n, F n → w'.heap[n]? = w.heap[n]?) {e : TypeId} {cs : Array Value} {off : Nat} {xs : List D} (h : Row T F w e cs off xs) : Row T F' w' e cs off xs :=
  ⟨h.1, fun i x j y hx hy => let ⟨c, h1, h2⟩ := h.2 i x j y hx hy; ⟨c, h1, h2.mono hF hw⟩⟩

theorem GExt.refl (G : Gh) : GExt G G := ⟨fun _ h => h, fun _ => Nat.le_refl _, fun _ h _ => h, fun _ _ _ => ⟨rfl, rfl, rfl, rfl⟩⟩

theorem GExt.ι {G G' : Gh} (h : GExt G G') {b n : Nat} (hb : G.ι b = some n) (h0 : G.γ b = 0) : G'.ι b = some n ∧ G'.γ b = 0 := by
  have z := h.zero b h0 (by simp [hb])
  exact ⟨(h.same b (by omega) (.inl (by simp [hb]))).1.trans hb, z⟩

theorem GExt.trans {G G' G'' : Gh} (h : GExt G G') (k : GExt G' G'') : GExt G G'' where
  F n hn := k.F n (h.F n hn)
  le b := Nat.le_trans (h.le b) (k.le b)
  zero b h0 hb := by
    have z := h.zero b h0 hb
    have e := h.same b (by omega) (.inl hb)
    exact k.zero b z (by rw [e.1]; exact hb)
  same b hb hn := by
    have l1 := h.le b
    have l2 := k.le b
    have e1 := h.same b (by omega) hn
    have e2 := k.same b (by omega) (by
      rcases hn with hn | hn
      · exact .inl (by rw [e1.1]; exact hn)
      · exact .inr (by omega))
    exact ⟨e2.1.trans e1.1, e2.2.1.trans e1.2.1, e2.2.2.1.trans e1.2.2.1, e2.2.2.2.trans e1.2.2.2⟩

theorem PRel.mono {G G' : Gh} {w w' : World} (hG : GExt G G') (hw : ∀ n, G.F n → w'.heap[n]? = w.heap[n]?) {p : PV} {v : Value} (h : PRel T G w p v) : PRel T G' w' p v := by
  induction h with
  | kb c => exact .kb c
  | d x v h => exact .d x v (h.mono hG.F hw)
  | c v => exact PRel.c v
  | st xs vs hl _ h1 ih => exact .st xs vs hl ih h1
  | tup xs vs hl _ ih => exact .tup xs vs hl ih
  | ptr b off n h h0 => have := hG.ι h h0; exact .ptr b off n this.1 this.2
  | elOld b g i off v h => exact .elOld b g i off v (Nat.lt_of_lt_of_le h (hG.le b))
  | el b g i off n hg h0 h hi =>
    rcases Nat.lt_or_ge (G.γ b) (G'.γ b) with hlt | hge
    · exact .elOld b g i off _ (by omega)
    · have e := hG.same b (Nat.le_antisymm hge (hG.le b)) (.inr (by omega))
      rw [← e.2.2.1]
      exact .el b g i off n (by have := hG.le b; omega) h0 (e.1.trans h) (by rw [e.2.2.2]; exact hi)
  | rp e x off bl o cs ty fr hF hh hT hc =>
    exact .rp e x off bl o cs ty fr (hG.F _ hF) ((hw _ hF).trans hh) hT fun j y hy => let ⟨q, h1, h2⟩ := hc j y hy; ⟨q, h1, h2.mono hG.F hw⟩
  | slOld b g n v h => exact .slOld b g n v (Nat.lt_of_lt_of_le h (hG.le b))
  | slNil b g hg h0 h =>
    rcases Nat.lt_or_ge (G.γ b) (G'.γ b) with hlt | hge
    · exact .slOld b g _ _ (by omega)
    · have e := hG.same b (Nat.le_antisymm hge (hG.le b)) (.inr (by omega))
      exact .slNil b g (by have := hG.le b; omega) h0 (e.1.trans h)
  | sl b g n m hg h0 h hn =>
    rcases Nat.lt_or_ge (G.γ b) (G'.γ b) with hlt | hge
    · exact .slOld b g _ _ (by omega)
    · have e := hG.same b (Nat.le_antisymm hge (hG.le b)) (.inr (by omega))
      rw [← e.2.1]
      exact .sl b g n m (by have := hG.le b; omega) h0 (e.1.trans h) (by rw [e.2.2.2]; exact hn)
  | svOld b g o n v h => exact .svOld b g o n v (Nat.lt_of_lt_of_le h (hG.le b))
  | svZ b g o a cap hg h0 =>
    rcases Nat.lt_or_ge (G.γ b) (G'.γ b) with hlt | hge
    · exact .svOld b g _ _ _ (by omega)
    · exact .svZ b g o a cap (by have := hG.le b; omega) h0
  | sv b g o n m hg h0 h hn =>
    rcases Nat.lt_or_ge (G.γ b) (G'.γ b) with hlt | hge
    · exact .svOld b g _ _ _ (by omega)
    · have e := hG.same b (Nat.le_antisymm hge (hG.le b)) (.inr (by omega))
      rw [← e.2.1, ← e.2.2.1]
      exact .sv b g o n m (by have := hG.le b; omega) h0 (e.1.trans h) (by rw [e.2.2.2]; exact hn)
  | mp b n h h0 => have := hG.ι h h0; exact .mp b n this.1 this.2
  | fn f caps vs hl _ ih => exact .fn f caps vs hl ih
  | u v => exact .u v

/-- A block that nobody touched. -/
theorem BRel.mono {G G' : Gh} {w w' : World} (hG : GExt G G') (hw : ∀ n, G.F n → w'.heap[n]? = w.heap[n]?) {b : Nat} {k : Blk}
    (he : G'.γ b = G.γ b) (hn : G.ι b = Option.none → G.γ b = 0 → G'.ι b = Option.none) (hb : ∀ n, G.ι b = some n → w'.heap[n]? = w.heap[n]?) (h : BRel T G w b k) : BRel T G' w' b k := by
  cases h with
  | none h h0 => exact .none (hn h h0) (he.trans h0)
  | var cells n cs ty h h0 hh hl hc h1 => exact .var cells n cs ty (hG.ι h h0).1 (he.trans h0) ((hb n h).trans hh) hl (fun j x v hx hv => (hc j x v hx hv).mono hG hw) h1
  | bufNil g e hg h0 h hl hel =>
    have s := hG.same b he (.inr (by omega))
    exact .bufNil g e (by omega) h0 (s.1.trans h) (s.2.2.2.trans hl) (s.2.2.1.trans hel)
  | buf g e xs n cs hg h0 h hl hel hh hk hm hs hr =>
    have s := hG.same b he (.inr (by omega))
    exact .buf g e xs n cs (by omega) h0 (s.1.trans h) (s.2.2.2.trans hl) (s.2.2.1.trans hel) ((hb n h).trans hh) (by rw [s.2.1]; exact hk) (by rw [s.2.1]; exact hm) (by rw [s.2.1]; exact hs) (hr.mono hG.F hw)
  | frzNil g e hg h0 h hl hel =>
    have s := hG.same b he (.inr (by omega))
    exact .frzNil g e (by omega) h0 (s.1.trans h) (s.2.2.2.trans hl) (s.2.2.1.trans hel)
  | frz g e xs n cs ty fr hg h0 h hl hel hF hh hk hr =>
    have s := hG.same b he (.inr (by omega))
    exact .frz g e xs n cs ty fr (by omega) h0 (s.1.trans h) (s.2.2.2.trans hl) (s.2.2.1.trans hel) (hG.F _ hF) ((hb n h).trans hh) (by rw [s.2.1]; exact hk) (hr.mono hG.F hw)
  | map k v es n ents clock h h0 hh hl hr =>
    exact .map k v es n ents clock (hG.ι h h0).1 (he.trans h0) ((hb n h).trans hh) hl fun j x m hx hm => let ⟨a, c, d, e⟩ := hr j x m hx hm; ⟨a.mono hG.F hw, c.mono hG.F hw, d, e⟩

theorem HRel.lt_of {G : Gh} {hp : List Blk} {w : World} (h : HRel T G hp w) {b n : Nat} (ha : (hp.getD b .none).alive = true) (hb : G.ι b = some n) : n < w.heap.size := by
  have k := h.blk b
  have lt : ∀ {o : Obj}, w.heap[n]? = some o → n < w.heap.size := fun e => (Array.getElem?_eq_some_iff.1 e).1
  generalize hp.getD b .none = q at *
  cases k with
  | none h0 _ => simp [Blk.alive] at ha
  | var cells m cs ty h1 _ hh => rw [hb] at h1; cases h1; exact lt hh
  | bufNil g e _ _ h1 => rw [hb] at h1; cases h1
  | buf g e xs m cs _ _ h1 _ _ hh => rw [hb] at h1; cases h1; exact lt hh
  | frzNil g e _ _ h1 => rw [hb] at h1; cases h1
  | frz g e xs m cs ty fr _ _ h1 _ _ _ hh => rw [hb] at h1; cases h1; exact lt hh
  | map k v es m ents clock h1 _ hh => rw [hb] at h1; cases h1; exact lt hh

theorem Evo.refl (G : Gh) (hp : List Blk) (w : World) : Evo G hp w G hp w :=
  ⟨rfl, rfl, rfl, Nat.le_refl _, fun _ _ _ => rfl, fun _ h => .inl h, fun _ h => .inr h, GExt.refl G⟩

theorem Evo.trans {G G' G'' : Gh} {hp hp' hp'' : List Blk} {w w' w'' : World} (h : Evo G hp w G' hp' w') (k : Evo G' hp' w' G'' hp'' w'') : Evo G hp w G'' hp'' w'' where
  os := k.os.trans h.os
  tape := k.tape.trans h.tape
  output := k.output.trans h.output
  size := Nat.le_trans h.size k.size
  keep n hn ho := by
    have hs := h.size
    rw [k.keep n (by omega) (fun o => (h.own n o).elim (fun a => by omega) ho)]
    exact h.keep n hn ho
  fnew n hn := by
    have hs := h.size
    rcases k.fnew n hn with a | a | a
    · exact h.fnew n a
    · exact .inr (.inl (by omega))
    · exact .inr ((h.own n a).imp id id)
  own n hn := by
    have hs := h.size
    rcases k.own n hn with a | a
    · exact .inl (by omega)
    · exact h.own n a
  ext := h.ext.trans k.ext

/-- What is frozen stays as it is. -/
theorem Evo.frozen {G G' : Gh} {hp hp' : List Blk} {w w' : World} (e : Evo G hp w G' hp' w') (h : HRel T G hp w) : ∀ n, G.F n → w'.heap[n]? = w.heap[n]? :=
  fun n hn => e.keep n (h.lt n hn) fun ⟨b, ha, hb⟩ => h.sep b n ha hb hn

end Go.Abs
/- States, and what the plain operations do. -/
namespace Go.Abs
open Go.RowKit

def get : List (Nat × PV) → Nat → PV
  | [], _ => .u
  | (k, v) :: r, n => bif Nat.beq k n then v else get r n

structure St where
  sl : List (Nat × PV)
  hp : List Blk

def constP : Value → PV
  | .bool b => .kb b
  | .int k n => .d (.i k n)
  | .string s => .d (.s s)
  | v => .c v

def evP (sl : List (Nat × PV)) : Operand → PV
  | .tmp t => get sl t
  | .const v => constP v
  | .func f => .fn f []
  | .global _ => .u

structure SRel (T : TT) (nt : Nat) (G : Gh) (st : St) (a : Act) (w : World) : Prop where
  n : a.tmps.size = nt
  sl : ∀ k, PRel T G w (get st.sl k) (a.tmps.getD k undef)
  df : a.defers = []
  hp : HRel T G st.hp w

theorem PRel.const (T : TT) (G : Gh) (w : World) (v : Value) : PRel T G w (constP v) v := by
  cases v <;> first
    | exact .kb _
    | exact .d _ _ (.i _ _)
    | exact .d _ _ (.s _)
    | exact .c _

theorem SRel.ev {T : TT} {nt : Nat} {G : Gh} {st : St} {a : Act} {w : World} (h : SRel T nt G st a w) (x : Operand) : PRel T G w (evP st.sl x) (a.eval x) := by
  cases x with
  | tmp t => exact h.sl t
  | const v => exact PRel.const T G w v
  | func f => exact .fn f [] #[] rfl (by simp)
  | global g => exact .u _

/-- What holds of a table of types. -/
def descOK : TK → TypeDesc → Bool
  | .bool, .bool => true
  | .int k, .int k' => k == k'
  | .str, .string => true
  | .ptr e, .pointer e' => e == e'
  | .slice e, .slice e' => e == e'
  | .map k v, .map k' v' => k == k' && v == v'
  | .struct fs, .struct fields => fs == fields.toList.map fun f => (f.offset, f.type)
  | .arr n e, .array n' e' => n == n' && e == e'
  | .func, .func .. => true
  | .other, .interface _ => true
  | .other, .tuple _ => true
  | _, _ => false

def zeroV (i : TI) : Value := if i.desc.agg then .agg (i.leaves.map LK.zeroV).toArray else (i.leaves.map LK.zeroV).headD undef

structure TOK1 (P : Program) (t : TypeId) (i : TI) : Prop where
  info : ∃ inf, P.info? t = some inf ∧ inf.size = i.leaves.length ∧ inf.bytes = i.bytes ∧ inf.zero = some (zeroV i)
  desc : ∃ d, P.underlying t = some d ∧ descOK i.desc d = true
  one : i.desc.agg = false → i.leaves.length = 1
  noOther : LK.other ∉ i.leaves
  eqs : i.eq = true → P.eqGuardType P.depth t = false ∧ P.stoodInHeld t = false ∧ ∀ fields, P.underlying t = some (.struct fields) → ∀ f ∈ fields, f.name ≠ "_"

def TOK (P : Program) (T : TT) : Prop := ∀ t i, T t = some i → TOK1 P t i

/-- An operation's run: it comes to a value, and what lies behind it is what st says. -/
def Done (P : Program) (T : TT) (o : Oper) (a : Act) (G : Gh) (hp : List Blk) (w : World) (p : PV) (hp' : List Blk) : Prop :=
  ∃ v w' G', ((execOp a.eval o).run P w = .ok (.value v) w' ∨ ((execOp a.eval o).run P w = .ok .skip w' ∧ v = undef)) ∧
    PRel T G' w' p v ∧ HRel T G' hp' w' ∧ Evo G hp w G' hp' w'

theorem Done.same {P : Program} {T : TT} {o : Oper} {a : Act} {G : Gh} {hp : List Blk} {w : World} {p : PV} {v : Value}
    (hr : (execOp a.eval o).run P w = .ok (.value v) w) (hv : PRel T G w p v) (hh : HRel T G hp w) : Done P T o a G hp w p hp :=
  ⟨v, w, G, .inl hr, hv, hh, Evo.refl G hp w⟩

def boolP : PV → Option Bool
  | .kb q => some q
  | .d (.b x) => some x
  | _ => none

theorem boolP_rel {T : TT} {G : Gh} {w : World} {p : PV} {v : Value} {x : Bool} (h : PRel T G w p v) (hb : boolP p = some x) : v = .bool x := by
  cases h <;> first
    | (simp [boolP] at hb; done)
    | (simp [boolP] at hb; subst hb; rfl)
    | (rename_i h; cases h <;> simp [boolP] at hb; subst hb; rfl)

theorem Rep.int {T : TT} {F : Nat → Prop} {w : World} {k : IntKind} {n : Int} {v : Value} (h : Rep T F w (.i k n) v) : v = .int k n := by cases h; rfl
theorem Rep.str {T : TT} {F : Nat → Prop} {w : World} {x : ByteArray} {v : Value} (h : Rep T F w (.s x) v) : v = .string x := by cases h; rfl
theorem PRel.int {T : TT} {G : Gh} {w : World} {k : IntKind} {n : Int} {v : Value} (h : PRel T G w (.d (.i k n)) v) : v = .int k n := by cases h with | d x v h => exact h.int
theorem PRel.str {T : TT} {G : Gh} {w : World} {x : ByteArray} {v : Value} (h : PRel T G w (.d (.s x)) v) : v = .string x := by cases h with | d x v h => exact h.str

/-- The numbers' operations. -/
def intW (op : BinOp) (k : IntKind) (a b : Int) (K : D → Prop) : Prop :=
  match op with
  | .add => K (.i k (k.wrap (a + b)))
  | .sub => K (.i k (k.wrap (a - b)))
  | .mul => K (.i k (k.wrap (a * b)))
  | .quo => b ≠ 0 ∧ K (.i k (k.wrap (a.tdiv b)))
  | .rem => b ≠ 0 ∧ K (.i k (a.tmod b))
  | .and => K (.i k (k.wrap (BitVec.ofInt k.bits a &&& BitVec.ofInt k.bits b).toNat))
  | .or => K (.i k (k.wrap (BitVec.ofInt k.bits a ||| BitVec.ofInt k.bits b).toNat))
  | .xor => K (.i k (k.wrap (BitVec.ofInt k.bits a ^^^ BitVec.ofInt k.bits b).toNat))
  | .eql => K (.b (decide (a = b)))
  | .neq => K (.b (decide (a ≠ b)))
  | .lss => K (.b (decide (a < b)))
  | .leq => K (.b (decide (a ≤ b)))
  | .gtr => K (.b (decide (b < a)))
  | .geq => K (.b (decide (b ≤ a)))
  | _ => False

def shiftW (op : BinOp) (k : IntKind) (a b : Int) (K : D → Prop) : Prop :=
  match op with
  | .shl => 0 ≤ b ∧ K (.i k (k.wrap (a * 2 ^ (min b.toNat k.bits))))
  | .shr => 0 ≤ b ∧ K (.i k (a.fdiv (2 ^ (min b.toNat k.bits))))
  | _ => False

def strW (op : BinOp) (a b : ByteArray) (K : D → Prop) : Prop :=
  match op with
  | .add => a.size + b.size ≤ maxLen ∧ K (.s (a ++ b))
  | .eql => K (.b (a.toList == b.toList))
  | .neq => K (.b (!(a.toList == b.toList)))
  | _ => False

def BinOp.isShift : BinOp → Bool
  | .shl => true | .shr => true | _ => false

theorem run_intW {P : Program} {op : BinOp} {k : IntKind} {a b : Int} {K : D → Prop} {t : TypeId} (w : World) (hs : BinOp.isShift op = false) (h : intW op k a b K) :
    ∃ x v, K x ∧ (∀ T F, Rep T F w x v) ∧ (binOp op t (.int k a) (.int k b)).run P w = .ok v w := by
  cases op <;> simp only [intW, BinOp.isShift] at h hs <;> first
    | (exact absurd hs (by decide))
    | exact h.elim
    | (obtain ⟨h0, h⟩ := h; refine ⟨_, _, h, fun _ _ => .i _ _, ?_⟩; simp [binOp, Op.intDiv, h0]; done)
    | (refine ⟨_, _, h, fun _ _ => .i _ _, ?_⟩; simp [binOp, Op.intArith]; done)
    | (refine ⟨_, _, h, fun _ _ => .i _ _, ?_⟩; simp only [binOp, ne_eq, not_true_eq_false, if_false]; rfl)
    | (refine ⟨_, _, h, fun _ _ => .b _, ?_⟩; simp [binOp, Op.intCmp, bne, BEq.beq]; done)

theorem run_shiftW {P : Program} {op : BinOp} {k k' : IntKind} {a b : Int} {K : D → Prop} {t : TypeId} (w : World) (h : shiftW op k a b K) :
    ∃ x v, K x ∧ (∀ T F, Rep T F w x v) ∧ (binOp op t (.int k a) (.int k' b)).run P w = .ok v w := by
  cases op <;> simp only [shiftW] at h <;> first
    | exact h.elim
    | (obtain ⟨h0, h⟩ := h; exact ⟨_, _, h, fun _ _ => .i _ _, by simp [binOp, Op.shift, Int.not_lt.2 h0]⟩)

theorem run_strW {P : Program} {op : BinOp} {a b : ByteArray} {K : D → Prop} {t : TypeId} (w : World) (h : strW op a b K) :
    ∃ x v, K x ∧ (∀ T F, Rep T F w x v) ∧ (binOp op t (.string a) (.string b)).run P w = .ok v w := by
  cases op <;> simp only [strW] at h <;> first
    | exact h.elim
    | (obtain ⟨h0, h⟩ := h; exact ⟨_, _, h, fun _ _ => .s _, by
        have : ¬ (((a.size + b.size : Nat) : Int) > IntKind.i64.max) := by simp [maxLen] at h0; simp [IntKind.max, IntKind.signed, IntKind.bits]; omega
        simp only [binOp, Op.stringOp, if_neg this]; rfl⟩)
    | exact ⟨_, _, h, fun _ _ => .b _, by simp [binOp, Op.stringOp]⟩

end Go.Abs
/- One block of the abstract heap turns: what stands behind it. -/
namespace Go.Abs
open Go.RowKit

def hput : List Blk → Nat → Blk → List Blk
  | [], 0, k => [k]
  | [], n + 1, k => Blk.none :: hput [] n k
  | _ :: r, 0, k => k :: r
  | x :: r, n + 1, k => x :: hput r n k

theorem hput_same : ∀ (hp : List Blk) (b : Nat) (k : Blk), (hput hp b k).getD b Blk.none = k
  | [], 0, k => rfl
  | [], n + 1, k => by simp only [hput, List.getD_cons_succ]; exact hput_same [] n k
  | _ :: r, 0, k => rfl
  | x :: r, n + 1, k => by simp only [hput, List.getD_cons_succ]; exact hput_same r n k

theorem hput_other : ∀ (hp : List Blk) (b b' : Nat) (k : Blk), b' ≠ b → (hput hp b k).getD b' Blk.none = hp.getD b' Blk.none
  | [], 0, b', k, h => by cases b' with | zero => exact absurd rfl h | succ m => rfl
  | [], n + 1, b', k, h => by
    cases b' with
    | zero => rfl
    | succ m => simp only [hput, List.getD_cons_succ]; rw [hput_other [] n m k (by omega)]; rfl
  | _ :: r, 0, b', k, h => by cases b' with | zero => exact absurd rfl h | succ m => rfl
  | x :: r, n + 1, b', k, h => by
    cases b' with
    | zero => rfl
    | succ m => simp only [hput, List.getD_cons_succ]; exact hput_other r n m k (by omega)

variable {T : TT}

theorem HRel.step {G G' : Gh} {hp : List Blk} {w w' : World} (h : HRel T G hp w) (b0 : Nat) (k' : Blk) (hG : GExt G G')
    (hsame : ∀ b, b ≠ b0 → G'.ι b = G.ι b ∧ G'.γ b = G.γ b)
    (hos : w'.os = w.os) (ht : w'.tape = w.tape) (ho : w'.output = w.output) (hsz : w.heap.size ≤ w'.heap.size)
    (hw : ∀ n, n < w.heap.size → ((hp.getD b0 Blk.none).alive = true → G.ι b0 ≠ some n) → w'.heap[n]? = w.heap[n]?)
    (hk : BRel T G' w' b0 k')
    (hF : ∀ n, G'.F n → G.F n ∨ (w.heap.size ≤ n ∧ n < w'.heap.size) ∨ ((hp.getD b0 Blk.none).alive = true ∧ G.ι b0 = some n))
    (hι : k'.alive = true → ∀ n, G'.ι b0 = some n → (w.heap.size ≤ n ∨ ((hp.getD b0 Blk.none).alive = true ∧ G.ι b0 = some n)) ∧ ¬ G'.F n) :
    HRel T G' (hput hp b0 k') w' ∧ Evo G hp w G' (hput hp b0 k') w' := by
  have fz : ∀ n, G.F n → w'.heap[n]? = w.heap[n]? := fun n hn => hw n (h.lt n hn) fun ha e => h.sep b0 n ha e hn
  refine ⟨⟨fun b => ?_, fun b b' n hb hb' e e' => ?_, fun b n hb e hn => ?_, fun n hn => ?_⟩, ⟨hos, ht, ho, hsz, fun n hn hno => ?_, fun n hn => ?_, fun n hn => ?_, hG⟩⟩
  · by_cases hbb : b = b0
    · subst hbb; rw [hput_same]; exact hk
    · rw [hput_other _ _ _ _ hbb]
      obtain ⟨e1, e2⟩ := hsame b hbb
      refine BRel.mono hG fz e2 (fun h1 _ => e1.trans h1) (fun n hn => ?_) (h.blk b)
      by_cases ha : (hp.getD b Blk.none).alive = true
      · exact hw n (h.lt_of ha hn) fun ha0 e0 => hbb (h.inj b b0 n ha ha0 hn e0)
      · have := h.blk b
        generalize hq : hp.getD b Blk.none = q at *
        cases this with
        | none h1 _ => rw [hn] at h1; cases h1
        | var => exact absurd rfl ha
        | bufNil => exact absurd rfl ha
        | buf => exact absurd rfl ha
        | frzNil g e _ _ h1 => rw [hn] at h1; cases h1
        | frz g e xs m cs ty fr _ _ h1 _ _ hFm => rw [hn] at h1; cases h1; exact fz _ hFm
        | map => exact absurd rfl ha
  · by_cases h1 : b = b0 <;> by_cases h2 : b' = b0
    · omega
    · subst h1
      rw [hput_same] at hb; rw [hput_other _ _ _ _ h2] at hb'
      rw [(hsame b' h2).1] at e'
      rcases (hι hb n e).1 with l | ⟨ha, e0⟩
      · have := h.lt_of hb' e'; omega
      · exact h.inj b b' n ha hb' e0 e'
    · subst h2
      rw [hput_same] at hb'; rw [hput_other _ _ _ _ h1] at hb
      rw [(hsame b h1).1] at e
      rcases (hι hb' n e').1 with l | ⟨ha, e0⟩
      · have := h.lt_of hb e; omega
      · exact h.inj b b' n hb ha e e0
    · rw [hput_other _ _ _ _ h1] at hb; rw [hput_other _ _ _ _ h2] at hb'
      rw [(hsame b h1).1] at e; rw [(hsame b' h2).1] at e'
      exact h.inj b b' n hb hb' e e'
  · by_cases h1 : b = b0
    · subst h1; rw [hput_same] at hb; exact (hι hb n e).2 hn
    · rw [hput_other _ _ _ _ h1] at hb; rw [(hsame b h1).1] at e
      rcases hF n hn with f | ⟨l, _⟩ | ⟨ha, e0⟩
      · exact h.sep b n hb e f
      · have := h.lt_of hb e; omega
      · exact h1 (h.inj b b0 n hb ha e e0)
  · rcases hF n hn with f | ⟨_, l⟩ | ⟨ha, e0⟩
    · have := h.lt n f; omega
    · exact l
    · have := h.lt_of ha e0; omega
  · exact hw n hn fun ha e => hno ⟨b0, ha, e⟩
  · rcases hF n hn with f | ⟨l, _⟩ | ⟨ha, e0⟩
    · exact .inl f
    · exact .inr (.inl l)
    · exact .inr (.inr ⟨b0, ha, e0⟩)
  · obtain ⟨b, hb, e⟩ := hn
    by_cases h1 : b = b0
    · subst h1; rw [hput_same] at hb
      rcases (hι hb n e).1 with l | ⟨ha, e0⟩
      · exact .inl l
      · exact .inr ⟨b, ha, e0⟩
    · rw [hput_other _ _ _ _ h1] at hb; rw [(hsame b h1).1] at e
      exact .inr ⟨b, hb, e⟩

/-- The ghost state with block b born at n. -/
def Gh.born (G : Gh) (b : Nat) (n : Option Nat) (g c e l : Nat) : Gh where
  F := G.F
  ι := fun x => if x = b then n else G.ι x
  γ := fun x => if x = b then g else G.γ x
  κ := fun x => if x = b then c else G.κ x
  et := fun x => if x = b then e else G.et x
  len := fun x => if x = b then l else G.len x

theorem GExt.born {G : Gh} {b : Nat} (hι : G.ι b = none) (h0 : G.γ b = 0) (n : Option Nat) (g c e l : Nat) : GExt G (G.born b n g c e l) where
  F _ h := h
  le x := by by_cases hx : x = b <;> simp [Gh.born, hx, h0]
  zero x h1 h2 := by
    by_cases hx : x = b
    · subst hx; exact absurd hι h2
    · simp [Gh.born, hx, h1]
  same x h1 h2 := by
    by_cases hx : x = b
    · subst hx; rcases h2 with h2 | h2
      · exact absurd hι h2
      · omega
    · simp [Gh.born, hx]

theorem HRel.unborn {G : Gh} {hp : List Blk} {w : World} (h : HRel T G hp w) {b : Nat} (hb : hp.getD b Blk.none = Blk.none) : G.ι b = none ∧ G.γ b = 0 := by
  have := h.blk b
  rw [hb] at this
  cases this with
  | none h1 h2 => exact ⟨h1, h2⟩

theorem heap_push_old (w : World) (o : Obj) (n : Nat) (h : n < w.heap.size) : ({ w with heap := w.heap.push o } : World).heap[n]? = w.heap[n]? := by
  show (w.heap.push o)[n]? = _
  rw [Array.getElem?_push, if_neg (by omega)]
theorem heap_push_new (w : World) (o : Obj) : ({ w with heap := w.heap.push o } : World).heap[w.heap.size]? = some o := by
  show (w.heap.push o)[w.heap.size]? = _
  simp

/-- A new variable. -/
theorem HRel.allocVar {G : Gh} {hp : List Blk} {w : World} (h : HRel T G hp w) {fr : Nat} (hfr : hp.getD fr Blk.none = Blk.none) (cells : List PV) (cs : Array Value) (ty : TypeId)
    (hl : cs.size = cells.length) (hc : ∀ (j : Nat) (x : PV) (v : Value), cells[j]? = some x → cs[j]? = some v → PRel T G w x v) (h1 : ∀ v ∈ cs, Value.oneCell' v = true) :
    let w' : World := { w with heap := w.heap.push (.cells cs ty) }
    let G' := G.born fr (some w.heap.size) 0 0 0 0
    PRel T G' w' (.ptr fr 0) (.pointer (some ⟨w.heap.size, 0, none⟩)) ∧ HRel T G' (hput hp fr (.var cells)) w' ∧ Evo G hp w G' (hput hp fr (.var cells)) w' := by
  intro w' G'
  obtain ⟨u1, u2⟩ := h.unborn hfr
  have hG : GExt G G' := GExt.born u1 u2 _ _ _ _ _
  have e1 : G'.ι fr = some w.heap.size := by simp [G', Gh.born]
  have e2 : G'.γ fr = 0 := by simp [G', Gh.born]
  have fz : ∀ n, G.F n → w'.heap[n]? = w.heap[n]? := fun n hn => heap_push_old w _ n (h.lt n hn)
  refine ⟨.ptr fr 0 _ e1 e2, h.step fr (.var cells) hG (fun b hb => ?_) rfl rfl rfl ?_ (fun n hn _ => heap_push_old w _ n hn) ?_ (fun n hn => .inl hn) (fun _ n hn => ?_)⟩
  · simp [G', Gh.born, hb]
  · show w.heap.size ≤ (w.heap.push _).size; simp
  · exact .var cells _ cs ty e1 e2 (heap_push_new w _) hl (fun j x v hx hv => (hc j x v hx hv).mono hG fz) h1
  · rw [e1] at hn; cases hn
    exact ⟨.inl (Nat.le_refl _), fun hf => by have := h.lt _ hf; omega⟩

end Go.Abs
/- Cells: what a value's cells are, loads and stores. -/
namespace Go.Abs
open Go.RowKit

/-- A value of one cell. -/
def oneP : PV → Bool
  | .kb _ => true
  | .d x => !x.isG
  | .c v => v.oneCell'
  | .ptr _ _ => true
  | .rp _ _ _ => true
  | .mp _ => true
  | .fn _ _ => true
  | .el _ _ _ _ => true
  | .sl _ _ _ => true
  | _ => false

/-- The generation of a slice or of an element's address is the present one: asked where such a value is stored. -/
def nowP (hp : List Blk) : PV → Prop
  | .sl b g _ => match hp.getD b Blk.none with | .buf g' _ _ => g = g' | .frz g' _ _ => g = g' | _ => False
  | .el b g _ _ => match hp.getD b Blk.none with | .buf g' _ _ => g = g' | .frz g' _ _ => g = g' | _ => False
  | _ => True

def nowPs (hp : List Blk) : List PV → Prop
  | [] => True
  | p :: ps => match p with
    | .sl _ _ _ => nowP hp p ∧ nowPs hp ps
    | .el _ _ _ _ => nowP hp p ∧ nowPs hp ps
    | _ => nowPs hp ps

def cellsP : PV → List PV
  | .st xs => xs
  | p => [p]

variable {T : TT}

theorem Rep.one {F : Nat → Prop} {w : World} {x : D} {v : Value} (h : Rep T F w x v) (hx : x.isG = false) : v.oneCell' = true := by
  cases h <;> first | rfl | (simp [D.isG] at hx)

theorem gen_now {G : Gh} {w : World} {hp : List Blk} (h : HRel T G hp w) {b g : Nat} (hn : match hp.getD b Blk.none with | .buf g' _ _ => g = g' | .frz g' _ _ => g = g' | _ => False) : g = G.γ b := by
  have k := h.blk b
  generalize hp.getD b Blk.none = q at *
  cases k <;> simp at hn <;> omega

/-- The buffer's generation is g. -/
def nowB (hp : List Blk) (b g : Nat) : Prop := match hp.getD b Blk.none with | .buf g' _ _ => g = g' | .frz g' _ _ => g = g' | _ => False

theorem PRel.oneCell {G : Gh} {w : World} {hp : List Blk} (hh : HRel T G hp w) {p : PV} {v : Value} (h : PRel T G w p v) (h1 : oneP p = true) (hn : nowP hp p) : v.oneCell' = true := by
  cases h with
  | kb => rfl
  | d x v h => exact h.one (by simpa [oneP] using h1)
  | c v => exact h1
  | st => simp [oneP] at h1
  | tup => simp [oneP] at h1
  | ptr => rfl
  | elOld b g i off v hg => have := gen_now hh hn; omega
  | el => rfl
  | rp => rfl
  | slOld b g n v hg => have := gen_now hh hn; omega
  | slNil => rfl
  | sl => rfl
  | svOld => simp [oneP] at h1
  | svZ => simp [oneP] at h1
  | sv => simp [oneP] at h1
  | mp => rfl
  | fn => rfl
  | u => simp [oneP] at h1

def cellsOK : PV → Bool
  | .st _ => true
  | p => oneP p

theorem PRel.cells {G : Gh} {w : World} {hp : List Blk} (hh : HRel T G hp w) {p : PV} {v : Value} (h : PRel T G w p v) (h1 : cellsOK p = true) (hn : nowPs hp (cellsP p)) :
    v.cells.size = (cellsP p).length ∧ (∀ (j : Nat) (x : PV) (u : Value), (cellsP p)[j]? = some x → v.cells[j]? = some u → PRel T G w x u) ∧ ∀ u ∈ v.cells, Value.oneCell' u = true := by
  by_cases hs : ∃ xs, p = .st xs
  · obtain ⟨xs, rfl⟩ := hs
    cases h with
    | st xs vs hl hx h1 => exact ⟨hl, hx, h1⟩
  · have e : cellsP p = [p] := by cases p <;> first | rfl | exact absurd ⟨_, rfl⟩ hs
    have o : oneP p = true := by cases p <;> first | exact h1 | exact absurd ⟨_, rfl⟩ hs
    rw [e] at hn ⊢
    have hv : v.oneCell' = true := h.oneCell hh o (by
      cases p <;> first | exact trivial | exact hn.1)
    have ec : v.cells = #[v] := by cases v <;> first | rfl | simp [Value.oneCell'] at hv
    rw [ec]
    refine ⟨rfl, fun j x u hx hu => ?_, by simpa using hv⟩
    cases j with
    | zero => simp at hx hu; subst hx; subst hu; exact h
    | succ j => simp at hx

theorem LK.zero_rel (G : Gh) (w : World) {k : LK} (h : k ≠ .other) : PRel T G w k.zeroP k.zeroV := by
  cases k <;> first
    | exact absurd rfl h
    | exact .kb _
    | exact .d _ _ (.i _ _)
    | exact .d _ _ (.s _)
    | exact .c _
theorem LK.zero_one {k : LK} (h : k ≠ .other) : k.zeroV.oneCell' = true := by cases k <;> first | rfl | exact absurd rfl h

theorem zeroV_cells {P : Program} {t : TypeId} {i : TI} (h : TOK1 P t i) : (zeroV i).cells = (i.leaves.map LK.zeroV).toArray := by
  unfold zeroV
  cases ha : i.desc.agg with
  | true => rfl
  | false =>
    have h1 := h.one ha
    match hl : i.leaves, h1 with
    | [k], _ =>
      have hk : k ≠ LK.other := fun e => h.noOther (by rw [hl, e]; simp)
      cases k <;> first | rfl | exact absurd rfl hk

theorem run_isAgg {P : Program} {t : TypeId} {i : TI} (h : TOK1 P t i) (w : World) : (isAgg t).run P w = .ok i.desc.agg w := by
  obtain ⟨d, hd, ho⟩ := h.desc
  unfold isAgg
  simp only [Sem.run_bind, run_underlying hd, Result.andThen_ok]
  cases hk : i.desc <;> cases d <;> simp [descOK, hk] at ho <;> rfl

theorem run_size {P : Program} {t : TypeId} {i : TI} (h : TOK1 P t i) (w : World) : (sizeOf t).run P w = .ok i.leaves.length w := by
  obtain ⟨inf, hi, hs, _⟩ := h.info
  simp [sizeOf, typeInfo, hi, hs]

theorem run_zero {P : Program} {t : TypeId} {i : TI} (h : TOK1 P t i) (w : World) : (zeroValue t).run P w = .ok (zeroV i) w := by
  obtain ⟨inf, hi, _, _, hz⟩ := h.info
  simp [zeroValue, typeInfo, hi, hz]

theorem cell_at {w : World} {n : Nat} {cs : Array Value} {ty : TypeId} {fr : Nat × Nat} (hh : w.heap[n]? = some (.cells cs ty fr)) (o : Nat) : w.cell? ⟨n, o, none⟩ = cs[o]? := by
  simp [World.cell?, hh]

theorem addr_add (n o j : Nat) : (⟨n, o, none⟩ : Addr).add j = ⟨n, o + j, none⟩ := by unfold Addr.add; split <;> simp_all

theorem run_loadVar {P : Program} {t : TypeId} {i : TI} (h : TOK1 P t i) {w : World} {n o : Nat} {cs : Array Value} {ty : TypeId} {fr : Nat × Nat} (hh : w.heap[n]? = some (.cells cs ty fr)) (hb : o + i.leaves.length ≤ cs.size) :
    (loadVar t ⟨n, o, none⟩).run P w = .ok (if i.desc.agg = true then .agg (cs.extract o (o + i.leaves.length)) else cs.getD o undef) w := by
  unfold loadVar
  simp only [Sem.run_bind, run_isAgg h, Result.andThen_ok]
  cases ha : i.desc.agg with
  | true =>
    have hl : ((cs.extract o (o + i.leaves.length)).toList).length = i.leaves.length := by simp; omega
    have := run_loadCells_list (P := P) w ⟨n, o, none⟩ (cs.extract o (o + i.leaves.length)).toList (fun j v hv => by
      rw [addr_add, cell_at hh]
      rw [Array.getElem?_toList, Array.getElem?_extract] at hv
      split at hv
      · exact hv
      · cases hv)
    rw [hl] at this
    simp only [if_true, Sem.run_bind, run_size h, Result.andThen_ok, this, Sem.run_pure, Array.toArray_toList]
  | false =>
    have h1 := h.one ha
    have ho : o < cs.size := by omega
    simp only [Bool.false_eq_true, if_false, run_load, cell_at hh]
    rw [Array.getElem?_eq_getElem ho]
    simp [Array.getD, ho]

theorem run_storeVar {P : Program} {t : TypeId} {i : TI} (h : TOK1 P t i) {w : World} {n o : Nat} {cs : Array Value} {ty : TypeId} (hh : w.heap[n]? = some (.cells cs ty (0, 0))) {v : Value} (hs : v.cells.size = i.leaves.length)
    (hb : o + i.leaves.length ≤ cs.size) (h1 : ∀ u ∈ v.cells, Value.oneCell' u = true) :
    (storeVar t ⟨n, o, none⟩ v).run P w = .ok () (w.setRow n (cs.toList.take o ++ v.cells.toList ++ cs.toList.drop (o + i.leaves.length)).toArray) := by
  unfold storeVar
  have := run_storeCells_at P n o ty v.cells.toList 0 cs w hh (by simp; omega) (fun u hu => h1 u (by simpa using hu))
  simp only [Sem.run_bind, run_size h, Result.andThen_ok, hs, ne_eq, not_true_eq_false, if_false]
  simpa [hs] using this

/-- The leaves of an immutable value, as a type has them. -/
def rdD : List LK → D → Nat → List D
  | [], _, _ => []
  | k :: ks, x, j => k.norm (x.leafAt j) :: rdD ks x (j + 1)
def rdP (ks : List LK) (x : D) (j : Nat) : List PV := (rdD ks x j).map PV.d
def mkP (agg : Bool) (xs : List PV) : PV := bif agg then .st xs else xs.headD .u
def mkD (agg : Bool) (xs : List D) : D := bif agg then .g xs else xs.headD (.b false)

theorem LK.norm_of {k : LK} {y : D} (h : k.okD y) : k.norm y = y := by
  cases k <;> first | (obtain ⟨z, rfl⟩ := h; rfl) | exact h.elim
theorem LK.okD_leaf {k : LK} {y : D} (h : k.okD y) : y.isG = false := by
  cases k <;> first | (obtain ⟨z, rfl⟩ := h; rfl) | exact h.elim

theorem HasT.leaf {e : TypeId} {x : D} {i : TI} (h : HasT T e x) (hi : T e = some i) {j : Nat} {k : LK} (hk : i.leaves[j]? = some k) :
    ∃ y, x.leaves[j]? = some y ∧ x.leafAt j = y ∧ k.okD y ∧ k.norm y = y := by
  obtain ⟨i', hi', hl, ho, _⟩ := h
  rw [hi] at hi'; cases hi'
  have hj : j < x.leaves.length := by rw [hl]; exact (List.getElem?_eq_some_iff.1 hk).1
  refine ⟨x.leaves[j], List.getElem?_eq_getElem hj, by simp [D.leafAt, List.getD, List.getElem?_eq_getElem hj], ?_⟩
  have := ho j k _ hk (List.getElem?_eq_getElem hj)
  exact ⟨this, LK.norm_of this⟩

theorem rdD_get : ∀ (ks : List LK) (x : D) (o j : Nat), (rdD ks x o)[j]? = (ks[j]?).map fun k => k.norm (x.leafAt (o + j))
  | [], x, o, j => by simp [rdD]
  | k :: ks, x, o, 0 => by simp [rdD]
  | k :: ks, x, o, j + 1 => by simp only [rdD, List.getElem?_cons_succ]; rw [rdD_get ks x (o + 1) j]; congr 1; funext k; rw [show o + 1 + j = o + (j + 1) by omega]

theorem rdD_length : ∀ (ks : List LK) (x : D) (o : Nat), (rdD ks x o).length = ks.length
  | [], x, o => rfl
  | k :: ks, x, o => by simp [rdD, rdD_length ks x (o + 1)]

end Go.Abs
/- Loads and stores. -/
namespace Go.Abs
open Go.RowKit

variable {T : TT}

def eqLK (a b : List LK) : Bool := decide (a = b)

def rdW (T : TT) (i : TI) (e : TypeId) (x : D) (o : Nat) (K : PV → Prop) : Prop :=
  match T e with
  | some j => bif eqLK ((j.leaves.drop o).take i.leaves.length) i.leaves && i.leaves.all LK.isData && !i.leaves.isEmpty then K (mkP i.desc.agg (rdP i.leaves x o)) else False
  | none => False

def loadW (T : TT) (t : TypeId) (p : PV) (hp : List Blk) (K : PV → Prop) : Prop :=
  match T t with
  | none => False
  | some i => match p with
    | .ptr b o => match hp.getD b .none with
      | .var cells => bif Nat.ble (o + i.leaves.length) cells.length then K (mkP i.desc.agg ((cells.drop o).take i.leaves.length)) else False
      | _ => False
    | .rp e x o => rdW T i e x o K
    | .el b g ix o => match hp.getD b .none with
      | .buf g' e xs => g = g' ∧ rdW T i e (xs.getD ix (.b false)) o K
      | .frz g' e xs => g = g' ∧ rdW T i e (xs.getD ix (.b false)) o K
      | _ => False
    | _ => False

theorem mkP_rel {G : Gh} {w : World} {i : TI} {P : Program} {t : TypeId} (ht : TOK1 P t i) {cs : Array Value} {o : Nat} {ps : List PV} (hl : ps.length = i.leaves.length) (hb : o + i.leaves.length ≤ cs.size)
    (h : ∀ (j : Nat) (p : PV) (v : Value), ps[j]? = some p → cs[o + j]? = some v → PRel T G w p v) (h1 : ∀ v ∈ cs.extract o (o + i.leaves.length), Value.oneCell' v = true) :
    PRel T G w (mkP i.desc.agg ps) (if i.desc.agg = true then .agg (cs.extract o (o + i.leaves.length)) else cs.getD o undef) := by
  cases ha : i.desc.agg with
  | true =>
    rw [if_pos rfl]
    refine .st _ _ (by simp; omega) (fun j p v hp hv => h j p v hp ?_) h1
    rw [Array.getElem?_extract] at hv
    split at hv
    · exact hv
    · cases hv
  | false =>
    rw [if_neg (by simp)]
    have h1 := ht.one ha
    match ps, hl with
    | [p], _ =>
      refine h 0 p _ rfl ?_
      have : o < cs.size := by omega
      simp [Array.getD, this]
    | [], hl => simp at hl; omega
    | _ :: _ :: _, hl => simp at hl; omega

theorem rdW_sound {P : Program} {G : Gh} {w : World} {i : TI} {t e : TypeId} (hT : TOK P T) (ht : T t = some i) {x : D} {o q : Nat} {K : PV → Prop} (h : rdW T i e x o K) (hx : HasT T e x)
    {n : Nat} {cs : Array Value} {ty : TypeId} {fr : Nat × Nat} (hh : w.heap[n]? = some (.cells cs ty fr))
    (hc : ∀ (j : Nat) (y : D), x.leaves[j]? = some y → ∃ c, cs[q + j]? = some c ∧ Rep T G.F w y c) :
    ∃ p v, K p ∧ PRel T G w p v ∧ (loadVar t ⟨n, q + o, none⟩).run P w = .ok v w := by
  unfold rdW at h
  split at h
  case h_2 => exact h.elim
  rename_i j hj
  cases hb : (eqLK ((j.leaves.drop o).take i.leaves.length) i.leaves && i.leaves.all LK.isData && !i.leaves.isEmpty) with
  | false => rw [hb] at h; exact h.elim
  | true =>
    rw [hb] at h
    simp only [Bool.and_eq_true, Bool.not_eq_true', eqLK, decide_eq_true_eq] at hb
    obtain ⟨⟨hl, hd⟩, hne⟩ := hb
    have ht1 := hT t i ht
    have leaf : ∀ (r : Nat) (k : LK), i.leaves[r]? = some k → ∃ c, cs[q + o + r]? = some c ∧ Rep T G.F w (k.norm (x.leafAt (o + r))) c := by
      intro r k hr
      have hr' : j.leaves[o + r]? = some k := by
        rw [← hl, List.getElem?_take] at hr
        split at hr
        · rwa [List.getElem?_drop] at hr
        · cases hr
      obtain ⟨y, h1, h2, h3, h4⟩ := hx.leaf hj hr'
      obtain ⟨c, hc1, hc2⟩ := hc (o + r) y h1
      exact ⟨c, by rw [Nat.add_assoc]; exact hc1, by rw [h2, h4]; exact hc2⟩
    have hpos : 0 < i.leaves.length := by
      cases hq : i.leaves with
      | nil => rw [hq] at hne; simp at hne
      | cons a b => simp
    have hsz : q + o + i.leaves.length ≤ cs.size := by
      obtain ⟨c, hc1, _⟩ := leaf (i.leaves.length - 1) _ (List.getElem?_eq_getElem (by omega))
      have := (Array.getElem?_eq_some_iff.1 hc1).1
      omega
    refine ⟨_, _, h, mkP_rel ht1 (by simp [rdP, rdD_length]) hsz (fun r p v hp hv => ?_) (fun v hv => ?_), run_loadVar ht1 hh hsz⟩
    · simp only [rdP, List.getElem?_map, rdD_get] at hp
      cases hk : i.leaves[r]? with
      | none => simp [hk] at hp
      | some k =>
        simp only [hk, Option.map_some, Option.some.injEq] at hp
        subst hp
        obtain ⟨c, hc1, hc2⟩ := leaf r k hk
        rw [hc1] at hv; cases hv
        exact .d _ _ hc2
    · obtain ⟨r, hr, rfl⟩ := Array.mem_iff_getElem.1 hv
      have hr' : r < i.leaves.length := by simp at hr; omega
      obtain ⟨c, hc1, hc2⟩ := leaf r _ (List.getElem?_eq_getElem hr')
      have e : (cs.extract (q + o) (q + o + i.leaves.length))[r] = c := by
        rw [Array.getElem_extract]
        have := (Array.getElem?_eq_some_iff.1 hc1).2
        exact this
      rw [e]
      refine hc2.one ?_
      have hdk := (List.all_eq_true.1 hd) _ (List.getElem_mem hr')
      generalize i.leaves[r] = k at *
      cases k <;> first | rfl | simp [LK.isData] at hdk

theorem rowAt {G : Gh} {w : World} {e : TypeId} {cs : Array Value} {xs : List D} (hr : Row T G.F w e cs 0 xs) {ix : Nat} (hi : ix < xs.length) :
    HasT T e (xs.getD ix (.b false)) ∧ ∀ (j : Nat) (y : D), (xs.getD ix (.b false)).leaves[j]? = some y → ∃ c, cs[ix * szOf T e + j]? = some c ∧ Rep T G.F w y c := by
  have e1 : xs[ix]? = some (xs.getD ix (.b false)) := by simp [List.getD, List.getElem?_eq_getElem hi]
  refine ⟨hr.1 _ (List.mem_of_getElem? e1), fun j y hy => ?_⟩
  obtain ⟨c, h1, h2⟩ := hr.2 ix _ j y e1 hy
  exact ⟨c, by simpa using h1, h2⟩

/-- What a buffer is, frozen or not. -/
theorem HRel.bufAt {G : Gh} {hp : List Blk} {w : World} (h : HRel T G hp w) {b g : Nat} {e : TypeId} {xs : List D} (hb : hp.getD b Blk.none = .buf g e xs ∨ hp.getD b Blk.none = .frz g e xs) :
    g = G.γ b ∧ 0 < g ∧ G.len b = xs.length ∧ G.et b = szOf T e ∧ (∀ x ∈ xs, HasT T e x) ∧ ∀ n, G.ι b = some n → xs.length ≤ G.κ b ∧ ∃ cs ty fr, w.heap[n]? = some (.cells cs ty fr) ∧ Row T G.F w e cs 0 xs := by
  have k := h.blk b
  rcases hb with hb | hb <;> rw [hb] at k
  · cases k with
    | bufNil g e hg h0 hi hl he => exact ⟨hg, h0, by simpa using hl, he, by simp, fun n hn => by rw [hi] at hn; cases hn⟩
    | buf g e xs n cs hg h0 hi hl he hh hk hm hs hr => exact ⟨hg, h0, hl, he, hr.1, fun m hm' => by rw [hi] at hm'; cases hm'; exact ⟨hk, cs, _, _, hh, hr⟩⟩
  · cases k with
    | frzNil g e hg h0 hi hl he => exact ⟨hg, h0, by simpa using hl, he, by simp, fun n hn => by rw [hi] at hn; cases hn⟩
    | frz g e xs n cs ty fr hg h0 hi hl he hF hh hk hr => exact ⟨hg, h0, hl, he, hr.1, fun m hm' => by rw [hi] at hm'; cases hm'; exact ⟨hk, cs, _, _, hh, hr⟩⟩

theorem loadW_sound {P : Program} {G : Gh} {hp : List Blk} {w : World} {t : TypeId} (hT : TOK P T) (hh : HRel T G hp w) {p : PV} {v : Value} (hp' : PRel T G w p v) {K : PV → Prop} (h : loadW T t p hp K) :
    ∃ q u, K q ∧ PRel T G w q u ∧ (Instr.loadAt t v).run P w = .ok u w := by
  unfold loadW at h
  split at h
  case h_1 => exact h.elim
  rename_i i ht
  have ht1 := hT t i ht
  split at h
  case h_1 b o =>
    split at h
    case h_2 => exact h.elim
    rename_i cells hc
    cases hb : Nat.ble (o + i.leaves.length) cells.length with
    | false => rw [hb] at h; exact h.elim
    | true =>
      rw [hb] at h
      have hb' := Nat.le_of_ble_eq_true hb
      have k := hh.blk b
      rw [hc] at k
      cases k with
      | var cells n cs ty hi h0 hw hl hx h1 =>
        cases hp' with
        | ptr b o m hm _ =>
          rw [hi] at hm; cases hm
          have hsz : o + i.leaves.length ≤ cs.size := by omega
          refine ⟨_, _, h, mkP_rel ht1 (by simp; omega) hsz (fun j p v hp hv => ?_) (fun v hv => ?_), ?_⟩
          · rw [List.getElem?_take] at hp
            split at hp
            · rw [List.getElem?_drop] at hp; exact hx _ p v hp hv
            · cases hp
          · obtain ⟨r, hr, rfl⟩ := Array.mem_iff_getElem.1 hv
            rw [Array.getElem_extract]
            exact h1 _ (Array.getElem_mem _)
          · simp only [Instr.loadAt, Instr.sureAddr, Sem.run_bind, Sem.run_pure, Result.andThen_ok]
            exact run_loadVar ht1 hw hsz
  case h_2 e x o =>
    cases hp' with
    | rp e x o bl q cs ty fr hF hw hx hc =>
      obtain ⟨p, u, h1, h2, h3⟩ := rdW_sound hT ht h hx hw hc
      exact ⟨p, u, h1, h2, by simp only [Instr.loadAt, Instr.sureAddr, Sem.run_bind, Sem.run_pure, Result.andThen_ok]; exact h3⟩
  case h_3 b g ix o =>
    have main : ∀ {g' : Nat} {e : TypeId} {xs : List D}, (hp.getD b Blk.none = .buf g' e xs ∨ hp.getD b Blk.none = .frz g' e xs) → g = g' → rdW T i e (xs.getD ix (.b false)) o K → ∃ q u, K q ∧ PRel T G w q u ∧ (Instr.loadAt t v).run P w = .ok u w := by
      intro g' e xs hb hg h
      obtain ⟨e1, e2, e3, e4, e5, e6⟩ := hh.bufAt hb
      subst hg
      cases hp' with
      | elOld b g ix o v hlt => omega
      | el b g ix o n hg0 h0 hn hi =>
        obtain ⟨_, cs, ty, fr, hw, hr⟩ := e6 n hn
        have ra := rowAt hr (ix := ix) (by omega)
        obtain ⟨p, u, h1, h2, h3⟩ := rdW_sound (q := ix * szOf T e) hT ht h ra.1 hw ra.2
        exact ⟨p, u, h1, h2, by simp only [Instr.loadAt, Instr.sureAddr, Sem.run_bind, Sem.run_pure, Result.andThen_ok]; rw [e4]; exact h3⟩
    split at h
    · rename_i g' e xs hb; exact main (.inl hb) h.1 h.2
    · rename_i g' e xs hb; exact main (.inr hb) h.1 h.2
    · exact h.elim
  case h_4 => exact h.elim

end Go.Abs
/- Stores. -/
namespace Go.Abs
open Go.RowKit

variable {T : TT}

def splice {α : Type} (l : List α) (o : Nat) (ys : List α) : List α := l.take o ++ ys ++ l.drop (o + ys.length)

theorem splice_get {α : Type} {l : List α} {o : Nat} {ys : List α} (h : o + ys.length ≤ l.length) (q : Nat) :
    (splice l o ys)[q]? = if q < o then l[q]? else if q < o + ys.length then ys[q - o]? else l[q]? := by
  unfold splice
  rw [List.append_assoc]
  by_cases h1 : q < o
  · rw [if_pos h1, List.getElem?_append_left (by simp; omega), List.getElem?_take, if_pos h1]
  · rw [if_neg h1, List.getElem?_append_right (by simp; omega)]
    have e : (l.take o).length = o := by simp; omega
    rw [e]
    by_cases h2 : q < o + ys.length
    · rw [if_pos h2, List.getElem?_append_left (by omega)]
    · rw [if_neg h2, List.getElem?_append_right (by omega), List.getElem?_drop]
      congr 1; omega

theorem splice_length {α : Type} {l : List α} {o : Nat} {ys : List α} (h : o + ys.length ≤ l.length) : (splice l o ys).length = l.length := by
  simp [splice]; omega

/-- The conditions on the generations of what is stored, ahead of Q. -/
def nowA (hp : List Blk) : List PV → Prop → Prop
  | [], Q => Q
  | p :: ps, Q => match p with
    | .sl b g n => nowP hp (.sl b g n) ∧ nowA hp ps Q
    | .el b g i o => nowP hp (.el b g i o) ∧ nowA hp ps Q
    | _ => nowA hp ps Q

theorem nowA_iff (hp : List Blk) (Q : Prop) : ∀ ps, nowA hp ps Q → nowPs hp ps ∧ Q
  | [], h => ⟨trivial, h⟩
  | p :: ps, h => by
    cases p <;> first
      | (have := nowA_iff hp Q ps h; exact this)
      | (have := nowA_iff hp Q ps h.2; exact ⟨⟨h.1, this.1⟩, this.2⟩)

def leafD (k : LK) (p : PV) : Option D :=
  match k, p with
  | .bool, .kb c => some (.b c)
  | .bool, .d (.b x) => some (.b x)
  | .int k, .d (.i k' n) => if k = k' then some (.i k n) else none
  | .str, .d (.s x) => some (.s x)
  | .slice e, .d (.l e' xs) => bif Nat.beq e e' then some (.l e xs) else none
  | .slice e, .c (.slice none 0 0) => some (.l e [])
  | _, _ => none

def leafDs : List LK → List PV → Option (List D)
  | [], [] => some []
  | k :: ks, p :: ps => match leafD k p with
    | some y => match leafDs ks ps with
      | some ys => some (y :: ys)
      | none => none
    | none => none
  | _, _ => none

theorem leafD_ok {k : LK} {p : PV} {y : D} (h : leafD k p = some y) : k.okD y := by
  unfold leafD at h
  split at h
  · cases h; exact ⟨_, rfl⟩
  · cases h; exact ⟨_, rfl⟩
  · split at h
    · cases h; exact ⟨_, rfl⟩
    · cases h
  · cases h; exact ⟨_, rfl⟩
  · rename_i e e' xs
    cases hb : Nat.beq e e' with
    | true => rw [hb] at h; cases h; exact ⟨_, rfl⟩
    | false => rw [hb] at h; cases h
  · cases h; exact ⟨_, rfl⟩
  · cases h

theorem leafD_rel {G : Gh} {w : World} {k : LK} {p : PV} {y : D} {v : Value} (h : leafD k p = some y) (hp : PRel T G w p v) : Rep T G.F w y v := by
  unfold leafD at h
  split at h
  · cases h; cases hp; exact .b _
  · cases h; cases hp with | d x v h => exact h
  · split at h
    · rename_i hk; subst hk; cases h; cases hp with | d x v h => exact h
    · cases h
  · cases h; cases hp with | d x v h => exact h
  · rename_i e e' xs
    cases hb : Nat.beq e e' with
    | true => rw [hb] at h; cases h; have := Nat.eq_of_beq_eq_true hb; subst this; cases hp with | d x v h => exact h
    | false => rw [hb] at h; cases h
  · cases h; cases hp; exact .e _ _ _
  · cases h

theorem leafDs_spec {G : Gh} {w : World} : ∀ {ks : List LK} {ps : List PV} {ys : List D}, leafDs ks ps = some ys → ys.length = ks.length ∧ ps.length = ks.length ∧
    ∀ (j : Nat) (y : D), ys[j]? = some y → ∃ k p, ks[j]? = some k ∧ ps[j]? = some p ∧ k.okD y ∧ ∀ v, PRel T G w p v → Rep T G.F w y v
  | [], [], ys, h => by cases h; exact ⟨rfl, rfl, fun j y hy => by simp at hy⟩
  | k :: ks, p :: ps, ys, h => by
    unfold leafDs at h
    split at h
    case h_2 => cases h
    rename_i y hy
    split at h
    case h_2 => cases h
    rename_i ys' hys
    cases h
    obtain ⟨h1, h2, h3⟩ := leafDs_spec (G := G) (w := w) hys
    refine ⟨by simp [h1], by simp [h2], fun j z hz => ?_⟩
    cases j with
    | zero => simp at hz; subst hz; exact ⟨k, p, rfl, rfl, leafD_ok hy, fun v hv => leafD_rel hy hv⟩
    | succ j => simp at hz; obtain ⟨k', p', a, b, c⟩ := h3 j z hz; exact ⟨k', p', by simpa using a, by simpa using b, c⟩
  | [], _ :: _, ys, h => by cases h
  | _ :: _, [], ys, h => by cases h

def storeW (T : TT) (t : TypeId) (pa px : PV) (hp : List Blk) (K : List Blk → Prop) : Prop :=
  match T t with
  | none => False
  | some i => match pa with
    | .ptr b o => match hp.getD b .none with
      | .var cells => bif Nat.ble (o + i.leaves.length) cells.length && cellsOK px && Nat.beq (cellsP px).length i.leaves.length then
          nowA hp (cellsP px) (K (hput hp b (.var (splice cells o (cellsP px))))) else False
      | _ => False
    | .el b g ix o => match hp.getD b .none with
      | .buf g' e xs => match T e with
        | some j => bif eqLK ((j.leaves.drop o).take i.leaves.length) i.leaves && !i.leaves.isEmpty then
            (match leafDs i.leaves (cellsP px) with
            | some ys => g = g' ∧ K (hput hp b (.buf g' e (xs.set ix (mkD j.desc.agg (splice (rdD j.leaves (xs.getD ix (.b false)) 0) o ys)))))
            | none => False) else False
        | none => False
      | _ => False
    | _ => False

theorem PRel.cellsLen {G : Gh} {w : World} {p : PV} {v : Value} (h : PRel T G w p v) (ks : List LK) (ys : List D) (hy : leafDs ks (cellsP p) = some ys) :
    v.cells.size = ks.length ∧ ∀ (j : Nat) (y : D) (u : Value), ys[j]? = some y → v.cells[j]? = some u → Rep T G.F w y u ∧ u.oneCell' = true := by
  obtain ⟨l1, l2, l3⟩ := leafDs_spec (T := T) (G := G) (w := w) hy
  by_cases hs : ∃ xs, p = .st xs
  · obtain ⟨xs, rfl⟩ := hs
    cases h with
    | st xs vs hl hx h1 =>
      refine ⟨by simpa [Value.cells] using hl.trans l2, fun j y u hy hu => ?_⟩
      obtain ⟨k, q, a, b, c, d⟩ := l3 j y hy
      have hu' : vs[j]? = some u := hu
      have r := d u (hx j q u b hu')
      exact ⟨r, r.one (LK.okD_leaf c)⟩
  · have e : cellsP p = [p] := by cases p <;> first | rfl | exact absurd ⟨_, rfl⟩ hs
    rw [e] at l2 l3 hy
    match ks, l2 with
    | [k], _ =>
      match ys, l1 with
      | [y], _ =>
        obtain ⟨k', q, a, b, c, d⟩ := l3 0 y rfl
        simp at a b; subst a; subst b
        have r := d v h
        have o1 := r.one (LK.okD_leaf c)
        have ec : v.cells = #[v] := by cases v <;> first | rfl | simp [Value.oneCell'] at o1
        rw [ec]
        refine ⟨rfl, fun j y' u hy' hu => ?_⟩
        cases j with
        | zero => simp at hy' hu; subst hy'; subst hu; exact ⟨r, o1⟩
        | succ j => simp at hy'

/-- One block's row of cells turns; the ghost state stays. -/
theorem HRel.setRow {G : Gh} {hp : List Blk} {w : World} (h : HRel T G hp w) {b n : Nat} {k' : Blk} (cs' : Array Value) (ha : (hp.getD b Blk.none).alive = true) (hb : G.ι b = some n)
    (hk : BRel T G (w.setRow n cs') b k') :
    HRel T G (hput hp b k') (w.setRow n cs') ∧ Evo G hp w G (hput hp b k') (w.setRow n cs') := by
  refine h.step b k' (GExt.refl G) (fun _ _ => ⟨rfl, rfl⟩) rfl rfl rfl (by simp) (fun m _ hm => ?_) hk (fun m hm => .inl hm) (fun _ m hm => ?_)
  · exact setRow_other w n m _ (fun e => hm ha (by rw [e]; exact hb))
  · exact ⟨.inr ⟨ha, hm⟩, h.sep b m ha hm⟩

theorem HRel.fz {G : Gh} {hp : List Blk} {w : World} (h : HRel T G hp w) {b n : Nat} (ha : (hp.getD b Blk.none).alive = true) (hb : G.ι b = some n) (cs' : Array Value) : ∀ m, G.F m → (w.setRow n cs').heap[m]? = w.heap[m]? :=
  fun m hm => setRow_other w n m _ (fun e => h.sep b n ha hb (e ▸ hm))

theorem szOf_eq {e : TypeId} {j : TI} (h : T e = some j) : szOf T e = j.leaves.length := by simp [szOf, h]

theorem HasT.len {e : TypeId} {x : D} (h : HasT T e x) : x.leaves.length = szOf T e := by
  obtain ⟨i, hi, hl, _⟩ := h
  rw [hl, szOf_eq hi]

theorem HasT.mk {P : Program} {e : TypeId} {j : TI} (hT : TOK1 P e j) (he : T e = some j) {ys : List D} (hl : ys.length = j.leaves.length) (ho : ∀ (r : Nat) (k : LK) (y : D), j.leaves[r]? = some k → ys[r]? = some y → k.okD y) :
    HasT T e (mkD j.desc.agg ys) ∧ (mkD j.desc.agg ys).leaves = ys := by
  have el : (mkD j.desc.agg ys).leaves = ys := by
    cases ha : j.desc.agg with
    | true => rfl
    | false =>
      have h1 := hT.one ha
      match ys, hl, ho with
      | [y], _, ho =>
        have hk := ho 0 (j.leaves[0]'(by omega)) y (List.getElem?_eq_getElem (by omega)) rfl
        have := LK.okD_leaf hk
        show D.leaves y = [y]
        cases y <;> first | rfl | simp [D.isG] at this
      | [], hl, _ => simp at hl; omega
      | _ :: _ :: _, hl, _ => simp at hl; omega
  refine ⟨⟨j, he, by rw [el, hl], by rw [el]; exact ho, ?_⟩, el⟩
  cases ha : j.desc.agg with
  | true => rfl
  | false =>
    have h1 := hT.one ha
    match ys, hl, ho with
    | [y], _, ho => exact LK.okD_leaf (ho 0 (j.leaves[0]'(by omega)) y (List.getElem?_eq_getElem (by omega)) rfl)
    | [], hl, _ => simp at hl; omega
    | _ :: _ :: _, hl, _ => simp at hl; omega

/-- One element of a row turns in part. -/
theorem Row.set {P : Program} {F : Nat → Prop} {w w' : World} {e : TypeId} {j : TI} (hT : TOK1 P e j) (he : T e = some j) {cs : Array Value} {xs : List D} (hr : Row T F w e cs 0 xs) (hw : ∀ n, F n → w'.heap[n]? = w.heap[n]?)
    {ix o : Nat} (hix : ix < xs.length) {ys : List D} {us : List Value} (hl : us.length = ys.length) (ho : o + ys.length ≤ j.leaves.length) (hk : ∀ (r : Nat) (k : LK) (y : D), j.leaves[o + r]? = some k → ys[r]? = some y → k.okD y)
    (hu : ∀ (r : Nat) (y : D) (u : Value), ys[r]? = some y → us[r]? = some u → Rep T F w y u) (hsz : (ix + 1) * j.leaves.length ≤ cs.size) :
    Row T F w' e (splice cs.toList (ix * szOf T e + o) us).toArray 0 (xs.set ix (mkD j.desc.agg (splice (rdD j.leaves (xs.getD ix (.b false)) 0) o ys))) := by
  have hx := rowAt (G := ⟨F, fun _ => none, fun _ => 0, fun _ => 0, fun _ => 0, fun _ => 0⟩) hr hix
  have sz : szOf T e = j.leaves.length := szOf_eq he
  have e1 : xs[ix]? = some (xs.getD ix (.b false)) := by simp [List.getD, List.getElem?_eq_getElem hix]
  have lr : (rdD j.leaves (xs.getD ix (.b false)) 0).length = j.leaves.length := rdD_length _ _ _
  have ls : (splice (rdD j.leaves (xs.getD ix (.b false)) 0) o ys).length = j.leaves.length := by rw [splice_length (by omega), lr]
  have get : ∀ (r : Nat), (splice (rdD j.leaves (xs.getD ix (.b false)) 0) o ys)[r]? = if r < o then (j.leaves[r]?).map (fun k => k.norm ((xs.getD ix (.b false)).leafAt r)) else if r < o + ys.length then ys[r - o]? else (j.leaves[r]?).map (fun k => k.norm ((xs.getD ix (.b false)).leafAt r)) := by
    intro r
    rw [splice_get (by omega), rdD_get]
    simp only [Nat.zero_add]
  have okl : ∀ (r : Nat) (k : LK) (y : D), j.leaves[r]? = some k → (splice (rdD j.leaves (xs.getD ix (.b false)) 0) o ys)[r]? = some y → k.okD y := by
    intro r k y hk1 hy
    rw [get] at hy
    obtain ⟨z, h1, h2, h3, h4⟩ := hx.1.leaf he hk1
    by_cases c1 : r < o
    · rw [if_pos c1, hk1] at hy; simp at hy; subst hy; rw [← List.getD_eq_getElem?_getD, h2, h4]; exact h3
    · rw [if_neg c1] at hy
      by_cases c2 : r < o + ys.length
      · rw [if_pos c2] at hy
        exact hk (r - o) k y (by rw [show o + (r - o) = r by omega]; exact hk1) hy
      · rw [if_neg c2, hk1] at hy; simp at hy; subst hy; rw [← List.getD_eq_getElem?_getD, h2, h4]; exact h3
  obtain ⟨hT', hlv⟩ := HasT.mk hT he ls okl
  have fits : ix * szOf T e + o + us.length ≤ cs.toList.length := by
    rw [Nat.succ_mul] at hsz; simp only [Array.length_toList]; rw [sz]; omega
  refine ⟨fun x hx' => ?_, fun i x r y hxi hy => ?_⟩
  · rcases List.mem_or_eq_of_mem_set hx' with h1 | h1
    · exact hr.1 x h1
    · subst h1; exact hT'
  · simp only [List.getElem?_toArray]
    rw [splice_get fits]
    by_cases hi : i = ix
    · subst hi
      rw [List.getElem?_set_self hix] at hxi
      cases hxi
      rw [hlv] at hy
      have hrl : r < j.leaves.length := by rw [← ls]; exact (List.getElem?_eq_some_iff.1 hy).1
      obtain ⟨z, h1, h2, h3, h4⟩ := hx.1.leaf he (List.getElem?_eq_getElem hrl)
      obtain ⟨c0, hc0, hc1⟩ := hx.2 r z h1
      rw [get] at hy
      by_cases c1 : r < o
      · rw [if_pos (by omega)]
        rw [if_pos c1, List.getElem?_eq_getElem hrl] at hy; simp at hy
        rw [← List.getD_eq_getElem?_getD, h2, h4] at hy; subst hy
        exact ⟨c0, by simpa using hc0, hc1.mono (fun _ h => h) hw⟩
      · rw [if_neg c1] at hy
        rw [if_neg (by omega)]
        by_cases c2 : r < o + ys.length
        · rw [if_pos c2] at hy
          rw [if_pos (by omega)]
          have hq : r - o < us.length := by omega
          refine ⟨us[r - o], ?_, (hu (r - o) y _ hy (List.getElem?_eq_getElem hq)).mono (fun _ h => h) hw⟩
          rw [show 0 + i * szOf T e + r - (i * szOf T e + o) = r - o by omega]
          exact List.getElem?_eq_getElem hq
        · rw [if_neg c2, List.getElem?_eq_getElem hrl] at hy; simp at hy
          rw [← List.getD_eq_getElem?_getD, h2, h4] at hy; subst hy
          rw [if_neg (by omega)]
          exact ⟨c0, by simpa using hc0, hc1.mono (fun _ h => h) hw⟩
    · rw [List.getElem?_set_ne (by omega)] at hxi
      obtain ⟨c, h1, h2⟩ := hr.2 i x r y hxi hy
      have hxT := hr.1 x (List.mem_of_getElem? hxi)
      have hrl : r < szOf T e := by rw [← hxT.len]; exact (List.getElem?_eq_some_iff.1 hy).1
      refine ⟨c, ?_, h2.mono (fun _ h => h) hw⟩
      rcases Nat.lt_or_gt_of_ne hi with hlt | hgt
      · have : (i + 1) * szOf T e ≤ ix * szOf T e := Nat.mul_le_mul_right _ hlt
        rw [Nat.succ_mul] at this
        rw [if_pos (by omega)]; simpa using h1
      · have : (ix + 1) * szOf T e ≤ i * szOf T e := Nat.mul_le_mul_right _ hgt
        rw [Nat.succ_mul] at this
        rw [if_neg (by omega), if_neg (by omega)]; simpa using h1

end Go.Abs
/- A store is sound; a buffer is frozen. -/
namespace Go.Abs
open Go.RowKit

variable {T : TT}

theorem toArray_size_splice (cs : Array Value) (o : Nat) (us : List Value) (h : o + us.length ≤ cs.size) : ((splice cs.toList o us).toArray).size = cs.size := by
  simp only [List.size_toArray]; rw [splice_length (by simpa using h)]; simp

theorem storeW_sound {P : Program} {G : Gh} {hp : List Blk} {w : World} {t : TypeId} (hT : TOK P T) (hh : HRel T G hp w) {pa px : PV} {va vx : Value} (ha : PRel T G w pa va) (hx : PRel T G w px vx) {K : List Blk → Prop} (h : storeW T t pa px hp K) :
    ∃ hp' w', K hp' ∧ (Instr.storeAt t va vx).run P w = .ok () w' ∧ HRel T G hp' w' ∧ Evo G hp w G hp' w' := by
  unfold storeW at h
  split at h
  case h_1 => exact h.elim
  rename_i i ht
  have ht1 := hT t i ht
  split at h
  case h_1 b o =>
    split at h
    case h_2 => exact h.elim
    rename_i cells hc
    cases hb : (Nat.ble (o + i.leaves.length) cells.length && cellsOK px && Nat.beq (cellsP px).length i.leaves.length) with
    | false => rw [hb] at h; exact h.elim
    | true =>
      rw [hb] at h
      simp only [Bool.and_eq_true] at hb
      obtain ⟨⟨hb1, hb2⟩, hb3⟩ := hb
      have hb1 := Nat.le_of_ble_eq_true hb1
      have hb3 := Nat.eq_of_beq_eq_true hb3
      obtain ⟨hn, hK⟩ := nowA_iff _ _ _ h
      obtain ⟨c1, c2, c3⟩ := hx.cells hh hb2 hn
      have k := hh.blk b
      have hal : (hp.getD b Blk.none).alive = true := by rw [hc]; rfl
      rw [hc] at k
      cases k with
      | var cells n cs ty hi h0 hw hl hcs h1 =>
        cases ha with
        | ptr b o m hm _ =>
          rw [hi] at hm; cases hm
          have hsz : o + i.leaves.length ≤ cs.size := by omega
          have run := run_storeVar ht1 hw (by omega) hsz c3
          have fits : o + vx.cells.toList.length ≤ cs.toList.length := by simp; omega
          have e : cs.toList.take o ++ vx.cells.toList ++ cs.toList.drop (o + i.leaves.length) = splice cs.toList o vx.cells.toList := by
            unfold splice; simp only [Array.length_toList]; rw [show vx.cells.size = i.leaves.length by omega]
          rw [e] at run
          have st := hh.setRow (k' := .var (splice cells o (cellsP px))) (splice cs.toList o vx.cells.toList).toArray hal hi (by
            have fz := hh.fz hal hi (splice cs.toList o vx.cells.toList).toArray
            refine .var _ n _ ty hi h0 (setRow_heap w n cs _ ty _ hw) ?_ (fun j p v hp hv => ?_) (fun v hv => ?_)
            · rw [toArray_size_splice _ _ _ (by simpa using fits), splice_length (by omega), hl]
            · simp only [List.getElem?_toArray] at hv
              rw [splice_get fits] at hv
              rw [splice_get (by omega)] at hp
              simp only [Array.length_toList, c1] at hv
              by_cases q1 : j < o
              · rw [if_pos q1] at hp hv
                exact (hcs j p v hp (by simpa using hv)).mono (GExt.refl G) fz
              · rw [if_neg q1] at hp hv
                by_cases q2 : j < o + (cellsP px).length
                · rw [if_pos q2] at hp hv
                  exact (c2 (j - o) p v hp (by simpa using hv)).mono (GExt.refl G) fz
                · rw [if_neg q2] at hp hv
                  exact (hcs j p v hp (by simpa using hv)).mono (GExt.refl G) fz
            · have hv' : v ∈ splice cs.toList o vx.cells.toList := by simpa using hv
              unfold splice at hv'
              rcases List.mem_append.1 hv' with hv' | hv'
              · rcases List.mem_append.1 hv' with hv' | hv'
                · exact h1 v (by simpa using List.mem_of_mem_take hv')
                · exact c3 v (by simpa using hv')
              · exact h1 v (by simpa using List.mem_of_mem_drop hv'))
          exact ⟨_, _, hK, by simp only [Instr.storeAt, Instr.sureAddr, Sem.run_bind, Sem.run_pure, Result.andThen_ok]; exact run, st.1, st.2⟩
  case h_2 b g ix o =>
    split at h
    case h_2 => exact h.elim
    rename_i g' e xs hc
    split at h
    case h_2 => exact h.elim
    rename_i j hj
    cases hb : (eqLK ((j.leaves.drop o).take i.leaves.length) i.leaves && !i.leaves.isEmpty) with
    | false => rw [hb] at h; exact h.elim
    | true =>
      rw [hb] at h
      simp only [Bool.and_eq_true, Bool.not_eq_true', eqLK, decide_eq_true_eq] at hb
      obtain ⟨hlv, hne⟩ := hb
      have hpos : 0 < i.leaves.length := by
        cases hq : i.leaves with
        | nil => rw [hq] at hne; simp at hne
        | cons a b => simp
      simp only [cond_true] at h
      split at h
      case h_2 => exact h.elim
      rename_i ys hys
      obtain ⟨hg, hK⟩ := h
      obtain ⟨l1, l2, l3⟩ := leafDs_spec (T := T) (G := G) (w := w) hys
      obtain ⟨c1, c2⟩ := hx.cellsLen _ _ hys
      have hal : (hp.getD b Blk.none).alive = true := by rw [hc]; rfl
      obtain ⟨e1, e2, e3, e4, e5, e6⟩ := hh.bufAt (.inl hc)
      have hoj : o + i.leaves.length ≤ j.leaves.length := by
        have := congrArg List.length hlv
        simp at this; omega
      have k := hh.blk b
      rw [hc] at k
      have hje := hT e j hj
      cases ha with
      | elOld b g ix o v hlt => omega
      | el b g ix o n hg0 h0 hn hi =>
        cases k with
        | bufNil g e hg h0 hi hl he => rw [hi] at hn; cases hn
        | buf g e xs n' cs hg1 h01 hi1 hl1 he1 hw hk1 hm1 hs1 hr =>
          rw [hn] at hi1; cases hi1
          have hix : ix < xs.length := by omega
          have sz : szOf T e = j.leaves.length := szOf_eq hj
          have hfit : (ix + 1) * j.leaves.length ≤ cs.size := by
            rw [hs1, sz]; exact Nat.mul_le_mul_right _ (by omega)
          have hfit' : ix * szOf T e + o + i.leaves.length ≤ cs.size := by rw [Nat.succ_mul] at hfit; rw [sz]; omega
          have run := run_storeVar ht1 hw (by omega) hfit' (fun u hu => by
            obtain ⟨r, hr', rfl⟩ := Array.mem_iff_getElem.1 hu
            have hry : r < ys.length := by omega
            exact (c2 r ys[r] _ (List.getElem?_eq_getElem hry) (Array.getElem?_eq_getElem hr')).2)
          have eqs : cs.toList.take (ix * szOf T e + o) ++ vx.cells.toList ++ cs.toList.drop (ix * szOf T e + o + i.leaves.length) = splice cs.toList (ix * szOf T e + o) vx.cells.toList := by
            unfold splice; simp only [Array.length_toList]; rw [show vx.cells.size = i.leaves.length by omega]
          rw [eqs] at run
          have fz := hh.fz hal hn (splice cs.toList (ix * szOf T e + o) vx.cells.toList).toArray
          have st := hh.setRow (k' := .buf g' e (xs.set ix (mkD j.desc.agg (splice (rdD j.leaves (xs.getD ix (.b false)) 0) o ys)))) (splice cs.toList (ix * szOf T e + o) vx.cells.toList).toArray hal hn (by
            refine .buf g' e _ n _ hg1 h01 hn (by simpa using hl1) he1 (setRow_heap w n cs _ e _ hw) (by simpa using hk1) hm1 (by rw [toArray_size_splice _ _ _ (by simp; omega)]; exact hs1) ?_
            refine Row.set hje hj hr fz hix (by simp; omega) (by omega) (fun r k y hk hy => ?_) (fun r y u hy hu => ?_) hfit
            · obtain ⟨k', p, a1, a2, a3, a4⟩ := l3 r y hy
              have : i.leaves[r]? = some k := by
                rw [← hlv, List.getElem?_take, if_pos (by rw [← l1]; exact (List.getElem?_eq_some_iff.1 hy).1), List.getElem?_drop]; exact hk
              rw [this] at a1; cases a1; exact a3
            · exact (c2 r y u hy (by simpa using hu)).1)
          refine ⟨_, _, hK, ?_, st.1, st.2⟩
          simp only [Instr.storeAt, Instr.sureAddr, Sem.run_bind, Sem.run_pure, Result.andThen_ok]
          rw [he1]; exact run
  case h_3 => exact h.elim

/-! ## Freezing -/

def Gh.freeze (G : Gh) (b : Nat) : Gh := { G with F := fun n => G.F n ∨ G.ι b = some n }

theorem GExt.freeze (G : Gh) (b : Nat) : GExt G (G.freeze b) := ⟨fun _ h => .inl h, fun _ => Nat.le_refl _, fun _ h _ => h, fun _ _ _ => ⟨rfl, rfl, rfl, rfl⟩⟩

theorem HRel.freeze {G : Gh} {hp : List Blk} {w : World} (h : HRel T G hp w) {b g : Nat} {e : TypeId} {xs : List D} (hb : hp.getD b Blk.none = .buf g e xs) :
    HRel T (G.freeze b) (hput hp b (.frz g e xs)) w ∧ Evo G hp w (G.freeze b) (hput hp b (.frz g e xs)) w := by
  have hal : (hp.getD b Blk.none).alive = true := by rw [hb]; rfl
  refine h.step b (.frz g e xs) (GExt.freeze G b) (fun _ _ => ⟨rfl, rfl⟩) rfl rfl rfl (Nat.le_refl _) (fun _ _ _ => rfl) ?_ (fun n hn => ?_) (fun hk => by cases hk)
  · have k := h.blk b
    rw [hb] at k
    cases k with
    | bufNil g e hg h0 hi hl he => exact .frzNil g e hg h0 hi hl he
    | buf g e xs n cs hg h0 hi hl he hw hk hm hs hr =>
      exact .frz g e xs n cs _ _ hg h0 hi hl he (.inr hi) hw hk (hr.mono (fun _ h => .inl h) (fun _ _ => rfl))
  · rcases hn with hn | hn
    · exact .inl hn
    · exact .inr (.inr ⟨hal, hn⟩)

/-- A slice of a frozen buffer is immutable data. -/
theorem HRel.frozenData {G : Gh} {hp : List Blk} {w : World} (h : HRel T G hp w) {b g n : Nat} {e : TypeId} {xs : List D} (hb : hp.getD b Blk.none = .frz g e xs) {v : Value} (hv : PRel T G w (.sl b g n) v) :
    Rep T G.F w (.l e (xs.take n)) v := by
  obtain ⟨e1, e2, e3, e4, e5, e6⟩ := h.bufAt (.inr hb)
  have k := h.blk b
  rw [hb] at k
  cases hv with
  | slOld b g n v hlt => omega
  | slNil b g hg h0 hi => simp only [List.take_zero]; exact .e _ _ _
  | sl b g n m hg h0 hi hn =>
    cases k with
    | frzNil g e hg h0 hi' => rw [hi'] at hi; cases hi
    | frz g e xs m' cs ty fr hg1 h01 hi1 hl1 he1 hF hw hk hr =>
      rw [hi] at hi1; cases hi1
      have hl : (xs.take n).length = n := by rw [List.length_take]; omega
      have main := Rep.l (T := T) (F := G.F) (w := w) e (xs.take n) m 0 (G.κ b) cs ty fr (fun i j => cs.getD (i * szOf T e + j) undef) hF (by omega) hw
        (fun x hx => hr.1 x (List.mem_of_mem_take hx))
        (fun i x j y hx hy => by
          rw [List.getElem?_take] at hx
          split at hx
          · obtain ⟨c, h1, h2⟩ := hr.2 i x j y hx hy
            simp only [Nat.zero_add] at h1 ⊢
            rw [h1]; simp [Array.getD, (Array.getElem?_eq_some_iff.1 h1).1, (Array.getElem?_eq_some_iff.1 h1).2]
          · cases hx)
        (fun i x j y hx hy => by
          rw [List.getElem?_take] at hx
          split at hx
          · obtain ⟨c, h1, h2⟩ := hr.2 i x j y hx hy
            simp only [Nat.zero_add] at h1
            have : cs.getD (i * szOf T e + j) undef = c := by simp [Array.getD, (Array.getElem?_eq_some_iff.1 h1).1, (Array.getElem?_eq_some_iff.1 h1).2]
            rw [this]; exact h2
          · cases hx)
      rw [hl] at main
      exact main

end Go.Abs
/- The operations that touch no memory. -/
namespace Go.Abs
open Go.RowKit

variable {T : TT}

def pickW (c a b : PV) (K : PV → Prop) : Prop :=
  match c with
  | .kb t => K (bif t then a else b)
  | .d (.b x) => match boolP a, boolP b with
    | some p, some q => K (.d (.b (bif x then p else q)))
    | _, _ => (x = true → K a) ∧ (x = false → K b)
  | _ => False

theorem pickW_sound {G : Gh} {w : World} {c a b : PV} {vc va vb : Value} (hc : PRel T G w c vc) (ha : PRel T G w a va) (hb : PRel T G w b vb) {K : PV → Prop} (h : pickW c a b K) :
    ∃ t p, vc = .bool t ∧ K p ∧ PRel T G w p (if t = true then va else vb) := by
  unfold pickW at h
  split at h
  · rename_i t
    cases hc
    refine ⟨t, _, rfl, h, ?_⟩
    cases t
    · exact hb
    · exact ha
  · rename_i x
    have e := boolP_rel hc (x := x) rfl
    subst e
    split at h
    · rename_i p q hp hq
      have e1 := boolP_rel ha hp
      have e2 := boolP_rel hb hq
      subst e1; subst e2
      refine ⟨x, _, rfl, h, ?_⟩
      cases x
      · exact .d _ _ (.b _)
      · exact .d _ _ (.b _)
    · cases x
      · exact ⟨false, b, rfl, h.2 rfl, hb⟩
      · exact ⟨true, a, rfl, h.1 rfl, ha⟩
  · exact h.elim

def unW (op : UnOp) (x : PV) (K : PV → Prop) : Prop :=
  match op with
  | .not => match boolP x with | some p => K (.d (.b (!p))) | none => False
  | .neg => match x with | .d (.i k n) => K (.d (.i k (k.wrap (0 - n)))) | _ => False
  | .xor => match x with | .d (.i k n) => K (.d (.i k (k.wrap (BitVec.ofInt k.bits (if k.signed then -1 else k.max) ^^^ BitVec.ofInt k.bits n).toNat))) | _ => False
  | _ => False

theorem unW_sound {P : Program} {G : Gh} {w : World} {op : UnOp} {x : PV} {v : Value} (hx : PRel T G w x v) {K : PV → Prop} (h : unW op x K) :
    ∃ p u, K p ∧ PRel T G w p u ∧ (Op.unary op v).run P w = .ok u w := by
  unfold unW at h
  split at h
  · split at h
    · rename_i p hp
      have e := boolP_rel hx hp
      subst e
      exact ⟨_, _, h, .d _ _ (.b _), by simp [Op.unary]⟩
    · exact h.elim
  · split at h
    · have e := hx.int; subst e
      exact ⟨_, _, h, .d _ _ (.i _ _), by simp [Op.unary, Op.intArith]⟩
    · exact h.elim
  · split at h
    · have e := hx.int; subst e
      exact ⟨_, _, h, .d _ _ (.i _ _), rfl⟩
    · exact h.elim
  · exact h.elim

def convW (T : TT) (src dst : TypeId) (x : PV) (K : PV → Prop) : Prop :=
  match T src, T dst with
  | some _, some j => match j.desc, x with
    | .int k, .d (.i _ n) => K (.d (.i k (k.wrap n)))
    | .str, .d (.s s) => K (.d (.s s))
    | _, _ => False
  | _, _ => False

theorem convW_sound {P : Program} {G : Gh} {w : World} (hT : TOK P T) {src dst : TypeId} {x : PV} {v : Value} (hx : PRel T G w x v) {K : PV → Prop} (h : convW T src dst x K) :
    ∃ p u, K p ∧ PRel T G w p u ∧ (convert src dst v).run P w = .ok u w := by
  unfold convW at h
  split at h
  · rename_i i j hi hj
    obtain ⟨d1, hd1, _⟩ := (hT src _ hi).desc
    obtain ⟨d2, hd2, ho⟩ := (hT dst _ hj).desc
    split at h
    · rename_i k k' n hk
      have e := hx.int; subst e
      cases d2 <;> simp [descOK, hk] at ho
      subst ho
      refine ⟨_, _, h, .d _ _ (.i _ _), ?_⟩
      simp [convert, run_underlying hd1, run_underlying hd2, Conv.intToInt]
    · rename_i s hk
      have e := hx.str; subst e
      cases d2 <;> simp [descOK, hk] at ho
      refine ⟨_, _, h, .d _ _ (.s _), ?_⟩
      cases d1 <;> simp [convert, run_underlying hd1, run_underlying hd2]
    · exact h.elim
  · exact h.elim

def offP : PV → Nat → PV
  | .ptr b o, f => .ptr b (o + f)
  | .rp e x o, f => .rp e x (o + f)
  | .el b g i o, f => .el b g i (o + f)
  | _, _ => .u
def isAddr : PV → Bool
  | .ptr _ _ => true
  | .rp _ _ _ => true
  | _ => false

def fieldAtW (T : TT) (s : TypeId) (x : PV) (f : Nat) (hp : List Blk) (K : PV → Prop) : Prop :=
  match T s with
  | some i => match i.desc with
    | .struct fs => match fs[f]? with
      | some (off, ft) => match T ft with
        | some j => bif j.leaves.isEmpty then False else
          match x with
          | .ptr b o => K (.ptr b (o + off))
          | .rp e d o => K (.rp e d (o + off))
          | .el b g ix o => nowP hp (.el b g ix o) ∧ K (.el b g ix (o + off))
          | _ => False
        | none => False
      | none => False
    | _ => False
  | none => False

theorem fieldAtW_sound {P : Program} {G : Gh} {hp : List Blk} {w : World} (hT : TOK P T) {s : TypeId} {x : PV} {f : Nat} {v : Value} (hh : isAddr x = true ∨ HRel T G hp w) (hx : PRel T G w x v) {K : PV → Prop} (h : fieldAtW T s x f hp K) :
    ∃ p u, K p ∧ PRel T G w p u ∧ (Instr.fieldAt s v f).run P w = .ok u w := by
  unfold fieldAtW at h
  split at h
  case h_2 => exact h.elim
  rename_i i hi
  split at h
  case h_2 => exact h.elim
  rename_i fs hfs
  split at h
  case h_2 => exact h.elim
  rename_i off ft hf
  split at h
  case h_2 => exact h.elim
  rename_i j hj
  cases hb : j.leaves.isEmpty with
  | true => rw [hb] at h; exact h.elim
  | false =>
    rw [hb] at h
    simp only [cond_false] at h
    obtain ⟨d, hd, ho⟩ := (hT s _ hi).desc
    have hj1 := hT ft _ hj
    cases d with
    | struct fields =>
      have ho' : fs = fields.toList.map fun f => (f.offset, f.type) := by simpa [descOK, hfs] using ho
      rw [ho', List.getElem?_map] at hf
      cases hfl : fields[f]? with
      | none => simp [hfl] at hf
      | some fl =>
        simp [hfl] at hf
        obtain ⟨rfl, rfl⟩ := hf
        have hne : ¬ j.leaves.length = 0 := by intro e; rw [List.length_eq_zero_iff] at e; rw [e] at hb; simp at hb
        have run : ∀ (n o : Nat), (Instr.fieldAt s (.pointer (some ⟨n, o, none⟩)) f).run P w = .ok (.pointer (some ⟨n, o + fl.offset, none⟩)) w := by
          intro n o
          simp [Instr.fieldAt, run_underlying hd, hfl, Instr.sureAddr, fieldPlace, run_size hj1, hne, addr_add]
        split at h
        · rename_i b o
          cases hx with
          | ptr b o n hn h0 => exact ⟨_, _, h, .ptr _ _ n hn h0, run n o⟩
        · rename_i e d o
          cases hx with
          | rp e x o bl q cs ty fr hF hw hxT hc =>
            refine ⟨_, _, h, .rp _ _ _ bl q cs ty fr hF hw hxT hc, ?_⟩
            rw [run, Nat.add_assoc]
        · obtain ⟨hn, hK⟩ := h
          cases hx with
          | elOld b g ix o v hlt => have := gen_now (hh.resolve_left (by simp [isAddr])) hn; omega
          | el b g ix o n hg h0 hb hi =>
            refine ⟨_, _, hK, .el _ _ _ _ n hg h0 hb hi, ?_⟩
            rw [run, Nat.add_assoc]
        · exact h.elim
    | _ => simp [descOK, hfs] at ho

def fieldW (T : TT) (s : TypeId) (x : PV) (f : Nat) (K : PV → Prop) : Prop :=
  match T s with
  | some i => match i.desc with
    | .struct fs => match fs[f]? with
      | some (off, ft) => match T ft with
        | some j => match x with
          | .st xs => bif Nat.ble (off + j.leaves.length) xs.length then K (mkP j.desc.agg ((xs.drop off).take j.leaves.length)) else False
          | _ => False
        | none => False
      | none => False
    | _ => False
  | none => False

theorem run_part {P : Program} {t : TypeId} {j : TI} (h : TOK1 P t j) (w : World) {cs : Array Value} {o : Nat} (hb : o + j.leaves.length ≤ cs.size) :
    (part t cs o).run P w = .ok (if j.desc.agg = true then .agg (cs.extract o (o + j.leaves.length)) else cs.getD o undef) w := by
  unfold part
  simp only [Sem.run_bind, run_isAgg h, Result.andThen_ok]
  cases ha : j.desc.agg with
  | true => simp only [if_true, Sem.run_bind, run_size h, Result.andThen_ok, Sem.run_pure]
  | false =>
    have := h.one ha
    have ho : o < cs.size := by omega
    simp [Array.getD, ho]

theorem fieldW_sound {P : Program} {G : Gh} {w : World} (hT : TOK P T) {s : TypeId} {x : PV} {f : Nat} {v : Value} (hx : PRel T G w x v) {K : PV → Prop} (h : fieldW T s x f K) :
    ∃ p u, K p ∧ PRel T G w p u ∧ (Instr.field s v f).run P w = .ok u w := by
  unfold fieldW at h
  split at h
  case h_2 => exact h.elim
  rename_i i hi
  split at h
  case h_2 => exact h.elim
  rename_i fs hfs
  split at h
  case h_2 => exact h.elim
  rename_i off ft hf
  split at h
  case h_2 => exact h.elim
  rename_i j hj
  split at h
  case h_2 => exact h.elim
  rename_i xs
  cases hb : Nat.ble (off + j.leaves.length) xs.length with
  | false => rw [hb] at h; exact h.elim
  | true =>
    rw [hb] at h
    have hb := Nat.le_of_ble_eq_true hb
    obtain ⟨d, hd, ho⟩ := (hT s _ hi).desc
    have hj1 := hT ft _ hj
    cases hx with
    | st xs vs hl hx h1 =>
      cases d with
      | struct fields =>
        have ho' : fs = fields.toList.map fun f => (f.offset, f.type) := by simpa [descOK, hfs] using ho
        rw [ho', List.getElem?_map] at hf
        cases hfl : fields[f]? with
        | none => simp [hfl] at hf
        | some fl =>
          simp [hfl] at hf
          obtain ⟨rfl, rfl⟩ := hf
          have hsz : fl.offset + j.leaves.length ≤ vs.size := by omega
          refine ⟨_, _, h, mkP_rel hj1 (cs := vs) (by simp; omega) hsz (fun q p v hp hv => ?_) (fun v hv => ?_), ?_⟩
          · rw [List.getElem?_take] at hp
            split at hp
            · rw [List.getElem?_drop] at hp; exact hx _ p v hp hv
            · cases hp
          · obtain ⟨r, hr, rfl⟩ := Array.mem_iff_getElem.1 hv
            rw [Array.getElem_extract]
            exact h1 _ (Array.getElem_mem _)
          · simp only [Instr.field, Sem.run_bind, run_underlying hd, Result.andThen_ok, hfl, asAgg, Sem.run_pure]
            exact run_part hj1 w hsz
      | _ => simp [descOK, hfs] at ho

def extractW (x : PV) (ix : Nat) (K : PV → Prop) : Prop :=
  match x with
  | .tup xs => match xs[ix]? with | some p => K p | none => False
  | _ => False

theorem extractW_sound {P : Program} {G : Gh} {w : World} {x : PV} {ix : Nat} {v : Value} (hx : PRel T G w x v) {K : PV → Prop} (h : extractW x ix K) :
    ∃ p u, K p ∧ PRel T G w p u ∧ (Instr.extract v ix).run P w = .ok u w := by
  unfold extractW at h
  split at h
  case h_2 => exact h.elim
  rename_i xs
  split at h
  case h_2 => exact h.elim
  rename_i p hp
  cases hx with
  | tup xs vs hl hx =>
    have hlt : ix < vs.size := by rw [hl]; exact (List.getElem?_eq_some_iff.1 hp).1
    exact ⟨p, vs[ix], h, hx ix p _ hp (Array.getElem?_eq_getElem hlt), by simp [Instr.extract, Array.getElem?_eq_getElem hlt]⟩

end Go.Abs
/- Indexes, slices, lengths. -/
namespace Go.Abs
open Go.RowKit

variable {T : TT}

def indexAtW (T : TT) (t : TypeId) (x ix : PV) (hp : List Blk) (K : PV → Prop) : Prop :=
  match T t with
  | some i => match i.desc, ix with
    | .slice e, .d (.i _ n) => match x with
      | .d (.l e' xs) => bif Nat.beq e e' then (0 ≤ n ∧ n < (xs.length : Int)) ∧ K (.rp e (xs.getD n.toNat (.b false)) 0) else False
      | .sl b g m => match hp.getD b .none with
        | .buf g' e' _ => bif Nat.beq e e' then g = g' ∧ (0 ≤ n ∧ n < (m : Int)) ∧ K (.el b g n.toNat 0) else False
        | .frz g' e' _ => bif Nat.beq e e' then g = g' ∧ (0 ≤ n ∧ n < (m : Int)) ∧ K (.el b g n.toNat 0) else False
        | _ => False
      | _ => False
    | _, _ => False
  | none => False

theorem toNat_lt {n : Int} {m : Nat} (h0 : 0 ≤ n) (h : n < (m : Int)) : n.toNat < m := by omega

theorem indexAtW_sound {P : Program} {G : Gh} {hp : List Blk} {w : World} (hT : TOK P T) (hh : HRel T G hp w) {t : TypeId} {x ix : PV} {vx vi : Value} (hx : PRel T G w x vx) (hi : PRel T G w ix vi) {K : PV → Prop} (h : indexAtW T t x ix hp K) :
    ∃ p u, K p ∧ PRel T G w p u ∧ (Instr.indexAt t vx vi).run P w = .ok u w := by
  unfold indexAtW at h
  split at h
  case h_2 => exact h.elim
  rename_i i ht
  obtain ⟨d, hd, ho⟩ := (hT t _ ht).desc
  split at h
  case h_2 => exact h.elim
  rename_i e k n hds
  have e1 := hi.int; subst e1
  cases d with
  | slice e2 =>
    simp [descOK, hds] at ho
    subst ho
    have run : ∀ (a : Addr) (len cap : Nat), 0 ≤ n → n < (len : Int) → ∀ {sz : Nat}, (sizeOf e).run P w = .ok sz w → (Instr.indexAt t (.slice (some a) len cap) (.int k n)).run P w = .ok (.pointer (some (a.add (n.toNat * sz)))) w := by
      intro a len cap h0 hn sz hs
      simp [Instr.indexAt, asIntOf, run_underlying hd, h0, hn, hs]
    split at h
    · rename_i e' xs
      cases hb : Nat.beq e e' with
      | false => rw [hb] at h; exact h.elim
      | true =>
        rw [hb] at h
        have := Nat.eq_of_beq_eq_true hb; subst this
        obtain ⟨⟨h0, hn⟩, hK⟩ := h
        have hlt := toNat_lt h0 hn
        cases hx with
        | d y v hr =>
          cases hr with
          | e => simp at hn; omega
          | l e xs bl off cap cs ty fr c hF hcap hw hxT hc hr =>
            have e1 : xs[n.toNat]? = some (xs.getD n.toNat (.b false)) := by simp [List.getD, List.getElem?_eq_getElem hlt]
            have hTx := hxT _ (List.mem_of_getElem? e1)
            obtain ⟨j, hj, _⟩ := hTx
            refine ⟨_, _, hK, ?_, run ⟨bl, off, none⟩ xs.length cap h0 hn (sz := szOf T e) (by rw [szOf_eq hj]; exact run_size (hT e _ hj) w)⟩
            rw [addr_add]
            exact .rp e _ 0 bl (off + n.toNat * szOf T e) cs ty fr hF hw (hxT _ (List.mem_of_getElem? e1)) fun q y hy => ⟨_, hc _ _ q y e1 hy, hr _ _ q y e1 hy⟩
    · rename_i b g m
      have main : ∀ {g' e' : Nat} {xs : List D}, (hp.getD b Blk.none = .buf g' e' xs ∨ hp.getD b Blk.none = .frz g' e' xs) → (bif Nat.beq e e' then g = g' ∧ (0 ≤ n ∧ n < (m : Int)) ∧ K (.el b g n.toNat 0) else False) →
          ∃ p u, K p ∧ PRel T G w p u ∧ (Instr.indexAt t vx (.int k n)).run P w = .ok u w := by
        intro g' e' xs hbuf h
        cases hb : Nat.beq e e' with
        | false => rw [hb] at h; exact h.elim
        | true =>
          rw [hb] at h
          have := Nat.eq_of_beq_eq_true hb; subst this
          obtain ⟨hg, ⟨h0, hn⟩, hK⟩ := h
          have hlt := toNat_lt h0 hn
          subst hg
          obtain ⟨e1, e2, e3, e4, e5, e6⟩ := hh.bufAt hbuf
          cases hx with
          | slOld b g m v hlt' => omega
          | slNil b g hg h0' hi => simp at hn; omega
          | sl b g m q hg h0' hi hm =>
            have hxl : n.toNat < xs.length := by omega
            obtain ⟨j, hj, _⟩ := e5 (xs[n.toNat]) (List.getElem_mem hxl)
            refine ⟨_, _, hK, ?_, run ⟨q, 0, none⟩ m (G.κ b) h0 hn (sz := szOf T e) (by rw [szOf_eq hj]; exact run_size (hT e _ hj) w)⟩
            rw [addr_add]
            have := PRel.el (T := T) (G := G) (w := w) b g n.toNat 0 q hg h0' hi (by omega)
            rw [e4] at this
            simpa using this
      split at h
      · rename_i g' e' xs hb; exact main (.inl hb) h
      · rename_i g' e' xs hb; exact main (.inr hb) h
      · exact h.elim
    · exact h.elim
  | _ => simp [descOK, hds] at ho

def indexW (T : TT) (t : TypeId) (x ix : PV) (K : PV → Prop) : Prop :=
  match T t with
  | some i => match i.desc, x, ix with
    | .str, .d (.s s), .d (.i _ n) => (0 ≤ n ∧ n < (s.size : Int)) ∧ K (.d (.i .u8 ((s.data.getD n.toNat 0).toNat : Int)))
    | _, _, _ => False
  | none => False

theorem indexW_sound {P : Program} {G : Gh} {w : World} (hT : TOK P T) {t : TypeId} {x ix : PV} {vx vi : Value} (hx : PRel T G w x vx) (hi : PRel T G w ix vi) {K : PV → Prop} (h : indexW T t x ix K) :
    ∃ p u, K p ∧ PRel T G w p u ∧ (Instr.index t vx vi).run P w = .ok u w := by
  unfold indexW at h
  split at h
  case h_2 => exact h.elim
  rename_i i ht
  obtain ⟨d, hd, ho⟩ := (hT t _ ht).desc
  split at h
  case h_2 => exact h.elim
  rename_i s k n hds
  have e1 := hi.int; subst e1
  have e2 := hx.str; subst e2
  obtain ⟨⟨h0, hn⟩, hK⟩ := h
  cases d with
  | string =>
    have hlt := toNat_lt h0 hn
    refine ⟨_, _, hK, .d _ _ (.i _ _), ?_⟩
    have e : s[n.toNat]? = some (s.data.getD n.toNat 0) := by
      have hlt' : n.toNat < s.data.size := hlt
      rw [getElem?_pos s n.toNat hlt]
      show some s.data[n.toNat] = _
      rw [Array.getD, dif_pos hlt']
      rfl
    simp [Instr.index, asIntOf, run_underlying hd, h0, e]
  | _ => simp [descOK, hds] at ho

def lenW (T : TT) (t : TypeId) (x : PV) (hp : List Blk) (K : PV → Prop) : Prop :=
  match T t with
  | some i => match i.desc, x with
    | .slice _, .d (.l _ xs) => K (.d (.i .i64 (xs.length : Int)))
    | .slice _, .sl b g n => nowP hp (.sl b g n) ∧ K (.d (.i .i64 (n : Int)))
    | .slice _, .sv b g _ n => nowB hp b g ∧ K (.d (.i .i64 (n : Int)))
    | .slice _, .c (.slice none 0 0) => K (.d (.i .i64 0))
    | .str, .d (.s s) => K (.d (.i .i64 (s.size : Int)))
    | _, _ => False
  | none => False

theorem lenW_sound {P : Program} {G : Gh} {hp : List Blk} {w : World} (hT : TOK P T) (hh : HRel T G hp w) {t ty : TypeId} {x : PV} {v : Value} (hx : PRel T G w x v) {K : PV → Prop} (h : lenW T t x hp K) :
    ∃ p u, K p ∧ PRel T G w p u ∧ (Builtin.len_ #[t] ty #[v]).run P w = .ok u w := by
  unfold lenW at h
  split at h
  case h_2 => exact h.elim
  rename_i i ht
  obtain ⟨d, hd, ho⟩ := (hT t _ ht).desc
  split at h
  · rename_i e' e xs hds
    cases d <;> simp [descOK, hds] at ho
    refine ⟨_, _, h, .d _ _ (.i _ _), ?_⟩
    cases hx with
    | d y v hr => cases hr <;> simp [Builtin.len_, run_underlying hd, goInt]
  · rename_i e' b g n hds
    cases d <;> simp [descOK, hds] at ho
    obtain ⟨hn, hK⟩ := h
    refine ⟨_, _, hK, .d _ _ (.i _ _), ?_⟩
    cases hx with
    | slOld b g n v hlt => have := gen_now hh hn; omega
    | slNil => simp [Builtin.len_, run_underlying hd, goInt]
    | sl => simp [Builtin.len_, run_underlying hd, goInt]
  · rename_i e' b g o n hds
    cases d <;> simp [descOK, hds] at ho
    obtain ⟨hn, hK⟩ := h
    refine ⟨_, _, hK, .d _ _ (.i _ _), ?_⟩
    cases hx with
    | svOld b g o n v hlt => have := gen_now hh hn; omega
    | svZ => simp [Builtin.len_, run_underlying hd, goInt]
    | sv => simp [Builtin.len_, run_underlying hd, goInt]
  · rename_i e' hds
    cases d <;> simp [descOK, hds] at ho
    refine ⟨_, _, h, .d _ _ (.i _ _), ?_⟩
    cases hx
    simp [Builtin.len_, run_underlying hd, goInt]
  · rename_i s hds
    cases d <;> simp [descOK, hds] at ho
    have e2 := hx.str; subst e2
    refine ⟨_, _, h, .d _ _ (.i _ _), ?_⟩
    simp [Builtin.len_, run_underlying hd, goInt]
  · exact h.elim

/-- min and max of numbers. -/
def foldW (pick : Int → Int → Int) : PV → List PV → (PV → Prop) → Prop
  | .d (.i k n), [], K => K (.d (.i k n))
  | .d (.i k n), .d (.i _ m) :: r, K => foldW pick (.d (.i k (pick n m))) r K
  | _, _, _ => False

def mxI (x y : Int) : Int := if y > x then y else x
def mnI (x y : Int) : Int := if y < x then y else x

theorem foldW_sound {P : Program} {G : Gh} {w : World} (pick : Int → Int → Int) (f : Value → Value → Sem Value) (hf : ∀ k j x y, f (.int k x) (.int j y) = pure (.int k (pick x y))) :
    ∀ (ps : List PV) (vs : List Value) (p : PV) (v : Value) {K : PV → Prop}, PRel T G w p v → ps.length = vs.length → (∀ (j : Nat) (x : PV) (u : Value), ps[j]? = some x → vs[j]? = some u → PRel T G w x u) → foldW pick p ps K →
      ∃ q u, K q ∧ PRel T G w q u ∧ (vs.foldlM f v).run P w = .ok u w
  | [], [], p, v, K, hv, _, _, h => by
    unfold foldW at h
    split at h
    · exact ⟨_, v, h, hv, by simp [List.foldlM]⟩
    · rename_i heq; cases heq
    · exact h.elim
  | q :: ps, u :: vs, p, v, K, hv, hl, hr, h => by
    unfold foldW at h
    split at h
    · rename_i heq; cases heq
    · rename_i k n j m r heq
      cases heq
      have e1 := hv.int; subst e1
      have e2 := (hr 0 _ u rfl rfl).int; subst e2
      obtain ⟨q, u', h1, h2, h3⟩ := foldW_sound pick f hf _ vs _ (.int k (pick n m)) (.d _ _ (.i _ _)) (by simpa using hl) (fun j x u hx hu => hr (j + 1) x u (by simpa using hx) (by simpa using hu)) h
      exact ⟨q, u', h1, h2, by simp only [List.foldlM_cons, hf, Sem.run_bind, Sem.run_pure, Result.andThen_ok]; exact h3⟩
    · exact h.elim
  | [], _ :: _, _, _, _, _, hl, _, _ => by simp at hl
  | _ :: _, [], _, _, _, _, hl, _, _ => by simp at hl

end Go.Abs
/- Slicing; what is made: structs, literals, makes. -/
namespace Go.Abs
open Go.RowKit

variable {T : TT}

/-- A bound of a slice expression: the number itself, or what stands for it. -/
def bndW (x : Option PV) (dflt : Int) (K : Int → Prop) : Prop :=
  match x with
  | none => K dflt
  | some (.d (.i _ n)) => K n
  | _ => False

def sliceW (T : TT) (t : TypeId) (x : PV) (lo hi : Option PV) (hp : List Blk) (K : PV → Prop) : Prop :=
  match T t with
  | some i => match i.desc, x with
    | .str, .d (.s s) => bndW hi (s.size : Int) fun h => bndW lo 0 fun l => (0 ≤ l ∧ l ≤ h ∧ h ≤ (s.size : Int)) ∧ K (.d (.s (s.extract l.toNat h.toNat)))
    | .slice e, .d (.l e' xs) => bif Nat.beq e e' && (T e).isSome then bndW hi (xs.length : Int) fun h => bndW lo 0 fun l => (0 ≤ l ∧ l ≤ h ∧ h ≤ (xs.length : Int)) ∧ K (.d (.l e ((xs.take h.toNat).drop l.toNat))) else False
    | .slice e, .sl b g n => match lo with
      | none => bif (T e).isSome then nowP hp (.sl b g n) ∧ bndW hi (n : Int) fun h => (0 ≤ h ∧ h ≤ (n : Int)) ∧ K (.sl b g h.toNat) else False
      | some _ => match hp.getD b .none with
        | .buf g' e' _ => bif Nat.beq e e' && (T e).isSome then g = g' ∧ bndW hi (n : Int) fun h => bndW lo 0 fun l => (0 ≤ l ∧ l ≤ h ∧ h ≤ (n : Int)) ∧ K (.sv b g l.toNat (h.toNat - l.toNat)) else False
        | .frz g' e' _ => bif Nat.beq e e' && (T e).isSome then g = g' ∧ bndW hi (n : Int) fun h => bndW lo 0 fun l => (0 ≤ l ∧ l ≤ h ∧ h ≤ (n : Int)) ∧ K (.sv b g l.toNat (h.toNat - l.toNat)) else False
        | _ => False
    | _, _ => False
  | none => False

theorem bndW_rel {G : Gh} {w : World} {x : Option PV} {v : Option Value} {n : Int} {K : Int → Prop} (hx : match x, v with | none, none => True | some p, some u => PRel T G w p u | _, _ => False) (h : bndW x n K) :
    (x = none ∧ v = none ∧ K n) ∨ ∃ k m, v = some (.int k m) ∧ K m := by
  unfold bndW at h
  split at h
  · cases v with
    | none => exact .inl ⟨rfl, rfl, h⟩
    | some u => exact hx.elim
  · cases v with
    | none => exact hx.elim
    | some u => have := PRel.int hx; subst this; exact .inr ⟨_, _, rfl, h⟩
  · exact h.elim

theorem Rep.cut {F : Nat → Prop} {w : World} {e : TypeId} {xs : List D} {bl off cap : Nat} (h : Rep T F w (.l e xs) (.slice (some ⟨bl, off, none⟩) xs.length cap)) {l r : Nat} (hlr : l ≤ r) (hr : r ≤ xs.length) (hc : r ≤ cap) :
    Rep T F w (.l e ((xs.take r).drop l)) (.slice (if cap = l then some ⟨bl, off, none⟩ else (some (⟨bl, off, none⟩ : Addr)).map (·.add (l * szOf T e))) (r - l) (cap - l)) := by
  have hl : ((xs.take r).drop l).length = r - l := by simp; omega
  by_cases h0 : r - l = 0
  · have : (xs.take r).drop l = [] := List.eq_nil_of_length_eq_zero (by omega)
    rw [this, h0]
    exact .e _ _ _
  · have hne : ¬ cap = l := by omega
    rw [if_neg hne, Option.map_some, addr_add, ← hl]
    generalize hv : Value.slice (some ⟨bl, off, none⟩) xs.length cap = v at h
    cases h with
    | e e a cap => cases hv; simp at hr; omega
    | l e xs bl' off' cap' cs ty fr c hF hcap hw hxT hc1 hr1 =>
      cases hv
      refine .l e _ bl (off + l * szOf T e) (cap - l) cs ty fr (fun i j => c (l + i) j) hF (by omega) hw (fun x hx => hxT x (List.mem_of_mem_take (List.mem_of_mem_drop hx))) (fun i x j y hx hy => ?_) (fun i x j y hx hy => ?_)
      · rw [List.getElem?_drop, List.getElem?_take] at hx
        split at hx
        · have := hc1 (l + i) x j y hx hy
          rw [Nat.add_mul] at this
          rw [show off + l * szOf T e + i * szOf T e + j = off + (l * szOf T e + i * szOf T e) + j by omega]
          exact this
        · cases hx
      · rw [List.getElem?_drop, List.getElem?_take] at hx
        split at hx
        · exact hr1 (l + i) x j y hx hy
        · cases hx

theorem run_bounds {P : Program} {w : World} (isSl : Bool) (len cap : Nat) (lo hi : Option Value) (l h : Int) (hlo : (lo = none ∧ l = 0) ∨ ∃ k, lo = some (.int k l)) (hhi : (hi = none ∧ h = (len : Int)) ∨ ∃ k, hi = some (.int k h))
    (h0 : 0 ≤ l) (h1 : l ≤ h) (h2 : h ≤ (len : Int)) (h3 : len ≤ cap) : (Instr.sliceBounds isSl len cap lo hi none).run P w = .ok (l.toNat, h.toNat, cap) w := by
  have e1 : 0 ≤ h := by omega
  have e2 : h ≤ (cap : Int) := by omega
  have e3 : l ≤ ((h.toNat : Nat) : Int) := by omega
  rcases hlo with ⟨rfl, rfl⟩ | ⟨k, rfl⟩ <;> rcases hhi with ⟨rfl, rfl⟩ | ⟨k', rfl⟩
  · simp [Instr.sliceBounds]
  · simp [Instr.sliceBounds, Instr.sliceBound, asIntOf, e1, e2]
  · have e4 : l ≤ (len : Int) := by omega
    simp [Instr.sliceBounds, Instr.sliceBound, asIntOf, h0, e4]
  · have e5 : l ≤ max h 0 := by omega
    simp [Instr.sliceBounds, Instr.sliceBound, asIntOf, e1, e2, h0, e5]

theorem sliceW_sound {P : Program} {G : Gh} {hp : List Blk} {w : World} (hT : TOK P T) (hh : HRel T G hp w) {t : TypeId} {x : PV} {lo hi : Option PV} {v : Value} {vl vh : Option Value} (hx : PRel T G w x v)
    (hlo : match lo, vl with | none, none => True | some p, some u => PRel T G w p u | _, _ => False) (hhi : match hi, vh with | none, none => True | some p, some u => PRel T G w p u | _, _ => False) {K : PV → Prop} (h : sliceW T t x lo hi hp K) :
    ∃ p u, K p ∧ PRel T G w p u ∧ (Instr.sliceAt t v vl vh none).run P w = .ok u w := by
  unfold sliceW at h
  split at h
  case h_2 => exact h.elim
  rename_i i ht
  obtain ⟨d, hd, ho⟩ := (hT t _ ht).desc
  have at_ : (match d with | .array _ _ => False | _ => True) → (Instr.sliceAt t v vl vh none).run P w = (Instr.slice t v vl vh none).run P w := by
    intro hna
    cases d <;> first
      | exact hna.elim
      | simp [Instr.sliceAt, run_underlying hd]
  split at h
  · rename_i s hds
    cases d <;> simp [descOK, hds] at ho
    have e := hx.str; subst e
    have hb := bndW_rel hhi h
    obtain ⟨hN, hN1, hN2⟩ : ∃ hN : Int, ((vh = none ∧ hN = (s.size : Int)) ∨ ∃ k, vh = some (.int k hN)) ∧ bndW lo 0 fun l => (0 ≤ l ∧ l ≤ hN ∧ hN ≤ (s.size : Int)) ∧ K (.d (.s (s.extract l.toNat hN.toNat))) := by
      rcases hb with ⟨_, a, b⟩ | ⟨k, m, a, b⟩
      · exact ⟨_, .inl ⟨a, rfl⟩, b⟩
      · exact ⟨m, .inr ⟨k, a⟩, b⟩
    obtain ⟨lN, hL1, ⟨a0, a1, a2⟩, hK⟩ : ∃ lN : Int, ((vl = none ∧ lN = 0) ∨ ∃ k, vl = some (.int k lN)) ∧ (0 ≤ lN ∧ lN ≤ hN ∧ hN ≤ (s.size : Int)) ∧ K (.d (.s (s.extract lN.toNat hN.toNat))) := by
      rcases bndW_rel hlo hN2 with ⟨_, a, b⟩ | ⟨k, m, a, b⟩
      · exact ⟨_, .inl ⟨a, rfl⟩, b⟩
      · exact ⟨m, .inr ⟨k, a⟩, b⟩
    refine ⟨_, _, hK, .d _ _ (.s _), ?_⟩
    rw [at_ trivial]
    have rb := run_bounds (P := P) (w := w) false s.size s.size vl vh lN hN hL1 hN1 a0 a1 a2 (Nat.le_refl _)
    simp [Instr.slice, run_underlying hd, rb]
  · rename_i e e' xs hds
    cases hbq : (Nat.beq e e' && (T e).isSome) with
    | false => rw [hbq] at h; exact h.elim
    | true =>
      rw [hbq] at h
      simp only [Bool.and_eq_true] at hbq
      have := Nat.eq_of_beq_eq_true hbq.1; subst this
      obtain ⟨j, hj⟩ := Option.isSome_iff_exists.1 hbq.2
      have rs := run_size (hT e j hj) w
      simp only [cond_true] at h
      cases d <;> simp [descOK, hds] at ho
      subst ho
      have hb := bndW_rel hhi h
      obtain ⟨hN, hN1, hN2⟩ : ∃ hN : Int, ((vh = none ∧ hN = (xs.length : Int)) ∨ ∃ k, vh = some (.int k hN)) ∧ bndW lo 0 fun l => (0 ≤ l ∧ l ≤ hN ∧ hN ≤ (xs.length : Int)) ∧ K (.d (.l e ((xs.take hN.toNat).drop l.toNat))) := by
        rcases hb with ⟨_, a, b⟩ | ⟨k, m, a, b⟩
        · exact ⟨_, .inl ⟨a, rfl⟩, b⟩
        · exact ⟨m, .inr ⟨k, a⟩, b⟩
      obtain ⟨lN, hL1, ⟨a0, a1, a2⟩, hK⟩ : ∃ lN : Int, ((vl = none ∧ lN = 0) ∨ ∃ k, vl = some (.int k lN)) ∧ (0 ≤ lN ∧ lN ≤ hN ∧ hN ≤ (xs.length : Int)) ∧ K (.d (.l e ((xs.take hN.toNat).drop lN.toNat))) := by
        rcases bndW_rel hlo hN2 with ⟨_, a, b⟩ | ⟨k, m, a, b⟩
        · exact ⟨_, .inl ⟨a, rfl⟩, b⟩
        · exact ⟨m, .inr ⟨k, a⟩, b⟩
      rw [at_ trivial]
      cases hx with
      | d y v hr =>
        have hr0 := hr
        cases hr with
        | e e a cap =>
          have rb := run_bounds (P := P) (w := w) true 0 cap vl vh lN hN hL1 (by simpa using hN1) a0 a1 (by simpa using a2) (Nat.zero_le _)
          have z1 : hN = 0 := by simp at a2; omega
          have z2 : lN = 0 := by omega
          subst z1; subst z2
          have hrun : (Instr.slice t (.slice a 0 cap) vl vh none).run P w = .ok (.slice (if cap = (0 : Int).toNat then a else a.map (·.add ((0 : Int).toNat * j.leaves.length))) 0 (cap - 0)) w := by
            simp only [Instr.slice, Sem.run_bind, run_underlying hd, Result.andThen_ok, rb, rs, Sem.run_pure]; rfl
          exact ⟨_, _, hK, .d _ _ (.e _ _ _), hrun⟩
        | l e xs bl off cap cs ty fr c hF hcap hw hxT hc1 hr1 =>
          have rb := run_bounds (P := P) (w := w) true xs.length cap vl vh lN hN hL1 hN1 a0 a1 a2 hcap
          have hcut := hr0.cut (l := lN.toNat) (r := hN.toNat) (by omega) (by omega) (by omega)
          rw [szOf_eq hj] at hcut
          refine ⟨_, _, hK, .d _ _ hcut, ?_⟩
          simp only [Instr.slice, Sem.run_bind, run_underlying hd, Result.andThen_ok, rb, rs, Sem.run_pure]
  · rename_i e b g n hds
    split at h
    case h_2 =>
      rename_i lov
      cases d <;> simp [descOK, hds] at ho
      subst ho
      rw [at_ trivial]
      have main : ∀ {g' e' : Nat} {xs : List D}, (hp.getD b Blk.none = .buf g' e' xs ∨ hp.getD b Blk.none = .frz g' e' xs) → (bif Nat.beq e e' && (T e).isSome then g = g' ∧ bndW hi (n : Int) fun h => bndW (some lov) 0 fun l => (0 ≤ l ∧ l ≤ h ∧ h ≤ (n : Int)) ∧ K (.sv b g l.toNat (h.toNat - l.toNat)) else False) →
          ∃ p u, K p ∧ PRel T G w p u ∧ (Instr.slice t v vl vh none).run P w = .ok u w := by
        intro g' e' xs hb h
        cases hbq : (Nat.beq e e' && (T e).isSome) with
        | false => rw [hbq] at h; exact h.elim
        | true =>
          rw [hbq] at h
          simp only [Bool.and_eq_true] at hbq
          have := Nat.eq_of_beq_eq_true hbq.1; subst this
          obtain ⟨j, hj⟩ := Option.isSome_iff_exists.1 hbq.2
          have rs := run_size (hT e j hj) w
          simp only [cond_true] at h
          obtain ⟨hg', h⟩ := h
          subst hg'
          obtain ⟨e1, e2, e3, e4, e5, e6⟩ := hh.bufAt hb
          obtain ⟨hN, hN1, hN2⟩ : ∃ hN : Int, ((vh = none ∧ hN = (n : Int)) ∨ ∃ k, vh = some (.int k hN)) ∧ bndW (some lov) 0 fun l => (0 ≤ l ∧ l ≤ hN ∧ hN ≤ (n : Int)) ∧ K (.sv b g l.toNat (hN.toNat - l.toNat)) := by
            rcases bndW_rel hhi h with ⟨_, a, b⟩ | ⟨k, m, a, b⟩
            · exact ⟨_, .inl ⟨a, rfl⟩, b⟩
            · exact ⟨m, .inr ⟨k, a⟩, b⟩
          obtain ⟨lN, hL1, ⟨a0, a1, a2⟩, hK⟩ : ∃ lN : Int, ((vl = none ∧ lN = 0) ∨ ∃ k, vl = some (.int k lN)) ∧ (0 ≤ lN ∧ lN ≤ hN ∧ hN ≤ (n : Int)) ∧ K (.sv b g lN.toNat (hN.toNat - lN.toNat)) := by
            rcases bndW_rel hlo hN2 with ⟨_, a, b⟩ | ⟨k, m, a, b⟩
            · exact ⟨_, .inl ⟨a, rfl⟩, b⟩
            · exact ⟨m, .inr ⟨k, a⟩, b⟩
          cases hx with
          | slOld b g n v hlt => omega
          | slNil b g hg h0 hi' =>
            have rb := run_bounds (P := P) (w := w) true 0 0 vl vh lN hN hL1 (by simpa using hN1) a0 a1 (by simpa using a2) (Nat.le_refl _)
            have z1 : hN = 0 := by simp at a2; omega
            have z2 : lN = 0 := by omega
            subst z1; subst z2
            have hrun : (Instr.slice t (.slice none 0 0) vl vh none).run P w = .ok (.slice none 0 0) w := by
              simp only [Instr.slice, Sem.run_bind, run_underlying hd, Result.andThen_ok, rb, rs, Sem.run_pure]; rfl
            exact ⟨_, _, hK, .svZ b g _ _ _ hg h0, hrun⟩
          | sl b g n m hg h0 hi' hle =>
            have hk : n ≤ G.κ b := by have := (e6 m hi').1; omega
            have rb := run_bounds (P := P) (w := w) true n (G.κ b) vl vh lN hN hL1 hN1 a0 a1 a2 hk
            have hrun : (Instr.slice t (.slice (some ⟨m, 0, none⟩) n (G.κ b)) vl vh none).run P w = .ok (.slice (if G.κ b = lN.toNat then some ⟨m, 0, none⟩ else (some (⟨m, 0, none⟩ : Addr)).map (·.add (lN.toNat * j.leaves.length))) (hN.toNat - lN.toNat) (G.κ b - lN.toNat)) w := by
              simp only [Instr.slice, Sem.run_bind, run_underlying hd, Result.andThen_ok, rb, rs, Sem.run_pure]
            by_cases hz : hN.toNat - lN.toNat = 0
            · rw [hz] at hK hrun
              exact ⟨_, _, hK, .svZ b g _ _ _ hg h0, hrun⟩
            · rw [if_neg (by omega)] at hrun
              simp only [Option.map_some, addr_add, Nat.zero_add] at hrun
              have hsz : j.leaves.length = G.et b := by rw [e4, szOf_eq hj]
              rw [hsz] at hrun
              exact ⟨_, _, hK, .sv b g _ _ m hg h0 hi' (by omega), hrun⟩
      split at h
      · rename_i g' e' xs hb; exact main (.inl hb) h
      · rename_i g' e' xs hb; exact main (.inr hb) h
      · exact h.elim
    cases hbq : (T e).isSome with
    | false => rw [hbq] at h; exact h.elim
    | true =>
      rw [hbq] at h
      obtain ⟨j, hj⟩ := Option.isSome_iff_exists.1 hbq
      have rs := run_size (hT e j hj) w
      simp only [cond_true] at h
      obtain ⟨hn, h⟩ := h
      cases d <;> simp [descOK, hds] at ho
      subst ho
      have hvl : vl = none := by cases vl with | none => rfl | some u => exact hlo.elim
      subst hvl
      obtain ⟨hN, hN1, ⟨a1, a2⟩, hK⟩ : ∃ hN : Int, ((vh = none ∧ hN = (n : Int)) ∨ ∃ k, vh = some (.int k hN)) ∧ (0 ≤ hN ∧ hN ≤ (n : Int)) ∧ K (.sl b g hN.toNat) := by
        rcases bndW_rel hhi h with ⟨_, a, b⟩ | ⟨k, m, a, b⟩
        · exact ⟨_, .inl ⟨a, rfl⟩, b⟩
        · exact ⟨m, .inr ⟨k, a⟩, b⟩
      rw [at_ trivial]
      have gn := gen_now hh hn
      cases hx with
      | slOld b g n v hlt => omega
      | slNil b g hg h0 hi' =>
        have rb := run_bounds (P := P) (w := w) true 0 0 none vh 0 hN (.inl ⟨rfl, rfl⟩) (by simpa using hN1) (by omega) a1 (by simpa using a2) (Nat.le_refl _)
        have z1 : hN = 0 := by simp at a2; omega
        subst z1
        have hrun : (Instr.slice t (.slice none 0 0) none vh none).run P w = .ok (.slice none 0 0) w := by
          simp only [Instr.slice, Sem.run_bind, run_underlying hd, Result.andThen_ok, rb, rs, Sem.run_pure]; rfl
        exact ⟨_, _, hK, .slNil b g hg h0 hi', hrun⟩
      | sl b g n m hg h0 hi' hle =>
        have hk : n ≤ G.κ b := by
          have : ∃ g' e' xs, hp.getD b Blk.none = .buf g' e' xs ∨ hp.getD b Blk.none = .frz g' e' xs := by
            simp only [nowP] at hn
            split at hn
            · rename_i g' e' xs hq; exact ⟨_, _, _, .inl hq⟩
            · rename_i g' e' xs hq; exact ⟨_, _, _, .inr hq⟩
            · exact hn.elim
          obtain ⟨g', e', xs, hq⟩ := this
          obtain ⟨_, _, e3, _, _, e6⟩ := hh.bufAt hq
          have := (e6 m hi').1
          omega
        have rb := run_bounds (P := P) (w := w) true n (G.κ b) none vh 0 hN (.inl ⟨rfl, rfl⟩) hN1 (by omega) a1 a2 hk
        have hrun : (Instr.slice t (.slice (some ⟨m, 0, none⟩) n (G.κ b)) none vh none).run P w = .ok (.slice (some ⟨m, 0, none⟩) hN.toNat (G.κ b)) w := by
          simp only [Instr.slice, Sem.run_bind, run_underlying hd, Result.andThen_ok, rb, rs, Sem.run_pure]
          have z : (0 : Int).toNat = 0 := rfl
          simp only [z, Nat.zero_mul, Nat.sub_zero, Option.map_some, addr_add, Nat.add_zero, ite_self]
        exact ⟨_, _, hK, .sl b g _ m hg h0 hi' (by omega), hrun⟩
  · exact h.elim

end Go.Abs
/- Structs are built. -/
namespace Go.Abs
open Go.RowKit

variable {T : TT}

theorem foldl_splice : ∀ (vs : List Value) (o j : Nat) (cs : Array Value), o + j + vs.length ≤ cs.size →
    ((vs.zipIdx j).foldl (fun cs (x : Value × Nat) => cs.setIfInBounds (o + x.2) x.1) cs) = (splice cs.toList (o + j) vs).toArray
  | [], o, j, cs, _ => by simp [splice]
  | v :: vs, o, j, cs, h => by
    simp only [List.zipIdx_cons, List.foldl_cons]
    rw [foldl_splice vs o (j + 1) _ (by simp at h ⊢; omega)]
    congr 1
    apply List.ext_getElem?
    intro q
    simp at h
    rw [splice_get (by simp; omega), splice_get (by simp; omega)]
    simp only [Array.toList_setIfInBounds, List.length_cons]
    by_cases h1 : q < o + j
    · rw [if_pos (by omega), if_pos h1, List.getElem?_set_ne (by omega)]
    · rw [if_neg h1]
      by_cases h2 : q = o + j
      · subst h2
        rw [if_pos (by omega), if_pos (by omega), List.getElem?_set_self (by simp; omega)]; simp
      · rw [if_neg (by omega)]
        by_cases h3 : q < o + (j + 1) + vs.length
        · rw [if_pos h3, if_pos (by omega), show q - (o + j) = (q - (o + (j + 1))) + 1 by omega]; simp
        · rw [if_neg h3, if_neg (by omega), List.getElem?_set_ne (by omega)]

theorem fill_step {place : Nat → Option (Nat × Nat)} {cs : Array Value} {i off size : Nat} {v : Value} {rest : List (Nat × Value)} (hp : place i = some (off, size)) (hs : v.cells.size = size) (hb : off + size ≤ cs.size) :
    Instr.fill place cs ((i, v) :: rest) = Instr.fill place (splice cs.toList off v.cells.toList).toArray rest := by
  have : (v.cells.zipIdx.foldl (fun cs (x : Value × Nat) => cs.setIfInBounds (off + x.2) x.1) cs) = (splice cs.toList off v.cells.toList).toArray := by
    have := foldl_splice v.cells.toList off 0 cs (by simp; omega)
    rw [Nat.add_zero] at this
    rw [← this, ← Array.foldl_toList, Array.toList_zipIdx]
  conv => lhs; unfold Instr.fill
  rw [hp]
  dsimp only
  rw [if_neg (by simp; omega)]
  congr 1

def fillP (T : TT) (fs : List (Nat × TypeId)) : List PV → List (Nat × PV) → Option (List PV)
  | cells, [] => some cells
  | cells, (i, p) :: r => match fs[i]? with
    | some (off, ft) => match T ft with
      | some j => bif cellsOK p && Nat.beq (cellsP p).length j.leaves.length && Nat.ble (off + (cellsP p).length) cells.length then fillP T fs (splice cells off (cellsP p)) r else none
      | none => none
    | none => none

theorem fillP_sound {P : Program} {G : Gh} {hp : List Blk} {w : World} (hh : HRel T G hp w) {fs : List (Nat × TypeId)} {place : Nat → Option (Nat × Nat)}
    (hpl : ∀ i off ft j, fs[i]? = some (off, ft) → T ft = some j → place i = some (off, j.leaves.length)) :
    ∀ (parts : List (Nat × PV)) (vs : List (Nat × Value)) (cells : List PV) (cs : Array Value) (out : List PV), cs.size = cells.length →
      (∀ (j : Nat) (x : PV) (v : Value), cells[j]? = some x → cs[j]? = some v → PRel T G w x v) → (∀ v ∈ cs, Value.oneCell' v = true) →
      parts.length = vs.length → (∀ (j : Nat) (x : Nat × PV) (y : Nat × Value), parts[j]? = some x → vs[j]? = some y → x.1 = y.1 ∧ PRel T G w x.2 y.2) →
      (∀ x ∈ parts, nowPs hp (cellsP x.2)) → fillP T fs cells parts = some out →
      ∃ cs', Instr.fill place cs vs = some cs' ∧ cs'.size = out.length ∧ (∀ (j : Nat) (x : PV) (v : Value), out[j]? = some x → cs'[j]? = some v → PRel T G w x v) ∧ (∀ v ∈ cs', Value.oneCell' v = true) ∧ out.length = cells.length
  | [], [], cells, cs, out, hl, hx, h1, _, _, _, h => by
    simp only [fillP, Option.some.injEq] at h; subst h
    exact ⟨cs, rfl, hl, hx, h1, rfl⟩
  | (i, p) :: parts, (i', v) :: vs, cells, cs, out, hl, hx, h1, hlen, hr, hn, h => by
    obtain ⟨e1, e2⟩ := hr 0 _ _ rfl rfl
    simp only at e1 e2
    subst e1
    unfold fillP at h
    split at h
    case h_2 => cases h
    rename_i off ft hf
    split at h
    case h_2 => cases h
    rename_i j hj
    cases hb : (cellsOK p && Nat.beq (cellsP p).length j.leaves.length && Nat.ble (off + (cellsP p).length) cells.length) with
    | false => rw [hb] at h; cases h
    | true =>
      rw [hb] at h
      simp only [Bool.and_eq_true] at hb
      obtain ⟨⟨b1, b2⟩, b3⟩ := hb
      have b2 := Nat.eq_of_beq_eq_true b2
      have b3 := Nat.le_of_ble_eq_true b3
      obtain ⟨c1, c2, c3⟩ := e2.cells hh b1 (hn (i, p) (by simp))
      have fits : off + v.cells.toList.length ≤ cs.toList.length := by simp; omega
      rw [fill_step (hpl i off ft j hf hj) (by omega) (by omega)]
      obtain ⟨cs', r1, r2, r3, r4, r5⟩ := fillP_sound (P := P) hh hpl parts vs (splice cells off (cellsP p)) (splice cs.toList off v.cells.toList).toArray out
        (by rw [toArray_size_splice _ _ _ (by simpa using fits), splice_length (by omega), hl])
        (fun q x u hx' hu => by
          simp only [List.getElem?_toArray] at hu
          rw [splice_get fits] at hu
          rw [splice_get (by omega)] at hx'
          simp only [Array.length_toList, c1] at hu
          by_cases q1 : q < off
          · rw [if_pos q1] at hx' hu; exact hx q x u hx' (by simpa using hu)
          · rw [if_neg q1] at hx' hu
            by_cases q2 : q < off + (cellsP p).length
            · rw [if_pos q2] at hx' hu; exact c2 (q - off) x u hx' (by simpa using hu)
            · rw [if_neg q2] at hx' hu; exact hx q x u hx' (by simpa using hu))
        (fun u hu => by
          have hu' : u ∈ splice cs.toList off v.cells.toList := by simpa using hu
          unfold splice at hu'
          rcases List.mem_append.1 hu' with hu' | hu'
          · rcases List.mem_append.1 hu' with hu' | hu'
            · exact h1 u (by simpa using List.mem_of_mem_take hu')
            · exact c3 u (by simpa using hu')
          · exact h1 u (by simpa using List.mem_of_mem_drop hu'))
        (by simpa using hlen) (fun q x y hx' hy => hr (q + 1) x y (by simpa using hx') (by simpa using hy)) (fun x hx' => hn x (by simp [hx'])) h
      exact ⟨cs', r1, r2, r3, r4, by rw [r5, splice_length (by omega)]⟩
  | [], _ :: _, _, _, _, _, _, _, hl, _, _, _ => by simp at hl
  | _ :: _, [], _, _, _, _, _, _, hl, _, _, _ => by simp at hl

/-- The conditions on the generations of several values. -/
def nowAll (hp : List Blk) : List (Nat × PV) → Prop → Prop
  | [], Q => Q
  | (_, p) :: r, Q => nowA hp (cellsP p) (nowAll hp r Q)

theorem nowAll_iff (hp : List Blk) (Q : Prop) : ∀ ps, nowAll hp ps Q → (∀ x ∈ ps, nowPs hp (cellsP x.2)) ∧ Q
  | [], h => ⟨by simp, h⟩
  | (i, p) :: ps, h => by
    obtain ⟨h1, h2⟩ := nowA_iff _ _ _ h
    obtain ⟨h3, h4⟩ := nowAll_iff hp Q ps h2
    refine ⟨fun x hx => ?_, h4⟩
    rcases List.mem_cons.1 hx with rfl | hx
    · exact h1
    · exact h3 x hx

def buildW (T : TT) (t : TypeId) (parts : List (Nat × PV)) (hp : List Blk) (K : PV → Prop) : Prop :=
  match T t with
  | some i => match i.desc with
    | .struct fs => bif fs.all fun f => (T f.2).isSome then
        match fillP T fs (i.leaves.map LK.zeroP) parts with
        | some cells => nowAll hp parts (K (.st cells))
        | none => False
      else False
    | _ => False
  | none => False

theorem buildW_sound {P : Program} {G : Gh} {hp : List Blk} {w : World} (hT : TOK P T) (hh : HRel T G hp w) {t : TypeId} {parts : List (Nat × PV)} {vs : Array (Nat × Value)} (hl : parts.length = vs.toList.length)
    (hr : ∀ (j : Nat) (x : Nat × PV) (y : Nat × Value), parts[j]? = some x → vs.toList[j]? = some y → x.1 = y.1 ∧ PRel T G w x.2 y.2) {K : PV → Prop} (h : buildW T t parts hp K) :
    ∃ p u, K p ∧ PRel T G w p u ∧ (Instr.build t vs).run P w = .ok u w := by
  unfold buildW at h
  split at h
  case h_2 => exact h.elim
  rename_i i hi
  split at h
  case h_2 => exact h.elim
  rename_i fs hfs
  cases hb : fs.all (fun f => (T f.2).isSome) with
  | false => rw [hb] at h; exact h.elim
  | true =>
    rw [hb] at h
    simp only [cond_true] at h
    split at h
    case h_2 => exact h.elim
    rename_i cells hc
    obtain ⟨hn, hK⟩ := nowAll_iff _ _ _ h
    have ht1 := hT t i hi
    obtain ⟨d, hd, ho⟩ := ht1.desc
    obtain ⟨inf, hinf, hs, _, hz⟩ := ht1.info
    cases d with
    | struct fields =>
      have ho' : fs = fields.toList.map fun f => (f.offset, f.type) := by simpa [descOK, hfs] using ho
      have hag : i.desc.agg = true := by rw [hfs]; rfl
      have pl : ∀ (l : List Field), (∀ f ∈ l, (T f.type).isSome = true) → l.mapM (fun f => (P.info? f.type).map fun q => (f.offset, q.size)) = some (l.map fun f => (f.offset, szOf T f.type)) := by
        intro l
        induction l with
        | nil => intro _; rfl
        | cons f l ih =>
          intro hall
          obtain ⟨j, hj⟩ := Option.isSome_iff_exists.1 (hall f (by simp))
          obtain ⟨inf', hi', hs', _⟩ := (hT f.type j hj).info
          simp [List.mapM_cons, hi', ih (fun g hg => hall g (by simp [hg])), hs', szOf_eq hj]
      have hall : ∀ f ∈ fields.toList, (T f.type).isSome = true := by
        intro f hf
        have := List.all_eq_true.1 hb (f.offset, f.type) (by rw [ho']; exact List.mem_map_of_mem hf)
        exact this
      have zc := zeroV_cells ht1
      obtain ⟨cs', r1, r2, r3, r4, r5⟩ := fillP_sound (P := P) hh (place := ((fields.toList.map fun f => (f.offset, szOf T f.type)).toArray[·]?)) (fun q off ft j hq hj => by
          rw [ho', List.getElem?_map] at hq
          cases hfq : fields.toList[q]? with
          | none => simp [hfq] at hq
          | some f =>
            simp only [hfq, Option.map_some, Option.some.injEq, Prod.mk.injEq] at hq
            simp only [List.getElem?_toArray, List.getElem?_map, hfq, Option.map_some]
            rw [← hq.1, ← szOf_eq hj, ← hq.2]) parts vs.toList (i.leaves.map LK.zeroP) (zeroV i).cells cells (by rw [zc]; simp)
        (fun q x v hx hv => by
          rw [zc] at hv
          simp only [List.getElem?_toArray, List.getElem?_map] at hx hv
          cases hk : i.leaves[q]? with
          | none => simp [hk] at hx
          | some k =>
            simp [hk] at hx hv
            subst hx; subst hv
            exact LK.zero_rel G w (fun e => ht1.noOther (by rw [← e]; exact List.mem_of_getElem? hk)))
        (fun v hv => by
          rw [zc] at hv
          simp at hv
          obtain ⟨k, hk, rfl⟩ := hv
          exact LK.zero_one (fun e => ht1.noOther (by rw [← e]; exact hk)))
        hl hr hn hc
      refine ⟨_, _, hK, .st _ cs' r2 r3 r4, ?_⟩
      refine run_build w t vs cs' ?_
      unfold Program.built
      simp only [hinf, hd, hz, pl _ hall]
      exact r1
    | _ => simp [descOK, hfs] at ho

end Go.Abs
/- Values become data; slices are made. -/
namespace Go.Abs
open Go.RowKit

variable {T : TT}

def toD1W (k : LK) (p : PV) (hp : List Blk) (K : D → List Blk → Prop) : Prop :=
  match leafD k p with
  | some y => K y hp
  | none => match k, p with
    | .slice e, .sl b g n => match hp.getD b .none with
      | .buf g' e' xs => bif Nat.beq e e' then g = g' ∧ K (.l e (xs.take n)) (hput hp b (.frz g' e' xs)) else False
      | .frz g' e' xs => bif Nat.beq e e' then g = g' ∧ K (.l e (xs.take n)) hp else False
      | _ => False
    | _, _ => False

theorem toD1W_sound {G : Gh} {hp : List Blk} {w : World} (hh : HRel T G hp w) {k : LK} {p : PV} {v : Value} (hv : PRel T G w p v) {K : D → List Blk → Prop} (h : toD1W k p hp K) :
    ∃ y hp' G', K y hp' ∧ Rep T G'.F w y v ∧ k.okD y ∧ HRel T G' hp' w ∧ Evo G hp w G' hp' w ∧ ∀ b, hp.getD b Blk.none = Blk.none → hp'.getD b Blk.none = Blk.none := by
  unfold toD1W at h
  split at h
  · rename_i y hy
    exact ⟨y, hp, G, h, leafD_rel hy hv, leafD_ok hy, hh, Evo.refl G hp w, fun _ hb => hb⟩
  · split at h
    case h_2 => exact h.elim
    rename_i e b g n _
    split at h
    case h_3 => exact h.elim
    case h_1 g' e' xs hb =>
      cases hq : Nat.beq e e' with
      | false => rw [hq] at h; exact h.elim
      | true =>
        rw [hq] at h
        have := Nat.eq_of_beq_eq_true hq; subst this
        obtain ⟨hg, hK⟩ := h
        subst hg
        obtain ⟨h1, h2⟩ := hh.freeze hb
        refine ⟨_, _, _, hK, ?_, ⟨_, rfl⟩, h1, h2, fun b' hb' => ?_⟩
        · exact h1.frozenData (hput_same _ _ _) (hv.mono h2.ext (fun _ _ => rfl))
        · rw [hput_other _ _ _ _ (fun e => by rw [e, hb] at hb'; cases hb')]; exact hb'
    case h_2 g' e' xs hb =>
      cases hq : Nat.beq e e' with
      | false => rw [hq] at h; exact h.elim
      | true =>
        rw [hq] at h
        have := Nat.eq_of_beq_eq_true hq; subst this
        obtain ⟨hg, hK⟩ := h
        subst hg
        exact ⟨_, _, G, hK, hh.frozenData hb hv, ⟨_, rfl⟩, hh, Evo.refl G hp w, fun _ hb => hb⟩

def toDsW : List LK → List PV → List Blk → (List D → List Blk → Prop) → Prop
  | [], [], hp, K => K [] hp
  | k :: ks, p :: ps, hp, K => toD1W k p hp fun y hp' => toDsW ks ps hp' fun ys hp'' => K (y :: ys) hp''
  | _, _, _, _ => False

theorem toDsW_sound {w : World} : ∀ (ks : List LK) (ps : List PV) (vs : List Value) {G : Gh} {hp : List Blk} {K : List D → List Blk → Prop}, HRel T G hp w → ps.length = vs.length →
    (∀ (j : Nat) (p : PV) (v : Value), ps[j]? = some p → vs[j]? = some v → PRel T G w p v) → toDsW ks ps hp K →
    ∃ ys hp' G', K ys hp' ∧ ys.length = ks.length ∧ ys.length = vs.length ∧ (∀ (j : Nat) (y : D) (v : Value), ys[j]? = some y → vs[j]? = some v → Rep T G'.F w y v) ∧
      (∀ (j : Nat) (k : LK) (y : D), ks[j]? = some k → ys[j]? = some y → k.okD y) ∧ HRel T G' hp' w ∧ Evo G hp w G' hp' w ∧ ∀ b, hp.getD b Blk.none = Blk.none → hp'.getD b Blk.none = Blk.none
  | [], [], [], G, hp, K, hh, _, _, h => ⟨[], hp, G, h, rfl, rfl, by simp, by simp, hh, Evo.refl G hp w, fun _ hb => hb⟩
  | k :: ks, p :: ps, v :: vs, G, hp, K, hh, hl, hr, h => by
    obtain ⟨y, hp1, G1, h1, h2, h3, h4, h5, h6⟩ := toD1W_sound hh (hr 0 p v rfl rfl) h
    obtain ⟨ys, hp2, G2, k1, k2, k3, k4, k5, k6, k7, k8⟩ := toDsW_sound ks ps vs h4 (by simpa using hl) (fun j q u hq hu => (hr (j + 1) q u (by simpa using hq) (by simpa using hu)).mono h5.ext (fun _ _ => rfl)) h1
    refine ⟨y :: ys, hp2, G2, k1, by simp [k2], by simp [k3], fun j z u hz hu => ?_, fun j q z hq hz => ?_, k6, h5.trans k7, fun b hb => k8 b (h6 b hb)⟩
    · cases j with
      | zero => simp at hz hu; subst hz; subst hu; exact h2.mono k7.ext.F (fun _ _ => rfl)
      | succ j => exact k4 j z u (by simpa using hz) (by simpa using hu)
    · cases j with
      | zero => simp at hq hz; subst hq; subst hz; exact h3
      | succ j => exact k5 j q z (by simpa using hq) (by simpa using hz)
  | [], _ :: _, _, _, _, _, _, _, _, h => h.elim
  | _ :: _, [], _, _, _, _, _, _, _, h => h.elim
  | [], [], _ :: _, _, _, _, _, hl, _, _ => by simp at hl
  | _ :: _, _ :: _, [], _, _, _, _, hl, _, _ => by simp at hl

def isSt : PV → Bool
  | .st _ => true
  | _ => false

/-- A value of type i as one datum. -/
def valDW (i : TI) (p : PV) (hp : List Blk) (K : D → List Blk → Prop) : Prop :=
  bif isSt p == i.desc.agg then toDsW i.leaves (cellsP p) hp fun ys hp' => K (mkD i.desc.agg ys) hp' else False

theorem valDW_sound {P : Program} {w : World} {G : Gh} {hp : List Blk} {t : TypeId} {i : TI} (hT : TOK1 P t i) (hi : T t = some i) (hh : HRel T G hp w) {p : PV} {v : Value} (hv : PRel T G w p v) {K : D → List Blk → Prop} (h : valDW i p hp K) :
    ∃ y ys hp' G', K y hp' ∧ y = mkD i.desc.agg ys ∧ y.leaves = ys ∧ HasT T t y ∧ Rep T G'.F w y v ∧ ys.length = i.leaves.length ∧ v.cells.size = ys.length ∧ (∀ (j : Nat) (z : D) (u : Value), ys[j]? = some z → v.cells[j]? = some u → Rep T G'.F w z u) ∧
      (∀ u ∈ v.cells, Value.oneCell' u = true) ∧ (∀ (j : Nat) (k : LK) (z : D), i.leaves[j]? = some k → ys[j]? = some z → k.okD z) ∧
      HRel T G' hp' w ∧ Evo G hp w G' hp' w ∧ ∀ b, hp.getD b Blk.none = Blk.none → hp'.getD b Blk.none = Blk.none := by
  unfold valDW at h
  cases hb : (isSt p == i.desc.agg) with
  | false => rw [hb] at h; exact h.elim
  | true =>
    rw [hb] at h
    simp only [cond_true] at h
    have hb : isSt p = i.desc.agg := by simpa using hb
    by_cases hs : ∃ xs, p = .st xs
    · obtain ⟨xs, rfl⟩ := hs
      cases hv with
      | st xs vs hl hx h1 =>
        obtain ⟨ys, hp', G', k1, k2, k3, k4, k5, k6, k7, k8⟩ := toDsW_sound i.leaves xs vs.toList hh (by simp [hl]) (fun j q u hq hu => hx j q u hq (by simpa using hu)) h
        obtain ⟨m1, m2⟩ := HasT.mk hT hi k2 k5
        have hag : i.desc.agg = true := hb.symm
        have hle : ∀ (j : Nat) (z : D), ys[j]? = some z → z.isG = false := fun j z hz => by
          have hj : j < i.leaves.length := by rw [← k2]; exact (List.getElem?_eq_some_iff.1 hz).1
          exact LK.okD_leaf (k5 j _ z (List.getElem?_eq_getElem hj) hz)
        refine ⟨_, ys, hp', G', k1, rfl, m2, m1, ?_, k2, by simpa [Value.cells] using k3.symm, fun j z u hz hu => k4 j z u hz (by simpa [Value.cells] using hu), h1, k5, k6, k7, k8⟩
        rw [hag]
        exact .g ys vs (by simpa using k3.symm) (fun j z u hz hu => k4 j z u hz (by simpa using hu)) (fun z hz => by
          obtain ⟨j, hj, rfl⟩ := List.mem_iff_getElem.1 hz
          exact hle j _ (List.getElem?_eq_getElem hj))
    · have e : cellsP p = [p] := by cases p <;> first | rfl | exact absurd ⟨_, rfl⟩ hs
      have hag : i.desc.agg = false := by rw [← hb]; cases p <;> first | rfl | exact absurd ⟨_, rfl⟩ hs
      rw [e] at h
      obtain ⟨ys, hp', G', k1, k2, k3, k4, k5, k6, k7, k8⟩ := toDsW_sound i.leaves [p] [v] hh rfl (fun j q u hq hu => by
        cases j with
        | zero => simp at hq hu; subst hq; subst hu; exact hv
        | succ j => simp at hq) h
      obtain ⟨m1, m2⟩ := HasT.mk hT hi k2 k5
      match ys, k3 with
      | [y], _ =>
        have r := k4 0 y v rfl rfl
        have hlen : i.leaves.length = 1 := by rw [← k2]; rfl
        have hnl : y.isG = false := LK.okD_leaf (k5 0 (i.leaves[0]'(by omega)) y (List.getElem?_eq_getElem (by omega)) rfl)
        have o1 := r.one hnl
        have ec : v.cells = #[v] := by cases v <;> first | rfl | simp [Value.oneCell'] at o1
        refine ⟨_, [y], hp', G', k1, rfl, m2, m1, ?_, k2, by rw [ec]; rfl, fun j z u hz hu => ?_, by rw [ec]; simpa using o1, k5, k6, k7, k8⟩
        · rw [hag]; exact r
        · rw [ec] at hu
          cases j with
          | zero => simp at hz hu; subst hz; subst hu; exact r
          | succ j => simp at hz

def fillDW (i : TI) (n : Nat) : List (Nat × PV) → List D → List Blk → (List D → List Blk → Prop) → Prop
  | [], xs, hp, K => K xs hp
  | (ix, p) :: r, xs, hp, K => bif Nat.blt ix n then valDW i p hp fun d hp' => fillDW i n r (xs.set ix d) hp' K else False

theorem rd_splice_all {ks : List LK} {x : D} {ys : List D} (h : ys.length = ks.length) : splice (rdD ks x 0) 0 ys = ys := by
  unfold splice
  rw [List.drop_of_length_le (by rw [rdD_length]; omega)]
  simp

theorem fillDW_sound {P : Program} {w : World} {e : TypeId} {i : TI} (hT : TOK1 P e i) (hi : T e = some i) (n : Nat) :
    ∀ (parts : List (Nat × PV)) (vs : List (Nat × Value)) (xs : List D) (cs : Array Value) {G : Gh} {hp : List Blk} {K : List D → List Blk → Prop}, HRel T G hp w → xs.length = n → cs.size = n * i.leaves.length → Row T G.F w e cs 0 xs →
      parts.length = vs.length → (∀ (j : Nat) (x : Nat × PV) (y : Nat × Value), parts[j]? = some x → vs[j]? = some y → x.1 = y.1 ∧ PRel T G w x.2 y.2) → fillDW i n parts xs hp K →
      ∃ ys cs' hp' G', K ys hp' ∧ ys.length = n ∧ cs'.size = n * i.leaves.length ∧ Row T G'.F w e cs' 0 ys ∧ Instr.fill (fun q => some (q * i.leaves.length, i.leaves.length)) cs vs = some cs' ∧ HRel T G' hp' w ∧ Evo G hp w G' hp' w ∧ ∀ b, hp.getD b Blk.none = Blk.none → hp'.getD b Blk.none = Blk.none
  | [], [], xs, cs, G, hp, K, hh, hl, hs, hr, _, _, h => ⟨xs, cs, hp, G, h, hl, hs, hr, rfl, hh, Evo.refl G hp w, fun _ hb => hb⟩
  | (ix, p) :: parts, (ix', v) :: vs, xs, cs, G, hp, K, hh, hl, hs, hr, hlen, hrel, h => by
    obtain ⟨e1, e2⟩ := hrel 0 _ _ rfl rfl
    simp only at e1 e2
    subst e1
    unfold fillDW at h
    cases hb : Nat.blt ix n with
    | false => rw [hb] at h; exact h.elim
    | true =>
      rw [hb] at h
      simp only [cond_true] at h
      have hix : ix < n := by
        have : Nat.ble (ix + 1) n = true := hb
        exact Nat.le_of_ble_eq_true this
      obtain ⟨y, ys, hp1, G1, h1, h2, h3, h4, h5, h6, h7, h8, h9, h10, h11, h12, h13⟩ := valDW_sound hT hi hh e2 h
      have hfit : (ix + 1) * i.leaves.length ≤ cs.size := by rw [hs]; exact Nat.mul_le_mul_right _ hix
      have hfit' : ix * i.leaves.length + i.leaves.length ≤ cs.size := by rw [Nat.succ_mul] at hfit; exact hfit
      have row1 : Row T G1.F w e cs 0 xs := hr.mono h12.ext.F (fun _ _ => rfl)
      have row2 := Row.set (w' := w) hT hi row1 (fun _ _ => rfl) (ix := ix) (o := 0) (by omega) (ys := ys) (us := v.cells.toList) (by simp [h7]) (by omega) (fun r k z hk hz => h10 r k z (by simpa using hk) hz) (fun r z u hz hu => h8 r z u hz (by simpa using hu)) hfit
      rw [rd_splice_all h6, Nat.add_zero, szOf_eq hi, ← h2] at row2
      rw [fill_step (off := ix * i.leaves.length) (size := i.leaves.length) rfl (by omega) hfit']
      obtain ⟨zs, cs', hp', G', k1, k2, k3, k4, k5, k6, k7, k8⟩ := fillDW_sound (P := P) hT hi n parts vs (xs.set ix y) (splice cs.toList (ix * i.leaves.length) v.cells.toList).toArray h11 (by simpa using hl)
        (by rw [toArray_size_splice _ _ _ (by simp; omega)]; exact hs) row2 (by simpa using hlen)
        (fun j x z hx hz => let ⟨a, b⟩ := hrel (j + 1) x z (by simpa using hx) (by simpa using hz); ⟨a, b.mono h12.ext (fun _ _ => rfl)⟩) h1
      exact ⟨zs, cs', hp', G', k1, k2, k3, k4, k5, k6, h12.trans k7, fun b hb => k8 b (h13 b hb)⟩
  | [], _ :: _, _, _, _, _, _, _, _, _, _, hl, _, _ => by simp at hl
  | _ :: _, [], _, _, _, _, _, _, _, _, _, hl, _, _ => by simp at hl

def zeroE (i : TI) : D := mkD i.desc.agg (i.leaves.map LK.zeroD)

theorem LK.zeroD_ok {k : LK} (h : k.isData = true) : k.okD k.zeroD := by
  cases k <;> first | exact ⟨_, rfl⟩ | simp [LK.isData] at h
theorem LK.zeroD_rep {F : Nat → Prop} {w : World} {k : LK} (h : k.isData = true) : Rep T F w k.zeroD k.zeroV := by
  cases k <;> first | exact .b _ | exact .i _ _ | exact .s _ | exact .e _ _ _ | simp [LK.isData] at h

theorem zeroE_spec {P : Program} {e : TypeId} {i : TI} (hT : TOK1 P e i) (hi : T e = some i) (hd : i.leaves.all LK.isData = true) : HasT T e (zeroE i) ∧ (zeroE i).leaves = i.leaves.map LK.zeroD :=
  HasT.mk hT hi (by simp) fun r k y hk hy => by
    simp [List.getElem?_map, hk] at hy
    subst hy
    exact LK.zeroD_ok ((List.all_eq_true.1 hd) k (List.mem_of_getElem? hk))

theorem zeroRow {P : Program} {F : Nat → Prop} {w : World} {e : TypeId} {i : TI} (hT : TOK1 P e i) (hi : T e = some i) (hd : i.leaves.all LK.isData = true) (n : Nat) :
    Row T F w e (madeCells (zeroV i).cells (n * i.leaves.length)) 0 (List.replicate n (zeroE i)) := by
  obtain ⟨z1, z2⟩ := zeroE_spec hT hi hd
  refine ⟨fun x hx => by rw [List.eq_of_mem_replicate hx]; exact z1, fun q x j y hx hy => ?_⟩
  have hq : q < n := by have := (List.getElem?_eq_some_iff.1 hx).1; simpa using this
  have hx' : x = zeroE i := by have := List.mem_of_getElem? hx; exact List.eq_of_mem_replicate this
  subst hx'
  rw [z2] at hy
  have hj : j < i.leaves.length := by have := (List.getElem?_eq_some_iff.1 hy).1; simpa using this
  rw [List.getElem?_map, List.getElem?_eq_getElem hj] at hy
  simp at hy; subst hy
  have hdk : (i.leaves[j]).isData = true := (List.all_eq_true.1 hd) _ (List.getElem_mem hj)
  refine ⟨(i.leaves[j]).zeroV, ?_, LK.zeroD_rep hdk⟩
  have hlt : q * i.leaves.length + j < n * i.leaves.length := by
    have : (q + 1) * i.leaves.length ≤ n * i.leaves.length := Nat.mul_le_mul_right _ hq
    rw [Nat.succ_mul] at this; omega
  have hzc : (zeroV i).cells = (i.leaves.map LK.zeroV).toArray := zeroV_cells hT
  have hmod : (q * i.leaves.length + j) % i.leaves.length = j := by rw [Nat.mul_comm, Nat.mul_add_mod]; exact Nat.mod_eq_of_lt hj
  simp only [madeCells, szOf_eq hi, Nat.zero_add]
  rw [Array.getElem?_map, Array.getElem?_range, if_pos hlt]
  simp only [Option.map_some, hzc, List.size_toArray, List.length_map, hmod]
  simp [hj]

end Go.Abs
/- Buffers are made; append. -/
namespace Go.Abs
open Go.RowKit

variable {T : TT}

/-- A new buffer. -/
theorem HRel.allocBuf {G : Gh} {hp : List Blk} {w : World} (h : HRel T G hp w) {fr : Nat} (hfr : hp.getD fr Blk.none = Blk.none) (e : TypeId) (xs : List D) (cs : Array Value) (c : Nat)
    (hk : xs.length ≤ c) (hm : c ≤ maxLen) (hs : cs.size = c * szOf T e) (hr : Row T G.F w e cs 0 xs) :
    let w' : World := { w with heap := w.heap.push (.cells cs e) }
    let G' := G.born fr (some w.heap.size) 1 c (szOf T e) xs.length
    PRel T G' w' (.sl fr 1 xs.length) (.slice (some ⟨w.heap.size, 0, none⟩) xs.length c) ∧ HRel T G' (hput hp fr (.buf 1 e xs)) w' ∧ Evo G hp w G' (hput hp fr (.buf 1 e xs)) w' := by
  intro w' G'
  obtain ⟨u1, u2⟩ := h.unborn hfr
  have hG : GExt G G' := GExt.born u1 u2 _ _ _ _ _
  have e1 : G'.ι fr = some w.heap.size := by simp [G', Gh.born]
  have e2 : G'.γ fr = 1 := by simp [G', Gh.born]
  have e3 : G'.κ fr = c := by simp [G', Gh.born]
  have e4 : G'.et fr = szOf T e := by simp [G', Gh.born]
  have e5 : G'.len fr = xs.length := by simp [G', Gh.born]
  have fz : ∀ n, G.F n → w'.heap[n]? = w.heap[n]? := fun n hn => heap_push_old w _ n (h.lt n hn)
  refine ⟨?_, h.step fr (.buf 1 e xs) hG (fun b hb => ?_) rfl rfl rfl ?_ (fun n hn _ => heap_push_old w _ n hn) ?_ (fun n hn => .inl hn) (fun _ n hn => ?_)⟩
  · have := PRel.sl (T := T) (G := G') (w := w') fr 1 xs.length w.heap.size e2.symm (by omega) e1 (by omega)
    rw [e3] at this
    exact this
  · simp [G', Gh.born, hb]
  · show w.heap.size ≤ (w.heap.push _).size; simp
  · exact .buf 1 e xs w.heap.size cs e2.symm (by omega) e1 e5 e4 (heap_push_new w _) (by omega) (by omega) (by rw [e3]; exact hs) (hr.mono hG.F fz)
  · rw [e1] at hn; cases hn
    exact ⟨.inl (Nat.le_refl _), fun hf => by have := h.lt _ hf; omega⟩

/-- A new buffer without memory: what a nil slice is. -/
theorem HRel.bornNil {G : Gh} {hp : List Blk} {w : World} (h : HRel T G hp w) {fr : Nat} (hfr : hp.getD fr Blk.none = Blk.none) (e : TypeId) :
    let G' := G.born fr none 1 0 (szOf T e) 0
    PRel T G' w (.sl fr 1 0) (.slice none 0 0) ∧ HRel T G' (hput hp fr (.buf 1 e [])) w ∧ Evo G hp w G' (hput hp fr (.buf 1 e [])) w := by
  intro G'
  obtain ⟨u1, u2⟩ := h.unborn hfr
  have hG : GExt G G' := GExt.born u1 u2 _ _ _ _ _
  have e1 : G'.ι fr = none := by simp [G', Gh.born]
  have e2 : G'.γ fr = 1 := by simp [G', Gh.born]
  have e4 : G'.et fr = szOf T e := by simp [G', Gh.born]
  have e5 : G'.len fr = 0 := by simp [G', Gh.born]
  refine ⟨.slNil fr 1 e2.symm (by omega) e1, h.step fr (.buf 1 e []) hG (fun b hb => ?_) rfl rfl rfl (Nat.le_refl _) (fun _ _ _ => rfl) (.bufNil 1 e e2.symm (by omega) e1 e5 e4) (fun n hn => .inl hn) (fun _ n hn => ?_)⟩
  · simp [G', Gh.born, hb]
  · rw [e1] at hn; cases hn

def buildSliceW (T : TT) (t : TypeId) (n : Nat) (parts : List (Nat × PV)) (hp : List Blk) (fr : Nat) (K : PV → List Blk → Prop) : Prop :=
  match T t with
  | some ti => match ti.desc with
    | .slice e => match T e with
      | some i => bif Nat.ble (n * i.leaves.length) 16777216 && i.leaves.all LK.isData && !i.leaves.isEmpty then
          fillDW i n parts (List.replicate n (zeroE i)) hp fun xs hp' => K (.sl fr 1 n) (hput hp' fr (.buf 1 e xs)) else False
      | none => False
    | _ => False
  | none => False

theorem buildSliceW_sound {P : Program} {G : Gh} {hp : List Blk} {w : World} (hT : TOK P T) (hh : HRel T G hp w) {fr : Nat} (hfr : hp.getD fr Blk.none = Blk.none) {t : TypeId} {n : Nat} {parts : List (Nat × PV)} {vs : Array (Nat × Value)} (hl : parts.length = vs.toList.length)
    (hr : ∀ (j : Nat) (x : Nat × PV) (y : Nat × Value), parts[j]? = some x → vs.toList[j]? = some y → x.1 = y.1 ∧ PRel T G w x.2 y.2) {K : PV → List Blk → Prop} (h : buildSliceW T t n parts hp fr K) :
    ∃ p hp' u w' G', K p hp' ∧ (Instr.buildSlice t n vs).run P w = .ok u w' ∧ PRel T G' w' p u ∧ HRel T G' hp' w' ∧ Evo G hp w G' hp' w' := by
  unfold buildSliceW at h
  split at h
  case h_2 => exact h.elim
  rename_i ti hti
  split at h
  case h_2 => exact h.elim
  rename_i e hds
  split at h
  case h_2 => exact h.elim
  rename_i i hi
  cases hb : (Nat.ble (n * i.leaves.length) 16777216 && i.leaves.all LK.isData && !i.leaves.isEmpty) with
  | false => rw [hb] at h; exact h.elim
  | true =>
    rw [hb] at h
    simp only [cond_true] at h
    simp only [Bool.and_eq_true, Bool.not_eq_true'] at hb
    obtain ⟨⟨b1, b2⟩, b3⟩ := hb
    have b1 := Nat.le_of_ble_eq_true b1
    have hpos : 0 < i.leaves.length := by
      cases hq : i.leaves with
      | nil => rw [hq] at b3; simp at b3
      | cons a b => simp
    obtain ⟨d, hd, ho⟩ := (hT t _ hti).desc
    cases d <;> simp [descOK, hds] at ho
    subst ho
    have he1 := hT e i hi
    obtain ⟨inf, hinf, hs, _, hz⟩ := he1.info
    obtain ⟨ys, cs', hp', G', k1, k2, k3, k4, k5, k6, k7, k8⟩ := fillDW_sound he1 hi n parts vs.toList (List.replicate n (zeroE i)) (madeCells (zeroV i).cells (n * i.leaves.length)) hh (by simp) (by simp [madeCells]) (zeroRow he1 hi b2 n) hl hr h
    have hnm : n ≤ maxLen := by
      have : n ≤ n * i.leaves.length := Nat.le_mul_of_pos_right n hpos
      simp only [maxLen]; omega
    obtain ⟨m1, m2, m3⟩ := k6.allocBuf (fr := fr) (k8 fr hfr) e ys cs' n (by omega) hnm (by rw [k3, szOf_eq hi]) k4
    rw [k2] at m1 m2 m3
    refine ⟨_, _, _, _, _, k1, ?_, m1, m2, k7.trans m3⟩
    by_cases h0 : n = 0
    · subst h0
      have hv : vs.toList = [] := by
        cases hv : vs.toList with
        | nil => rfl
        | cons y r =>
          rw [hv] at hl
          match parts, hl with
          | (ix, p) :: q, _ => simp [fillDW, Nat.blt] at h
      rw [hv] at k5
      simp [Instr.fill] at k5
      subst k5
      simp [Instr.buildSlice, run_underlying hd, sizeOf, typeInfo, hinf, hv, Instr.fill, newRow, madeCells, Array.range_zero']
    · have hne : ¬ n * i.leaves.length = 0 := by
        intro e0
        rcases Nat.mul_eq_zero.1 e0 with a | a <;> omega
      have := run_buildSlice (P := P) w t e n vs cs' inf (zeroV i) hd hinf hz (by rw [hs]; omega) (by rw [hs]; exact hne) (by rw [hs]; exact k5)
      exact this

/-- What is appended. -/
def srcW (e : TypeId) (p : PV) (hp : List Blk) (av : Option Nat) (K : List D → Prop) : Prop :=
  match p with
  | .d (.l e' ys) => bif Nat.beq e e' then K ys else False
  | .c (.slice none 0 0) => K []
  | .sl b g n => bif (match av with | some b' => Nat.beq b b' | none => false) then False else
    match hp.getD b .none with
    | .buf g' e' ys => bif Nat.beq e e' then g = g' ∧ K (ys.take n) else False
    | .frz g' e' ys => bif Nat.beq e e' then g = g' ∧ K (ys.take n) else False
    | _ => False
  | .sv b g o n => bif (match av with | some b' => Nat.beq b b' | none => false) then False else
    match hp.getD b .none with
    | .buf g' e' ys => bif Nat.beq e e' then g = g' ∧ K ((ys.drop o).take n) else False
    | .frz g' e' ys => bif Nat.beq e e' then g = g' ∧ K ((ys.drop o).take n) else False
    | _ => False
  | _ => False

def Src (T : TT) (F : Nat → Prop) (w : World) (e : TypeId) (ys : List D) (v : Value) : Prop :=
  (ys = [] ∧ ∃ a c, v = .slice a 0 c) ∨ (0 < ys.length ∧ ∃ bl off c cs ty fr, v = .slice (some ⟨bl, off, none⟩) ys.length c ∧ w.heap[bl]? = some (.cells cs ty fr) ∧ Row T F w e cs off ys)

theorem srcW_sound {G : Gh} {hp : List Blk} {w : World} (hh : HRel T G hp w) {e : TypeId} {p : PV} {v : Value} (hv : PRel T G w p v) {av : Option Nat} {K : List D → Prop} (h : srcW e p hp av K) :
    ∃ ys, K ys ∧ Src T G.F w e ys v := by
  unfold srcW at h
  split at h
  · rename_i e' ys
    cases hq : Nat.beq e e' with
    | false => rw [hq] at h; exact h.elim
    | true =>
      rw [hq] at h
      have := Nat.eq_of_beq_eq_true hq; subst this
      refine ⟨ys, h, ?_⟩
      cases hv with
      | d y v hr =>
        cases hr with
        | e e a cap => exact .inl ⟨rfl, a, cap, rfl⟩
        | l e xs bl off cap cs ty fr c hF hcap hw hxT hc hr =>
          by_cases h0 : ys.length = 0
          · exact .inl ⟨List.eq_nil_of_length_eq_zero h0, _, _, by rw [h0]⟩
          · exact .inr ⟨by omega, bl, off, cap, cs, ty, fr, rfl, hw, hxT, fun i x j y hx hy => ⟨_, hc i x j y hx hy, hr i x j y hx hy⟩⟩
  · cases hv
    exact ⟨[], h, .inl ⟨rfl, none, 0, rfl⟩⟩
  · rename_i b g n
    cases hav : (match av with | some b' => Nat.beq b b' | none => false) with
    | true => simp only [hav, cond_true] at h
    | false =>
      simp only [hav, cond_false] at h
      have main : ∀ {g' e' : Nat} {ys : List D}, (hp.getD b Blk.none = .buf g' e' ys ∨ hp.getD b Blk.none = .frz g' e' ys) → (bif Nat.beq e e' then g = g' ∧ K (ys.take n) else False) → ∃ ys, K ys ∧ Src T G.F w e ys v := by
        intro g' e' ys hb h
        cases hq : Nat.beq e e' with
        | false => rw [hq] at h; exact h.elim
        | true =>
          rw [hq] at h
          have := Nat.eq_of_beq_eq_true hq; subst this
          obtain ⟨hg, hK⟩ := h
          subst hg
          obtain ⟨e1, e2, e3, e4, e5, e6⟩ := hh.bufAt hb
          refine ⟨_, hK, ?_⟩
          cases hv with
          | slOld b g n v hlt => omega
          | slNil b g hg h0 hi => exact .inl ⟨by simp, none, 0, rfl⟩
          | sl b g n m hg h0 hi hn =>
            by_cases hz : n = 0
            · subst hz; exact .inl ⟨by simp, _, _, rfl⟩
            · obtain ⟨_, cs, ty, fr, hw, hr⟩ := e6 m hi
              have hl : (ys.take n).length = n := by rw [List.length_take]; omega
              refine .inr ⟨by omega, m, 0, G.κ b, cs, ty, fr, by rw [hl], hw, fun x hx => hr.1 x (List.mem_of_mem_take hx), fun i x j y hx hy => ?_⟩
              rw [List.getElem?_take] at hx
              split at hx
              · exact hr.2 i x j y hx hy
              · cases hx
      split at h
      · rename_i g' e' ys hb; exact main (.inl hb) h
      · rename_i g' e' ys hb; exact main (.inr hb) h
      · exact h.elim
  · rename_i b g o n
    cases hav : (match av with | some b' => Nat.beq b b' | none => false) with
    | true => simp only [hav, cond_true] at h
    | false =>
      simp only [hav, cond_false] at h
      have main : ∀ {g' e' : Nat} {ys : List D}, (hp.getD b Blk.none = .buf g' e' ys ∨ hp.getD b Blk.none = .frz g' e' ys) → (bif Nat.beq e e' then g = g' ∧ K ((ys.drop o).take n) else False) → ∃ ys, K ys ∧ Src T G.F w e ys v := by
        intro g' e' ys hb h
        cases hq : Nat.beq e e' with
        | false => rw [hq] at h; exact h.elim
        | true =>
          rw [hq] at h
          have := Nat.eq_of_beq_eq_true hq; subst this
          obtain ⟨hg, hK⟩ := h
          subst hg
          obtain ⟨e1, e2, e3, e4, e5, e6⟩ := hh.bufAt hb
          refine ⟨_, hK, ?_⟩
          cases hv with
          | svOld b g o n v hlt => omega
          | svZ b g o a c hg h0 => exact .inl ⟨by simp, a, c, rfl⟩
          | sv b g o n m hg h0 hi hn =>
            by_cases hz : n = 0
            · subst hz; exact .inl ⟨by simp, _, _, rfl⟩
            · obtain ⟨_, cs, ty, fr, hw, hr⟩ := e6 m hi
              have hl : ((ys.drop o).take n).length = n := by rw [List.length_take, List.length_drop]; omega
              refine .inr ⟨by omega, m, o * G.et b, G.κ b - o, cs, ty, fr, by rw [hl], hw, fun x hx => hr.1 x (List.mem_of_mem_drop (List.mem_of_mem_take hx)), fun i x j y hx hy => ?_⟩
              rw [List.getElem?_take] at hx
              split at hx
              · rw [List.getElem?_drop] at hx
                obtain ⟨c, c1, c2⟩ := hr.2 (o + i) x j y hx hy
                refine ⟨c, ?_, c2⟩
                rw [e4, show o * szOf T e + i * szOf T e + j = 0 + (o + i) * szOf T e + j by rw [Nat.add_mul]; omega]
                exact c1
              · cases hx
      split at h
      · rename_i g' e' ys hb; exact main (.inl hb) h
      · rename_i g' e' ys hb; exact main (.inr hb) h
      · exact h.elim
  · exact h.elim

end Go.Abs
/- append. -/
namespace Go.Abs
open Go.RowKit

variable {T : TT}

theorem GExt.bump {G : Gh} {b : Nat} {g : Nat} (h0 : 0 < G.γ b) (hg : G.γ b < g) (n : Option Nat) (c e l : Nat) : GExt G (G.born b n g c e l) where
  F _ h := h
  le x := by by_cases hx : x = b <;> simp [Gh.born, hx]; omega
  zero x h1 h2 := by
    by_cases hx : x = b
    · subst hx; omega
    · simp [Gh.born, hx, h1]
  same x h1 h2 := by
    by_cases hx : x = b
    · subst hx; simp [Gh.born] at h1; omega
    · simp [Gh.born, hx]

theorem Row.ends {F : Nat → Prop} {w : World} {e : TypeId} {cs : Array Value} {off : Nat} {ys : List D} (h : Row T F w e cs off ys) (hm : 0 < ys.length) (hs : 0 < szOf T e) : off + ys.length * szOf T e ≤ cs.size := by
  have e1 : ys[ys.length - 1]? = some ys[ys.length - 1] := List.getElem?_eq_getElem (by omega)
  have hl := (h.1 _ (List.getElem_mem (by omega : ys.length - 1 < ys.length))).len
  obtain ⟨c, hc, _⟩ := h.2 _ _ (szOf T e - 1) _ e1 (List.getElem?_eq_getElem (by omega))
  have := (Array.getElem?_eq_some_iff.1 hc).1
  have e2 : ys.length * szOf T e = (ys.length - 1) * szOf T e + szOf T e := by
    conv => lhs; rw [show ys.length = (ys.length - 1) + 1 by omega, Nat.succ_mul]
  omega

theorem Row.one {F : Nat → Prop} {w : World} {e : TypeId} {cs : Array Value} {off : Nat} {ys : List D} (h : Row T F w e cs off ys) (hs : 0 < szOf T e) {q : Nat} {v : Value} (hq : q < ys.length * szOf T e) (hv : cs[off + q]? = some v) : Value.oneCell' v = true := by
  have hi : q / szOf T e < ys.length := Nat.div_lt_of_lt_mul (by rw [Nat.mul_comm]; exact hq)
  have hj : q % szOf T e < szOf T e := Nat.mod_lt _ hs
  have e1 : ys[q / szOf T e]? = some ys[q / szOf T e] := List.getElem?_eq_getElem hi
  have hT := h.1 _ (List.getElem_mem hi)
  have hl := hT.len
  obtain ⟨c, hc, hr⟩ := h.2 _ _ (q % szOf T e) _ e1 (List.getElem?_eq_getElem (by omega))
  have e2 : off + q / szOf T e * szOf T e + q % szOf T e = off + q := by rw [Nat.add_assoc, Nat.div_add_mod']
  rw [e2, hv] at hc
  cases hc
  refine hr.one ?_
  obtain ⟨i, hi', hl', ho, _⟩ := hT
  have hlt : q % szOf T e < i.leaves.length := by rw [← szOf_eq hi']; exact hj
  exact LK.okD_leaf (ho _ _ _ (List.getElem?_eq_getElem hlt) (List.getElem?_eq_getElem (by omega)))

def appW (T : TT) (t t2 : TypeId) (px py : PV) (hp : List Blk) (fr : Nat) (K : PV → List Blk → Prop) : Prop :=
  bif Nat.beq t t2 then match T t with
  | some ti => match ti.desc with
    | .slice e => match T e with
      | some i => bif !i.leaves.isEmpty && Nat.ble 1 i.bytes then match px with
        | .c (.slice none 0 0) => srcW e py hp none fun ys => ys.length * i.bytes ≤ 140737488355328 ∧ K (.sl fr 1 ys.length) (hput hp fr (.buf 1 e ys))
        | .sl b g n => match hp.getD b .none with
          | .buf g' e' xs => bif Nat.beq e e' then srcW e py hp (some b) fun ys => (g = g' ∧ n = xs.length ∧ (xs.length + ys.length) * i.bytes ≤ 140737488355328) ∧ K (.sl b (g' + 1) (xs.length + ys.length)) (hput hp b (.buf (g' + 1) e (xs ++ ys))) else False
          | _ => False
        | _ => False
      else False
      | none => False
    | _ => False
  | none => False
  else False

theorem run_append_zero {P : Program} {w : World} {t ty e : TypeId} {i : TI} (hd : P.underlying t = some (.slice e)) (he : TOK1 P e i) (v : Value) (base : Option Addr) (n c : Nat) (hv : v = .slice base n c) (hnc : n ≤ c) (a : Option Addr) (c' : Nat) :
    (Builtin.append_ #[t, t] ty #[v, .slice a 0 c']).run P w = .ok v w := by
  subst hv
  obtain ⟨inf, hi, hs, _⟩ := he.info
  have f0 : (Builtin.firstCells inf.size 0 (.slice a 0 c')).run P w = .ok #[] w := by
    cases a with
    | none => simp [Builtin.firstCells]
    | some a => simp [Builtin.firstCells, loadCells, loadCellsFrom]
  cases base with
  | none => simp [Builtin.append_, run_underlying hd, sizeOf, typeInfo, hi, Builtin.lenOf, hnc, f0]
  | some a => simp [Builtin.append_, run_underlying hd, sizeOf, typeInfo, hi, Builtin.lenOf, hnc, f0, storeCells]

/-- The row behind an append. -/
theorem Row.app {F F' : Nat → Prop} {w w' : World} {e : TypeId} {cs cs2 cs' : Array Value} {off : Nat} {xs ys : List D} (hF : ∀ n, F n → F' n) (hw : ∀ n, F n → w'.heap[n]? = w.heap[n]?)
    (hx : Row T F w e cs 0 xs) (hy : Row T F w e cs2 off ys) (h1 : ∀ q, q < xs.length * szOf T e → cs'[q]? = cs[q]?) (h2 : ∀ q, q < ys.length * szOf T e → cs'[xs.length * szOf T e + q]? = cs2[off + q]?) : Row T F' w' e cs' 0 (xs ++ ys) := by
  refine ⟨fun x hx' => ?_, fun i x j y hxi hyj => ?_⟩
  · rcases List.mem_append.1 hx' with h | h
    · exact hx.1 x h
    · exact hy.1 x h
  · by_cases hi : i < xs.length
    · rw [List.getElem?_append_left hi] at hxi
      obtain ⟨c, hc1, hc2⟩ := hx.2 i x j y hxi hyj
      have hl := (hx.1 x (List.mem_of_getElem? hxi)).len
      have hj : j < szOf T e := by rw [← hl]; exact (List.getElem?_eq_some_iff.1 hyj).1
      have hlt : i * szOf T e + j < xs.length * szOf T e := by
        have : (i + 1) * szOf T e ≤ xs.length * szOf T e := Nat.mul_le_mul_right _ hi
        rw [Nat.succ_mul] at this; omega
      exact ⟨c, by rw [Nat.zero_add, h1 _ hlt]; simpa using hc1, hc2.mono hF hw⟩
    · rw [List.getElem?_append_right (by omega)] at hxi
      obtain ⟨c, hc1, hc2⟩ := hy.2 _ x j y hxi hyj
      have hl := (hy.1 x (List.mem_of_getElem? hxi)).len
      have hj : j < szOf T e := by rw [← hl]; exact (List.getElem?_eq_some_iff.1 hyj).1
      have hi2 : i - xs.length < ys.length := (List.getElem?_eq_some_iff.1 hxi).1
      have hlt : (i - xs.length) * szOf T e + j < ys.length * szOf T e := by
        have : (i - xs.length + 1) * szOf T e ≤ ys.length * szOf T e := Nat.mul_le_mul_right _ hi2
        rw [Nat.succ_mul] at this; omega
      refine ⟨c, ?_, hc2.mono hF hw⟩
      have := h2 _ hlt
      rw [show 0 + i * szOf T e + j = xs.length * szOf T e + ((i - xs.length) * szOf T e + j) by
        have : i * szOf T e = xs.length * szOf T e + (i - xs.length) * szOf T e := by rw [← Nat.add_mul]; congr 1; omega
        omega, this, ← Nat.add_assoc]
      exact hc1

theorem appW_sound {P : Program} {G : Gh} {hp : List Blk} {w : World} (hT : TOK P T) (hh : HRel T G hp w) {fr : Nat} (hfr : hp.getD fr Blk.none = Blk.none) {t t2 ty : TypeId} {px py : PV} {vx vy : Value} (hx : PRel T G w px vx) (hy : PRel T G w py vy)
    {K : PV → List Blk → Prop} (h : appW T t t2 px py hp fr K) :
    ∃ p hp' u w' G', K p hp' ∧ (Builtin.append_ #[t, t2] ty #[vx, vy]).run P w = .ok u w' ∧ PRel T G' w' p u ∧ HRel T G' hp' w' ∧ Evo G hp w G' hp' w' := by
  unfold appW at h
  cases hq : Nat.beq t t2 with
  | false => rw [hq] at h; exact h.elim
  | true =>
    rw [hq] at h
    have := Nat.eq_of_beq_eq_true hq; subst this
    simp only [cond_true] at h
    split at h
    case h_2 => exact h.elim
    rename_i ti hti
    split at h
    case h_2 => exact h.elim
    rename_i e hds
    split at h
    case h_2 => exact h.elim
    rename_i i hi
    cases hb : (!i.leaves.isEmpty && Nat.ble 1 i.bytes) with
    | false => rw [hb] at h; exact h.elim
    | true =>
      rw [hb] at h
      simp only [cond_true] at h
      simp only [Bool.and_eq_true, Bool.not_eq_true'] at hb
      obtain ⟨b1, b2⟩ := hb
      have b2 := Nat.le_of_ble_eq_true b2
      have hpos : 0 < szOf T e := by
        rw [szOf_eq hi]
        cases hq : i.leaves with
        | nil => rw [hq] at b1; simp at b1
        | cons a b => simp
      obtain ⟨d, hd, ho⟩ := (hT t _ hti).desc
      cases d <;> simp [descOK, hds] at ho
      subst ho
      have he1 := hT e i hi
      obtain ⟨inf, hinf, hs, hby, hz⟩ := he1.info
      have hzs : (zeroV i).cells.size = szOf T e := by rw [zeroV_cells he1, szOf_eq hi]; simp
      -- the run of an append of at least one element
      have grow : ∀ (n : Nat) (xsV : List Value) (ys : List D) (bl off c : Nat) (cs2 : Array Value) (ty2 : TypeId) (fr2 : Nat × Nat), w.ownsRow 0 e (szOf T e) vx n xsV → 0 < ys.length → w.heap[bl]? = some (.cells cs2 ty2 fr2) → Row T G.F w e cs2 off ys → (n + ys.length) * i.bytes ≤ 140737488355328 →
          ∃ g' cap cur w', (Builtin.append_ #[t, t] ty #[vx, .slice (some ⟨bl, off, none⟩) ys.length c]).run P w = .ok (.slice (some ⟨g', 0, none⟩) (n + ys.length) cap) w' ∧ w'.heap[g']? = some (.cells cur e (0, 0)) ∧ n + ys.length ≤ cap ∧ cap ≤ maxLen ∧ cur.size = cap * szOf T e ∧
            (∀ q, q < n * szOf T e → cur[q]? = xsV[q]?) ∧ (∀ q, q < ys.length * szOf T e → cur[n * szOf T e + q]? = cs2[off + q]?) ∧ w.grownBy w' vx.ownBlock ∧ (some g' = vx.ownBlock ∨ g' = w.heap.size) := by
        intro n xsV ys bl off c cs2 ty2 fr2 hown hm hw2 hrow hbytes
        have hend := hrow.ends hm hpos
        have hl : ((cs2.toList.drop off).take (ys.length * szOf T e)).length = ys.length * szOf T e := by simp; omega
        have hget : ∀ q, q < ys.length * szOf T e → ((cs2.toList.drop off).take (ys.length * szOf T e))[q]? = cs2[off + q]? := by
          intro q hq
          rw [List.getElem?_take, if_pos hq, List.getElem?_drop]; simp
        obtain ⟨v', w', r1, r2, r3, r4, r5⟩ := run_append_own_at (P := P) w 0 t ty e inf (zeroV i) (szOf T e) i.bytes hd hinf hz (by rw [hs, szOf_eq hi]) hby hzs hpos vx n xsV hown ⟨bl, off, none⟩ ys.length c
          ((cs2.toList.drop off).take (ys.length * szOf T e)) hl (fun j u hu => by
            have hj : j < ys.length * szOf T e := by rw [← hl]; exact (List.getElem?_eq_some_iff.1 hu).1
            rw [addr_add, cell_at hw2, ← hget j hj]; exact hu)
          (fun u hu => by
            obtain ⟨q, hq, rfl⟩ := List.mem_iff_getElem.1 hu
            have hq' : q < ys.length * szOf T e := by omega
            refine hrow.one hpos hq' ?_
            rw [← hget q hq', List.getElem?_eq_getElem hq])
          (by have : n + ys.length ≤ (n + ys.length) * i.bytes := Nat.le_mul_of_pos_right _ (by omega)
              simp only [maxLen]; omega) hbytes (Nat.zero_le _)
        rcases r2.2 with ⟨_, hz0⟩ | ⟨g', cap, cur, rfl, _, hg', hle, hcm, hcs, htake⟩
        · omega
        have hxl := hown.1
        refine ⟨g', cap, cur, w', r1, hg', hle, hcm, hcs, fun q hq => ?_, fun q hq => ?_, r3, ?_⟩
        · have : cur.toList[q]? = (xsV ++ (cs2.toList.drop off).take (ys.length * szOf T e))[q]? := by
            rw [← htake, List.getElem?_take, if_pos (by rw [Nat.add_mul]; omega)]
          rw [List.getElem?_append_left (by omega)] at this
          simpa using this
        · have : cur.toList[n * szOf T e + q]? = (xsV ++ (cs2.toList.drop off).take (ys.length * szOf T e))[n * szOf T e + q]? := by
            rw [← htake, List.getElem?_take, if_pos (by rw [Nat.add_mul]; omega)]
          rw [List.getElem?_append_right (by omega), hxl, Nat.add_sub_cancel_left, hget q hq] at this
          simpa using this
        · rcases r5 with r5 | r5
          · exact .inl r5
          · simp [Value.ownBlock] at r5; exact .inr r5
      split at h
      · -- a nil slice
        cases hx
        obtain ⟨ys, ⟨hbt, hK⟩, hsrc⟩ := srcW_sound hh hy h
        rcases hsrc with ⟨rfl, a, c, rfl⟩ | ⟨hm, bl, off, c, cs2, ty2, fr2, rfl, hw2, hrow⟩
        · obtain ⟨m1, m2, m3⟩ := hh.bornNil hfr e
          exact ⟨_, _, _, _, _, hK, run_append_zero hd he1 _ none 0 0 rfl (Nat.le_refl _) a c, m1, m2, m3⟩
        · obtain ⟨g', cap, cur, w', r1, r2, r3, r4, r5, r6, r7, r8, r9⟩ := grow 0 [] ys bl off c cs2 ty2 fr2 (World.ownsRow_nil w 0 e _) hm hw2 hrow (by simpa using hbt)
          simp only [Nat.zero_add, Nat.zero_mul] at r1 r3 r7
          have hg : g' = w.heap.size := by rcases r9 with r9 | r9; · simp [Value.ownBlock] at r9
                                           · exact r9
          subst hg
          obtain ⟨u1, u2⟩ := hh.unborn hfr
          have hG : GExt G (G.born fr (some w.heap.size) 1 cap (szOf T e) ys.length) := GExt.born u1 u2 _ _ _ _ _
          have fz : ∀ n, G.F n → w'.heap[n]? = w.heap[n]? := fun n hn => r8.block n (hh.lt n hn) (by simp [Value.ownBlock])
          have row' : Row T G.F w' e cur 0 ys := by
            have := Row.app (T := T) (xs := []) (cs := #[]) (F' := G.F) (w' := w') (fun _ h => h) fz (show Row T G.F w e #[] 0 [] from ⟨by simp, by simp⟩) hrow (cs' := cur) (by simp) (fun q hq => by simpa using r7 q hq)
            simpa using this
          have e1 : (G.born fr (some w.heap.size) 1 cap (szOf T e) ys.length).ι fr = some w.heap.size := by simp [Gh.born]
          have e2 : (G.born fr (some w.heap.size) 1 cap (szOf T e) ys.length).γ fr = 1 := by simp [Gh.born]
          have e3 : (G.born fr (some w.heap.size) 1 cap (szOf T e) ys.length).κ fr = cap := by simp [Gh.born]
          have e4 : (G.born fr (some w.heap.size) 1 cap (szOf T e) ys.length).et fr = szOf T e := by simp [Gh.born]
          have e5 : (G.born fr (some w.heap.size) 1 cap (szOf T e) ys.length).len fr = ys.length := by simp [Gh.born]
          have st := hh.step fr (.buf 1 e ys) hG (fun b hb => by simp [Gh.born, hb]) r8.os r8.tape r8.output r8.size (fun n hn _ => r8.block n hn (by simp [Value.ownBlock]))
            (.buf 1 e ys w.heap.size cur e2.symm (by omega) e1 e5 e4 r2 (by omega) (by omega) (by rw [e3]; exact r5) row') (fun n hn => .inl hn) (fun _ n hn => by rw [e1] at hn; cases hn; exact ⟨.inl (Nat.le_refl _), fun hf => by have := hh.lt _ hf; omega⟩)
          refine ⟨_, _, _, w', _, hK, r1, ?_, st.1, st.2⟩
          have := PRel.sl (T := T) (w := w') fr 1 ys.length w.heap.size e2.symm (by omega) e1 (by omega)
          rw [e3] at this
          exact this
      · rename_i b g n
        split at h
        case h_2 => exact h.elim
        rename_i g' e' xs hbuf
        cases hqe : Nat.beq e e' with
        | false => rw [hqe] at h; exact h.elim
        | true =>
          rw [hqe] at h
          have := Nat.eq_of_beq_eq_true hqe; subst this
          simp only [cond_true] at h
          obtain ⟨ys, ⟨⟨hg, hn, hbt⟩, hK⟩, hsrc⟩ := srcW_sound hh hy h
          subst hg
          obtain ⟨q1, q2, q3, q4, q5, q6⟩ := hh.bufAt (.inl hbuf)
          have hal : (hp.getD b Blk.none).alive = true := by rw [hbuf]; rfl
          have k := hh.blk b
          rw [hbuf] at k
          -- the ghost state behind it
          have fin : ∀ (nb : Option Nat) (c : Nat) (w' : World) (u : Value), w'.os = w.os → w'.tape = w.tape → w'.output = w.output → w.heap.size ≤ w'.heap.size → (∀ n, n < w.heap.size → G.ι b ≠ some n → w'.heap[n]? = w.heap[n]?) →
              BRel T (G.born b nb (g + 1) c (szOf T e) (xs ++ ys).length) w' b (.buf (g + 1) e (xs ++ ys)) → (∀ n, nb = some n → (w.heap.size ≤ n ∨ G.ι b = some n)) →
              PRel T (G.born b nb (g + 1) c (szOf T e) (xs ++ ys).length) w' (.sl b (g + 1) (xs.length + ys.length)) u → (Builtin.append_ #[t, t] ty #[vx, vy]).run P w = .ok u w' →
              ∃ p hp' u w' G', K p hp' ∧ (Builtin.append_ #[t, t] ty #[vx, vy]).run P w = .ok u w' ∧ PRel T G' w' p u ∧ HRel T G' hp' w' ∧ Evo G hp w G' hp' w' := by
            intro nb c w' u ho1 ho2 ho3 hsz hw hB hnb hP hrun
            have hG : GExt G (G.born b nb (g + 1) c (szOf T e) (xs ++ ys).length) := GExt.bump (by omega) (by omega) _ _ _ _
            have st := hh.step b (.buf (g + 1) e (xs ++ ys)) hG (fun b' hb' => by simp [Gh.born, hb']) ho1 ho2 ho3 hsz (fun n hn hne => hw n hn (hne hal)) hB (fun n hn => .inl hn) (fun _ n hn => by
              have e0 : nb = some n := by simpa [Gh.born] using hn
              rcases hnb n e0 with l | l
              · exact ⟨.inl l, fun hf => by have := hh.lt _ hf; omega⟩
              · exact ⟨.inr ⟨hal, l⟩, hh.sep b n hal l⟩)
            exact ⟨_, _, u, w', _, hK, hrun, hP, st.1, st.2⟩
          have sets : ∀ (nb : Option Nat) (c l : Nat), (G.born b nb (g + 1) c (szOf T e) l).ι b = nb ∧ (G.born b nb (g + 1) c (szOf T e) l).γ b = g + 1 ∧ (G.born b nb (g + 1) c (szOf T e) l).κ b = c ∧ (G.born b nb (g + 1) c (szOf T e) l).et b = szOf T e ∧ (G.born b nb (g + 1) c (szOf T e) l).len b = l := by
            intro nb c l; simp [Gh.born]
          rcases hsrc with ⟨rfl, a, c, rfl⟩ | ⟨hm, bl, off, c, cs2, ty2, fr2, rfl, hw2, hrow⟩
          · -- nothing is appended
            cases hx with
            | slOld b g n v hlt => omega
            | slNil b g hg0 h00 hi0 =>
              have hx0 : xs = [] := List.eq_nil_of_length_eq_zero (by omega)
              subst hx0
              obtain ⟨s1, s2, s3, s4, s5⟩ := sets none 0 ([] ++ ([] : List D)).length
              exact fin none 0 w (.slice none 0 0) rfl rfl rfl (Nat.le_refl _) (fun _ _ _ => rfl) (.bufNil _ e s2.symm (by omega) s1 s5 s4) (fun n hn => by cases hn) (.slNil b _ s2.symm (by omega) s1) (run_append_zero hd he1 _ none 0 0 rfl (Nat.le_refl _) a c)
            | sl b g n m hg0 h00 hi0 hle =>
              subst hn
              cases k with
              | bufNil g e hg1 h01 hi1 => rw [hi1] at hi0; cases hi0
              | buf g e xs m' cs hg1 h01 hi1 hl1 he1' hw1 hk1 hm1 hs1 hr1 =>
                rw [hi0] at hi1; cases hi1
                obtain ⟨s1, s2, s3, s4, s5⟩ := sets (some m) (G.κ b) (xs ++ ([] : List D)).length
                have hP : PRel T (G.born b (some m) (g + 1) (G.κ b) (szOf T e) (xs ++ ([] : List D)).length) w (.sl b (g + 1) (xs.length + ([] : List D).length)) (.slice (some ⟨m, 0, none⟩) xs.length (G.κ b)) := by
                  have := PRel.sl (T := T) (w := w) (G := G.born b (some m) (g + 1) (G.κ b) (szOf T e) (xs ++ ([] : List D)).length) b (g + 1) xs.length m s2.symm (by omega) s1 (by rw [s5]; simp)
                  rw [s3] at this
                  exact this
                refine fin (some m) (G.κ b) w _ rfl rfl rfl (Nat.le_refl _) (fun _ _ _ => rfl) ?_ (fun n hn => .inr (by rw [hi0]; exact hn)) hP (run_append_zero hd he1 _ (some ⟨m, 0, none⟩) _ _ rfl hk1 a c)
                refine .buf _ e _ m cs s2.symm (by omega) s1 s5 s4 hw1 (by rw [s3]; simpa using hk1) (by rw [s3]; exact hm1) (by rw [s3]; exact hs1) (by rw [List.append_nil]; exact hr1)
          · cases hx with
            | slOld b g n v hlt => omega
            | slNil b g hg0 h00 hi0 =>
              have hx0 : xs = [] := List.eq_nil_of_length_eq_zero (by omega)
              subst hx0
              obtain ⟨g1, cap, cur, w', r1, r2, r3, r4, r5, r6, r7, r8, r9⟩ := grow 0 [] ys bl off c cs2 ty2 fr2 (World.ownsRow_nil w 0 e _) hm hw2 hrow (by simpa using hbt)
              simp only [Nat.zero_add, Nat.zero_mul] at r1 r3 r7
              have hgs : g1 = w.heap.size := by rcases r9 with r9 | r9; · simp [Value.ownBlock] at r9
                                                · exact r9
              subst hgs
              have fz : ∀ n, G.F n → w'.heap[n]? = w.heap[n]? := fun n hn => r8.block n (hh.lt n hn) (by simp [Value.ownBlock])
              have row' : Row T G.F w' e cur 0 ys := by
                have := Row.app (T := T) (xs := []) (cs := #[]) (F' := G.F) (w' := w') (fun _ h => h) fz (show Row T G.F w e #[] 0 [] from ⟨by simp, by simp⟩) hrow (cs' := cur) (by simp) (fun q hq => by simpa using r7 q hq)
                simpa using this
              obtain ⟨s1, s2, s3, s4, s5⟩ := sets (some w.heap.size) cap ([] ++ ys).length
              refine fin (some w.heap.size) cap w' _ r8.os r8.tape r8.output r8.size (fun n hn _ => r8.block n hn (by simp [Value.ownBlock])) ?_ (fun n hn => by cases hn; exact .inl (Nat.le_refl _)) ?_ r1
              · exact .buf _ e _ w.heap.size cur s2.symm (by omega) s1 s5 s4 r2 (by rw [s3]; simpa using r3) (by rw [s3]; exact r4) (by rw [s3]; exact r5) (by rw [List.nil_append]; exact row')
              · have := PRel.sl (T := T) (w := w') (G := G.born b (some w.heap.size) (g + 1) cap (szOf T e) ([] ++ ys).length) b (g + 1) ys.length w.heap.size s2.symm (by omega) s1 (by rw [s5]; simp)
                rw [s3] at this
                simpa using this
            | sl b g n m hg0 h00 hi0 hle =>
              subst hn
              cases k with
              | bufNil g e hg1 h01 hi1 => rw [hi1] at hi0; cases hi0
              | buf g e xs m' cs hg1 h01 hi1 hl1 he1' hw1 hk1 hm1 hs1 hr1 =>
                rw [hi0] at hi1; cases hi1
                have hfit : xs.length * szOf T e ≤ cs.size := by rw [hs1]; exact Nat.mul_le_mul_right _ hk1
                obtain ⟨g1, cap, cur, w', r1, r2, r3, r4, r5, r6, r7, r8, r9⟩ := grow xs.length (cs.toList.take (xs.length * szOf T e)) ys bl off c cs2 ty2 fr2
                  ⟨by simp; omega, .inr ⟨m, G.κ b, cs, rfl, Nat.zero_le _, hw1, hk1, hm1, hs1, rfl⟩⟩ hm hw2 hrow hbt
                have own : Value.ownBlock (.slice (some ⟨m, 0, none⟩) xs.length (G.κ b)) = some m := rfl
                rw [own] at r8 r9
                have fz : ∀ n, G.F n → w'.heap[n]? = w.heap[n]? := fun n hn => r8.block n (hh.lt n hn) (fun e0 => by cases e0; exact hh.sep b m hal hi0 hn)
                have row' : Row T G.F w' e cur 0 (xs ++ ys) := Row.app (F' := G.F) (fun _ h => h) fz hr1 hrow (fun q hq => by
                  rw [r6 q hq, List.getElem?_take, if_pos hq]; simp) r7
                obtain ⟨s1, s2, s3, s4, s5⟩ := sets (some g1) cap (xs ++ ys).length
                refine fin (some g1) cap w' _ r8.os r8.tape r8.output r8.size (fun n hn hne => r8.block n hn (fun e0 => hne (by rw [hi0, e0]))) ?_ (fun n hn => ?_) ?_ r1
                · exact .buf _ e _ g1 cur s2.symm (by omega) s1 s5 s4 r2 (by rw [s3]; simpa using r3) (by rw [s3]; exact r4) (by rw [s3]; exact r5) row'
                · cases hn
                  rcases r9 with r9 | r9
                  · cases r9; exact .inr hi0
                  · exact .inl (by omega)
                · have := PRel.sl (T := T) (w := w') (G := G.born b (some g1) (g + 1) cap (szOf T e) (xs ++ ys).length) b (g + 1) (xs.length + ys.length) g1 s2.symm (by omega) s1 (by rw [s5]; simp)
                  rw [s3] at this
                  exact this
      · exact h.elim

end Go.Abs
/- copy; make of slices. -/
namespace Go.Abs
open Go.RowKit

variable {T : TT}

def viewP : PV → Option (Nat × Nat × Nat × Nat)
  | .sl b g n => some (b, g, 0, n)
  | .sv b g o n => some (b, g, o, n)
  | _ => none

def copyW (T : TT) (t : TypeId) (px py : PV) (hp : List Blk) (K : PV → List Blk → Prop) : Prop :=
  match T t with
  | some ti => match ti.desc with
    | .slice e => match T e, viewP px with
      | some _, some (b, g, o, n) => match hp.getD b .none with
        | .buf g' e' xs => bif Nat.beq e e' then srcW e py hp none fun ys => g = g' ∧ K (.d (.i .i64 (min ys.length n : Nat))) (hput hp b (.buf g' e (splice xs o (ys.take n)))) else False
        | _ => False
      | _, _ => False
    | _ => False
  | none => False

theorem run_copyK {P : Program} {w : World} {dT sT ty elem : TypeId} {i : TI} (he : TOK1 P elem i) (hu : P.underlying dT = some (.slice elem)) (g o dLen dCap : Nat) (a : Addr) (sLen sCap : Nat) (cur : Array Value) (t : TypeId) (cs : List Value)
    (hg : w.heap[g]? = some (.cells cur t (0, 0))) (hn : cs.length = Nat.min sLen dLen * i.leaves.length)
    (hsrc : ∀ j v, cs[j]? = some v → w.cell? (a.add j) = some v) (hfit : o + cs.length ≤ cur.size) (h1 : ∀ v ∈ cs, v.oneCell' = true) :
    (Builtin.copy_ #[dT, sT] ty #[.slice (some ⟨g, o, none⟩) dLen dCap, .slice (some a) sLen sCap]).run P w =
      .ok (goInt (Nat.min sLen dLen)) (w.setRow g (splice cur.toList o cs).toArray) := by
  have hl := run_loadCells_list (P := P) w a cs hsrc
  have hst := run_storeCells_at P g o t cs 0 cur w hg (by simpa using hfit) h1
  obtain ⟨inf, hi, hs, _⟩ := he.info
  unfold splice
  simp [Builtin.copy_, run_underlying hu, Builtin.lenOf, Builtin.firstCells, sizeOf, typeInfo, hi, hs, ← hn, hl, hst]

theorem run_copy0 {P : Program} {w : World} {dT sT ty elem : TypeId} {i : TI} (he : TOK1 P elem i) (hu : P.underlying dT = some (.slice elem)) (b a : Option Addr) (dLen dCap sLen sCap : Nat) (h0 : Nat.min sLen dLen = 0) :
    (Builtin.copy_ #[dT, sT] ty #[.slice b dLen dCap, .slice a sLen sCap]).run P w = .ok (goInt 0) w := by
  obtain ⟨inf, hi, hs, _⟩ := he.info
  cases b <;> cases a <;> simp [Builtin.copy_, run_underlying hu, Builtin.lenOf, Builtin.firstCells, sizeOf, typeInfo, hi, h0, loadCells, loadCellsFrom, storeCells]

theorem Row.copy {F F' : Nat → Prop} {w w' : World} {e : TypeId} {cs cs2 cs' : Array Value} {off o : Nat} {xs ys : List D} (hF : ∀ n, F n → F' n) (hw : ∀ n, F n → w'.heap[n]? = w.heap[n]?)
    (hx : Row T F w e cs 0 xs) (hy : Row T F w e cs2 off ys) (ho : o + ys.length ≤ xs.length) (h1 : ∀ q, (q < o * szOf T e ∨ (o + ys.length) * szOf T e ≤ q) → cs'[q]? = cs[q]?) (h2 : ∀ q, q < ys.length * szOf T e → cs'[o * szOf T e + q]? = cs2[off + q]?) : Row T F' w' e cs' 0 (splice xs o ys) := by
  refine ⟨fun x hx' => ?_, fun i x j y hxi hyj => ?_⟩
  · unfold splice at hx'
    rcases List.mem_append.1 hx' with h | h
    · rcases List.mem_append.1 h with h | h
      · exact hx.1 x (List.mem_of_mem_take h)
      · exact hy.1 x h
    · exact hx.1 x (List.mem_of_mem_drop h)
  · rw [splice_get ho] at hxi
    have lt : ∀ {l : List D} {q : Nat}, HasT T e x → q * szOf T e + j < (q + 1) * szOf T e := by
      intro l q hq
      have hj : j < szOf T e := by rw [← hq.len]; exact (List.getElem?_eq_some_iff.1 hyj).1
      rw [Nat.succ_mul]; omega
    by_cases q1 : i < o
    · rw [if_pos q1] at hxi
      obtain ⟨c, hc1, hc2⟩ := hx.2 i x j y hxi hyj
      have hlt := lt (l := xs) (q := i) (hx.1 x (List.mem_of_getElem? hxi))
      have : (i + 1) * szOf T e ≤ o * szOf T e := Nat.mul_le_mul_right _ q1
      refine ⟨c, ?_, hc2.mono hF hw⟩
      rw [Nat.zero_add, h1 _ (.inl (by omega))]
      simpa using hc1
    · rw [if_neg q1] at hxi
      by_cases q2 : i < o + ys.length
      · rw [if_pos q2] at hxi
        obtain ⟨c, hc1, hc2⟩ := hy.2 _ x j y hxi hyj
        have hlt := lt (l := ys) (q := i - o) (hy.1 x (List.mem_of_getElem? hxi))
        have : (i - o + 1) * szOf T e ≤ ys.length * szOf T e := Nat.mul_le_mul_right _ (by omega)
        refine ⟨c, ?_, hc2.mono hF hw⟩
        have := h2 ((i - o) * szOf T e + j) (by omega)
        rw [show 0 + i * szOf T e + j = o * szOf T e + ((i - o) * szOf T e + j) by
          have : i * szOf T e = o * szOf T e + (i - o) * szOf T e := by rw [← Nat.add_mul]; congr 1; omega
          omega, this, ← Nat.add_assoc]
        exact hc1
      · rw [if_neg q2] at hxi
        obtain ⟨c, hc1, hc2⟩ := hx.2 i x j y hxi hyj
        have : (o + ys.length) * szOf T e ≤ i * szOf T e := Nat.mul_le_mul_right _ (by omega)
        refine ⟨c, ?_, hc2.mono hF hw⟩
        rw [Nat.zero_add, h1 _ (.inr (by omega))]
        simpa using hc1

theorem splice_nil {α : Type} (l : List α) (o : Nat) : splice l o [] = l := by unfold splice; simp

theorem HRel.hput_same {G : Gh} {hp : List Blk} {w : World} (hh : HRel T G hp w) {b : Nat} {k : Blk} (hb : hp.getD b .none = k) : HRel T G (hput hp b k) w ∧ Evo G hp w G (hput hp b k) w := by
  have e : ∀ b', (hput hp b k).getD b' Blk.none = hp.getD b' Blk.none := fun b' => by
    by_cases h : b' = b
    · subst h; rw [Go.Abs.hput_same, hb]
    · exact hput_other _ _ _ _ h
  refine ⟨⟨fun b' => by rw [e]; exact hh.blk b', fun b1 b2 n h1 h2 => hh.inj b1 b2 n (by rwa [e] at h1) (by rwa [e] at h2), fun b1 n h1 => hh.sep b1 n (by rwa [e] at h1), hh.lt⟩, ?_⟩
  exact ⟨rfl, rfl, rfl, Nat.le_refl _, fun _ _ _ => rfl, fun _ h => .inl h, fun n ⟨b', h1, h2⟩ => .inr ⟨b', by rwa [e] at h1, h2⟩, GExt.refl G⟩

theorem copyW_sound {P : Program} {G : Gh} {hp : List Blk} {w : World} (hT : TOK P T) (hh : HRel T G hp w) {t t2 ty : TypeId} {px py : PV} {vx vy : Value} (hx : PRel T G w px vx) (hy : PRel T G w py vy) {K : PV → List Blk → Prop} (h : copyW T t px py hp K) :
    ∃ p hp' u w', K p hp' ∧ (Builtin.copy_ #[t, t2] ty #[vx, vy]).run P w = .ok u w' ∧ PRel T G w' p u ∧ HRel T G hp' w' ∧ Evo G hp w G hp' w' := by
  unfold copyW at h
  split at h
  case h_2 => exact h.elim
  rename_i ti hti
  split at h
  case h_2 => exact h.elim
  rename_i e hds
  split at h
  case h_2 => exact h.elim
  rename_i ie b g o n hi hview
  split at h
  case h_2 => exact h.elim
  rename_i g' e' xs hb
  cases hq : Nat.beq e e' with
  | false => rw [hq] at h; exact h.elim
  | true =>
    rw [hq] at h
    have := Nat.eq_of_beq_eq_true hq; subst this
    simp only [cond_true] at h
    obtain ⟨ys, ⟨hg, hK⟩, hsrc⟩ := srcW_sound hh hy h
    subst hg
    obtain ⟨d, hd, ho⟩ := (hT t _ hti).desc
    rw [hds] at ho
    cases d <;> simp [descOK] at ho
    subst ho
    have he1 := hT e ie hi
    obtain ⟨e1, e2, e3, e4, e5, e6⟩ := hh.bufAt (.inl hb)
    -- what the view is
    have view : ∃ base cap, vx = .slice base n cap ∧ (n = 0 ∨ ∃ m, G.ι b = some m ∧ base = some ⟨m, o * szOf T e, none⟩ ∧ o + n ≤ xs.length) := by
      cases px <;> simp only [viewP] at hview <;> try (cases hview; done)
      · cases hview
        cases hx with
        | slOld _ _ _ v hlt => omega
        | slNil => exact ⟨_, _, rfl, .inl rfl⟩
        | sl _ _ _ m hg h0 hi hn => exact ⟨_, _, rfl, .inr ⟨m, hi, by simp, by omega⟩⟩
      · cases hview
        cases hx with
        | svOld _ _ _ _ v hlt => omega
        | svZ => exact ⟨_, _, rfl, .inl rfl⟩
        | sv _ _ _ _ m hg h0 hi hn => exact ⟨_, _, rfl, .inr ⟨m, hi, by rw [e4], by omega⟩⟩
    obtain ⟨base, cap, rfl, hv⟩ := view
    have src : ∃ sb sc, vy = .slice sb ys.length sc := by
      rcases hsrc with ⟨rfl, a, c, rfl⟩ | ⟨_, bl, off, c, cs, ty, fr, rfl, _, _⟩
      · exact ⟨a, c, rfl⟩
      · exact ⟨_, _, rfl⟩
    by_cases hz : Nat.min ys.length n = 0
    · obtain ⟨sb, sc, rfl⟩ := src
      have hz' : ys.take n = [] := by
        apply List.eq_nil_of_length_eq_zero
        rw [List.length_take]
        simp only [Nat.min_def] at hz ⊢
        split at hz <;> split <;> omega
      have run := run_copy0 (P := P) (w := w) (ty := ty) (sT := t2) he1 hd base sb n cap ys.length sc hz
      rw [hz', splice_nil, show (min ys.length n : Nat) = 0 from hz] at hK
      obtain ⟨k1, k2⟩ := hh.hput_same hb
      exact ⟨_, _, _, _, hK, run, .d _ _ (.i _ _), k1, k2⟩
    · have hzn : ¬ n = 0 := fun h => hz (by subst h; exact Nat.min_zero _)
      have hzy : ¬ ys.length = 0 := fun h => hz (by rw [h]; exact Nat.zero_min _)
      obtain ⟨m, hm, rfl, hon⟩ := hv.resolve_left hzn
      rcases hsrc with ⟨rfl, _⟩ | ⟨_, bl, off, c, cs2, ty2, fr2, rfl, hw2, hy2⟩
      · exact absurd rfl hzy
      · have bk := hh.blk b
        rw [hb] at bk
        cases bk with
        | bufNil _ _ _ _ hi0 => rw [hm] at hi0; cases hi0
        | buf _ _ _ m' cs hg h0 hi' hl he hheap hk hmx hs hr =>
          rw [hm] at hi'; cases hi'
          have hmin : Nat.min ys.length n = (ys.take n).length := by rw [List.length_take]; exact Nat.min_comm _ _
          have hyt : Row T G.F w e cs2 off (ys.take n) := ⟨fun x hx => hy2.1 x (List.mem_of_mem_take hx), fun i x j y hx hy => by
            rw [List.getElem?_take] at hx
            split at hx
            · exact hy2.2 i x j y hx hy
            · cases hx⟩
          have hlen : (ys.take n).length ≤ n := by rw [List.length_take]; exact Nat.min_le_left _ _
          generalize hys : ys.take n = zs at *
          by_cases hs0 : szOf T e = 0
          · -- elements without cells
            have hlz : ie.leaves.length = 0 := by rw [← szOf_eq hi]; exact hs0
            have run := run_copyK (P := P) (w := w) (ty := ty) (sT := t2) he1 hd m (o * szOf T e) n cap ⟨bl, off, none⟩ ys.length c cs e [] hheap (by rw [hlz]; simp) (by simp) (by rw [hs0, hs0] at *; simp) (by simp)
            have st := hh.setRow (k' := .buf g e (splice xs o zs)) (splice cs.toList (o * szOf T e) []).toArray (by rw [hb]; rfl) hm (by
              refine .buf g e _ m _ hg h0 hm (by rw [splice_length (by omega), hl]) he (setRow_heap w m cs _ e _ hheap) (by rw [splice_length (by omega)]; exact hk) hmx (by simp [splice, hs]) ?_
              have fz := hh.fz (by rw [hb]; rfl) hm (splice cs.toList (o * szOf T e) []).toArray
              exact Row.copy (fun _ h => h) fz hr hyt (by omega) (fun q _ => by simp [splice]) (fun q hq => by rw [hs0] at hq; simp at hq))
            rw [hmin] at run
            rw [show (min ys.length n : Nat) = zs.length from hmin] at hK
            exact ⟨_, _, _, _, hK, run, .d _ _ (.i _ _), st.1, st.2⟩
          · have hpos : 0 < szOf T e := by omega
            have hends := hyt.ends (by omega) hpos
            let cl := (cs2.toList.drop off).take (zs.length * szOf T e)
            have hcl : cl.length = zs.length * szOf T e := by
              simp only [cl, List.length_take, List.length_drop, Array.length_toList]; omega
            have hclg : ∀ q, q < zs.length * szOf T e → cl[q]? = cs2[off + q]? := fun q hq => by
              simp only [cl, List.getElem?_take, if_pos hq, List.getElem?_drop, Array.getElem?_toList]
            have hszle : (o + zs.length) * szOf T e ≤ cs.size := by
              rw [hs]; exact Nat.mul_le_mul_right _ (by omega)
            rw [Nat.add_mul] at hszle
            have run := run_copyK (P := P) (w := w) (ty := ty) (sT := t2) he1 hd m (o * szOf T e) n cap ⟨bl, off, none⟩ ys.length c cs e cl hheap (by rw [hcl, hmin, szOf_eq hi]) (fun j v hj => by
                have hjl : j < zs.length * szOf T e := by rw [← hcl]; exact (List.getElem?_eq_some_iff.1 hj).1
                rw [addr_add, cell_at hw2, ← hclg j hjl]; exact hj) (by omega) (fun v hv => by
                obtain ⟨j, hj, rfl⟩ := List.mem_iff_getElem.1 hv
                have hjl : j < zs.length * szOf T e := by omega
                exact hyt.one hpos hjl (by rw [← hclg j hjl]; exact List.getElem?_eq_getElem hj))
            have st := hh.setRow (k' := .buf g e (splice xs o zs)) (splice cs.toList (o * szOf T e) cl).toArray (by rw [hb]; rfl) hm (by
              have fits : o * szOf T e + cl.length ≤ cs.toList.length := by simp; omega
              refine .buf g e _ m _ hg h0 hm (by rw [splice_length (by omega), hl]) he (setRow_heap w m cs _ e _ hheap) (by rw [splice_length (by omega)]; exact hk) hmx (by rw [List.size_toArray, splice_length fits]; simp [hs]) ?_
              have fz := hh.fz (by rw [hb]; rfl) hm (splice cs.toList (o * szOf T e) cl).toArray
              refine Row.copy (fun _ h => h) fz hr hyt (by omega) (fun q hq => ?_) (fun q hq => ?_)
              · rw [List.getElem?_toArray, splice_get fits]
                by_cases q1 : q < o * szOf T e
                · rw [if_pos q1]; simp
                · rw [if_neg q1, if_neg (by rw [Nat.add_mul] at hq; rw [hcl]; omega)]; simp
              · rw [List.getElem?_toArray, splice_get fits, if_neg (by omega), if_pos (by omega), show o * szOf T e + q - o * szOf T e = q by omega]
                exact hclg q hq)
            rw [hmin] at run
            rw [show (min ys.length n : Nat) = zs.length from hmin] at hK
            exact ⟨_, _, _, _, hK, run, .d _ _ (.i _ _), st.1, st.2⟩

/-- make([]E, n). -/
def makeSliceW (T : TT) (t : TypeId) (pn pc : PV) (hp : List Blk) (fr : Nat) (K : PV → List Blk → Prop) : Prop :=
  match T t with
  | some ti => match ti.desc with
    | .slice e => match T e with
      | some i => bif i.leaves.all LK.isData then match pn, pc with
        | .d (.i _ n), .d (.i _ c) => (0 ≤ n ∧ n ≤ c ∧ (i.bytes : Int) * c ≤ 281474976710656 ∧ c ≤ 9223372036854775807) ∧ K (.sl fr 1 n.toNat) (hput hp fr (.buf 1 e (List.replicate n.toNat (zeroE i))))
        | _, _ => False
        else False
      | none => False
    | _ => False
  | none => False

theorem makeSliceW_sound {P : Program} {G : Gh} {hp : List Blk} {w : World} (hT : TOK P T) (hh : HRel T G hp w) {fr : Nat} (hfr : hp.getD fr Blk.none = Blk.none) {t : TypeId} {pn pc : PV} {vn vc : Value} (hn : PRel T G w pn vn) (hc : PRel T G w pc vc) {K : PV → List Blk → Prop} (h : makeSliceW T t pn pc hp fr K) :
    ∃ p hp' u w' G', K p hp' ∧ (Instr.makeSlice t vn vc).run P w = .ok u w' ∧ PRel T G' w' p u ∧ HRel T G' hp' w' ∧ Evo G hp w G' hp' w' := by
  unfold makeSliceW at h
  split at h
  case h_2 => exact h.elim
  rename_i ti hti
  split at h
  case h_2 => exact h.elim
  rename_i e hds
  split at h
  case h_2 => exact h.elim
  rename_i i hi
  cases hd' : i.leaves.all LK.isData with
  | false => rw [hd'] at h; exact h.elim
  | true =>
    rw [hd'] at h
    simp only [cond_true] at h
    split at h
    case h_2 => exact h.elim
    rename_i _ _ k n k' c
    obtain ⟨⟨h1, h2, h3, h4⟩, hK⟩ := h
    obtain ⟨d, hd, ho⟩ := (hT t _ hti).desc
    rw [hds] at ho
    cases d <;> simp [descOK] at ho
    subst ho
    have he1 := hT e i hi
    obtain ⟨inf, hinf, hs, hby, hz⟩ := he1.info
    have en := hn.int; subst en
    have ec := hc.int; subst ec
    have run := run_make (P := P) w t e inf (zeroV i) hd hinf hz k k' n c h1 h2 (by rw [hby]; exact h3) h4
    rw [hs] at run
    have row : Row T G.F w e (madeCells (zeroV i).cells (c.toNat * i.leaves.length)) 0 (List.replicate n.toNat (zeroE i)) := by
      have z := zeroRow (F := G.F) (w := w) he1 hi hd' c.toNat
      refine ⟨fun x hx => ?_, fun q x j y hx hy => ?_⟩
      · exact (zeroE_spec he1 hi hd').1 |> fun hh => by rw [List.eq_of_mem_replicate hx]; exact hh
      · have hq : q < n.toNat := by have := (List.getElem?_eq_some_iff.1 hx).1; simpa using this
        refine z.2 q x j y ?_ hy
        rw [List.getElem?_replicate, if_pos (by omega)]
        rw [List.getElem?_replicate, if_pos hq] at hx
        exact hx
    have st := hh.allocBuf hfr e (List.replicate n.toNat (zeroE i)) (madeCells (zeroV i).cells (c.toNat * i.leaves.length)) c.toNat (by simp; omega) (by simp [maxLen]; omega) (by rw [size_madeCells, szOf_eq hi]) row
    simp only [List.length_replicate] at st
    exact ⟨_, _, _, _, _, hK, run, st.1, st.2.1, st.2.2⟩

end Go.Abs
/- Calls: what a function does to the part of the heap that it is handed. -/
namespace Go.Abs
open Go.RowKit

variable {T : TT}

mutual
def rnP (f : Nat → Option Nat) : PV → Option PV
  | .ptr b o => match f b with | some b' => some (.ptr b' o) | none => none
  | .el b g i o => match f b with | some b' => some (.el b' g i o) | none => none
  | .sl b g n => match f b with | some b' => some (.sl b' g n) | none => none
  | .sv b g o n => match f b with | some b' => some (.sv b' g o n) | none => none
  | .mp b => match f b with | some b' => some (.mp b') | none => none
  | .st xs => match rnPs f xs with | some ys => some (.st ys) | none => none
  | .tup xs => match rnPs f xs with | some ys => some (.tup ys) | none => none
  | .fn g xs => match rnPs f xs with | some ys => some (.fn g ys) | none => none
  | p => some p
def rnPs (f : Nat → Option Nat) : List PV → Option (List PV)
  | [] => some []
  | p :: ps => match rnP f p with
    | some q => match rnPs f ps with
      | some qs => some (q :: qs)
      | none => none
    | none => none
end

structure Ren (f : Nat → Option Nat) (G G' : Gh) : Prop where
  F : ∀ n, G.F n → G'.F n
  same : ∀ b b', f b = some b' → G'.ι b' = G.ι b ∧ G'.γ b' = G.γ b ∧ G'.κ b' = G.κ b ∧ G'.et b' = G.et b ∧ G'.len b' = G.len b

theorem rnPs_get (f : Nat → Option Nat) : ∀ {ps qs : List PV}, rnPs f ps = some qs → qs.length = ps.length ∧ ∀ (j : Nat) (q : PV), qs[j]? = some q → ∃ p, ps[j]? = some p ∧ rnP f p = some q
  | [], qs, h => by simp only [rnPs, Option.some.injEq] at h; subst h; exact ⟨rfl, by simp⟩
  | p :: ps, qs, h => by
    unfold rnPs at h
    split at h
    case h_2 => cases h
    rename_i q hq
    split at h
    case h_2 => cases h
    rename_i qs' hqs
    cases h
    obtain ⟨h1, h2⟩ := rnPs_get f hqs
    refine ⟨by simp [h1], fun j r hr => ?_⟩
    cases j with
    | zero => simp at hr; subst hr; exact ⟨p, rfl, hq⟩
    | succ j => exact h2 j r (by simpa using hr)

theorem PRel.ren {f : Nat → Option Nat} {G G' : Gh} (hr : Ren f G G') {w : World} {p : PV} {v : Value} (h : PRel T G w p v) : ∀ {p'}, rnP f p = some p' → PRel T G' w p' v := by
  induction h with
  | kb c => intro p' e; cases e; exact .kb c
  | d x v h => intro p' e; cases e; exact .d x v (h.mono hr.F (fun _ _ => rfl))
  | c v => intro p' e; cases e; exact PRel.c v
  | st xs vs hl _ h1 ih =>
    intro p' e
    unfold rnP at e
    split at e
    case h_2 => cases e
    rename_i ys hys
    cases e
    obtain ⟨l, g⟩ := rnPs_get f hys
    exact .st ys vs (by omega) (fun j x v hx hv => let ⟨p, a, b⟩ := g j x hx; ih j p v a hv b) h1
  | tup xs vs hl _ ih =>
    intro p' e
    unfold rnP at e
    split at e
    case h_2 => cases e
    rename_i ys hys
    cases e
    obtain ⟨l, g⟩ := rnPs_get f hys
    exact .tup ys vs (by omega) (fun j x v hx hv => let ⟨p, a, b⟩ := g j x hx; ih j p v a hv b)
  | ptr b off n h h0 =>
    intro p' e
    unfold rnP at e
    split at e
    case h_2 => cases e
    rename_i b' hb
    cases e
    obtain ⟨s1, s2, _⟩ := hr.same b b' hb
    exact .ptr b' off n (s1.trans h) (s2.trans h0)
  | elOld b g i off v h =>
    intro p' e
    unfold rnP at e
    split at e
    case h_2 => cases e
    rename_i b' hb
    cases e
    obtain ⟨s1, s2, _⟩ := hr.same b b' hb
    exact .elOld b' g i off v (by omega)
  | el b g i off n hg h0 h hi =>
    intro p' e
    unfold rnP at e
    split at e
    case h_2 => cases e
    rename_i b' hb
    cases e
    obtain ⟨s1, s2, s3, s4, s5⟩ := hr.same b b' hb
    rw [← s4]
    exact .el b' g i off n (by omega) h0 (s1.trans h) (by omega)
  | rp e x off bl o cs ty fr hF hh hT hc =>
    intro p' e'
    cases e'
    exact .rp e x off bl o cs ty fr (hr.F _ hF) hh hT fun j y hy => let ⟨q, h1, h2⟩ := hc j y hy; ⟨q, h1, h2.mono hr.F (fun _ _ => rfl)⟩
  | slOld b g n v h =>
    intro p' e
    unfold rnP at e
    split at e
    case h_2 => cases e
    rename_i b' hb
    cases e
    obtain ⟨s1, s2, _⟩ := hr.same b b' hb
    exact .slOld b' g n v (by omega)
  | slNil b g hg h0 h =>
    intro p' e
    unfold rnP at e
    split at e
    case h_2 => cases e
    rename_i b' hb
    cases e
    obtain ⟨s1, s2, _⟩ := hr.same b b' hb
    exact .slNil b' g (by omega) h0 (s1.trans h)
  | sl b g n m hg h0 h hn =>
    intro p' e
    unfold rnP at e
    split at e
    case h_2 => cases e
    rename_i b' hb
    cases e
    obtain ⟨s1, s2, s3, s4, s5⟩ := hr.same b b' hb
    rw [← s3]
    exact .sl b' g n m (by omega) h0 (s1.trans h) (by omega)
  | svOld b g o n v h =>
    intro p' e
    unfold rnP at e
    split at e
    case h_2 => cases e
    rename_i b' hb
    cases e
    obtain ⟨s1, s2, _⟩ := hr.same b b' hb
    exact .svOld b' g o n v (by omega)
  | svZ b g o a cap hg h0 =>
    intro p' e
    unfold rnP at e
    split at e
    case h_2 => cases e
    rename_i b' hb
    cases e
    obtain ⟨s1, s2, _⟩ := hr.same b b' hb
    exact .svZ b' g o a cap (by omega) h0
  | sv b g o n m hg h0 h hn =>
    intro p' e
    unfold rnP at e
    split at e
    case h_2 => cases e
    rename_i b' hb
    cases e
    obtain ⟨s1, s2, s3, s4, s5⟩ := hr.same b b' hb
    rw [← s3, ← s4]
    exact .sv b' g o n m (by omega) h0 (s1.trans h) (by omega)
  | mp b n h h0 =>
    intro p' e
    unfold rnP at e
    split at e
    case h_2 => cases e
    rename_i b' hb
    cases e
    obtain ⟨s1, s2, _⟩ := hr.same b b' hb
    exact .mp b' n (s1.trans h) (s2.trans h0)
  | fn g caps vs hl _ ih =>
    intro p' e
    unfold rnP at e
    split at e
    case h_2 => cases e
    rename_i ys hys
    cases e
    obtain ⟨l, k⟩ := rnPs_get f hys
    exact .fn g ys vs (by omega) (fun j x v hx hv => let ⟨p, a, b⟩ := k j x hx; ih j p v a hv b)
  | u v => intro p' e; cases e; exact .u v

def rnB (f : Nat → Option Nat) : Blk → Option Blk
  | .var cells => match rnPs f cells with | some cs => some (.var cs) | none => none
  | k => some k

theorem BRel.ren {f : Nat → Option Nat} {G G' : Gh} (hr : Ren f G G') {w : World} {b b' : Nat} (hb : f b = some b') {k k' : Blk} (hk : rnB f k = some k') (h : BRel T G w b k) : BRel T G' w b' k' := by
  obtain ⟨s1, s2, s3, s4, s5⟩ := hr.same b b' hb
  cases h with
  | none h h0 => cases hk; exact .none (s1.trans h) (s2.trans h0)
  | var cells n cs ty h h0 hh hl hc h1 =>
    unfold rnB at hk
    split at hk
    · rename_i cells' heq; 
      cases heq
      split at hk
      case h_2 => cases hk
      rename_i ys hys
      cases hk
      obtain ⟨l, g⟩ := rnPs_get f hys
      exact .var ys n cs ty (s1.trans h) (s2.trans h0) hh (by omega) (fun j x v hx hv => let ⟨p, a, e⟩ := g j x hx; (hc j p v a hv).ren hr e) h1
    · rename_i hne; exact absurd rfl (hne cells)
  | bufNil g e hg h0 h hl he => cases hk; exact .bufNil g e (by omega) h0 (s1.trans h) (s5.trans hl) (s4.trans he)
  | buf g e xs n cs hg h0 h hl he hh hkk hm hs hrow => cases hk; exact .buf g e xs n cs (by omega) h0 (s1.trans h) (s5.trans hl) (s4.trans he) hh (by omega) (by omega) (by rw [s3]; exact hs) (hrow.mono hr.F (fun _ _ => rfl))
  | frzNil g e hg h0 h hl he => cases hk; exact .frzNil g e (by omega) h0 (s1.trans h) (s5.trans hl) (s4.trans he)
  | frz g e xs n cs ty fr hg h0 h hl he hF hh hkk hrow => cases hk; exact .frz g e xs n cs ty fr (by omega) h0 (s1.trans h) (s5.trans hl) (s4.trans he) (hr.F _ hF) hh (by omega) (hrow.mono hr.F (fun _ _ => rfl))
  | map k v es n ents clock h h0 hh hl hrow => cases hk; exact .map k v es n ents clock (s1.trans h) (s2.trans h0) hh hl fun j x m hx hm => let ⟨a, c, d, e⟩ := hrow j x m hx hm; ⟨a.mono hr.F (fun _ _ => rfl), c.mono hr.F (fun _ _ => rfl), d, e⟩

def resP : List PV → PV
  | [p] => p
  | ps => .tup ps

/-- Called with args over the heap sub, f hands back res and leaves the heap sub'. -/
structure ACalls (P : Program) (T : TT) (f : FuncId) (args : List PV) (sub : List Blk) (res : List PV) (sub' : List Blk) : Prop where
  enters : ∀ (args : Array Value) (w : World), (callFunc f args).run P w = .ok (.enter f args) w
  calls : ∀ (G : Gh) (w : World) (vs : Array Value), HRel T G sub w → vs.size = args.length → (∀ (j : Nat) (p : PV) (v : Value), args[j]? = some p → vs[j]? = some v → PRel T G w p v) →
    Calls P f vs w fun e w' => match e with
      | .returned v => ∃ G', HRel T G' sub' w' ∧ PRel T G' w' (resP res) v ∧ Evo G sub w G' sub' w'
      | .outgrown => False
      | .panicked _ => False

end Go.Abs
/- A call that is handed a part of the heap leaves the rest alone. -/
namespace Go.Abs
open Go.RowKit

variable {T : TT}

def fidx : List Nat → Nat → Option Nat
  | [], _ => none
  | x :: r, b => bif Nat.beq x b then some 0 else match fidx r b with | some j => some (j + 1) | none => none

theorem fidx_get : ∀ {ids : List Nat} {b j : Nat}, fidx ids b = some j → ids[j]? = some b
  | [], b, j, h => by cases h
  | x :: r, b, j, h => by
    unfold fidx at h
    cases hb : Nat.beq x b with
    | true => rw [hb] at h; cases h; simp [Nat.eq_of_beq_eq_true hb]
    | false =>
      rw [hb] at h
      simp only [cond_false] at h
      split at h
      · rename_i j' hj; cases h; simpa using fidx_get hj
      · cases h

theorem fidx_none : ∀ {ids : List Nat} {b : Nat}, fidx ids b = none → b ∉ ids
  | [], b, _ => by simp
  | x :: r, b, h => by
    unfold fidx at h
    cases hb : Nat.beq x b with
    | true => rw [hb] at h; cases h
    | false =>
      rw [hb] at h
      simp only [cond_false] at h
      split at h
      · cases h
      · rename_i hn
        have := fidx_none hn
        have hne : x ≠ b := Nat.ne_of_beq_eq_false hb
        simp [this]; omega

theorem fidx_some {ids : List Nat} {b : Nat} (h : b ∈ ids) : ∃ j, fidx ids b = some j := by
  cases hf : fidx ids b with
  | none => exact absurd h (fidx_none hf)
  | some j => exact ⟨j, rfl⟩

theorem nodup_get {ids : List Nat} (hn : ids.Nodup) {i j b : Nat} (hi : ids[i]? = some b) (hj : ids[j]? = some b) : i = j := by
  have l1 := (List.getElem?_eq_some_iff.1 hi)
  have l2 := (List.getElem?_eq_some_iff.1 hj)
  obtain ⟨a1, e1⟩ := l1
  obtain ⟨a2, e2⟩ := l2
  exact (List.getElem_inj hn).1 (e1.trans e2.symm)

theorem fidx_of {ids : List Nat} (hn : ids.Nodup) {j b : Nat} (hj : ids[j]? = some b) : fidx ids b = some j := by
  obtain ⟨i, hi⟩ := fidx_some (List.mem_of_getElem? hj)
  rw [hi, nodup_get hn (fidx_get hi) hj]

/-- The ghost state as the callee numbers it. -/
def Gh.sub (G : Gh) (ids : List Nat) : Gh where
  F := G.F
  ι := fun j => match ids[j]? with | some b => G.ι b | none => none
  γ := fun j => match ids[j]? with | some b => G.γ b | none => 0
  κ := fun j => match ids[j]? with | some b => G.κ b | none => 0
  et := fun j => match ids[j]? with | some b => G.et b | none => 0
  len := fun j => match ids[j]? with | some b => G.len b | none => 0

theorem Ren.toSub (G : Gh) (ids : List Nat) : Ren (fidx ids) G (G.sub ids) :=
  ⟨fun _ h => h, fun b j h => by have := fidx_get h; simp [Gh.sub, this]⟩

def rnBs (f : Nat → Option Nat) : List Blk → Option (List Blk)
  | [] => some []
  | k :: ks => match rnB f k with
    | some q => match rnBs f ks with
      | some qs => some (q :: qs)
      | none => none
    | none => none

theorem rnBs_get (f : Nat → Option Nat) : ∀ {ps qs : List Blk}, rnBs f ps = some qs → qs.length = ps.length ∧ ∀ (j : Nat) (q : Blk), qs[j]? = some q → ∃ p, ps[j]? = some p ∧ rnB f p = some q
  | [], qs, h => by simp only [rnBs, Option.some.injEq] at h; subst h; exact ⟨rfl, by simp⟩
  | p :: ps, qs, h => by
    unfold rnBs at h
    split at h
    case h_2 => cases h
    rename_i q hq
    split at h
    case h_2 => cases h
    rename_i qs' hqs
    cases h
    obtain ⟨h1, h2⟩ := rnBs_get f hqs
    refine ⟨by simp [h1], fun j r hr => ?_⟩
    cases j with
    | zero => simp at hr; subst hr; exact ⟨p, rfl, hq⟩
    | succ j => exact h2 j r (by simpa using hr)

theorem rnB_alive {f : Nat → Option Nat} {k k' : Blk} (h : rnB f k = some k') : k'.alive = k.alive := by
  unfold rnB at h
  split at h
  · split at h
    · cases h; rfl
    · cases h
  · cases h; rfl

def hputAll : List Blk → List Nat → List Blk → List Blk
  | hp, b :: ids, k :: ks => hputAll (hput hp b k) ids ks
  | hp, _, _ => hp

theorem hputAll_other : ∀ (ids : List Nat) (ks : List Blk) (hp : List Blk) (b : Nat), b ∉ ids → (hputAll hp ids ks).getD b Blk.none = hp.getD b Blk.none
  | [], ks, hp, b, _ => by cases ks <;> rfl
  | x :: ids, [], hp, b, _ => rfl
  | x :: ids, k :: ks, hp, b, h => by
    simp only [hputAll]
    rw [hputAll_other ids ks _ b (by simp at h; exact h.2), hput_other _ _ _ _ (by simp at h; exact h.1)]

theorem hputAll_get : ∀ (ids : List Nat) (ks : List Blk) (hp : List Blk) (j b : Nat) (k : Blk), ids.Nodup → ids[j]? = some b → ks[j]? = some k → (hputAll hp ids ks).getD b Blk.none = k
  | [], ks, hp, j, b, k, _, h, _ => by simp at h
  | x :: ids, [], hp, j, b, k, _, _, h => by simp at h
  | x :: ids, q :: ks, hp, 0, b, k, hn, h, hk => by
    simp at h hk
    subst h; subst hk
    simp only [hputAll]
    rw [hputAll_other ids ks _ x (List.nodup_cons.1 hn).1, hput_same]
  | x :: ids, q :: ks, hp, j + 1, b, k, hn, h, hk => by
    simp only [hputAll]
    exact hputAll_get ids ks _ j b k (List.nodup_cons.1 hn).2 (by simpa using h) (by simpa using hk)

/-- The ghost state behind the call: of the blocks of ids as the callee left them, of the others as it was. -/
def Gh.back (G G1 : Gh) (ids : List Nat) : Gh where
  F := G1.F
  ι := fun b => match fidx ids b with | some j => G1.ι j | none => G.ι b
  γ := fun b => match fidx ids b with | some j => G1.γ j | none => G.γ b
  κ := fun b => match fidx ids b with | some j => G1.κ j | none => G.κ b
  et := fun b => match fidx ids b with | some j => G1.et j | none => G.et b
  len := fun b => match fidx ids b with | some j => G1.len j | none => G.len b

theorem Ren.toBack (G G1 : Gh) {ids : List Nat} (hn : ids.Nodup) : Ren (fun j => ids[j]?) G1 (G.back G1 ids) :=
  ⟨fun _ h => h, fun j b h => by have := fidx_of hn h; simp [Gh.back, this]⟩

theorem HRel.toSub {G : Gh} {hp : List Blk} {w : World} (h : HRel T G hp w) {ids : List Nat} (hn : ids.Nodup) {sub : List Blk} (hs : rnBs (fidx ids) (ids.map fun b => hp.getD b Blk.none) = some sub) : HRel T (G.sub ids) sub w := by
  obtain ⟨hl, hg⟩ := rnBs_get _ hs
  have at_ : ∀ (j : Nat), (∃ b k, ids[j]? = some b ∧ sub.getD j Blk.none = k ∧ rnB (fidx ids) (hp.getD b Blk.none) = some k) ∨ (ids[j]? = none ∧ sub.getD j Blk.none = Blk.none) := by
    intro j
    cases hj : sub[j]? with
    | none =>
      refine .inr ⟨?_, by simp [List.getD, hj]⟩
      rw [List.getElem?_eq_none_iff] at hj ⊢
      simp at hl; omega
    | some k =>
      obtain ⟨p, h1, h2⟩ := hg j k hj
      rw [List.getElem?_map] at h1
      cases hb : ids[j]? with
      | none => simp [hb] at h1
      | some b =>
        simp [hb] at h1
        refine .inl ⟨b, k, rfl, by simp [List.getD, hj], ?_⟩
        rw [← h1] at h2
        simpa using h2
  refine ⟨fun j => ?_, fun j j' n a a' e e' => ?_, fun j n a e hf => ?_, fun n hf => h.lt n hf⟩
  · rcases at_ j with ⟨b, k, h1, h2, h3⟩ | ⟨h1, h2⟩
    · rw [h2]
      exact BRel.ren (Ren.toSub G ids) (fidx_of hn h1) h3 (h.blk b)
    · rw [h2]
      exact .none (by simp [Gh.sub, h1]) (by simp [Gh.sub, h1])
  · rcases at_ j with ⟨b, k, h1, h2, h3⟩ | ⟨h1, h2⟩
    · rcases at_ j' with ⟨b', k', h1', h2', h3'⟩ | ⟨h1', h2'⟩
      · rw [h2, rnB_alive h3] at a
        rw [h2', rnB_alive h3'] at a'
        simp [Gh.sub, h1] at e
        simp [Gh.sub, h1'] at e'
        have := h.inj b b' n a a' e e'
        subst this
        exact nodup_get hn h1 h1'
      · rw [h2'] at a'; cases a'
    · rw [h2] at a; cases a
  · rcases at_ j with ⟨b, k, h1, h2, h3⟩ | ⟨h1, h2⟩
    · rw [h2, rnB_alive h3] at a
      simp [Gh.sub, h1] at e
      exact h.sep b n a e hf
    · rw [h2] at a; cases a

theorem Owns.ofSub {G : Gh} {hp : List Blk} {ids : List Nat} {sub : List Blk} (hs : rnBs (fidx ids) (ids.map fun b => hp.getD b Blk.none) = some sub) {n : Nat} (h : Owns (G.sub ids) sub n) :
    ∃ b, b ∈ ids ∧ (hp.getD b Blk.none).alive = true ∧ G.ι b = some n := by
  obtain ⟨hl, hg⟩ := rnBs_get _ hs
  obtain ⟨j, a, e⟩ := h
  cases hj : sub[j]? with
  | none => simp [List.getD, hj, Blk.alive] at a
  | some k =>
    obtain ⟨p, h1, h2⟩ := hg j k hj
    rw [List.getElem?_map] at h1
    cases hb : ids[j]? with
    | none => simp [hb] at h1
    | some b =>
      simp [hb] at h1
      have a' : k.alive = true := by simpa [List.getD, hj] using a
      rw [rnB_alive h2, ← h1] at a'
      refine ⟨b, List.mem_of_getElem? hb, by simpa using a', ?_⟩
      simpa [Gh.sub, hb] using e

theorem call_frame {G G1 : Gh} {hp sub sub' : List Blk} {w w' : World} (h : HRel T G hp w) {ids ids' : List Nat} (hn : ids'.Nodup) (hpre : ∃ fresh, ids' = ids ++ fresh ∧ ∀ b ∈ fresh, hp.getD b Blk.none = Blk.none)
    (hs : rnBs (fidx ids) (ids.map fun b => hp.getD b Blk.none) = some sub) (h1 : HRel T G1 sub' w') (ev : Evo (G.sub ids) sub w G1 sub' w') {blks : List Blk} (hb : rnBs (fun j => ids'[j]?) sub' = some blks) (hlen : sub'.length = ids'.length) :
    HRel T (G.back G1 ids') (hputAll hp ids' blks) w' ∧ Evo G hp w (G.back G1 ids') (hputAll hp ids' blks) w' := by
  obtain ⟨fresh, rfl, hfresh⟩ := hpre
  obtain ⟨hl, hg⟩ := rnBs_get _ hb
  have hn0 : ids.Nodup := (List.nodup_append.1 hn).1
  have ren := Ren.toBack G G1 hn
  have hsub := h.toSub hn0 hs
  have fz : ∀ n, G.F n → w'.heap[n]? = w.heap[n]? := ev.frozen hsub
  -- a block of ids' ++ fresh
  have inn : ∀ b, b ∈ ids ++ fresh → ∃ j k q, (ids ++ fresh)[j]? = some b ∧ fidx (ids ++ fresh) b = some j ∧ (hputAll hp (ids ++ fresh) blks).getD b Blk.none = k ∧ sub'.getD j Blk.none = q ∧ rnB (fun j => (ids ++ fresh)[j]?) q = some k := by
    intro b hbm
    obtain ⟨j, hj⟩ := fidx_some hbm
    have hj' := fidx_get hj
    have hjl : j < blks.length := by rw [hl, hlen]; exact (List.getElem?_eq_some_iff.1 hj').1
    obtain ⟨q, hq, hr⟩ := hg j _ (List.getElem?_eq_getElem hjl)
    exact ⟨j, _, q, hj', hj, hputAll_get _ _ _ j b _ hn hj' (List.getElem?_eq_getElem hjl), by simp [List.getD, hq], hr⟩
  have out : ∀ b, b ∉ ids ++ fresh → fidx (ids ++ fresh) b = none := by
    intro b hbm
    cases hf : fidx (ids ++ fresh) b with
    | none => rfl
    | some j => exact absurd (List.mem_of_getElem? (fidx_get hf)) hbm
  have own_in : ∀ {b n}, b ∈ ids ++ fresh → ((hputAll hp (ids ++ fresh) blks).getD b Blk.none).alive = true → (G.back G1 (ids ++ fresh)).ι b = some n → Owns G1 sub' n := by
    intro b n hbm a e
    obtain ⟨j, k, q, q1, q2, q3, q4, q5⟩ := inn b hbm
    rw [q3, rnB_alive q5] at a
    refine ⟨j, by rw [q4]; exact a, ?_⟩
    simpa [Gh.back, q2] using e
  have notOwn : ∀ {b n}, b ∉ ids ++ fresh → (hp.getD b Blk.none).alive = true → G.ι b = some n → ¬ Owns (G.sub ids) sub n := by
    intro b n hbm a e ho
    obtain ⟨b', hb', a', e'⟩ := Owns.ofSub hs ho
    have := h.inj b b' n a a' e e'
    subst this
    exact hbm (List.mem_append_left _ hb')
  have hext : GExt G (G.back G1 (ids ++ fresh)) := by
    have cs : ∀ b, (∃ j, ids[j]? = some b ∧ fidx (ids ++ fresh) b = some j) ∨ (fidx (ids ++ fresh) b ≠ none ∧ G.ι b = none ∧ G.γ b = 0) ∨ fidx (ids ++ fresh) b = none := by
      intro b
      by_cases hbm : b ∈ ids ++ fresh
      · rcases List.mem_append.1 hbm with hi | hf
        · obtain ⟨j, hj⟩ := fidx_some hi
          have hj' := fidx_get hj
          refine .inl ⟨j, hj', fidx_of hn ?_⟩
          rw [List.getElem?_append_left (List.getElem?_eq_some_iff.1 hj').1]; exact hj'
        · obtain ⟨u1, u2⟩ := h.unborn (hfresh b hf)
          obtain ⟨j, hj⟩ := fidx_some hbm
          exact .inr (.inl ⟨by rw [hj]; simp, u1, u2⟩)
      · exact .inr (.inr (out b hbm))
    refine ⟨ev.ext.F, fun b => ?_, fun b h0 hi => ?_, fun b hg' hi => ?_⟩
    · rcases cs b with ⟨j, c1, c2⟩ | ⟨c1, c2, c3⟩ | c1
      · have := ev.ext.le j; simp [Gh.sub, c1] at this; simpa [Gh.back, c2] using this
      · rw [c3]; exact Nat.zero_le _
      · simp [Gh.back, c1]
    · rcases cs b with ⟨j, c1, c2⟩ | ⟨c1, c2, c3⟩ | c1
      · have := ev.ext.zero j (by simpa [Gh.sub, c1] using h0) (by simpa [Gh.sub, c1] using hi); simpa [Gh.back, c2] using this
      · exact absurd c2 hi
      · simpa [Gh.back, c1] using h0
    · rcases cs b with ⟨j, c1, c2⟩ | ⟨c1, c2, c3⟩ | c1
      · have := ev.ext.same j (by simpa [Gh.sub, c1, Gh.back, c2] using hg') (by simpa [Gh.sub, c1] using hi)
        simpa [Gh.sub, c1, Gh.back, c2] using this
      · rcases hi with hi | hi
        · exact absurd c2 hi
        · omega
      · simp [Gh.back, c1]
  refine ⟨⟨fun b => ?_, fun b b' n a a' e e' => ?_, fun b n a e hf => ?_, fun n hf => h1.lt n hf⟩, ⟨ev.os, ev.tape, ev.output, ev.size, fun n hlt hno => ?_, fun n hf => ?_, fun n ho => ?_, hext⟩⟩
  · by_cases hbm : b ∈ ids ++ fresh
    · obtain ⟨j, k, q, q1, q2, q3, q4, q5⟩ := inn b hbm
      rw [q3]
      have := h1.blk j
      rw [q4] at this
      exact BRel.ren ren q1 q5 this
    · rw [hputAll_other _ _ _ _ hbm]
      have ob := out b hbm
      refine BRel.mono hext fz (by simp [Gh.back, ob]) (fun hi _ => by simpa [Gh.back, ob] using hi) (fun n hn' => ?_) (h.blk b)
      by_cases a : (hp.getD b Blk.none).alive = true
      · exact ev.keep n (h.lt_of a hn') (notOwn hbm a hn')
      · have := h.blk b
        generalize hq : hp.getD b Blk.none = q at *
        cases this with
        | none h1 _ => rw [hn'] at h1; cases h1
        | var => exact absurd rfl a
        | bufNil => exact absurd rfl a
        | buf => exact absurd rfl a
        | frzNil g e _ _ h1 => rw [hn'] at h1; cases h1
        | frz g e xs m cs ty fr _ _ h1 _ _ hFm => rw [hn'] at h1; cases h1; exact fz _ hFm
        | map => exact absurd rfl a
  · by_cases hbm : b ∈ ids ++ fresh <;> by_cases hbm' : b' ∈ ids ++ fresh
    · obtain ⟨j, k, q, q1, q2, q3, q4, q5⟩ := inn b hbm
      obtain ⟨j', k', q', q1', q2', q3', q4', q5'⟩ := inn b' hbm'
      rw [q3, rnB_alive q5] at a
      rw [q3', rnB_alive q5'] at a'
      simp [Gh.back, q2] at e
      simp [Gh.back, q2'] at e'
      have := h1.inj j j' n (by rw [q4]; exact a) (by rw [q4']; exact a') e e'
      subst this
      rw [q1] at q1'; exact Option.some.inj q1'
    · exfalso
      rw [hputAll_other _ _ _ _ hbm'] at a'
      have e'' : G.ι b' = some n := by simpa [Gh.back, out b' hbm'] using e'
      rcases ev.own n (own_in hbm a e) with l | l
      · have := h.lt_of a' e''; omega
      · exact notOwn hbm' a' e'' l
    · exfalso
      rw [hputAll_other _ _ _ _ hbm] at a
      have e'' : G.ι b = some n := by simpa [Gh.back, out b hbm] using e
      rcases ev.own n (own_in hbm' a' e') with l | l
      · have := h.lt_of a e''; omega
      · exact notOwn hbm a e'' l
    · rw [hputAll_other _ _ _ _ hbm] at a
      rw [hputAll_other _ _ _ _ hbm'] at a'
      exact h.inj b b' n a a' (by simpa [Gh.back, out b hbm] using e) (by simpa [Gh.back, out b' hbm'] using e')
  · by_cases hbm : b ∈ ids ++ fresh
    · obtain ⟨j, k, q, q1, q2, q3, q4, q5⟩ := inn b hbm
      rw [q3, rnB_alive q5] at a
      simp [Gh.back, q2] at e
      exact h1.sep j n (by rw [q4]; exact a) e hf
    · rw [hputAll_other _ _ _ _ hbm] at a
      have e'' : G.ι b = some n := by simpa [Gh.back, out b hbm] using e
      rcases ev.fnew n hf with f | l | o
      · exact h.sep b n a e'' f
      · have := h.lt_of a e''; omega
      · exact notOwn hbm a e'' o
  · refine ev.keep n hlt fun ho => hno ?_
    obtain ⟨b, _, a, e⟩ := Owns.ofSub hs ho
    exact ⟨b, a, e⟩
  · rcases ev.fnew n hf with f | l | o
    · exact .inl f
    · exact .inr (.inl l)
    · obtain ⟨b, _, a, e⟩ := Owns.ofSub hs o
      exact .inr (.inr ⟨b, a, e⟩)
  · obtain ⟨b, a, e⟩ := ho
    by_cases hbm : b ∈ ids ++ fresh
    · rcases ev.own n (own_in hbm a e) with l | l
      · exact .inl l
      · obtain ⟨b', _, a', e'⟩ := Owns.ofSub hs l
        exact .inr ⟨b', a', e'⟩
    · rw [hputAll_other _ _ _ _ hbm] at a
      exact .inr ⟨b, a, by simpa [Gh.back, out b hbm] using e⟩

end Go.Abs
/- Equality of structs by their type. -/
namespace Go.Abs
open Go.RowKit

variable {T : TT}

def eqB (x y : PV) : Option Bool := match boolP x, boolP y with
  | some p, some q => some (p == q)
  | _, _ => none
def eqI : PV → PV → Option Bool
  | .d (.i k a), .d (.i k' b) => if k = k' then some (a == b) else none
  | _, _ => none
def eqS : PV → PV → Option Bool
  | .d (.s a), .d (.s b) => some (a.toList == b.toList)
  | _, _ => none

def eqFs (f : TypeId → List PV → List PV → Option Bool) (T : TT) : List (Nat × TypeId) → List PV → List PV → Option Bool
  | [], _, _ => some true
  | (o, ft) :: r, xs, ys => match T ft with
    | some j => bif Nat.ble (o + j.leaves.length) xs.length && Nat.ble (o + j.leaves.length) ys.length then
        match f ft ((xs.drop o).take j.leaves.length) ((ys.drop o).take j.leaves.length), eqFs f T r xs ys with
        | some a, some b => some (a && b)
        | _, _ => none
      else none
    | none => none

def eqT (T : TT) (E : TypeId → Bool) : Nat → TypeId → List PV → List PV → Option Bool
  | 0, _, _, _ => none
  | n + 1, t, xs, ys => match T t with
    | some i => match i.desc with
      | .struct fs => bif E t then eqFs (eqT T E n) T fs xs ys else none
      | .bool => match xs, ys with | [x], [y] => eqB x y | _, _ => none
      | .int _ => match xs, ys with | [x], [y] => eqI x y | _, _ => none
      | .str => match xs, ys with | [x], [y] => eqS x y | _, _ => none
      | _ => none
    | none => none

/-- What holds of the structs that may be compared. -/
def EqOK (P : Program) (E : TypeId → Bool) : Prop := ∀ t, E t = true → P.stoodInHeld t = false ∧ ∀ fields, P.underlying t = some (.struct fields) → ∀ f ∈ fields, f.name ≠ "_"

theorem eqT_sound {P : Program} {G : Gh} {w : World} (hT : TOK P T) {E : TypeId → Bool} (hE : EqOK P E) : ∀ (n : Nat) (t : TypeId) (i : TI) (xs ys : List PV) (b : Bool) (d : Nat) (vx vy : Value), T t = some i → eqT T E n t xs ys = some b → n ≤ d →
    PRel T G w (mkP i.desc.agg xs) vx → PRel T G w (mkP i.desc.agg ys) vy → (Op.equalIn d t vx vy).run P w = .ok b w
  | 0, t, i, xs, ys, b, d, vx, vy, hi, h, hd, hx, hy => by cases h
  | n + 1, t, i, xs, ys, b, 0, vx, vy, hi, h, hd, hx, hy => by omega
  | n + 1, t, i, xs, ys, b, d + 1, vx, vy, hi, h, hd, hx, hy => by
    have h1 := hT t i hi
    obtain ⟨dd, hdd, ho⟩ := h1.desc
    unfold eqT at h
    rw [hi] at h
    simp only at h
    split at h
    · rename_i fs hds
      rw [hds] at ho hx hy
      cases dd <;> simp [descOK] at ho
      rename_i fields
      cases he : E t with
      | false => rw [he] at h; cases h
      | true =>
        rw [he] at h
        simp only [cond_true] at h
        obtain ⟨e1, e2⟩ := hE t he
        have e2 := e2 fields hdd
        have hx : PRel T G w (.st xs) vx := hx
        have hy : PRel T G w (.st ys) vy := hy
        cases hx with
        | st _ vs hl hr h1x =>
        cases hy with
        | st _ us hl' hr' h1y =>
        have hfo : P.fieldsOf t = fields := by simp [Program.fieldsOf, hdd]
        rw [run_equalIn_struct w d t vs us (by rw [hfo]; exact hdd) e1, hfo]
        subst ho
        have hname : ∀ f ∈ fields.toList, f.name ≠ "_" := fun f hf => e2 f (by simpa using hf)
        clear hdd hfo
        generalize fields.toList = l at h hname
        induction l generalizing b with
        | nil => simp only [List.map_nil, eqFs, Option.some.injEq] at h; subst h; simp [Op.eqFields]
        | cons f l ih =>
          simp only [List.map_cons, eqFs] at h
          split at h
          case h_2 => cases h
          rename_i j hj
          cases hb : (Nat.ble (f.offset + j.leaves.length) xs.length && Nat.ble (f.offset + j.leaves.length) ys.length) with
          | false => rw [hb] at h; cases h
          | true =>
            rw [hb] at h
            simp only [cond_true] at h
            simp only [Bool.and_eq_true] at hb
            have b1 := Nat.le_of_ble_eq_true hb.1
            have b2 := Nat.le_of_ble_eq_true hb.2
            split at h
            case h_2 => cases h
            rename_i p q hp hq
            cases h
            have hj1 := hT f.type j hj
            have px : PRel T G w (mkP j.desc.agg ((xs.drop f.offset).take j.leaves.length)) (if j.desc.agg = true then .agg (vs.extract f.offset (f.offset + j.leaves.length)) else vs.getD f.offset undef) :=
              mkP_rel hj1 (cs := vs) (by simp; omega) (by omega) (fun q p v hp hv => by
                rw [List.getElem?_take] at hp
                split at hp
                · rw [List.getElem?_drop] at hp; exact hr _ p v hp hv
                · cases hp) (fun v hv => by
                obtain ⟨r, hr2, rfl⟩ := Array.mem_iff_getElem.1 hv
                rw [Array.getElem_extract]
                exact h1x _ (Array.getElem_mem _))
            have py : PRel T G w (mkP j.desc.agg ((ys.drop f.offset).take j.leaves.length)) (if j.desc.agg = true then .agg (us.extract f.offset (f.offset + j.leaves.length)) else us.getD f.offset undef) :=
              mkP_rel hj1 (cs := us) (by simp; omega) (by omega) (fun q p v hp hv => by
                rw [List.getElem?_take] at hp
                split at hp
                · rw [List.getElem?_drop] at hp; exact hr' _ p v hp hv
                · cases hp) (fun v hv => by
                obtain ⟨r, hr2, rfl⟩ := Array.mem_iff_getElem.1 hv
                rw [Array.getElem_extract]
                exact h1y _ (Array.getElem_mem _))
            have run := eqT_sound hT hE n f.type j _ _ p d _ _ hj hp (by omega) px py
            simp only [Op.eqFields, if_pos (hname f (by simp)), Sem.run_bind, run_part hj1 w (cs := vs) (o := f.offset) (by omega), run_part hj1 w (cs := us) (o := f.offset) (by omega), Result.andThen_ok, run]
            cases p with
            | false => simp
            | true =>
              simp only [Bool.not_true, Bool.false_eq_true, if_false, Bool.true_and]
              exact ih q hq (fun g hg => hname g (by simp [hg]))
    · rename_i hds
      rw [hds] at ho hx hy
      cases dd <;> simp [descOK] at ho
      split at h
      case h_2 => cases h
      rename_i x y
      simp only [eqB] at h
      split at h
      case h_2 => cases h
      rename_i p q hp hq
      cases h
      have hx : PRel T G w x vx := hx
      have hy : PRel T G w y vy := hy
      rw [boolP_rel hx hp, boolP_rel hy hq]
      exact run_equalIn_bool' w d t p q hdd
    · rename_i k hds
      rw [hds] at ho hx hy
      cases dd <;> simp [descOK] at ho
      subst ho
      split at h
      case h_2 => cases h
      rename_i x y
      have hx : PRel T G w x vx := hx
      have hy : PRel T G w y vy := hy
      unfold eqI at h
      split at h
      case h_2 => cases h
      split at h
      case isFalse => cases h
      rename_i hk
      subst hk
      cases h
      rw [hx.int, hy.int]
      exact run_equalIn_int w d t _ _ _ _ hdd
    · rename_i hds
      rw [hds] at ho hx hy
      cases dd <;> simp [descOK] at ho
      split at h
      case h_2 => cases h
      rename_i x y
      have hx : PRel T G w x vx := hx
      have hy : PRel T G w y vy := hy
      unfold eqS at h
      split at h
      case h_2 => cases h
      cases h
      rw [hx.str, hy.str]
      exact run_equalIn_string w d t _ _ hdd
    · cases h

end Go.Abs
/- Maps of plain keys and values of one cell. -/
namespace Go.Abs
open Go.RowKit

variable {T : TT}

/-! ## Keys -/
def leafEq : D → D → Bool
  | .b x, .b y => x == y
  | .i k n, .i k' n' => decide (k = k') && decide (n = n')
  | .s x, .s y => x.toList == y.toList
  | _, _ => false
def leavesEq : List D → List D → Bool
  | [], [] => true
  | x :: xs, y :: ys => leafEq x y && leavesEq xs ys
  | _, _ => false
def keyEq (x y : D) : Bool := (x.isG == y.isG) && leavesEq x.leaves y.leaves

def mapHas : List (D × D) → D → Bool
  | [], _ => false
  | (k', _) :: r, k => keyEq k k' || mapHas r k
def mapGet (z : D) : List (D × D) → D → D
  | [], _ => z
  | (k', v) :: r, k => bif keyEq k k' then v else mapGet z r k
def mapSet : List (D × D) → D → D → List (D × D)
  | [], k, v => [(k, v)]
  | (k', v') :: r, k, v => bif keyEq k k' then (k, v) :: r else (k', v') :: mapSet r k v
def mapPos : List (D × D) → D → Nat
  | [], _ => 0
  | (k', _) :: r, k => bif keyEq k k' then 0 else mapPos r k + 1
def mapTouch (z : D) (es : List (D × D)) (k : D) : List (D × D) := bif mapHas es k then es else es ++ [(k, z)]
def mapPut : List (D × D) → Nat → D → List (D × D)
  | [], _, _ => []
  | (k, _) :: r, 0, v => (k, v) :: r
  | x :: r, n + 1, v => x :: mapPut r n v

theorem toList_inj {a b : ByteArray} (h : a.toList = b.toList) : a = b := by
  have h2 : a.data.toList = b.data.toList := by rwa [ByteArray.toList_eq, ByteArray.toList_eq] at h
  cases a; cases b
  simp only [ByteArray.mk.injEq]
  exact Array.ext' h2

theorem leafEq_eq : ∀ {x y : D}, leafEq x y = true → x = y := by
  intro x y h
  cases x <;> cases y <;> simp only [leafEq, Bool.and_eq_true, decide_eq_true_eq, beq_iff_eq] at h <;> first
    | (exact absurd h (by decide))
    | (obtain ⟨h1, h2⟩ := h; subst h1; subst h2; rfl)
    | (have e := toList_inj h; subst e; rfl)
    | (subst h; rfl)

theorem leavesEq_eq : ∀ {xs ys : List D}, leavesEq xs ys = true → xs = ys
  | [], [], _ => rfl
  | x :: xs, y :: ys, h => by
    simp only [leavesEq, Bool.and_eq_true] at h
    rw [leafEq_eq h.1, leavesEq_eq h.2]
  | [], _ :: _, h => by simp [leavesEq] at h
  | _ :: _, [], h => by simp [leavesEq] at h

theorem keyEq_eq {x y : D} (h : keyEq x y = true) : x = y := by
  simp only [keyEq, Bool.and_eq_true, beq_iff_eq] at h
  obtain ⟨h1, h2⟩ := h
  have h2 := leavesEq_eq h2
  cases x <;> cases y <;> simp_all [D.isG, D.leaves]

/-- A datum of plain leaves. -/
def leafPl : D → Bool
  | .b _ => true | .i _ _ => true | .s _ => true | _ => false
def keyPl (x : D) : Bool := x.leaves.all leafPl

theorem leafEq_self {x : D} (h : leafPl x = true) : leafEq x x = true := by
  cases x <;> simp_all [leafPl, leafEq]
theorem leavesEq_self : ∀ {xs : List D}, xs.all leafPl = true → leavesEq xs xs = true
  | [], _ => rfl
  | x :: xs, h => by
    simp only [List.all_cons, Bool.and_eq_true] at h
    simp only [leavesEq, leafEq_self h.1, leavesEq_self h.2, Bool.and_self]
theorem keyEq_self {x : D} (h : keyPl x = true) : keyEq x x = true := by
  simp only [keyEq, beq_self_eq_true, leavesEq_self h, Bool.and_self]
theorem keyEq_iff {x y : D} (h : keyPl x = true) : keyEq x y = true ↔ x = y := ⟨keyEq_eq, fun e => e ▸ keyEq_self h⟩
theorem keyEq_int (k : IntKind) (a b : Int) : keyEq (.i k a) (.i k b) = decide (a = b) := by
  simp [keyEq, D.isG, D.leaves, leavesEq, leafEq]

theorem mapHas_set : ∀ (es : List (D × D)) {k k' : D} (v : D), mapHas (mapSet es k v) k' = (keyEq k' k || mapHas es k')
  | [], k, k', v => by simp [mapSet, mapHas]
  | (q, u) :: r, k, k', v => by
    simp only [mapSet]
    cases h : keyEq k q with
    | true =>
      have := keyEq_eq h; subst this
      simp only [cond_true, mapHas, Bool.or_self_left]
    | false =>
      simp only [cond_false, mapHas, mapHas_set r v]
      cases keyEq k' q <;> cases keyEq k' k <;> simp
theorem mapGet_set (z : D) : ∀ (es : List (D × D)) {k k' : D} (v : D), mapGet z (mapSet es k v) k' = bif keyEq k' k then v else mapGet z es k'
  | [], k, k', v => by simp only [mapSet, mapGet]
  | (q, u) :: r, k, k', v => by
    simp only [mapSet]
    cases h : keyEq k q with
    | true =>
      have := keyEq_eq h; subst this
      simp only [cond_true, mapGet]
      cases keyEq k' k <;> rfl
    | false =>
      simp only [cond_false, mapGet, mapGet_set z r v]
      cases h2 : keyEq k' q with
      | true =>
        have e := keyEq_eq h2; subst e
        cases h3 : keyEq k' k with
        | true =>
          have e := keyEq_eq h3; subst e
          rw [h2] at h; cases h
        | false => rfl
      | false => rfl

theorem mapPos_lt : ∀ {es : List (D × D)} {k : D}, mapHas es k = true → mapPos es k < es.length
  | [], k, h => by simp [mapHas] at h
  | (q, u) :: r, k, h => by
    simp only [mapHas, Bool.or_eq_true] at h
    simp only [mapPos]
    cases h2 : keyEq k q with
    | true => simp
    | false =>
      simp only [cond_false, List.length_cons]
      have := mapPos_lt (es := r) (h.resolve_left (by rw [h2]; simp))
      omega
theorem mapPos_none : ∀ {es : List (D × D)} {k : D}, mapHas es k = false → mapPos es k = es.length
  | [], k, h => rfl
  | (q, u) :: r, k, h => by
    simp only [mapHas, Bool.or_eq_false_iff] at h
    simp only [mapPos, h.1, cond_false, List.length_cons, mapPos_none h.2]
theorem mapPos_touch (z : D) (es : List (D × D)) (k : D) : mapPos es k < (mapTouch z es k).length := by
  unfold mapTouch
  cases h : mapHas es k with
  | true => exact mapPos_lt h
  | false => simp [mapPos_none h]
theorem mapPut_set : ∀ {es : List (D × D)} {k : D} (v : D), mapHas es k = true → mapPut es (mapPos es k) v = mapSet es k v
  | [], k, v, h => by simp [mapHas] at h
  | (q, u) :: r, k, v, h => by
    simp only [mapHas, Bool.or_eq_true] at h
    simp only [mapPos, mapSet]
    cases h2 : keyEq k q with
    | true => rw [keyEq_eq h2]; rfl
    | false =>
      simp only [cond_false, mapPut]
      rw [mapPut_set v (h.resolve_left (by rw [h2]; simp))]
theorem mapPut_app : ∀ (es : List (D × D)) (x : D × D) (v : D), mapPut (es ++ [x]) es.length v = es ++ [(x.1, v)]
  | [], x, v => rfl
  | y :: r, x, v => by simp only [List.cons_append, List.length_cons, mapPut, mapPut_app r x v]
theorem mapSet_none : ∀ {es : List (D × D)} {k : D} (v : D), mapHas es k = false → mapSet es k v = es ++ [(k, v)]
  | [], k, v, h => rfl
  | (q, u) :: r, k, v, h => by
    simp only [mapHas, Bool.or_eq_false_iff] at h
    simp only [mapSet, h.1, cond_false, mapSet_none v h.2, List.cons_append]
theorem mapPut_touch (z : D) (es : List (D × D)) (k v : D) : mapPut (mapTouch z es k) (mapPos es k) v = mapSet es k v := by
  unfold mapTouch
  cases h : mapHas es k with
  | true => exact mapPut_set v h
  | false => rw [cond_false, mapPos_none h, mapPut_app, mapSet_none v h]

def eqOf' (T : TT) (t : TypeId) : Bool := match T t with | some i => i.eq | none => false

/-! ## Values of keys -/
def D.v1 : D → Value
  | .b x => .bool x | .i k n => .int k n | .s x => .string x | _ => undef
def D.val (x : D) : Value := bif x.isG then .agg (x.leaves.map D.v1).toArray else x.v1

def plainLK : LK → Bool
  | .bool => true | .int _ => true | .str => true | _ => false

/-- Which types may be keys: bool, int, string; a struct of such, one cell each. -/
def flatFs (T : TT) : List (Nat × TypeId) → Nat → List LK → Bool
  | [], _, [] => true
  | (o, t) :: r, n, k :: ks => Nat.beq o n && (match T t with
    | some j => (match j.desc, k with
      | .bool, .bool => decide (j.leaves = [.bool])
      | .int a, .int b => decide (a = b) && decide (j.leaves = [.int a])
      | .str, .str => decide (j.leaves = [.str])
      | _, _ => false)
    | none => false) && flatFs T r (n + 1) ks
  | _, _, _ => false
def keyT (T : TT) (t : TypeId) : Bool := match T t with
  | some i => match i.desc with
    | .bool => decide (i.leaves = [.bool])
    | .int k => decide (i.leaves = [.int k])
    | .str => decide (i.leaves = [.str])
    | .struct fs => i.eq && flatFs T fs 0 i.leaves
    | _ => false
  | none => false


theorem Rep.v1 {F : Nat → Prop} {w : World} {x : D} {v : Value} (h : Rep T F w x v) (hp : leafPl x = true) : v = x.v1 := by
  cases h <;> simp_all [leafPl, D.v1]
theorem Rep.ofV1 {F : Nat → Prop} {w : World} {x : D} (hp : leafPl x = true) : Rep T F w x x.v1 := by
  cases x <;> simp [leafPl] at hp
  · exact .b _
  · exact .i _ _
  · exact .s _
theorem leafPl_ok {k : LK} {x : D} (h : k.okD x) (hk : plainLK k = true) : leafPl x = true := by
  cases k <;> simp [plainLK] at hk <;> obtain ⟨y, rfl⟩ := h <;> rfl
theorem v1_one {x : D} (h : leafPl x = true) : x.v1.oneCell' = true := by cases x <;> simp_all [leafPl, D.v1, Value.oneCell']

/-- What a key's type says of its leaves. -/
theorem keyT_plain {t : TypeId} {i : TI} (h : keyT T t = true) (hi : T t = some i) : ∀ k ∈ i.leaves, plainLK k = true := by
  have flat : ∀ (fs : List (Nat × TypeId)) (n : Nat) (ks : List LK), flatFs T fs n ks = true → ∀ k ∈ ks, plainLK k = true := by
    intro fs
    induction fs with
    | nil =>
      intro n ks h k hk
      cases ks with
      | nil => cases hk
      | cons a r => simp [flatFs] at h
    | cons f fs ih =>
      intro n ks h k hk
      cases ks with
      | nil => cases hk
      | cons a r =>
        obtain ⟨o, t⟩ := f
        simp only [flatFs, Bool.and_eq_true] at h
        obtain ⟨⟨_, h2⟩, h3⟩ := h
        rcases List.mem_cons.1 hk with rfl | hk
        · split at h2
          · split at h2 <;> first | rfl | cases h2
          · cases h2
        · exact ih _ _ h3 k hk
  unfold keyT at h
  rw [hi] at h
  simp only at h
  split at h
  · simp only [decide_eq_true_eq] at h; rw [h]; simp [plainLK]
  · simp only [decide_eq_true_eq] at h; rw [h]; simp [plainLK]
  · simp only [decide_eq_true_eq] at h; rw [h]; simp [plainLK]
  · simp only [Bool.and_eq_true] at h; exact flat _ _ _ h.2
  · cases h

theorem HasT.keyPl {t : TypeId} {x : D} (h : HasT T t x) (hk : keyT T t = true) : keyPl x = true := by
  obtain ⟨i, hi, hl, ho, _⟩ := h
  have hp := keyT_plain hk hi
  refine List.all_eq_true.2 fun y hy => ?_
  obtain ⟨j, hj, rfl⟩ := List.mem_iff_getElem.1 hy
  have hj' : j < i.leaves.length := by omega
  exact leafPl_ok (ho j i.leaves[j] x.leaves[j] (List.getElem?_eq_getElem hj') (List.getElem?_eq_getElem hj)) (hp _ (List.getElem_mem _))

theorem Rep.val {F : Nat → Prop} {w : World} {x : D} {v : Value} (h : Rep T F w x v) (hp : keyPl x = true) : v = x.val := by
  cases h with
  | g xs vs hl h hg =>
    show Value.agg vs = .agg (xs.map D.v1).toArray
    congr 1
    have hp : xs.all leafPl = true := hp
    refine Array.ext (by simpa using hl) fun j h1 h2 => ?_
    have h3 : j < xs.length := by simpa using h2
    have := h j xs[j] vs[j] (List.getElem?_eq_getElem h3) (Array.getElem?_eq_getElem h1)
    simp only [List.getElem_toArray, List.getElem_map]
    exact this.v1 (List.all_eq_true.1 hp _ (List.getElem_mem _))
  | b x => rfl
  | i k n => rfl
  | s x => rfl
  | e => simp [Go.Abs.keyPl, D.leaves, leafPl] at hp
  | l => simp [Go.Abs.keyPl, D.leaves, leafPl] at hp

def findR : List (D × D) → List MapEntry → D → Nat → Option (Nat × Value)
  | (k', _) :: r, m :: ms, k, i => bif keyEq k k' then some (i, m.val) else findR r ms k (i + 1)
  | _, _, _, _ => none

theorem findR_spec : ∀ (es : List (D × D)) (ms : List MapEntry) (k : D) (i : Nat), ms.length = es.length →
    findR es ms k i = if mapHas es k = true then (ms[mapPos es k]?).map fun m => (i + mapPos es k, m.val) else none
  | [], ms, k, i, h => by cases ms <;> simp [findR, mapHas]
  | (q, _) :: r, m :: ms, k, i, h => by
    simp only [findR, mapHas, mapPos]
    by_cases h2 : keyEq k q = true
    · simp [h2]
    · have h2 : keyEq k q = false := by simpa using h2
      simp only [h2, cond_false, Bool.false_or]
      rw [findR_spec r ms k (i + 1) (by simpa using h)]
      by_cases h3 : mapHas r k = true
      · rw [if_pos h3, if_pos h3]
        simp only [List.getElem?_cons_succ]
        congr 1
        funext m
        rw [show i + 1 + mapPos r k = i + (mapPos r k + 1) by omega]
      · rw [if_neg h3, if_neg h3]
  | (q, u) :: r, [], k, i, h => by simp at h

/-- Entries and what they hold as keys. -/
def KeysOf (es : List (D × D)) (ms : List MapEntry) : Prop := ms.length = es.length ∧ ∀ (j : Nat) (x : D × D) (m : MapEntry), es[j]? = some x → ms[j]? = some m → m.key = x.1.val

theorem KeysOf.tail {x : D × D} {es : List (D × D)} {m : MapEntry} {ms : List MapEntry} (h : KeysOf (x :: es) (m :: ms)) : m.key = x.1.val ∧ KeysOf es ms :=
  ⟨h.2 0 x m rfl rfl, by have := h.1; simpa using this, fun j y n hy hn => h.2 (j + 1) y n hy hn⟩

theorem v1_bool {p q : Bool} : D.val (.b p) = .bool p := rfl

theorem eqFs_flat {E : TypeId → Bool} (n : Nat) : ∀ (fs : List (Nat × TypeId)) (o : Nat) (ks : List LK) (xs ys : List D), flatFs T fs o ks = true → xs.length = o + ks.length → ys.length = o + ks.length →
    (∀ (j : Nat) (k : LK) (y : D), ks[j]? = some k → xs[o + j]? = some y → k.okD y) → (∀ (j : Nat) (k : LK) (y : D), ks[j]? = some k → ys[o + j]? = some y → k.okD y) →
    eqFs (eqT T E (n + 1)) T fs (xs.map PV.d) (ys.map PV.d) = some (leavesEq (xs.drop o) (ys.drop o))
  | [], o, ks, xs, ys, h, hx, hy, _, _ => by
    cases ks with
    | cons a r => simp [flatFs] at h
    | nil =>
      simp only [List.length_nil, Nat.add_zero] at hx hy
      rw [List.drop_of_length_le (by omega), List.drop_of_length_le (by omega)]
      rfl
  | (o', t) :: fs, o, [], xs, ys, h, _, _, _, _ => by simp [flatFs] at h
  | (o', t) :: fs, o, k :: ks, xs, ys, h, hx, hy, hox, hoy => by
    simp only [flatFs, Bool.and_eq_true] at h
    obtain ⟨⟨h1, h2⟩, h3⟩ := h
    have h1 := Nat.eq_of_beq_eq_true h1
    subst h1
    simp only [List.length_cons] at hx hy
    have bx : o' < xs.length := by omega
    have bY : o' < ys.length := by omega
    have ih := eqFs_flat (E := E) n fs (o' + 1) ks xs ys h3 (by omega) (by omega)
      (fun j k' y hk hy => hox (j + 1) k' y hk (by rw [show o' + (j + 1) = o' + 1 + j by omega]; exact hy))
      (fun j k' y hk hy => hoy (j + 1) k' y hk (by rw [show o' + (j + 1) = o' + 1 + j by omega]; exact hy))
    have ex := hox 0 k xs[o'] rfl (List.getElem?_eq_getElem bx)
    have ey := hoy 0 k ys[o'] rfl (List.getElem?_eq_getElem bY)
    have dx : xs.drop o' = xs[o'] :: xs.drop (o' + 1) := (List.getElem_cons_drop bx).symm
    have dy : ys.drop o' = ys[o'] :: ys.drop (o' + 1) := (List.getElem_cons_drop bY).symm
    split at h2
    case h_2 => cases h2
    rename_i j hj
    have hlen : j.leaves.length = 1 := by
      split at h2
      · simp only [decide_eq_true_eq] at h2; rw [h2]; rfl
      · simp only [Bool.and_eq_true, decide_eq_true_eq] at h2; rw [h2.2]; rfl
      · simp only [decide_eq_true_eq] at h2; rw [h2]; rfl
      · cases h2
    have tx : ((xs.map PV.d).drop o').take j.leaves.length = [.d xs[o']] := by rw [hlen, ← List.map_drop, dx]; rfl
    have ty : ((ys.map PV.d).drop o').take j.leaves.length = [.d ys[o']] := by rw [hlen, ← List.map_drop, dy]; rfl
    have cond : (Nat.ble (o' + j.leaves.length) (xs.map PV.d).length && Nat.ble (o' + j.leaves.length) (ys.map PV.d).length) = true := by
      rw [Bool.and_eq_true]; exact ⟨Nat.ble_eq_true_of_le (by simp; omega), Nat.ble_eq_true_of_le (by simp; omega)⟩
    simp only [eqFs, hj, cond, cond_true, tx, ty, ih]
    rw [dx, dy]
    generalize xs[o'] = x at *
    generalize ys[o'] = y at *
    have key : eqT T E (n + 1) t [.d x] [.d y] = some (leafEq x y) := by
      simp only [eqT, hj]
      split at h2
      · rename_i hd; rw [hd]; obtain ⟨a, rfl⟩ := ex; obtain ⟨b, rfl⟩ := ey; rfl
      · rename_i q q' hd
        simp only [Bool.and_eq_true, decide_eq_true_eq] at h2
        rw [hd]; obtain ⟨a, rfl⟩ := ex; obtain ⟨b, rfl⟩ := ey
        simp only [eqI, if_true, leafEq, decide_true, Bool.true_and]
        congr 1
      · rename_i hd; rw [hd]; obtain ⟨a, rfl⟩ := ex; obtain ⟨b, rfl⟩ := ey; rfl
      · cases h2
    rw [key]
    rfl

theorem run_findKey {P : Program} {w : World} (hT : TOK P T) (hE : EqOK P (eqOf' T)) {t : TypeId} (hk : keyT T t = true) {key : D} (hkey : HasT T t key) {es : List (D × D)} {ms : List MapEntry} (hm : KeysOf es ms) (hes : ∀ x ∈ es, HasT T t x.1) :
    (Instr.findKey t key.val ms).run P w = .ok (findR es ms key 0) w := by
  obtain ⟨i, hi, hl, ho, hg⟩ := hkey
  have h1 := hT t i hi
  obtain ⟨dd, hdd, hd⟩ := h1.desc
  have one : ∀ {x : D}, HasT T t x → ∀ {k : LK}, i.leaves = [k] → i.desc.agg = false → k.okD x := by
    intro x ⟨i', hi', hl', ho', hg'⟩ k hk ha
    rw [hi] at hi'; cases hi'
    have hx : x.leaves = [x] := by
      cases x <;> first | rfl | (rw [ha] at hg'; cases hg')
    exact ho' 0 k x (by rw [hk]; rfl) (by rw [hx]; rfl)
  have scal : ∀ (kd : LK), i.leaves = [kd] → i.desc.agg = false → (∀ x y : D, kd.okD x → kd.okD y → Instr.sameNow dd x.val y.val = some (keyEq x y)) → (Instr.findKey t key.val ms).run P w = .ok (findR es ms key 0) w := by
    intro kd hkd ha hs
    have hkx := one ⟨i, hi, hl, ho, hg⟩ hkd ha
    have : ∀ (es : List (D × D)) (ms : List MapEntry) (n : Nat), KeysOf es ms → (∀ x ∈ es, HasT T t x.1) → Instr.findNow dd key.val ms n = some (findR es ms key n) := by
      intro es
      induction es with
      | nil =>
        intro ms n hm _
        have : ms = [] := List.eq_nil_of_length_eq_zero hm.1
        subst this; rfl
      | cons x es ih =>
        intro ms n hm hes
        cases ms with
        | nil => have := hm.1; simp at this
        | cons m ms =>
          obtain ⟨m1, m2⟩ := hm.tail
          obtain ⟨q, u⟩ := x
          have hq := one (hes (q, u) (by simp)) hkd ha
          simp only [Instr.findNow, m1, hs key q hkx hq, findR]
          cases keyEq key q with
          | true => rfl
          | false => exact ih ms (n + 1) m2 fun x hx => hes x (by simp [hx])
    unfold Instr.findKey
    simp only [Sem.run_bind, run_underlying hdd, Result.andThen_ok, this es ms 0 hm hes, Sem.run_pure]
  unfold keyT at hk
  rw [hi] at hk
  simp only at hk
  split at hk
  · rename_i hds
    simp only [decide_eq_true_eq] at hk
    rw [hds] at hd
    cases dd <;> simp [descOK] at hd
    exact scal _ hk (by rw [hds]; rfl) fun x y ⟨a, hx⟩ ⟨b, hy⟩ => by
      subst hx; subst hy
      simp [Instr.sameNow, D.val, D.isG, D.v1, keyEq, D.leaves, leavesEq, leafEq]
  · rename_i k hds
    simp only [decide_eq_true_eq] at hk
    rw [hds] at hd
    cases dd <;> simp [descOK] at hd
    exact scal _ hk (by rw [hds]; rfl) fun x y ⟨a, hx⟩ ⟨b, hy⟩ => by
      subst hx; subst hy
      show Instr.sameNow _ (.int k a) (.int k b) = _
      simp only [Instr.sameNow, if_true, keyEq_int]
      congr 1
  · rename_i hds
    simp only [decide_eq_true_eq] at hk
    rw [hds] at hd
    cases dd <;> simp [descOK] at hd
    exact scal _ hk (by rw [hds]; rfl) fun x y ⟨a, hx⟩ ⟨b, hy⟩ => by
      subst hx; subst hy
      simp only [Instr.sameNow, D.val, D.isG, D.v1, keyEq, D.leaves, leavesEq, leafEq, cond_false, beq_self_eq_true, Bool.true_and, Bool.and_true]
      congr 1
      rw [show (a == b) = (a.data == b.data) by cases a; cases b; rfl, ByteArray.toList_eq, ByteArray.toList_eq]
      cases a; cases b
      rw [Bool.eq_iff_iff, beq_iff_eq, beq_iff_eq]
      exact ⟨fun h => by rw [h], fun h => Array.ext' h⟩
  · rename_i fs hds
    simp only [Bool.and_eq_true] at hk
    obtain ⟨heq, hfl⟩ := hk
    rw [hds] at hd hg
    cases dd <;> simp [descOK] at hd
    rename_i fields
    have asG : ∀ {x : D}, HasT T t x → ∃ xs, x = .g xs ∧ xs.length = i.leaves.length ∧ (∀ (j : Nat) (k : LK) (y : D), i.leaves[j]? = some k → xs[j]? = some y → k.okD y) := by
      intro x ⟨i', hi', hl', ho', hg'⟩
      rw [hi] at hi'; cases hi'
      rw [hds] at hg'
      cases x <;> simp [D.isG, TK.agg] at hg'
      rename_i xs
      exact ⟨xs, rfl, hl', ho'⟩
    have rel : ∀ {x : D}, HasT T t x → ∀ G : Gh, PRel T G w (mkP i.desc.agg (x.leaves.map PV.d)) x.val := by
      intro x hx G
      have hpl := hx.keyPl (T := T) (by unfold keyT; rw [hi]; simp only [hds, heq, hfl, Bool.and_self])
      obtain ⟨xs, rfl, hxl, hxo⟩ := asG hx
      rw [hds]
      have hpl : xs.all leafPl = true := hpl
      refine .st _ _ (by simp [D.leaves]) (fun j p v hp hv => ?_) (fun v hv => ?_)
      · simp only [D.leaves, List.getElem?_map] at hp hv
        simp only [List.getElem?_toArray, List.getElem?_map] at hv
        cases hx : xs[j]? with
        | none => rw [hx] at hp; cases hp
        | some y =>
          rw [hx] at hp hv
          cases hp; cases hv
          exact .d _ _ (Rep.ofV1 (List.all_eq_true.1 hpl _ (List.mem_of_getElem? hx)))
      · simp only [D.leaves, List.mem_toArray, List.mem_map] at hv
        obtain ⟨y, hy, rfl⟩ := hv
        exact v1_one (List.all_eq_true.1 hpl _ hy)
    have hkx : HasT T t key := ⟨i, hi, hl, ho, by rw [hds]; exact hg⟩
    have eq1 : ∀ {y : D}, HasT T t y → (Op.equal t key.val y.val).run P w = .ok (keyEq key y) w := by
      intro y hy
      obtain ⟨xs, e1, xl, xo⟩ := asG hkx
      obtain ⟨ys, e2, yl, yo⟩ := asG hy
      have he : eqT T (eqOf' T) 20 t (key.leaves.map PV.d) (y.leaves.map PV.d) = some (keyEq key y) := by
        show (match T t with | some i => _ | none => _) = _
        rw [hi]
        simp only [hds, show eqOf' T t = true by unfold eqOf'; rw [hi]; exact heq, cond_true]
        rw [e1, e2]
        have := eqFs_flat (E := eqOf' T) 18 fs 0 i.leaves xs ys hfl (by omega) (by omega) (fun j k y hk hy => xo j k y hk (by simpa using hy)) (fun j k y hk hy => yo j k y hk (by simpa using hy))
        rw [show (D.g xs).leaves = xs from rfl, show (D.g ys).leaves = ys from rfl, this]
        simp [keyEq, D.isG, D.leaves]
      exact eqT_sound (G := ⟨fun _ => False, fun _ => none, fun _ => 0, fun _ => 0, fun _ => 0, fun _ => 0⟩) hT hE 20 t i _ _ _ (9999 + 1) _ _ hi he (by omega) (rel hkx _) (rel hy _)
    have ask : ∀ (es : List (D × D)) (ms : List MapEntry) (n : Nat), KeysOf es ms → (∀ x ∈ es, HasT T t x.1) → (Instr.findAsking t key.val ms n).run P w = .ok (findR es ms key n) w := by
      intro es
      induction es with
      | nil =>
        intro ms n hm _
        have : ms = [] := List.eq_nil_of_length_eq_zero hm.1
        subst this; rfl
      | cons x es ih =>
        intro ms n hm hes
        cases ms with
        | nil => have := hm.1; simp at this
        | cons m ms =>
          obtain ⟨m1, m2⟩ := hm.tail
          obtain ⟨q, u⟩ := x
          simp only [Instr.findAsking, m1, Sem.run_bind, eq1 (hes (q, u) (by simp)), Result.andThen_ok, findR]
          cases keyEq key q with
          | true => rfl
          | false => exact ih ms (n + 1) m2 fun x hx => hes x (by simp [hx])
    unfold Instr.findKey
    simp only [Sem.run_bind, run_underlying hdd, Result.andThen_ok]
    cases ms with
    | nil =>
      have : es = [] := List.eq_nil_of_length_eq_zero hm.1.symm
      subst this
      rfl
    | cons m ms =>
      have : Instr.findNow (.struct fields) key.val (m :: ms) 0 = none := by
        simp [Instr.findNow, Instr.sameNow]
      simp only [this]
      exact ask es (m :: ms) 0 hm hes
  · cases hk

end Go.Abs
