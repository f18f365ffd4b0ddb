/- The abstract machine of this session, part 2: walks that the kernel reckons. -/
import Derived.Test.YtbncjlapmomlkaaA1
set_option linter.unusedSimpArgs false
set_option linter.unusedVariables false
/- The operations on maps. -/
namespace Go.Abs
open Go.RowKit

variable {T : TT}

/-- The map that x is, and the key that ix is. -/
def atMapW (T : TT) (t : TypeId) (x ix : PV) (hp : List Blk) (K : Nat → TypeId → TypeId → LK → List (D × D) → D → List Blk → Prop) : Prop :=
  match T t with
  | some i => match i.desc, x with
    | .map k v, .mp b => match T k, T v with
      | some ik, some iv => match iv.leaves with
        | [lv] => bif keyT T k && lv.isData && !iv.desc.agg then
            valDW ik ix hp fun key hp' => match hp'.getD b .none with
              | .map k' v' es => bif Nat.beq k k' && Nat.beq v v' then K b k v lv es key hp' else False
              | _ => False
            else False
        | _ => False
      | _, _ => False
    | _, _ => False
  | none => False

def lookupW (T : TT) (t : TypeId) (x ix : PV) (ok : Bool) (hp : List Blk) (K : PV → List Blk → Prop) : Prop :=
  atMapW T t x ix hp fun _ _ _ lv es key hp' => bif ok then K (.tup [.d (lv.norm (mapGet lv.zeroD es key)), .d (.b (mapHas es key))]) hp' else K (.d (lv.norm (mapGet lv.zeroD es key))) hp'

def mapSetW (T : TT) (t : TypeId) (x ix val : PV) (hp : List Blk) (K : List Blk → Prop) : Prop :=
  atMapW T t x ix hp fun b k v lv es key hp' => match leafD lv val with
    | some y => K (hput hp' b (.map k v (mapSet es key y)))
    | none => False

def mapEntryW (T : TT) (t : TypeId) (x ix : PV) (hp : List Blk) (K : PV → List Blk → Prop) : Prop :=
  atMapW T t x ix hp fun b k v lv es key hp' => K (.tup [.d (lv.norm (mapGet lv.zeroD es key)), .d (.i .i64 (mapPos es key : Nat))]) (hput hp' b (.map k v (mapTouch lv.zeroD es key)))

def entryStoreW (T : TT) (x stamp val : PV) (hp : List Blk) (K : List Blk → Prop) : Prop :=
  match x, stamp with
  | .mp b, .d (.i _ n) => match hp.getD b .none with
    | .map k v es => match T v with
      | some iv => match iv.leaves with
        | [lv] => match leafD lv val with
          | some y => bif iv.desc.agg then False else (0 ≤ n ∧ n < es.length) ∧ K (hput hp b (.map k v (mapPut es n.toNat y)))
          | none => False
        | _ => False
      | none => False
    | _ => False
  | _, _ => False

theorem one_leaf {x : D} (h : x.isG = false) : x.leaves = [x] := by cases x <;> first | rfl | cases h

theorem HasT.scal {v : TypeId} {iv : TI} (hi : T v = some iv) {lv : LK} (hl : iv.leaves = [lv]) (ha : iv.desc.agg = false) {x : D} (h : HasT T v x) : lv.okD x := by
  obtain ⟨i', hi', _, ho, hg⟩ := h
  rw [hi] at hi'; cases hi'
  exact ho 0 lv x (by rw [hl]; rfl) (by rw [one_leaf (by rw [hg, ha])]; rfl)

theorem HasT.ofScal {v : TypeId} {iv : TI} (hi : T v = some iv) {lv : LK} (hl : iv.leaves = [lv]) (ha : iv.desc.agg = false) {x : D} (h : lv.okD x) : HasT T v x := by
  have hg := LK.okD_leaf h
  refine ⟨iv, hi, by rw [one_leaf hg, hl]; rfl, fun j k y hk hy => ?_, by rw [hg, ha]⟩
  rw [one_leaf hg] at hy
  rw [hl] at hk
  cases j with
  | zero => cases hk; cases hy; exact h
  | succ j => cases hk

theorem LK.zeroD_has {v : TypeId} {iv : TI} (hi : T v = some iv) {lv : LK} (hl : iv.leaves = [lv]) (ha : iv.desc.agg = false) (hd : lv.isData = true) : HasT T v lv.zeroD := HasT.ofScal hi hl ha (LK.zeroD_ok hd)

theorem mapGet_mem (z : D) : ∀ (es : List (D × D)) (k : D), (mapHas es k = false ∧ mapGet z es k = z) ∨ (mapHas es k = true ∧ ∃ x, es[mapPos es k]? = some x ∧ x.2 = mapGet z es k ∧ x.1 = k)
  | [], k => .inl ⟨rfl, rfl⟩
  | (q, u) :: r, k => by
    simp only [mapHas, mapGet, mapPos]
    cases h : keyEq k q with
    | true => exact .inr ⟨rfl, (q, u), rfl, rfl, (keyEq_eq h).symm⟩
    | false =>
      rcases mapGet_mem z r k with ⟨h1, h2⟩ | ⟨h1, x, h2, h3, h4⟩
      · exact .inl ⟨by simpa using h1, h2⟩
      · exact .inr ⟨by simp [h1], x, by simpa using h2, h3, h4⟩

/-- What stands behind atMapW. -/
theorem atMapW_sound {P : Program} {G : Gh} {hp : List Blk} {w : World} (hT : TOK P T) (hE : EqOK P (eqOf' T)) (hh : HRel T G hp w) {t : TypeId} {x ix : PV} {vx vi : Value} (hx : PRel T G w x vx) (hi : PRel T G w ix vi) {K : Nat → TypeId → TypeId → LK → List (D × D) → D → List Blk → Prop} (h : atMapW T t x ix hp K) :
    ∃ b k v lv es key hp' G' n ik iv, ∃ ents : Array MapEntry, K b k v lv es key hp' ∧ HRel T G' hp' w ∧ Evo G hp w G' hp' w ∧ x = .mp b ∧ vx = .map (some n) ∧ G'.ι b = some n ∧ G'.γ b = 0 ∧ hp'.getD b .none = .map k v es ∧ w.heap[n]? = some (.map ents es.length) ∧ P.underlying t = some (.map k v) ∧
      T k = some ik ∧ T v = some iv ∧ iv.leaves = [lv] ∧ iv.desc.agg = false ∧ lv.isData = true ∧ keyT T k = true ∧ HasT T k key ∧ vi = key.val ∧ ents.size = es.length ∧ (∀ (j : Nat) (m : MapEntry), ents[j]? = some m → m.born = j) ∧
      (∀ (j : Nat) (x : D × D) (m : MapEntry), es[j]? = some x → ents[j]? = some m → Rep T G'.F w x.1 m.key ∧ Rep T G'.F w x.2 m.val ∧ HasT T k x.1 ∧ HasT T v x.2) ∧
      (Instr.findKey k vi ents.toList).run P w = .ok (findR es ents.toList key 0) w := by
  unfold atMapW at h
  split at h
  case h_2 => exact h.elim
  rename_i i ht
  obtain ⟨d, hd, ho⟩ := (hT t i ht).desc
  split at h
  case h_2 => exact h.elim
  rename_i k v b hds
  rw [hds] at ho
  cases d <;> simp [descOK] at ho
  obtain ⟨rfl, rfl⟩ := ho
  split at h
  case h_2 => exact h.elim
  rename_i ik iv hk hv
  split at h
  case h_2 => exact h.elim
  rename_i lv hlv
  cases hb : (keyT T k && lv.isData && !iv.desc.agg) with
  | false => rw [hb] at h; exact h.elim
  | true =>
    rw [hb] at h
    simp only [cond_true] at h
    simp only [Bool.and_eq_true, Bool.not_eq_true'] at hb
    obtain ⟨⟨hkt, hdt⟩, hag⟩ := hb
    obtain ⟨key, ys, hp', G', h1, _, _, hkey, hrep, _, _, _, _, _, hh', ev, _⟩ := valDW_sound (hT k ik hk) hk hh hi h
    split at h1
    case h_2 => exact h1.elim
    rename_i k' v' es hes
    cases hb2 : (Nat.beq k k' && Nat.beq v v') with
    | false => rw [hb2] at h1; exact h1.elim
    | true =>
      rw [hb2] at h1
      simp only [cond_true] at h1
      simp only [Bool.and_eq_true] at hb2
      have e1 := Nat.eq_of_beq_eq_true hb2.1
      have e2 := Nat.eq_of_beq_eq_true hb2.2
      subst e1; subst e2
      have bk := hh'.blk b
      rw [hes] at bk
      have hx' := hx.mono ev.ext (fun n hn => rfl)
      cases bk with
      | map _ _ _ n ents clock hn h0 hheap hl hr =>
        obtain ⟨hl, hc, hborn⟩ := hl
        cases hx' with
        | mp _ m hm _ =>
          rw [hn] at hm; cases hm
          have hpl := hkey.keyPl hkt
          have hval := hrep.val hpl
          refine ⟨b, k, v, lv, es, key, hp', G', n, ik, iv, ents, h1, hh', ev, rfl, rfl, hn, h0, hes, by rw [hheap, hc, hl], hd, hk, hv, hlv, hag, hdt, hkt, hkey, hval, hl, hborn, hr, ?_⟩
          rw [hval]
          refine run_findKey hT hE hkt hkey ⟨by simpa using hl, fun j x m hx hm => ?_⟩ (fun x hx => ?_)
          · have := hr j x m hx (by simpa using hm)
            exact this.1.val (this.2.2.1.keyPl hkt)
          · obtain ⟨j, hj, rfl⟩ := List.mem_iff_getElem.1 hx
            have := hr j es[j] ents[j] (List.getElem?_eq_getElem hj) (Array.getElem?_eq_getElem (by omega))
            exact this.2.2.1

def scalarD : TypeDesc → Bool
  | .bool => true | .int _ => true | .string => true | _ => false

theorem run_checkKey {P : Program} {w : World} (hT : TOK P T) {t : TypeId} (hk : keyT T t = true) {key : D} (hkey : HasT T t key) (e : Bool) : (Instr.checkKey e 10000 t key.val).run P w = .ok () w := by
  have scalar : ∀ (n : Nat) (t : TypeId) (d : TypeDesc) (v : Value), P.underlying t = some d → scalarD d = true → (Instr.checkKey e (n + 1) t v).run P w = .ok () w := by
    intro n t d v hd h
    cases d <;> simp [scalarD] at h <;> simp [Instr.checkKey, run_underlying hd]
  obtain ⟨i, hi, hl, ho, hg⟩ := hkey
  have h1 := hT t i hi
  obtain ⟨dd, hdd, hd⟩ := h1.desc
  have hpl := HasT.keyPl (T := T) ⟨i, hi, hl, ho, hg⟩ hk
  unfold keyT at hk
  rw [hi] at hk
  simp only at hk
  split at hk
  · rename_i hds; rw [hds] at hd; cases dd <;> simp [descOK] at hd; exact scalar 9999 t _ _ hdd rfl
  · rename_i hds; rw [hds] at hd; cases dd <;> simp [descOK] at hd; exact scalar 9999 t _ _ hdd rfl
  · rename_i hds; rw [hds] at hd; cases dd <;> simp [descOK] at hd; exact scalar 9999 t _ _ hdd rfl
  · rename_i fs hds
    simp only [Bool.and_eq_true] at hk
    obtain ⟨_, hfl⟩ := hk
    rw [hds] at hd hg
    cases dd <;> simp [descOK] at hd
    rename_i fields
    cases key <;> simp [D.isG, TK.agg] at hg
    rename_i xs
    have hl : xs.length = i.leaves.length := hl
    show (Instr.checkKey e (9999 + 1) t (.agg (xs.map D.v1).toArray)).run P w = _
    unfold Instr.checkKey
    simp only [Sem.run_bind, run_underlying hdd, Result.andThen_ok]
    rw [← Array.forIn_toList]
    have hfl : flatFs T (fields.toList.map fun f => (f.offset, f.type)) 0 i.leaves = true := by rw [← hd]; exact hfl
    have hs : (xs.map D.v1).toArray.size = 0 + i.leaves.length := by simp [hl]
    generalize (xs.map D.v1).toArray = cs at hs ⊢
    generalize i.leaves = ks at hfl hs
    clear hdd hd
    generalize fields.toList = l at hfl ⊢
    generalize 0 = o at hfl hs
    induction l generalizing o ks with
    | nil => rfl
    | cons f l ih =>
      cases ks with
      | nil => simp [flatFs] at hfl
      | cons k ks =>
        simp only [List.map_cons, flatFs, Bool.and_eq_true] at hfl
        obtain ⟨⟨h1, h2⟩, h3⟩ := hfl
        have h1 := Nat.eq_of_beq_eq_true h1
        simp only [List.length_cons] at hs
        have rest := ih ks (o + 1) h3 (by omega)
        split at h2
        case h_2 => cases h2
        rename_i j hj
        have hj1 := hT _ j hj
        obtain ⟨dj, hdj, hoj⟩ := hj1.desc
        have hlj : j.leaves.length = 1 := by
          split at h2
          · simp only [decide_eq_true_eq] at h2; rw [h2]; rfl
          · simp only [Bool.and_eq_true, decide_eq_true_eq] at h2; rw [h2.2]; rfl
          · simp only [decide_eq_true_eq] at h2; rw [h2]; rfl
          · cases h2
        have hsc : scalarD dj = true := by
          split at h2
          · rename_i hds; rw [hds] at hoj; cases dj <;> simp [descOK] at hoj <;> rfl
          · rename_i hds; rw [hds] at hoj; cases dj <;> simp [descOK] at hoj <;> rfl
          · rename_i hds; rw [hds] at hoj; cases dj <;> simp [descOK] at hoj <;> rfl
          · cases h2
        rw [List.forIn_cons]
        by_cases hn : f.name = "_"
        · simp only [hn, ne_eq, not_true_eq_false, if_false, Sem.run_bind, Sem.run_pure, Result.andThen_ok]
          exact rest
        · simp only [ne_eq, hn, not_false_eq_true, if_true, Sem.run_bind, run_part hj1 w (cs := cs) (o := f.offset) (by omega), Result.andThen_ok, scalar 9998 f.type dj _ hdj hsc, Sem.run_pure]
          exact rest
  · cases hk

theorem run_getMap {P : Program} {w : World} {r : Nat} {es : Array MapEntry} {clock : Nat} (hb : w.heap[r]? = some (.map es clock)) : (getObj r).run P w = .ok (.map es clock) w := by
  simp [getObj, Sem.run, hb]
theorem run_setMap {P : Program} {w : World} {r : Nat} {es : Array MapEntry} {clock : Nat} (o : Obj) (hb : w.heap[r]? = some (.map es clock)) : (setObj r o).run P w = .ok () { w with heap := w.heap.setIfInBounds r o } := by
  simp [setObj, Sem.run, hb]

theorem norm_rel {G : Gh} {w : World} {lv : LK} {x : D} {v : Value} (h : lv.okD x) (hr : Rep T G.F w x v) : PRel T G w (.d (lv.norm x)) v := by
  rw [LK.norm_of h]; exact .d _ _ hr

theorem lookupW_sound {P : Program} {G : Gh} {hp : List Blk} {w : World} (hT : TOK P T) (hE : EqOK P (eqOf' T)) (hh : HRel T G hp w) {t : TypeId} {x ix : PV} {ok : Bool} {vx vi : Value} (hx : PRel T G w x vx) (hi : PRel T G w ix vi) {K : PV → List Blk → Prop} (h : lookupW T t x ix ok hp K) :
    ∃ p hp' u G', K p hp' ∧ (Instr.lookup t vx vi ok).run P w = .ok u w ∧ PRel T G' w p u ∧ HRel T G' hp' w ∧ Evo G hp w G' hp' w := by
  obtain ⟨b, k, v, lv, es, key, hp', G', n, ik, iv, ents, h1, hh', ev, rfl, rfl, hn, h0, hes, hheap, hd, hk, hv, hlv, hag, hdt, hkt, hkey, rfl, hl, hborn, hr, hfind⟩ := atMapW_sound hT hE hh hx hi h
  have hkey' := run_checkKey hT hkt hkey (w := w) ents.isEmpty
  have hz : (zeroValue v).run P w = .ok lv.zeroV w := by rw [run_zero (hT v iv hv) w, zeroV, hag, hlv]; rfl
  have res : ∃ u, PRel T G' w (.d (lv.norm (mapGet lv.zeroD es key))) u ∧ (Instr.lookup t (.map (some n)) key.val ok).run P w = .ok (if ok then .tuple #[u, .bool (mapHas es key)] else u) w := by
    have fs := findR_spec es ents.toList key 0 (by rw [Array.length_toList]; exact hl)
    rcases mapGet_mem lv.zeroD es key with ⟨m1, m2⟩ | ⟨m1, y, m2, m3, m4⟩
    · rw [m1, if_neg (by simp)] at fs
      refine ⟨lv.zeroV, ?_, ?_⟩
      · rw [m2]; exact norm_rel (LK.zeroD_ok hdt) (LK.zeroD_rep hdt)
      · unfold Instr.lookup
        simp only [Sem.run_bind, run_underlying hd, Result.andThen_ok, run_getMap hheap, Sem.run_pure, hkey', hfind, fs, hz, m1]
    · have hlt := mapPos_lt m1
      have hm : ents[mapPos es key]? = some ents[mapPos es key] := Array.getElem?_eq_getElem (by omega)
      obtain ⟨_, r2, _, r4⟩ := hr (mapPos es key) y _ m2 hm
      rw [m1, if_pos rfl, show ents.toList[mapPos es key]? = some ents[mapPos es key] by simp] at fs
      refine ⟨ents[mapPos es key].val, ?_, ?_⟩
      · rw [← m3]; exact norm_rel (HasT.scal hv hlv hag r4) r2
      · unfold Instr.lookup
        simp only [Sem.run_bind, run_underlying hd, Result.andThen_ok, run_getMap hheap, Sem.run_pure, hkey', hfind, fs, Option.map_some, m1]
  obtain ⟨u, u1, u2⟩ := res
  cases ok with
  | false => exact ⟨_, _, _, G', h1, u2, u1, hh', ev⟩
  | true =>
    refine ⟨_, _, _, G', h1, u2, .tup _ _ rfl (fun j p v hp hv => ?_), hh', ev⟩
    match j, hp, hv with
    | 0, hp, hv => cases hp; cases hv; exact u1
    | 1, hp, hv => cases hp; cases hv; exact .d _ _ (.b _)
    | j + 2, hp, hv => simp at hp


/-! ## Entries turn -/
theorem mapPut_length : ∀ (es : List (D × D)) (n : Nat) (v : D), (mapPut es n v).length = es.length
  | [], _, _ => rfl
  | _ :: _, 0, _ => rfl
  | x :: r, n + 1, v => by simp only [mapPut, List.length_cons, mapPut_length r n v]
theorem mapPut_get : ∀ (es : List (D × D)) (n : Nat) (v : D) (j : Nat), (mapPut es n v)[j]? = if j = n then (es[j]?).map fun x => (x.1, v) else es[j]?
  | [], n, v, j => by simp [mapPut]
  | (k, u) :: r, 0, v, j => by cases j <;> simp [mapPut]
  | x :: r, n + 1, v, j => by
    cases j with
    | zero => simp [mapPut]
    | succ j => simp only [mapPut, List.getElem?_cons_succ, mapPut_get r n v j, Nat.add_right_cancel_iff]

/-- The map's block holds other entries. -/
theorem HRel.setMap {P : Program} {G : Gh} {hp : List Blk} {w : World} (hh : HRel T G hp w) {b n : Nat} {k v : TypeId} {es : List (D × D)} {ents : Array MapEntry} (hb : hp.getD b .none = .map k v es) (hn : G.ι b = some n) (h0 : G.γ b = 0) (hheap : w.heap[n]? = some (.map ents es.length))
    {es' : List (D × D)} {ents' : Array MapEntry} (hl : ents'.size = es'.length) (hborn : ∀ (j : Nat) (m : MapEntry), ents'[j]? = some m → m.born = j)
    (hr : ∀ (j : Nat) (x : D × D) (m : MapEntry), es'[j]? = some x → ents'[j]? = some m → Rep T G.F w x.1 m.key ∧ Rep T G.F w x.2 m.val ∧ HasT T k x.1 ∧ HasT T v x.2) :
    (setObj n (.map ents' es'.length)).run P w = .ok () { w with heap := w.heap.setIfInBounds n (.map ents' es'.length) } ∧ HRel T G (hput hp b (.map k v es')) { w with heap := w.heap.setIfInBounds n (.map ents' es'.length) } ∧
      Evo G hp w G (hput hp b (.map k v es')) { w with heap := w.heap.setIfInBounds n (.map ents' es'.length) } := by
  have hlt : n < w.heap.size := (Array.getElem?_eq_some_iff.1 hheap).1
  have hal : (hp.getD b Blk.none).alive = true := by rw [hb]; rfl
  have oth : ∀ m, m ≠ n → ({ w with heap := w.heap.setIfInBounds n (.map ents' es'.length) } : World).heap[m]? = w.heap[m]? := fun m hm => by simp [Array.getElem?_setIfInBounds, Ne.symm hm]
  have fz : ∀ m, G.F m → ({ w with heap := w.heap.setIfInBounds n (.map ents' es'.length) } : World).heap[m]? = w.heap[m]? := fun m hm => oth m fun e => hh.sep b n hal hn (e ▸ hm)
  refine ⟨run_setMap _ hheap, hh.step b (.map k v es') (GExt.refl G) (fun _ _ => ⟨rfl, rfl⟩) rfl rfl rfl (by simp) (fun m _ hm => oth m fun e => hm hal (by rw [e]; exact hn)) ?_ (fun m hm => .inl hm) (fun _ m hm => ⟨.inr ⟨hal, hm⟩, hh.sep b m hal hm⟩)⟩
  refine .map k v es' n ents' es'.length hn h0 (by simp [hlt]) ⟨hl, hl.symm, hborn⟩ fun j x m hx hm => ?_
  obtain ⟨a, c, d, e⟩ := hr j x m hx hm
  exact ⟨a.mono (fun _ h => h) fz, c.mono (fun _ h => h) fz, d, e⟩

theorem bytes_beq (s : ByteArray) : (s == s) = true := by
  rw [show (s == s) = (s.data == s.data) by cases s; rfl]; simp

theorem sameBits_plain {x : D} (h : keyPl x = true) : Instr.sameBits 10000 x.val x.val = true := by
  have leaf : ∀ (n : Nat) {x : D}, leafPl x = true → Instr.sameBits n x.v1 x.v1 = true := by
    intro n x h
    cases x <;> simp [leafPl] at h <;> cases n <;> simp [D.v1, Instr.sameBits]
    all_goals exact bytes_beq _
  unfold D.val
  cases hg : x.isG with
  | false =>
    have := one_leaf hg
    simp only [keyPl, this, List.all_cons, List.all_nil, Bool.and_true] at h
    exact leaf _ h
  | true =>
    simp only [cond_true]
    show Instr.sameBits (9999 + 1) _ _ = true
    simp only [Instr.sameBits, beq_self_eq_true, Bool.true_and, List.all_eq_true]
    intro p hp
    obtain ⟨j, hj, rfl⟩ := List.mem_iff_getElem.1 hp
    simp only [List.getElem_zip]
    have : (x.leaves.map D.v1).toArray.toList = x.leaves.map D.v1 := rfl
    simp only [List.getElem_map]
    exact leaf _ (List.all_eq_true.1 h _ (List.getElem_mem _))

theorem mapSetW_sound {P : Program} {G : Gh} {hp : List Blk} {w : World} (hT : TOK P T) (hE : EqOK P (eqOf' T)) (hh : HRel T G hp w) {t : TypeId} {x ix val : PV} {vx vi vv : Value} (hx : PRel T G w x vx) (hi : PRel T G w ix vi) (hv' : PRel T G w val vv) {K : List Blk → Prop} (h : mapSetW T t x ix val hp K) :
    ∃ hp' w' G', K hp' ∧ (Instr.mapUpdate t vx vi vv).run P w = .ok () w' ∧ HRel T G' hp' w' ∧ Evo G hp w G' hp' w' := by
  obtain ⟨b, k, v, lv, es, key, hp', G', n, ik, iv, ents, h1, hh', ev, rfl, rfl, hn, h0, hes, hheap, hd, hk, hv, hlv, hag, hdt, hkt, hkey, rfl, hl, hborn, hr, hfind⟩ := atMapW_sound hT hE hh hx hi h
  split at h1
  case h_2 => exact h1.elim
  rename_i y hy
  have hyo := leafD_ok hy
  have hyr : Rep T G'.F w y vv := leafD_rel hy (hv'.mono ev.ext (fun _ _ => rfl))
  have hyt : HasT T v y := HasT.ofScal hv hlv hag hyo
  have hpl := hkey.keyPl hkt
  have hkr : Rep T G'.F w key key.val := by
    cases hg : key.isG with
    | false =>
      have := one_leaf hg
      simp only [Go.Abs.keyPl, this, List.all_cons, List.all_nil, Bool.and_true] at hpl
      unfold D.val; rw [hg]; exact Rep.ofV1 hpl
    | true =>
      cases key <;> simp [D.isG] at hg
      rename_i xs
      have hpl : xs.all leafPl = true := hpl
      refine .g xs _ (by simp [D.leaves]) (fun j q u hq hu => ?_) (fun q hq => ?_)
      · simp only [D.leaves, List.getElem?_toArray, List.getElem?_map, hq, Option.map_some, Option.some.injEq] at hu
        subst hu
        exact Rep.ofV1 (List.all_eq_true.1 hpl _ (List.mem_of_getElem? hq))
      · have := List.all_eq_true.1 hpl q hq
        cases q <;> simp_all [leafPl, D.isG]
  have hkey' := run_checkKey hT hkt hkey (w := w) false
  have fs := findR_spec es ents.toList key 0 (by rw [Array.length_toList]; exact hl)
  cases hm : mapHas es key with
  | false =>
    rw [hm, if_neg (by simp)] at fs
    have e1 := mapSet_none (es := es) y hm
    have e2 : es.length + 1 = (mapSet es key y).length := by rw [e1]; simp
    have st := hh'.setMap (P := P) (es' := mapSet es key y) (ents' := ents.push { key := key.val, val := vv, born := es.length }) hes hn h0 hheap (by rw [e1]; simp [hl]) (fun j m hj => by
        rw [Array.getElem?_push] at hj
        split at hj
        · rename_i e; cases hj; simp only; omega
        · exact hborn j m hj) (fun j q m hq hm' => by
        rw [e1] at hq
        rw [Array.getElem?_push] at hm'
        split at hm'
        · rename_i e
          cases hm'
          rw [List.getElem?_append_right (by omega), show j - es.length = 0 by omega] at hq
          cases hq
          exact ⟨hkr, hyr, hkey, hyt⟩
        · rename_i e
          have : j < ents.size := (Array.getElem?_eq_some_iff.1 hm').1
          rw [List.getElem?_append_left (by omega)] at hq
          exact hr j q m hq hm')
    refine ⟨_, _, G', h1, ?_, st.2.1, ev.trans st.2.2⟩
    unfold Instr.mapUpdate
    simp only [Sem.run_bind, run_underlying hd, Result.andThen_ok, run_getMap hheap, hkey', hfind, fs]
    rw [e2]; exact st.1
  | true =>
    have hlt := mapPos_lt hm
    have hme : ents[mapPos es key]? = some ents[mapPos es key] := Array.getElem?_eq_getElem (by omega)
    rw [hm, if_pos rfl, show ents.toList[mapPos es key]? = some ents[mapPos es key] by simp] at fs
    have e1 : mapSet es key y = mapPut es (mapPos es key) y := (mapPut_set y hm).symm
    have hesm : es[mapPos es key]? = some es[mapPos es key] := List.getElem?_eq_getElem hlt
    have hk1 : (es[mapPos es key]).1 = key := by
      rcases mapGet_mem lv.zeroD es key with ⟨m1, _⟩ | ⟨_, q, m2, _, m4⟩
      · rw [hm] at m1; cases m1
      · rw [hesm] at m2; cases m2; exact m4
    have hkv : ents[mapPos es key].key = key.val := by
      have := (hr _ _ _ hesm hme).1
      rw [hk1] at this
      exact this.val hpl
    have st := hh'.setMap (P := P) (es' := mapSet es key y) (ents' := ents.modify (mapPos es key) fun e => { e with key := key.val, val := vv }) hes hn h0 hheap (by rw [e1, mapPut_length]; simp [hl]) (fun j m hj => by
        rw [Array.getElem?_modify] at hj
        split at hj
        · cases hq : ents[j]? with
          | none => rw [hq] at hj; cases hj
          | some m' => rw [hq] at hj; cases hj; exact hborn j m' hq
        · exact hborn j m hj) (fun j q m hq hm' => by
        rw [e1, mapPut_get] at hq
        rw [Array.getElem?_modify] at hm'
        by_cases e : j = mapPos es key
        · subst e
          rw [if_pos rfl, hesm] at hq
          rw [if_pos rfl, hme] at hm'
          cases hq; cases hm'
          exact ⟨by rw [hk1]; exact hkr, hyr, by rw [hk1]; exact hkey, hyt⟩
        · rw [if_neg e] at hq
          rw [if_neg (Ne.symm e)] at hm'
          exact hr j q m hq hm')
    have e2 : (mapSet es key y).length = es.length := by rw [e1, mapPut_length]
    rw [e2] at st
    refine ⟨_, _, G', h1, ?_, st.2.1, ev.trans st.2.2⟩
    unfold Instr.mapUpdate
    simp only [Sem.run_bind, run_underlying hd, Result.andThen_ok, run_getMap hheap, hkey', hfind, fs, Option.map_some, Nat.zero_add, hme, Option.getD_some, hkv, Instr.keyThatStays, sameBits_plain hpl, if_true, Sem.run_pure]
    exact st.1

theorem mapEntryW_sound {P : Program} {G : Gh} {hp : List Blk} {w : World} (hT : TOK P T) (hE : EqOK P (eqOf' T)) (hh : HRel T G hp w) {t : TypeId} {x ix : PV} {vx vi : Value} (hx : PRel T G w x vx) (hi : PRel T G w ix vi) {K : PV → List Blk → Prop} (h : mapEntryW T t x ix hp K) :
    ∃ p hp' u w' G', K p hp' ∧ (Instr.mapEntry t vx vi).run P w = .ok u w' ∧ PRel T G' w' p u ∧ HRel T G' hp' w' ∧ Evo G hp w G' hp' w' := by
  obtain ⟨b, k, v, lv, es, key, hp', G', n, ik, iv, ents, h1, hh', ev, rfl, rfl, hn, h0, hes, hheap, hd, hk, hv, hlv, hag, hdt, hkt, hkey, rfl, hl, hborn, hr, hfind⟩ := atMapW_sound hT hE hh hx hi h
  have hpl := hkey.keyPl hkt
  have hkr : Rep T G'.F w key key.val := by
    cases hg : key.isG with
    | false =>
      have := one_leaf hg
      simp only [Go.Abs.keyPl, this, List.all_cons, List.all_nil, Bool.and_true] at hpl
      unfold D.val; rw [hg]; exact Rep.ofV1 hpl
    | true =>
      cases key <;> simp [D.isG] at hg
      rename_i xs
      have hpl : xs.all leafPl = true := hpl
      refine .g xs _ (by simp [D.leaves]) (fun j q u hq hu => ?_) (fun q hq => ?_)
      · simp only [D.leaves, List.getElem?_toArray, List.getElem?_map, hq, Option.map_some, Option.some.injEq] at hu
        subst hu
        exact Rep.ofV1 (List.all_eq_true.1 hpl _ (List.mem_of_getElem? hq))
      · have := List.all_eq_true.1 hpl q hq
        cases q <;> simp_all [leafPl, D.isG]
  have hkey' := run_checkKey hT hkt hkey (w := w) false
  have hz : (zeroValue v).run P w = .ok lv.zeroV w := by rw [run_zero (hT v iv hv) w, zeroV, hag, hlv]; rfl
  have fs := findR_spec es ents.toList key 0 (by rw [Array.length_toList]; exact hl)
  cases hm : mapHas es key with
  | false =>
    rw [hm, if_neg (by simp)] at fs
    have e1 : mapTouch lv.zeroD es key = es ++ [(key, lv.zeroD)] := by unfold mapTouch; rw [hm]; rfl
    have e2 : es.length + 1 = (mapTouch lv.zeroD es key).length := by rw [e1]; simp
    have e3 : mapGet lv.zeroD es key = lv.zeroD := by
      rcases mapGet_mem lv.zeroD es key with ⟨_, m2⟩ | ⟨m1, _⟩
      · exact m2
      · rw [hm] at m1; cases m1
    have st := hh'.setMap (P := P) (es' := mapTouch lv.zeroD es key) (ents' := ents.push { key := key.val, val := lv.zeroV, born := es.length }) hes hn h0 hheap (by rw [e1]; simp [hl]) (fun j m hj => by
        rw [Array.getElem?_push] at hj
        split at hj
        · rename_i e; cases hj; simp only; omega
        · exact hborn j m hj) (fun j q m hq hm' => by
        rw [e1] at hq
        rw [Array.getElem?_push] at hm'
        split at hm'
        · rename_i e
          cases hm'
          rw [List.getElem?_append_right (by omega), show j - es.length = 0 by omega] at hq
          cases hq
          exact ⟨hkr, LK.zeroD_rep hdt, hkey, LK.zeroD_has hv hlv hag hdt⟩
        · rename_i e
          have : j < ents.size := (Array.getElem?_eq_some_iff.1 hm').1
          rw [List.getElem?_append_left (by omega)] at hq
          exact hr j q m hq hm')
    refine ⟨_, _, .tuple #[lv.zeroV, goInt es.length], _, G', h1, ?_, .tup _ _ rfl (fun j p u hp hu => ?_), st.2.1, ev.trans st.2.2⟩
    · unfold Instr.mapEntry
      simp only [Sem.run_bind, run_underlying hd, Result.andThen_ok, run_getMap hheap, hkey', hfind, fs, hz]
      rw [e2, st.1]
      simp only [Result.andThen_ok, Sem.run_pure]
    · match j, hp, hu with
      | 0, hp, hu =>
        cases hp; cases hu
        rw [e3]; exact norm_rel (LK.zeroD_ok hdt) (LK.zeroD_rep hdt)
      | 1, hp, hu =>
        cases hp; cases hu
        rw [mapPos_none hm]; exact .d _ _ (.i _ _)
      | j + 2, hp, hu => simp at hp
  | true =>
    have hlt := mapPos_lt hm
    have hme : ents[mapPos es key]? = some ents[mapPos es key] := Array.getElem?_eq_getElem (by omega)
    rw [hm, if_pos rfl, show ents.toList[mapPos es key]? = some ents[mapPos es key] by simp] at fs
    have e1 : mapTouch lv.zeroD es key = es := by unfold mapTouch; rw [hm]; rfl
    have hesm : es[mapPos es key]? = some es[mapPos es key] := List.getElem?_eq_getElem hlt
    obtain ⟨hk1, hv1⟩ : (es[mapPos es key]).1 = key ∧ (es[mapPos es key]).2 = mapGet lv.zeroD es key := by
      rcases mapGet_mem lv.zeroD es key with ⟨m1, _⟩ | ⟨_, q, m2, m3, m4⟩
      · rw [hm] at m1; cases m1
      · rw [hesm] at m2; cases m2; exact ⟨m4, m3⟩
    have hkv : ents[mapPos es key].key = key.val := by
      have := (hr _ _ _ hesm hme).1
      rw [hk1] at this
      exact this.val hpl
    have st := hh'.setMap (P := P) (es' := mapTouch lv.zeroD es key) (ents' := ents.modify (mapPos es key) fun e => { e with key := key.val }) hes hn h0 hheap (by rw [e1]; simp [hl]) (fun j m hj => by
        rw [Array.getElem?_modify] at hj
        split at hj
        · cases hq : ents[j]? with
          | none => rw [hq] at hj; cases hj
          | some m' => rw [hq] at hj; cases hj; exact hborn j m' hq
        · exact hborn j m hj) (fun j q m hq hm' => by
        rw [e1] at hq
        rw [Array.getElem?_modify] at hm'
        by_cases e : j = mapPos es key
        · subst e
          rw [if_pos rfl, hme] at hm'
          cases hm'
          obtain ⟨a, c, d, e⟩ := hr _ q _ hq hme
          refine ⟨?_, c, d, e⟩
          show Rep T G'.F w q.1 key.val
          rw [← hkv]; exact a
        · rw [if_neg (Ne.symm e)] at hm'
          exact hr j q m hq hm')
    refine ⟨_, _, .tuple #[ents[mapPos es key].val, goInt (mapPos es key)], _, G', h1, ?_, .tup _ _ rfl (fun j p u hp hu => ?_), st.2.1, ev.trans st.2.2⟩
    · unfold Instr.mapEntry
      simp only [Sem.run_bind, run_underlying hd, Result.andThen_ok, run_getMap hheap, hkey', hfind, fs, Option.map_some, Nat.zero_add, hme, Option.getD_some, hkv, Instr.keyThatStays, sameBits_plain hpl, if_true, Sem.run_pure]
      have e2 : (mapTouch lv.zeroD es key).length = es.length := by rw [e1]
      rw [e2] at st ⊢
      rw [st.1]
      simp only [Result.andThen_ok, hborn _ _ hme]
    · match j, hp, hu with
      | 0, hp, hu =>
        cases hp; cases hu
        obtain ⟨_, c, _, e⟩ := hr _ _ _ hesm hme
        rw [hv1] at c e
        exact (norm_rel (G := G') (HasT.scal hv hlv hag e) c).mono (GExt.refl _) (fun m hm => by
          have hal : (hp'.getD b Blk.none).alive = true := by rw [hes]; rfl
          have : m ≠ n := fun e => hh'.sep b n hal hn (e ▸ hm)
          simp [Array.getElem?_setIfInBounds, Ne.symm this])
      | 1, hp, hu => cases hp; cases hu; exact .d _ _ (.i _ _)
      | j + 2, hp, hu => simp at hp

theorem entryStoreW_sound {P : Program} {G : Gh} {hp : List Blk} {w : World} (hh : HRel T G hp w) {t : TypeId} {x stamp val : PV} {vx vs vv : Value} (hx : PRel T G w x vx) (hs : PRel T G w stamp vs) (hv' : PRel T G w val vv) {K : List Blk → Prop} (h : entryStoreW T x stamp val hp K) :
    ∃ hp' w', K hp' ∧ (Instr.entryStore t vx vs vv).run P w = .ok () w' ∧ HRel T G hp' w' ∧ Evo G hp w G hp' w' := by
  unfold entryStoreW at h
  split at h
  case h_2 => exact h.elim
  rename_i b kk n
  split at h
  case h_2 => exact h.elim
  rename_i k v es hes
  split at h
  case h_2 => exact h.elim
  rename_i iv hv
  split at h
  case h_2 => exact h.elim
  rename_i lv hlv
  split at h
  case h_2 => exact h.elim
  rename_i y hy
  cases hag : iv.desc.agg with
  | true => rw [hag] at h; exact h.elim
  | false =>
    rw [hag] at h
    obtain ⟨⟨h1, h2⟩, hK⟩ := h
    have bk := hh.blk b
    rw [hes] at bk
    cases bk with
    | map _ _ _ q ents clock hn h0 hheap hl hr =>
      obtain ⟨hl, hc, hborn⟩ := hl
      cases hx with
      | mp _ m hm _ =>
        rw [hn] at hm; cases hm
        have := hs.int; subst this
        have hq : n.toNat < es.length := by omega
        have hlt : n.toNat < ents.size := by omega
        have st := hh.setMap (P := P) (es' := mapPut es n.toNat y) (ents' := ents.modify n.toNat fun e => { e with val := vv }) hes hn h0 (by rw [hheap, hc, hl]) (by rw [mapPut_length]; simp [hl]) (fun j m hj => by
            rw [Array.getElem?_modify] at hj
            split at hj
            · cases hq : ents[j]? with
              | none => rw [hq] at hj; cases hj
              | some m' => rw [hq] at hj; cases hj; exact hborn j m' hq
            · exact hborn j m hj) (fun j q m hq hm' => by
            rw [mapPut_get] at hq
            rw [Array.getElem?_modify] at hm'
            by_cases e : j = n.toNat
            · subst e
              rw [if_pos rfl] at hq hm'
              cases hx1 : es[n.toNat]? with
              | none => rw [hx1] at hq; cases hq
              | some x1 =>
                cases hm1 : ents[n.toNat]? with
                | none => rw [hm1] at hm'; cases hm'
                | some m1 =>
                  rw [hx1] at hq; rw [hm1] at hm'
                  cases hq; cases hm'
                  obtain ⟨a, _, c, _⟩ := hr _ _ _ hx1 hm1
                  exact ⟨a, leafD_rel hy hv', c, HasT.ofScal hv hlv hag (leafD_ok hy)⟩
            · rw [if_neg e] at hq
              rw [if_neg (Ne.symm e)] at hm'
              exact hr j q m hq hm')
        have e2 : (mapPut es n.toNat y).length = clock := by rw [mapPut_length]; omega
        rw [e2] at st
        refine ⟨_, _, hK, ?_, st.2.1, st.2.2⟩
        have hfi : ents.findIdx? (fun e => (e.born : Int) == n) = some n.toNat := by
          rw [Array.findIdx?_eq_some_iff_getElem]
          refine ⟨hlt, ?_, fun j hj => ?_⟩
          · have := hborn _ _ (Array.getElem?_eq_getElem hlt)
            rw [this]; simp; omega
          · have hj' : j < ents.size := by omega
            have := hborn _ _ (Array.getElem?_eq_getElem hj')
            rw [this]; simp; omega
        unfold Instr.entryStore
        simp only [Sem.run_bind, Result.andThen_ok, run_getMap hheap, Sem.run_pure, asInt, asIntOf, hfi, Sem.run_map]
        exact st.1

theorem makeMapW_sound {P : Program} {G : Gh} {hp : List Blk} {w : World} (hh : HRel T G hp w) {fr : Nat} (hfr : hp.getD fr Blk.none = Blk.none) {t : TypeId} (k v : TypeId) :
    ∃ u w' G', (Instr.makeMap t none).run P w = .ok u w' ∧ PRel T G' w' (.mp fr) u ∧ HRel T G' (hput hp fr (.map k v [])) w' ∧ Evo G hp w G' (hput hp fr (.map k v [])) w' := by
  obtain ⟨u1, u2⟩ := hh.unborn hfr
  have hG : GExt G (G.born fr (some w.heap.size) 0 0 0 0) := GExt.born u1 u2 _ _ _ _ _
  have e1 : (G.born fr (some w.heap.size) 0 0 0 0).ι fr = some w.heap.size := by simp [Gh.born]
  have e2 : (G.born fr (some w.heap.size) 0 0 0 0).γ fr = 0 := by simp [Gh.born]
  have st := hh.step (w' := { w with heap := w.heap.push (.map #[] 0) }) fr (.map k v []) hG (fun b hb => by simp [Gh.born, hb]) rfl rfl rfl (by simp) (fun n hn _ => heap_push_old w _ n hn)
    (.map k v [] w.heap.size #[] 0 e1 e2 (heap_push_new w _) ⟨rfl, rfl, by simp⟩ (by simp)) (fun n hn => .inl hn) (fun _ n hn => by
      rw [e1] at hn; cases hn
      exact ⟨.inl (Nat.le_refl _), fun hf => by have := hh.lt _ hf; omega⟩)
  exact ⟨.map (some w.heap.size), _, _, by simp [Instr.makeMap], .mp fr _ e1 e2, st.1, st.2⟩

end Go.Abs
/- More operations: maps, made slices. -/
namespace Go.Abs
open Go.RowKit

variable {T : TT}

def opX (T : TT) (op : Op) (sl : List (Nat × PV)) (hp : List Blk) (fr : Nat) (K : PV → List Blk → Prop) : Prop :=
  match op with
  | .lookup t x i ok => lookupW T t (evP sl x) (evP sl i) ok hp K
  | .mapUpdate t m k x => mapSetW T t (evP sl m) (evP sl k) (evP sl x) hp fun hp' => K (.c undef) hp'
  | .mapEntry t m k => mapEntryW T t (evP sl m) (evP sl k) hp K
  | .entryStore _ m s x => entryStoreW T (evP sl m) (evP sl s) (evP sl x) hp fun hp' => K (.c undef) hp'
  | .makeMap t r => match r, T t with
    | none, some i => match i.desc with
      | .map k v => K (.mp fr) (hput hp fr (.map k v []))
      | _ => False
    | _, _ => False
  | .makeSlice t n c => makeSliceW T t (evP sl n) (evP sl c) hp fr K
  | _ => False

theorem opX_sound {P : Program} {nt : Nat} {G : Gh} {st : St} {a : Act} {w : World} (hT : TOK P T) (hE : EqOK P (eqOf' T)) (hs : SRel T nt G st a w) {o : Oper} {fr : Nat} (hfr : st.hp.getD fr Blk.none = Blk.none) {K : PV → List Blk → Prop} (h : opX T o.op st.sl st.hp fr K) :
    ∃ p hp', K p hp' ∧ Done P T o a G st.hp w p hp' := by
  have hev := fun x => hs.ev x
  have hh := hs.hp
  unfold opX at h
  split at h
  · rename_i t x i ok ho
    obtain ⟨p, hp', u, G', h1, h2, h3, h4, h5⟩ := lookupW_sound hT hE hh (hev x) (hev i) h
    exact ⟨_, _, h1, u, w, G', .inl (by simp only [execOp, ho, Sem.run_bind, h2, Result.andThen_ok, Sem.run_pure]), h3, h4, h5⟩
  · rename_i t m k x ho
    obtain ⟨hp', w', G', h1, h2, h3, h4⟩ := mapSetW_sound hT hE hh (hev m) (hev k) (hev x) h
    exact ⟨_, hp', h1, undef, w', G', .inr ⟨by simp only [execOp, ho, Sem.run_bind, h2, Result.andThen_ok, Sem.run_pure], rfl⟩, PRel.c _, h3, h4⟩
  · rename_i t m k ho
    obtain ⟨p, hp', u, w', G', h1, h2, h3, h4, h5⟩ := mapEntryW_sound hT hE hh (hev m) (hev k) h
    exact ⟨_, _, h1, u, w', G', .inl (by simp only [execOp, ho, Sem.run_bind, h2, Result.andThen_ok, Sem.run_pure]), h3, h4, h5⟩
  · rename_i t m s x ho
    obtain ⟨hp', w', h1, h2, h3, h4⟩ := entryStoreW_sound (P := P) (t := t) hh (hev m) (hev s) (hev x) h
    exact ⟨_, hp', h1, undef, w', G, .inr ⟨by simp only [execOp, ho, Sem.run_bind, h2, Result.andThen_ok, Sem.run_pure], rfl⟩, PRel.c _, h3, h4⟩
  · rename_i t r ho
    split at h
    case h_2 => exact h.elim
    rename_i i hi
    split at h
    case h_2 => exact h.elim
    rename_i k v hds
    obtain ⟨u, w', G', h2, h3, h4, h5⟩ := makeMapW_sound (P := P) (t := t) hh hfr k v
    exact ⟨_, _, h, u, w', G', .inl (by simp only [execOp, ho, Option.map_none, Sem.run_bind, h2, Result.andThen_ok, Sem.run_pure]), h3, h4, h5⟩
  · rename_i t n c ho
    obtain ⟨p, hp', u, w', G', h1, h2, h3, h4, h5⟩ := makeSliceW_sound hT hh hfr (hev n) (hev c) h
    exact ⟨_, _, h1, u, w', G', .inl (by simp only [execOp, ho, Sem.run_bind, h2, Result.andThen_ok, Sem.run_pure]), h3, h4, h5⟩
  · exact h.elim

end Go.Abs
/- One operation. -/
namespace Go.Abs
open Go.RowKit

variable {T : TT}

theorem run_equal_bool {P : Program} {w : World} {t : TypeId} (hd : P.underlying t = some .bool) (p q : Bool) : (Op.equal t (.bool p) (.bool q)).run P w = .ok (p == q) w := by
  show (Op.equalIn (9999 + 1) t _ _).run P w = _
  unfold Op.equalIn
  simp only [Sem.run_bind, run_underlying hd, Result.andThen_ok]
  rfl

def eqOf (T : TT) (t : TypeId) : Bool := match T t with | some i => i.eq | none => false
theorem eqOf_ok {P : Program} (hT : TOK P T) : EqOK P (eqOf T) := fun t h => by
  unfold eqOf at h
  split at h
  · rename_i i hi
    exact (hT t i hi).eqs h |>.2
  · cases h

def binW (T : TT) (op : BinOp) (t : TypeId) (x y : PV) (K : PV → Prop) : Prop :=
  match x, y with
  | .d (.i k a), .d (.i k' b) => bif BinOp.isShift op then shiftW op k a b (fun z => K (.d z)) else if k = k' then intW op k a b (fun z => K (.d z)) else False
  | .d (.s a), .d (.s b) => strW op a b (fun z => K (.d z))
  | .st xs, .st ys => match T t with
    | some i => bif i.desc.agg && i.eq then match eqT T (eqOf T) 20 t xs ys, op with
      | some b, .eql => K (.d (.b b))
      | some b, .neq => K (.d (.b (!b)))
      | _, _ => False
      else False
    | none => False
  | x, y => match boolP x, boolP y with
    | some p, some q => match T t with
      | some i => match i.desc, op with
        | .bool, .eql => K (.d (.b (p == q)))
        | .bool, .neq => K (.d (.b (!(p == q))))
        | _, _ => False
      | none => False
    | _, _ => False

theorem eqGuard_plain {P : Program} {w : World} (op : BinOp) (t : TypeId) (x y : Operand) (a b : Value) (ha : a.oneCell' = true) (hn : a ≠ .nilIface) : (eqGuard op t x y a b).run P w = .ok () w := by
  unfold eqGuard
  cases op <;> first
    | rfl
    | (cases a <;> first
        | rfl
        | (exact absurd rfl hn)
        | (simp [Value.oneCell'] at ha))

theorem binW_sound {P : Program} {G : Gh} {w : World} (hT : TOK P T) {op : BinOp} {t : TypeId} {x y : PV} {vx vy : Value} (hx : PRel T G w x vx) (hy : PRel T G w y vy) {ox oy : Operand} {K : PV → Prop} (h : binW T op t x y K) :
    ∃ p u, K p ∧ PRel T G w p u ∧ (do eqGuard op t ox oy vx vy; binOp op t vx vy : Sem Value).run P w = .ok u w := by
  unfold binW at h
  split at h
  · have e1 := hx.int; subst e1
    have e2 := hy.int; subst e2
    rename_i k a k' b
    have eg := eqGuard_plain (P := P) (w := w) op t ox oy (.int k a) (.int k' b) rfl (by simp)
    cases hs : BinOp.isShift op with
    | true =>
      rw [hs] at h
      simp only [cond_true] at h
      obtain ⟨z, v, h1, h2, h3⟩ := run_shiftW (P := P) (t := t) (k' := k') w h
      exact ⟨_, v, h1, .d _ _ (h2 _ _), by simp only [Sem.run_bind, eg, Result.andThen_ok]; exact h3⟩
    | false =>
      rw [hs] at h
      simp only [cond_false] at h
      split at h
      · rename_i hk
        subst hk
        obtain ⟨z, v, h1, h2, h3⟩ := run_intW (P := P) (t := t) w hs h
        exact ⟨_, v, h1, .d _ _ (h2 _ _), by simp only [Sem.run_bind, eg, Result.andThen_ok]; exact h3⟩
      · exact h.elim
  · have e1 := hx.str; subst e1
    have e2 := hy.str; subst e2
    rename_i a b
    have eg := eqGuard_plain (P := P) (w := w) op t ox oy (.string a) (.string b) rfl (by simp)
    obtain ⟨z, v, h1, h2, h3⟩ := run_strW (P := P) (t := t) w h
    exact ⟨_, v, h1, .d _ _ (h2 _ _), by simp only [Sem.run_bind, eg, Result.andThen_ok]; exact h3⟩
  · rename_i xs ys
    split at h
    case h_2 => exact h.elim
    rename_i i hi
    cases hb : (i.desc.agg && i.eq) with
    | false => rw [hb] at h; exact h.elim
    | true =>
      rw [hb] at h
      simp only [cond_true] at h
      simp only [Bool.and_eq_true] at hb
      obtain ⟨hb1, hb2⟩ := hb
      obtain ⟨g1, _, _⟩ := (hT t i hi).eqs hb2
      have key : ∀ b, eqT T (eqOf T) 20 t xs ys = some b → (Op.equal t vx vy).run P w = .ok b w ∧ ∃ vs us, vx = .agg vs ∧ vy = .agg us := fun b he => by
        refine ⟨eqT_sound hT (eqOf_ok hT) 20 t i xs ys b 10000 vx vy hi he (by omega) (by rw [hb1]; exact hx) (by rw [hb1]; exact hy), ?_⟩
        cases hx with
        | st _ vs _ _ _ => cases hy with
          | st _ us _ _ _ => exact ⟨vs, us, rfl, rfl⟩
      split at h
      · rename_i b he
        obtain ⟨k1, vs, us, rfl, rfl⟩ := key b he
        have eg : (eqGuard .eql t ox oy (.agg vs) (.agg us)).run P w = .ok () w := by simp [eqGuard, g1]
        exact ⟨_, _, h, .d _ _ (.b _), by simp only [Sem.run_bind, eg, Result.andThen_ok, binOp, k1, Sem.run_pure]⟩
      · rename_i b he
        obtain ⟨k1, vs, us, rfl, rfl⟩ := key b he
        have eg : (eqGuard .neq t ox oy (.agg vs) (.agg us)).run P w = .ok () w := by simp [eqGuard, g1]
        exact ⟨_, _, h, .d _ _ (.b _), by simp only [Sem.run_bind, eg, Result.andThen_ok, binOp, k1, Sem.run_pure]⟩
      · exact h.elim
  · split at h
    case h_2 => exact h.elim
    rename_i p q hp hq
    have e1 := boolP_rel hx hp
    have e2 := boolP_rel hy hq
    subst e1; subst e2
    have eg := eqGuard_plain (P := P) (w := w) op t ox oy (.bool p) (.bool q) rfl (by simp)
    split at h
    case h_2 => exact h.elim
    rename_i i hi
    obtain ⟨d, hd, ho⟩ := (hT t _ hi).desc
    split at h
    · rename_i hds
      cases d <;> simp [descOK, hds] at ho
      refine ⟨_, _, h, .d _ _ (.b _), ?_⟩
      simp only [Sem.run_bind, eg, Result.andThen_ok]
      have e : ∀ (f : Bool → Bool), (do pure (.bool (f (← Op.equal t (.bool p) (.bool q)))) : Sem Value).run P w = .ok (.bool (f (p == q))) w := by
        intro f; simp only [Sem.run_bind, run_equal_bool hd, Result.andThen_ok, Sem.run_pure]
      first | exact e id | exact e not
    · rename_i hds
      cases d <;> simp [descOK, hds] at ho
      refine ⟨_, _, h, .d _ _ (.b _), ?_⟩
      simp only [Sem.run_bind, eg, Result.andThen_ok]
      have e : ∀ (f : Bool → Bool), (do pure (.bool (f (← Op.equal t (.bool p) (.bool q)))) : Sem Value).run P w = .ok (.bool (f (p == q))) w := by
        intro f; simp only [Sem.run_bind, run_equal_bool hd, Result.andThen_ok, Sem.run_pure]
      first | exact e id | exact e not
    · exact h.elim

def optP (sl : List (Nat × PV)) : Option Operand → Option PV
  | none => none
  | some x => some (evP sl x)

def partsP (sl : List (Nat × PV)) : List (Nat × Operand) → List (Nat × PV)
  | [] => []
  | (i, x) :: r => (i, evP sl x) :: partsP sl r

def evPs (sl : List (Nat × PV)) : List Operand → List PV
  | [] => []
  | x :: r => evP sl x :: evPs sl r

theorem valP_sound {w : World} {G : Gh} {hp : List Blk} {i : TI} (hh : HRel T G hp w) {p : PV} {v : Value} (hv : PRel T G w p v) (hb : (isSt p == i.desc.agg) = true) {K : List D → List Blk → Prop} (h : toDsW i.leaves (cellsP p) hp K) :
    ∃ ys hp' G', K ys hp' ∧ PRel T G' w (mkP i.desc.agg (ys.map PV.d)) v ∧ HRel T G' hp' w ∧ Evo G hp w G' hp' w ∧ ∀ b, hp.getD b Blk.none = Blk.none → hp'.getD b Blk.none = Blk.none := by
  have hb : isSt p = i.desc.agg := by simpa using hb
  by_cases hs : ∃ xs, p = .st xs
  · obtain ⟨xs, rfl⟩ := hs
    cases hv with
    | st xs vs hl hx h1 =>
      obtain ⟨ys, hp', G', k1, k2, k3, k4, k5, k6, k7, k8⟩ := toDsW_sound i.leaves xs vs.toList hh (by simp [hl]) (fun j q u hq hu => hx j q u hq (by simpa using hu)) h
      refine ⟨ys, hp', G', k1, ?_, k6, k7, k8⟩
      rw [← hb]
      refine .st _ vs (by simpa using k3.symm) (fun j q u hq hu => ?_) h1
      rw [List.getElem?_map] at hq
      cases hy : ys[j]? with
      | none => simp [hy] at hq
      | some y => simp [hy] at hq; subst hq; exact .d _ _ (k4 j y u hy (by simpa using hu))
  · have e : cellsP p = [p] := by cases p <;> first | rfl | exact absurd ⟨_, rfl⟩ hs
    have hag : i.desc.agg = false := by rw [← hb]; cases p <;> first | rfl | exact absurd ⟨_, rfl⟩ hs
    rw [e] at h
    obtain ⟨ys, hp', G', k1, k2, k3, k4, k5, k6, k7, k8⟩ := toDsW_sound i.leaves [p] [v] hh rfl (fun j q u hq hu => by
      cases j with
      | zero => simp at hq hu; subst hq; subst hu; exact hv
      | succ j => simp at hq) h
    match ys, k3 with
    | [y], _ =>
      refine ⟨[y], hp', G', k1, ?_, k6, k7, k8⟩
      rw [hag]
      exact .d _ _ (k4 0 y v rfl rfl)

/-- A store; what goes into an element of a row is data. -/
def stW (T : TT) (t : TypeId) (pa px : PV) (hp : List Blk) (K : List Blk → Prop) : Prop :=
  match pa with
  | .el _ _ _ _ => match T t with
    | some i => bif isSt px == i.desc.agg then toDsW i.leaves (cellsP px) hp fun ys hp' => storeW T t pa (mkP i.desc.agg (ys.map PV.d)) hp' K else False
    | none => False
  | _ => storeW T t pa px hp K

theorem stW_sound {P : Program} {G : Gh} {hp : List Blk} {w : World} {t : TypeId} (hT : TOK P T) (hh : HRel T G hp w) {pa px : PV} {va vx : Value} (ha : PRel T G w pa va) (hx : PRel T G w px vx) {K : List Blk → Prop} (h : stW T t pa px hp K) :
    ∃ hp' w' G', K hp' ∧ (Instr.storeAt t va vx).run P w = .ok () w' ∧ HRel T G' hp' w' ∧ Evo G hp w G' hp' w' := by
  unfold stW at h
  split at h
  · split at h
    case h_2 => exact h.elim
    rename_i i hi
    cases hb : (isSt px == i.desc.agg) with
    | false => rw [hb] at h; exact h.elim
    | true =>
      rw [hb] at h
      simp only [cond_true] at h
      obtain ⟨ys, hp1, G1, k1, k2, k3, k4, _⟩ := valP_sound hh hx hb h
      obtain ⟨hp', w', q1, q2, q3, q4⟩ := storeW_sound hT k3 (ha.mono k4.ext (fun _ _ => rfl)) k2 k1
      exact ⟨hp', w', G1, q1, q2, q3, k4.trans q4⟩
  · obtain ⟨hp', w', q1, q2, q3, q4⟩ := storeW_sound hT hh ha hx h
    exact ⟨hp', w', G, q1, q2, q3, q4⟩


def opW (T : TT) (op : Op) (sl : List (Nat × PV)) (hp : List Blk) (fr : Nat) (K : PV → List Blk → Prop) : Prop :=
  match op with
  | .move x => K (evP sl x) hp
  | .assign x => K (evP sl x) hp
  | .pick c a b => pickW (evP sl c) (evP sl a) (evP sl b) fun p => K p hp
  | .alloc e => match T e with
    | some i => K (.ptr fr 0) (hput hp fr (.var (i.leaves.map LK.zeroP)))
    | none => False
  | .box _ x => bif cellsOK (evP sl x) then nowA hp (cellsP (evP sl x)) (K (.ptr fr 0) (hput hp fr (.var (cellsP (evP sl x))))) else False
  | .build t parts => buildW T t (partsP sl parts.toList) hp fun p => K p hp
  | .buildSlice t n parts => buildSliceW T t n (partsP sl parts.toList) hp fr K
  | .load t a => loadW T t (evP sl a) hp fun p => K p hp
  | .store t a x => stW T t (evP sl a) (evP sl x) hp fun hp' => K (.c undef) hp'
  | .nilCheck x => match evP sl x with
    | .ptr b o => K (.ptr b o) hp
    | .rp e d o => K (.rp e d o) hp
    | .fn f c => K (.fn f c) hp
    | .el b g ix off => nowP hp (.el b g ix off) ∧ K (.el b g ix off) hp
    | _ => False
  | .binOp op t x y _ => binW T op t (evP sl x) (evP sl y) fun p => K p hp
  | .unOp op _ x => unW op (evP sl x) fun p => K p hp
  | .convert s t x => convW T s t (evP sl x) fun p => K p hp
  | .makeFunc fn first caps => match fn, first.toList with
    | .func f, [] => K (.fn f (evPs sl caps.toList)) hp
    | _, _ => False
  | .slice t x lo hi mx => match mx with
    | none => sliceW T t (evP sl x) (optP sl lo) (optP sl hi) hp fun p => K p hp
    | some _ => False
  | .fieldAddr s x f => fieldAtW T s (evP sl x) f hp fun p => K p hp
  | .field s x f => fieldW T s (evP sl x) f fun p => K p hp
  | .indexAddr t x i => indexAtW T t (evP sl x) (evP sl i) hp fun p => K p hp
  | .index t x i => indexW T t (evP sl x) (evP sl i) fun p => K p hp
  | .extract x i => extractW (evP sl x) i fun p => K p hp
  | .call c => match c.callee with
    | .builtin b => match b, c.args.toList, c.argTypes.toList with
      | .len, [x], [t] => lenW T t (evP sl x) hp fun p => K p hp
      | .min, x :: r, _ => foldW mnI (evP sl x) (evPs sl r) fun p => K p hp
      | .max, x :: r, _ => foldW mxI (evP sl x) (evPs sl r) fun p => K p hp
      | .append, [x, y], [t, t2] => appW T t t2 (evP sl x) (evP sl y) hp fr K
      | .copy, [x, y], [t, _] => copyW T t (evP sl x) (evP sl y) hp K
      | _, _, _ => False
    | _ => False
  | op => opX T op sl hp fr K

theorem partsP_rel {G : Gh} {w : World} {sl : List (Nat × PV)} {a : Act} (hev : ∀ x, PRel T G w (evP sl x) (a.eval x)) : ∀ (l : List (Nat × Operand)), (partsP sl l).length = (l.map fun (i, x) => (i, a.eval x)).length ∧
    ∀ (j : Nat) (x : Nat × PV) (y : Nat × Value), (partsP sl l)[j]? = some x → (l.map fun (i, x) => (i, a.eval x))[j]? = some y → x.1 = y.1 ∧ PRel T G w x.2 y.2
  | [] => ⟨rfl, by simp [partsP]⟩
  | (i, x) :: r => by
    obtain ⟨h1, h2⟩ := partsP_rel hev r
    refine ⟨by simp [partsP, h1], fun j p y hp hy => ?_⟩
    cases j with
    | zero => simp [partsP] at hp hy; subst hp; subst hy; exact ⟨rfl, hev x⟩
    | succ j => exact h2 j p y (by simpa [partsP] using hp) (by simpa using hy)

theorem evPs_rel {G : Gh} {w : World} {sl : List (Nat × PV)} {a : Act} (hev : ∀ x, PRel T G w (evP sl x) (a.eval x)) : ∀ (l : List Operand), (evPs sl l).length = (l.map a.eval).length ∧
    ∀ (j : Nat) (x : PV) (y : Value), (evPs sl l)[j]? = some x → (l.map a.eval)[j]? = some y → PRel T G w x y
  | [] => ⟨rfl, by simp [evPs]⟩
  | x :: r => by
    obtain ⟨h1, h2⟩ := evPs_rel hev r
    refine ⟨by simp [evPs, h1], fun j p y hp hy => ?_⟩
    cases j with
    | zero => simp [evPs] at hp hy; subst hp; subst hy; exact hev x
    | succ j => exact h2 j p y (by simpa [evPs] using hp) (by simpa using hy)

theorem opW_sound {P : Program} {nt : Nat} {G : Gh} {st : St} {a : Act} {w : World} (hT : TOK P T) (hs : SRel T nt G st a w) {o : Oper} {fr : Nat} (hfr : st.hp.getD fr Blk.none = Blk.none) {K : PV → List Blk → Prop} (h : opW T o.op st.sl st.hp fr K) :
    ∃ p hp', K p hp' ∧ Done P T o a G st.hp w p hp' := by
  have hev := fun x => hs.ev x
  have hh := hs.hp
  have pure_ : ∀ {p : PV} {u : Value}, K p st.hp → PRel T G w p u → (execOp a.eval o).run P w = .ok (.value u) w → ∃ p hp', K p hp' ∧ Done P T o a G st.hp w p hp' :=
    fun hK hp hr => ⟨_, _, hK, Done.same hr hp hh⟩
  unfold opW at h
  split at h
  · rename_i x ho; exact pure_ h (hev x) (by simp [execOp, ho])
  · rename_i x ho; exact pure_ h (hev x) (by simp [execOp, ho])
  · rename_i c x y ho
    obtain ⟨t, p, h1, h2, h3⟩ := pickW_sound (hev c) (hev x) (hev y) h
    refine pure_ h2 h3 ?_
    simp only [execOp, ho, h1, asBool]
    cases t <;> simp
  · rename_i e ho
    split at h
    case h_2 => exact h.elim
    rename_i i hi
    have h1 := hT e i hi
    obtain ⟨m1, m2, m3⟩ := hh.allocVar hfr (i.leaves.map LK.zeroP) (zeroV i).cells e (by rw [zeroV_cells h1]; simp)
      (fun j x v hx hv => by
        rw [zeroV_cells h1] at hv
        simp only [List.getElem?_toArray, List.getElem?_map] at hx hv
        cases hk : i.leaves[j]? with
        | none => simp [hk] at hx
        | some k =>
          simp [hk] at hx hv
          subst hx; subst hv
          exact LK.zero_rel G w (fun e => h1.noOther (by rw [← e]; exact List.mem_of_getElem? hk)))
      (fun v hv => by
        rw [zeroV_cells h1] at hv
        simp at hv
        obtain ⟨k, hk, rfl⟩ := hv
        exact LK.zero_one (fun e => h1.noOther (by rw [← e]; exact hk)))
    exact ⟨_, _, h, _, _, _, .inl (by simp [execOp, ho, Instr.alloc, run_zero h1, newVar, newRow]), m1, m2, m3⟩
  · rename_i e x ho
    cases hc : cellsOK (evP st.sl x) with
    | false => rw [hc] at h; exact h.elim
    | true =>
      rw [hc] at h
      obtain ⟨hn, hK⟩ := nowA_iff _ _ _ h
      obtain ⟨c1, c2, c3⟩ := (hev x).cells hh hc hn
      obtain ⟨m1, m2, m3⟩ := hh.allocVar hfr (cellsP (evP st.sl x)) (a.eval x).cells e c1 c2 c3
      exact ⟨_, _, hK, _, _, _, .inl (by simp [execOp, ho, Instr.box, newVar, newRow]), m1, m2, m3⟩
  · rename_i t parts ho
    obtain ⟨r1, r2⟩ := partsP_rel hev parts.toList
    obtain ⟨p, u, h1, h2, h3⟩ := buildW_sound (vs := parts.map fun (i, x) => (i, a.eval x)) hT hh (by simpa using r1) (by simpa using r2) h
    exact pure_ h1 h2 (by simp only [execOp, ho, Sem.run_bind, h3, Result.andThen_ok, Sem.run_pure])
  · rename_i t n parts ho
    obtain ⟨r1, r2⟩ := partsP_rel hev parts.toList
    obtain ⟨p, hp', u, w', G', h1, h2, h3, h4, h5⟩ := buildSliceW_sound (vs := parts.map fun (i, x) => (i, a.eval x)) hT hh hfr (by simpa using r1) (by simpa using r2) h
    exact ⟨p, hp', h1, u, w', G', .inl (by simp only [execOp, ho, Sem.run_bind, h2, Result.andThen_ok, Sem.run_pure]), h3, h4, h5⟩
  · rename_i t x ho
    obtain ⟨p, u, h1, h2, h3⟩ := loadW_sound hT hh (hev x) h
    exact pure_ h1 h2 (by simp only [execOp, ho, Sem.run_bind, h3, Result.andThen_ok, Sem.run_pure])
  · rename_i t x y ho
    obtain ⟨hp', w', G', h1, h2, h3, h4⟩ := stW_sound hT hh (hev x) (hev y) h
    exact ⟨_, hp', h1, undef, w', G', .inr ⟨by simp only [execOp, ho, Sem.run_bind, h2, Result.andThen_ok, Sem.run_pure], rfl⟩, PRel.c _, h3, h4⟩
  · rename_i x ho
    split at h
    · rename_i b off hx
      have := hev x
      rw [hx] at this
      generalize hv : a.eval x = v at this
      cases this with
      | ptr b off n e0 e1 => exact pure_ h (.ptr b off n e0 e1) (by simp [execOp, ho, hv])
    · rename_i e d off hx
      have := hev x
      rw [hx] at this
      have hk := this
      generalize hv : a.eval x = v at this hk
      cases this with
      | rp => exact pure_ h hk (by simp [execOp, ho, hv])
    · rename_i f c hx
      have := hev x
      rw [hx] at this
      have hk := this
      generalize hv : a.eval x = v at this hk
      cases this with
      | fn => exact pure_ h hk (by simp [execOp, ho, hv])
    · rename_i b g ix off hx
      obtain ⟨hn, hK⟩ := h
      have := hev x
      rw [hx] at this
      have hk := this
      generalize hv : a.eval x = v at this hk
      cases this with
      | elOld b g ix off v hlt => have := gen_now hh hn; omega
      | el b g ix off n hg h0 hb hi => exact pure_ hK hk (by simp [execOp, ho, hv])
    · exact h.elim
  · rename_i op t x y yt ho
    obtain ⟨p, u, h1, h2, h3⟩ := binW_sound (ox := x) (oy := y) hT (hev x) (hev y) h
    refine pure_ h1 h2 ?_
    simp only [execOp, ho]
    rw [Sem.run_bind, h3]
    rfl
  · rename_i op t x ho
    obtain ⟨p, u, h1, h2, h3⟩ := unW_sound (P := P) (hev x) h
    exact pure_ h1 h2 (by simp only [execOp, ho, Sem.run_bind, h3, Result.andThen_ok, Sem.run_pure])
  · rename_i s t x ho
    obtain ⟨p, u, h1, h2, h3⟩ := convW_sound hT (hev x) h
    exact pure_ h1 h2 (by simp only [execOp, ho, Sem.run_bind, h3, Result.andThen_ok, Sem.run_pure])
  · rename_i fn first caps ho
    split at h
    · rename_i f hfst
      obtain ⟨r1, r2⟩ := evPs_rel hev caps.toList
      have hf0 : first = #[] := by cases first; simp_all
      subst hf0
      refine pure_ h (.fn f _ (caps.map a.eval) (by simpa using r1.symm) (fun j p v hp hv => r2 j p v hp (by simpa using hv))) ?_
      simp [execOp, ho, Instr.makeFunc]
    · exact h.elim
  · rename_i t x lo hi mx ho
    split at h
    case h_2 => exact h.elim
    obtain ⟨p, u, h1, h2, h3⟩ := sliceW_sound (vl := lo.map a.eval) (vh := hi.map a.eval) hT hh (hev x) (by cases lo <;> simp [optP]; exact hev _) (by cases hi <;> simp [optP]; exact hev _) h
    exact pure_ h1 h2 (by simp only [execOp, ho, Option.map_none, Sem.run_bind, h3, Result.andThen_ok, Sem.run_pure])
  · rename_i s x f ho
    obtain ⟨p, u, h1, h2, h3⟩ := fieldAtW_sound hT (.inr hh) (hev x) h
    exact pure_ h1 h2 (by simp only [execOp, ho, Sem.run_bind, h3, Result.andThen_ok, Sem.run_pure])
  · rename_i s x f ho
    obtain ⟨p, u, h1, h2, h3⟩ := fieldW_sound hT (hev x) h
    exact pure_ h1 h2 (by simp only [execOp, ho, Sem.run_bind, h3, Result.andThen_ok, Sem.run_pure])
  · rename_i t x i ho
    obtain ⟨p, u, h1, h2, h3⟩ := indexAtW_sound hT hh (hev x) (hev i) h
    exact pure_ h1 h2 (by simp only [execOp, ho, Sem.run_bind, h3, Result.andThen_ok, Sem.run_pure])
  · rename_i t x i ho
    obtain ⟨p, u, h1, h2, h3⟩ := indexW_sound hT (hev x) (hev i) h
    exact pure_ h1 h2 (by simp only [execOp, ho, Sem.run_bind, h3, Result.andThen_ok, Sem.run_pure])
  · rename_i x i ho
    obtain ⟨p, u, h1, h2, h3⟩ := extractW_sound (P := P) (hev x) h
    exact pure_ h1 h2 (by simp only [execOp, ho, Sem.run_bind, h3, Result.andThen_ok, Sem.run_pure])
  · rename_i c ho
    split at h
    case h_2 => exact h.elim
    rename_i b hc
    split at h
    · rename_i x t hargs hty
      obtain ⟨p, u, h1, h2, h3⟩ := lenW_sound (ty := o.type) hT hh (hev x) h
      have e1 : c.args = #[x] := Array.ext' (by simpa using hargs)
      have e2 : c.argTypes = #[t] := Array.ext' (by simpa using hty)
      exact pure_ h1 h2 (by simp [execOp, ho, resolve, invoke, builtin, hc, e1, e2, h3])
    · rename_i _ x r hargs
      obtain ⟨r1, r2⟩ := evPs_rel hev r
      obtain ⟨p, u, h1, h2, h3⟩ := foldW_sound (P := P) mnI Builtin.min2 (fun k j x y => rfl) (evPs st.sl r) (r.map a.eval) _ _ (hev x) r1 r2 h
      have e1 : c.args = (x :: r).toArray := Array.ext' (by simpa using hargs)
      exact pure_ h1 h2 (by simp [execOp, ho, resolve, invoke, builtin, hc, e1, Builtin.min_, h3])
    · rename_i _ x r hargs
      obtain ⟨r1, r2⟩ := evPs_rel hev r
      obtain ⟨p, u, h1, h2, h3⟩ := foldW_sound (P := P) mxI Builtin.max2 (fun k j x y => rfl) (evPs st.sl r) (r.map a.eval) _ _ (hev x) r1 r2 h
      have e1 : c.args = (x :: r).toArray := Array.ext' (by simpa using hargs)
      exact pure_ h1 h2 (by simp [execOp, ho, resolve, invoke, builtin, hc, e1, Builtin.max_, h3])
    · rename_i x y t t2 hargs hty
      obtain ⟨p, hp', u, w', G', h1, h2, h3, h4, h5⟩ := appW_sound (ty := o.type) hT hh hfr (hev x) (hev y) h
      have e1 : c.args = #[x, y] := Array.ext' (by simpa using hargs)
      have e2 : c.argTypes = #[t, t2] := Array.ext' (by simpa using hty)
      exact ⟨p, hp', h1, u, w', G', .inl (by simp [execOp, ho, resolve, invoke, builtin, hc, e1, e2, h2]), h3, h4, h5⟩
    · rename_i x y t t2 hargs hty
      obtain ⟨p, hp', u, w', h1, h2, h3, h4, h5⟩ := copyW_sound (t2 := t2) (ty := o.type) hT hh (hev x) (hev y) h
      have e1 : c.args = #[x, y] := Array.ext' (by simpa using hargs)
      have e2 : c.argTypes = #[t, t2] := Array.ext' (by simpa using hty)
      exact ⟨p, hp', h1, u, w', G, .inl (by simp [execOp, ho, resolve, invoke, builtin, hc, e1, e2, h2]), h3, h4, h5⟩
    · exact h.elim
  · exact opX_sound hT (fun t h => eqOf_ok hT t h) hs hfr h

end Go.Abs
/- Calls as operations; regions in the order of the text. -/
namespace Go.Abs
open Go.RowKit

variable {T : TT}

inductive Md where
  | d | r
  deriving DecidableEq

/-- A loop's told way: the slots and blocks that it needs at its head, and how it ends from there. -/
inductive Ends where
  | one (e : Exit) (st : St)
  | cond (b : Bool) (x y : Ends)
def Ends.all : Ends → (Exit → St → Prop) → Prop
  | .one e st, Q => Q e st
  | .cond b x y, Q => (b = true → x.all Q) ∧ (b = false → y.all Q)
def Ends.pick : Ends → Exit × St
  | .one e st => (e, st)
  | .cond b x y => bif b then x.pick else y.pick
theorem Ends.all_pick : ∀ {E : Ends} {Q : Exit → St → Prop}, E.all Q → Q E.pick.1 E.pick.2
  | .one _ _, _, h => h
  | .cond true x _, Q, h => Ends.all_pick (E := x) (Q := Q) (h.1 rfl)
  | .cond false _ y, Q, h => Ends.all_pick (E := y) (Q := Q) (h.2 rfl)

/-- Where an empty row may lie: in a slot, or in a cell of the variable that a slot points to. -/
inductive Loc where
  | slot (k : Nat)
  | cell (k o : Nat)

structure LS where
  ks : List Nat
  nils : List (Loc × TypeId)
  out : St → Option Ends

/-- What a callee hands back, by cases. -/
inductive Rets where
  | one (res : List PV) (sub : List Blk)
  | cond (b : Bool) (x y : Rets)
def Rets.all : Rets → (List PV → List Blk → Prop) → Prop
  | .one r s, K => K r s
  | .cond b x y, K => (b = true → x.all K) ∧ (b = false → y.all K)
def Rets.pick : Rets → List PV × List Blk
  | .one r s => (r, s)
  | .cond b x y => bif b then x.pick else y.pick
theorem Rets.all_iff : ∀ {R : Rets} {K : List PV → List Blk → Prop}, R.all K ↔ K R.pick.1 R.pick.2
  | .one _ _, _ => Iff.rfl
  | .cond true x y, K => ⟨fun h => (Rets.all_iff (R := x)).1 (h.1 rfl), fun h => ⟨fun _ => (Rets.all_iff (R := x)).2 h, fun e => (nomatch e)⟩⟩
  | .cond false x y, K => ⟨fun h => (Rets.all_iff (R := y)).1 (h.2 rfl), fun h => ⟨fun e => (nomatch e), fun _ => (Rets.all_iff (R := y)).2 h⟩⟩

/-- What a walk is told: what a callee takes (by parameter, as data or by reference), what it hands back, and how loops end. -/
structure Sg where
  md : FuncId → List Md
  sp : FuncId → List PV → List Blk → Option Rets
  lp : Nat → Nat → Option LS

/-- A callee's contract: told, or any. -/
def calleeW (P : Program) (T : TT) (sg : Sg) (g : FuncId) (args : List PV) (sub : List Blk) (K : List PV → List Blk → Prop) : Prop :=
  match sg.sp g args sub with
  | some (.one res sub') => ACalls P T g args sub res sub' ∧ K res sub'
  | some R => ACalls P T g args sub R.pick.1 R.pick.2 ∧ R.all K
  | none => ∃ res sub', ACalls P T g args sub res sub' ∧ K res sub'

theorem calleeW_ex {P : Program} {sg : Sg} {g : FuncId} {args : List PV} {sub : List Blk} {K : List PV → List Blk → Prop} (h : calleeW P T sg g args sub K) :
    ∃ res sub', ACalls P T g args sub res sub' ∧ K res sub' ∧ ∀ K' : List PV → List Blk → Prop, K' res sub' → calleeW P T sg g args sub K' := by
  unfold calleeW at h ⊢
  split at h
  · rename_i res sub' he
    exact ⟨res, sub', h.1, h.2, fun K' hk => ⟨h.1, hk⟩⟩
  · rename_i R _ he
    exact ⟨_, _, h.1, Rets.all_iff.1 h.2, fun K' hk => ⟨h.1, Rets.all_iff.2 hk⟩⟩
  · rename_i he
    obtain ⟨res, sub', h1, h2⟩ := h
    exact ⟨res, sub', h1, h2, fun K' hk => ⟨res, sub', h1, hk⟩⟩

/-- The arguments of a call: those that go as data are frozen. -/
def argsW (T : TT) : List Md → List TypeId → List PV → List Blk → (List PV → List Blk → Prop) → Prop
  | .d :: ms, t :: ts, p :: ps, hp, K => match T t with
    | some i => bif isSt p == i.desc.agg then toDsW i.leaves (cellsP p) hp fun ys hp' => argsW T ms ts ps hp' fun qs hp'' => K (mkP i.desc.agg (ys.map PV.d) :: qs) hp'' else False
    | none => False
  | .r :: ms, _ :: ts, p :: ps, hp, K => argsW T ms ts ps hp fun qs hp' => K (p :: qs) hp'
  | [], ts, p :: ps, hp, K => argsW T [] ts ps hp fun qs hp' => K (p :: qs) hp'
  | _, _, [], hp, K => K [] hp
  | _, _, _, _, _ => False

def ref1 : PV → List Nat
  | .ptr b _ => [b]
  | .el b _ _ _ => [b]
  | .sl b _ _ => [b]
  | .sv b _ _ _ => [b]
  | .mp b => [b]
  | _ => []
def refs : List PV → List Nat
  | [] => []
  | p :: ps => match p with
    | .st xs => xs.flatMap ref1 ++ refs ps
    | .tup xs => xs.flatMap ref1 ++ refs ps
    | .fn _ xs => xs.flatMap ref1 ++ refs ps
    | p => ref1 p ++ refs ps
def refB : Blk → List Nat
  | .var cs => refs cs
  | _ => []
def memB : List Nat → Nat → Bool
  | [], _ => false
  | x :: r, b => Nat.beq x b || memB r b
/-- The blocks that are reached from todo. -/
def reach (hp : List Blk) : Nat → List Nat → List Nat → List Nat
  | 0, _, acc => acc
  | _ + 1, [], acc => acc
  | n + 1, b :: todo, acc => bif memB acc b then reach hp n todo acc else reach hp n (refB (hp.getD b .none) ++ todo) (acc ++ [b])
def nodupB : List Nat → Bool
  | [] => true
  | x :: r => !memB r x && nodupB r
def freshL (fr : Nat) : Nat → List Nat
  | 0 => []
  | n + 1 => fr :: freshL (fr + 1) n
def allLt : List Nat → Nat → Bool
  | [], _ => true
  | x :: r, n => Nat.blt x n && allLt r n

theorem memB_iff : ∀ {l : List Nat} {b : Nat}, memB l b = true ↔ b ∈ l
  | [], b => by simp [memB]
  | x :: r, b => by
    simp only [memB, Bool.or_eq_true, List.mem_cons, memB_iff (l := r)]
    constructor
    · rintro (h | h)
      · exact .inl (Nat.eq_of_beq_eq_true h).symm
      · exact .inr h
    · rintro (h | h)
      · subst h; exact .inl (Nat.beq_refl _)
      · exact .inr h

theorem nodupB_iff : ∀ {l : List Nat}, nodupB l = true → l.Nodup
  | [], _ => by simp
  | x :: r, h => by
    simp only [nodupB, Bool.and_eq_true, Bool.not_eq_true'] at h
    rw [List.nodup_cons]
    exact ⟨fun hm => by rw [memB_iff.2 hm] at h; exact absurd h.1 (by simp), nodupB_iff h.2⟩

theorem blt_iff {a b : Nat} (h : Nat.blt a b = true) : a < b := by
  have : Nat.ble (a + 1) b = true := h
  exact Nat.le_of_ble_eq_true this

theorem allLt_iff : ∀ {l : List Nat} {n : Nat}, allLt l n = true → ∀ b ∈ l, b < n
  | [], n, _ => by simp
  | x :: r, n, h => by
    simp only [allLt, Bool.and_eq_true] at h
    intro b hb
    rcases List.mem_cons.1 hb with rfl | hb
    · exact blt_iff h.1
    · exact allLt_iff h.2 b hb

theorem freshL_mem : ∀ {n fr b : Nat}, b ∈ freshL fr n → fr ≤ b ∧ b < fr + n
  | 0, fr, b, h => by simp [freshL] at h
  | n + 1, fr, b, h => by
    simp only [freshL, List.mem_cons] at h
    rcases h with rfl | h
    · omega
    · have := freshL_mem h; omega

theorem freshL_length : ∀ (n fr : Nat), (freshL fr n).length = n
  | 0, fr => rfl
  | n + 1, fr => by simp only [freshL, List.length_cons, freshL_length n (fr + 1)]

theorem freshL_nodup : ∀ (n fr : Nat), (freshL fr n).Nodup
  | 0, fr => by simp [freshL]
  | n + 1, fr => by
    simp only [freshL, List.nodup_cons]
    exact ⟨fun h => by have := freshL_mem h; omega, freshL_nodup n (fr + 1)⟩

/-- The call of g; fr: where new blocks go; m: how many at most. -/
def callW (P : Program) (T : TT) (sg : Sg) (g : FuncId) (args : List PV) (tys : List TypeId) (hp : List Blk) (fr m : Nat) (K : PV → List Blk → Prop) : Prop :=
  argsW T (sg.md g) tys args hp fun args1 hp1 =>
    match rnPs (fidx (reach hp1 200 (refs args1) [])) args1, rnBs (fidx (reach hp1 200 (refs args1) [])) ((reach hp1 200 (refs args1) []).map fun b => hp1.getD b .none) with
    | some args', some sub => bif nodupB (reach hp1 200 (refs args1) []) && allLt (reach hp1 200 (refs args1) []) fr then
        calleeW P T sg g args' sub fun res sub' =>
          bif Nat.ble sub.length sub'.length && Nat.ble (sub'.length - sub.length) m then
            match rnPs (fun j => (reach hp1 200 (refs args1) [] ++ freshL fr (sub'.length - sub.length))[j]?) res, rnBs (fun j => (reach hp1 200 (refs args1) [] ++ freshL fr (sub'.length - sub.length))[j]?) sub' with
            | some res', some blks => K (resP res') (hputAll hp1 (reach hp1 200 (refs args1) [] ++ freshL fr (sub'.length - sub.length)) blks)
            | _, _ => False
          else False
        else False
    | _, _ => False

theorem argsW_sound {w : World} : ∀ (ms : List Md) (ts : List TypeId) (ps : List PV) (vs : List Value) {G : Gh} {hp : List Blk} {K : List PV → List Blk → Prop}, HRel T G hp w → ps.length = vs.length →
    (∀ (j : Nat) (p : PV) (v : Value), ps[j]? = some p → vs[j]? = some v → PRel T G w p v) → argsW T ms ts ps hp K →
    ∃ qs hp' G', K qs hp' ∧ qs.length = vs.length ∧ (∀ (j : Nat) (p : PV) (v : Value), qs[j]? = some p → vs[j]? = some v → PRel T G' w p v) ∧ HRel T G' hp' w ∧ Evo G hp w G' hp' w ∧ ∀ b, hp.getD b Blk.none = Blk.none → hp'.getD b Blk.none = Blk.none
  | ms, ts, [], vs, G, hp, K, hh, hl, hr, h => by
    have hv : vs = [] := List.eq_nil_of_length_eq_zero hl.symm
    subst hv
    have h' : K [] hp := by
      unfold argsW at h
      split at h <;> first | exact h | (rename_i heq; cases heq) | (rename_i heq _; cases heq) | skip
      all_goals first | exact h | exact h.elim | simp_all
    exact ⟨[], hp, G, h', rfl, by simp, hh, Evo.refl G hp w, fun _ hb => hb⟩
  | .r :: ms, t :: ts, p :: ps, v :: vs, G, hp, K, hh, hl, hr, h => by
    unfold argsW at h
    obtain ⟨qs, hp', G', h1, h2, h3, h4, h5, h6⟩ := argsW_sound ms ts ps vs hh (by simpa using hl) (fun j q u hq hu => hr (j + 1) q u (by simpa using hq) (by simpa using hu)) h
    refine ⟨_, hp', G', h1, by simp [h2], fun j q u hq hu => ?_, h4, h5, h6⟩
    cases j with
    | zero => simp at hq hu; subst hq; subst hu; exact (hr 0 _ _ rfl rfl).mono h5.ext (fun _ _ => rfl)
    | succ j => exact h3 j q u (by simpa using hq) (by simpa using hu)
  | [], ts, p :: ps, v :: vs, G, hp, K, hh, hl, hr, h => by
    unfold argsW at h
    obtain ⟨qs, hp', G', h1, h2, h3, h4, h5, h6⟩ := argsW_sound [] ts ps vs hh (by simpa using hl) (fun j q u hq hu => hr (j + 1) q u (by simpa using hq) (by simpa using hu)) h
    refine ⟨_, hp', G', h1, by simp [h2], fun j q u hq hu => ?_, h4, h5, h6⟩
    cases j with
    | zero => simp at hq hu; subst hq; subst hu; exact (hr 0 _ _ rfl rfl).mono h5.ext (fun _ _ => rfl)
    | succ j => exact h3 j q u (by simpa using hq) (by simpa using hu)
  | .d :: ms, t :: ts, p :: ps, v :: vs, G, hp, K, hh, hl, hr, h => by
    unfold argsW at h
    split at h
    case h_2 => exact h.elim
    rename_i i hi
    cases hb : (isSt p == i.desc.agg) with
    | false => rw [hb] at h; exact h.elim
    | true =>
      rw [hb] at h
      simp only [cond_true] at h
      obtain ⟨ys, hp1, G1, k1, k2, k3, k4, k5⟩ := valP_sound hh (hr 0 _ _ rfl rfl) hb h
      obtain ⟨qs, hp', G', h1, h2, h3, h4, h5, h6⟩ := argsW_sound ms ts ps vs k3 (by simpa using hl) (fun j q u hq hu => (hr (j + 1) q u (by simpa using hq) (by simpa using hu)).mono k4.ext (fun _ _ => rfl)) k1
      refine ⟨_, hp', G', h1, by simp [h2], fun j q u hq hu => ?_, h4, k4.trans h5, fun b hb => h6 b (k5 b hb)⟩
      cases j with
      | zero => simp at hq hu; subst hq; subst hu; exact k2.mono h5.ext (fun _ _ => rfl)
      | succ j => exact h3 j q u (by simpa using hq) (by simpa using hu)
  | .d :: _, [], _ :: _, _, _, _, _, _, _, _, h => by unfold argsW at h; exact h.elim
  | .r :: _, [], _ :: _, _, _, _, _, _, _, _, h => by unfold argsW at h; exact h.elim
  | _, _, _ :: _, [], _, _, _, _, hl, _, _ => by simp at hl

theorem resP_ren {f : Nat → Option Nat} {res res' : List PV} (h : rnPs f res = some res') : rnP f (resP res) = some (resP res') := by
  match res, h with
  | [p], h =>
    obtain ⟨hl, hg⟩ := rnPs_get f h
    match res', hl, hg with
    | [q], _, hg => obtain ⟨p', a, b⟩ := hg 0 q rfl; simp at a; subst a; exact b
  | [], h => simp only [rnPs, Option.some.injEq] at h; subst h; rfl
  | p :: q :: r, h =>
    obtain ⟨hl, hg⟩ := rnPs_get f h
    match res', hl, hg with
    | p' :: q' :: r', _, _ => show rnP f (.tup (p :: q :: r)) = some (.tup (p' :: q' :: r')); unfold rnP; rw [h]

/-- The call, as the caller sees it. -/
theorem callW_sound {P : Program} {sg : Sg} {g : FuncId} {args : List PV} {tys : List TypeId} {G : Gh} {hp : List Blk} {w : World} {fr m : Nat} {vs : Array Value} (hh : HRel T G hp w) (hl : args.length = vs.size)
    (hr : ∀ (j : Nat) (p : PV) (v : Value), args[j]? = some p → vs[j]? = some v → PRel T G w p v) (hfr : ∀ b, fr ≤ b → b < fr + m → hp.getD b Blk.none = Blk.none) {K : PV → List Blk → Prop} (h : callW P T sg g args tys hp fr m K) :
    (∀ (args : Array Value) (w : World), (callFunc g args).run P w = .ok (.enter g args) w) ∧ Calls P g vs w fun e w' => match e with
      | .returned v => ∃ p hp' G', K p hp' ∧ PRel T G' w' p v ∧ HRel T G' hp' w' ∧ Evo G hp w G' hp' w'
      | .outgrown => False
      | .panicked _ => False := by
  unfold callW at h
  obtain ⟨qs, hp1, G1, h1, h2, h3, h4, h5, h6⟩ := argsW_sound (sg.md g) tys args vs.toList hh (by simpa using hl) (fun j p v hp hv => hr j p v hp (by simpa using hv)) h
  generalize hids : reach hp1 200 (refs qs) [] = ids at h1
  split at h1
  case h_2 => exact h1.elim
  rename_i args' sub ha hsub
  cases hb : (nodupB ids && allLt ids fr) with
  | false => rw [hb] at h1; exact h1.elim
  | true =>
    rw [hb] at h1
    simp only [cond_true] at h1
    simp only [Bool.and_eq_true] at hb
    have hn := nodupB_iff hb.1
    have hlt := allLt_iff hb.2
    obtain ⟨res, sub', hcall, h1, _⟩ := calleeW_ex h1
    refine ⟨hcall.1, ?_⟩
    cases hb2 : (Nat.ble sub.length sub'.length && Nat.ble (sub'.length - sub.length) m) with
    | false => rw [hb2] at h1; exact h1.elim
    | true =>
      rw [hb2] at h1
      simp only [cond_true] at h1
      simp only [Bool.and_eq_true] at hb2
      have l1 := Nat.le_of_ble_eq_true hb2.1
      have l2 := Nat.le_of_ble_eq_true hb2.2
      split at h1
      case h_2 => exact h1.elim
      rename_i res' blks hres hblks
      have hsl : sub.length = ids.length := by have := (rnBs_get _ hsub).1; simpa using this
      have hfl : (freshL fr (sub'.length - sub.length)).length = sub'.length - sub.length := freshL_length _ _
      have hn' : (ids ++ freshL fr (sub'.length - sub.length)).Nodup := by
        rw [List.nodup_append]
        refine ⟨hn, freshL_nodup _ _, fun a ha b hb => ?_⟩
        have := hlt a ha
        have := freshL_mem hb
        omega
      obtain ⟨ra, rg⟩ := rnPs_get _ ha
      have hc := hcall.2 (G1.sub ids) w vs (h4.toSub hn hsub) (by rw [ra, h2]; simp) (fun j p v hp hv => by
        obtain ⟨q, hq, hrn⟩ := rg j p hp
        exact (h3 j q v hq (by simpa using hv)).ren (Ren.toSub G1 ids) hrn)
      refine hc.mono fun e w' he => ?_
      cases e with
      | outgrown => exact he
      | panicked c => exact he
      | returned v =>
        obtain ⟨G2, k1, k2, k3⟩ := he
        obtain ⟨f1, f2⟩ := call_frame h4 hn' ⟨_, rfl, fun b hb => by have := freshL_mem hb; exact h6 b (hfr b this.1 (by omega))⟩ hsub k1 k3 hblks (by rw [List.length_append, hfl, ← hsl]; omega)
        exact ⟨_, _, _, h1, k2.ren (Ren.toBack G1 G2 hn') (resP_ren hres), f1, h5.trans f2⟩

end Go.Abs
/- Steps, and regions in the text's order. -/
namespace Go.Abs
open Go.RowKit

variable {T : TT}

def putP (sl : List (Nat × PV)) (dst : Option Tmp) (p : PV) : List (Nat × PV) :=
  match dst with
  | some d => (d, p) :: sl
  | none => sl

def dstOK (nt : Nat) : Option Tmp → Bool
  | some d => Nat.blt d nt
  | none => true

theorem get_cons (k : Nat) (p : PV) (sl : List (Nat × PV)) (n : Nat) : get ((k, p) :: sl) n = if k = n then p else get sl n := by
  show (bif Nat.beq k n then p else get sl n) = _
  cases hb : Nat.beq k n with
  | true => rw [if_pos (Nat.eq_of_beq_eq_true hb)]; rfl
  | false => rw [if_neg (Nat.ne_of_beq_eq_false hb)]; rfl

theorem SRel.put {nt : Nat} {G G' : Gh} {st : St} {a : Act} {w w' : World} (h : SRel T nt G st a w) {hp' : List Blk} (hh : HRel T G' hp' w') (hG : GExt G G') (hw : ∀ n, G.F n → w'.heap[n]? = w.heap[n]?) {dst : Option Tmp} (hd : dstOK nt dst = true) {p : PV} {v : Value} (hp : PRel T G' w' p v) :
    SRel T nt G' ⟨putP st.sl dst p, hp'⟩ (a.put dst v) w' := by
  cases dst with
  | none => exact ⟨h.n, fun k => (h.sl k).mono hG hw, h.df, hh⟩
  | some d =>
    have hlt : d < a.tmps.size := by rw [h.n]; exact blt_iff hd
    refine ⟨by simp [Act.put, h.n], fun k => ?_, h.df, hh⟩
    simp only [putP, get_cons]
    by_cases hk : d = k
    · subst hk
      rw [if_pos rfl]
      simp only [Act.put, Array.getD_eq_getD_getElem?, Array.getElem?_setIfInBounds_self, if_pos hlt]
      exact hp
    · rw [if_neg hk]
      simp only [Act.put, Array.getD_eq_getD_getElem?, Array.getElem?_setIfInBounds_ne hk]
      have := h.sl k
      rw [Array.getD_eq_getD_getElem?] at this
      exact this.mono hG hw

/-- The same value, told otherwise. -/
theorem SRel.retell {nt : Nat} {G : Gh} {st : St} {a : Act} {w : World} (h : SRel T nt G st a w) {k : Nat} {p : PV} (hp : PRel T G w p (a.tmps.getD k undef)) : SRel T nt G ⟨(k, p) :: st.sl, st.hp⟩ a w :=
  ⟨h.n, fun j => by
    show PRel T G w (get ((k, p) :: st.sl) j) _
    rw [get_cons]
    by_cases e : k = j
    · rw [if_pos e, ← e]; exact hp
    · rw [if_neg e]; exact h.sl j, h.df, h.hp⟩

/-- One operation, its guard aside. -/
def execW (P : Program) (T : TT) (sg : Sg) (nt : Nat) (o : Oper) (st : St) (fr m : Nat) (K : St → Prop) : Prop :=
  bif dstOK nt o.dst then
    match o.op with
    | .call c => match c.callee with
      | .value f => match evP st.sl f with
        | .fn g caps => callW P T sg g (evPs st.sl c.args.toList ++ caps) c.argTypes.toList st.hp fr m fun p hp' => K ⟨putP st.sl o.dst p, hp'⟩
        | _ => False
      | _ => bif Nat.ble 1 m then opW T o.op st.sl st.hp fr fun p hp' => K ⟨putP st.sl o.dst p, hp'⟩ else False
    | _ => bif Nat.ble 1 m then opW T o.op st.sl st.hp fr fun p hp' => K ⟨putP st.sl o.dst p, hp'⟩ else False
  else False

/-- What a concrete continuation may lean on. -/
def Nx (T : TT) (nt : Nat) (G0 : Gh) (hp0 : List Blk) (w0 : World) (K : St → Prop) (a : Act) (w : World) : Prop :=
  ∃ G st, K st ∧ SRel T nt G st a w ∧ Evo G0 hp0 w0 G st.hp w

theorem execW_sound {P : Program} {sg : Sg} {nt : Nat} {o : Oper} {st : St} {fr m : Nat} {K : St → Prop} (hT : TOK P T) (h : execW P T sg nt o st fr m K) {G0 G : Gh} {hp0 : List Blk} {w0 w : World} {a : Act} (hs : SRel T nt G st a w) (ev : Evo G0 hp0 w0 G st.hp w)
    (hfr : ∀ b, fr ≤ b → b < fr + m → st.hp.getD b Blk.none = Blk.none) {next : Act → World → Prop} {Q : Exit → Act → World → Prop} (hn : ∀ a w, Nx T nt G0 hp0 w0 K a w → next a w) : o.wp P a w next Q := by
  unfold execW at h
  cases hd : dstOK nt o.dst with
  | false => rw [hd] at h; exact h.elim
  | true =>
    rw [hd] at h
    simp only [cond_true] at h
    have plain : (bif Nat.ble 1 m then opW T o.op st.sl st.hp fr (fun p hp' => K ⟨putP st.sl o.dst p, hp'⟩) else False) → o.wp P a w next Q := by
      intro h
      cases hm : Nat.ble 1 m with
      | false => rw [hm] at h; exact h.elim
      | true =>
        rw [hm] at h
        simp only [cond_true] at h
        have hm := Nat.le_of_ble_eq_true hm
        obtain ⟨p, hp', h1, v, w', G', hr, h2, h3, h4⟩ := opW_sound hT hs (hfr fr (Nat.le_refl _) (by omega)) h
        have st' := hs.put h3 h4.ext (h4.frozen hs.hp) hd h2
        unfold Oper.wp
        rcases hr with hr | ⟨hr, rfl⟩
        · rw [hr]; exact hn _ _ ⟨G', _, h1, st', ev.trans h4⟩
        · rw [hr]; exact hn _ _ ⟨G', _, h1, st', ev.trans h4⟩
    split at h
    · rename_i c ho
      split at h
      · rename_i f hc
        split at h
        case h_2 => exact h.elim
        rename_i g caps hf
        have hv := hs.ev f
        rw [hf] at hv
        generalize hvf : a.eval f = vf at hv
        cases hv with
        | fn g caps vs hl hx =>
          obtain ⟨r1, r2⟩ := evPs_rel (fun x => hs.ev x) c.args.toList
          obtain ⟨c1, c2⟩ := callW_sound (vs := c.args.map a.eval ++ vs) hs.hp (by simp at r1 ⊢; omega) (fun j p v hp hv => by
            by_cases hj : j < (evPs st.sl c.args.toList).length
            · rw [List.getElem?_append_left hj] at hp
              rw [Array.getElem?_append_left (by simp at r1 ⊢; omega)] at hv
              exact r2 j p v hp (by simpa using hv)
            · rw [List.getElem?_append_right (by omega)] at hp
              rw [Array.getElem?_append_right (by simp at r1 ⊢; omega)] at hv
              exact hx _ p v hp (by rw [r1]; simpa using hv)) hfr h
          have hrun : (execOp a.eval o).run P w = .ok (.enter g (c.args.map a.eval ++ vs)) w := by
            simp [execOp, ho, resolve, hc, hvf, Deferred.ofValue, invoke, c1]
          unfold Oper.wp
          rw [hrun]
          refine c2.mono fun e w' he => ?_
          cases e with
          | outgrown => exact he.elim
          | panicked ch => exact he.elim
          | returned v =>
            obtain ⟨p, hp', G', k1, k2, k3, k4⟩ := he
            exact hn _ _ ⟨G', _, k1, hs.put k3 k4.ext (k4.frozen hs.hp) hd k2, ev.trans k4⟩
      · exact plain h
    · exact plain h

/-- One operation, under its guard. -/
def stepW (P : Program) (T : TT) (sg : Sg) (nt : Nat) (ops : Array Oper) (o : Oper) (st : St) (fr m : Nat) (K : St → Prop) : Prop :=
  match o.guard with
  | none => execW P T sg nt o st fr m K
  | some (j, want) => match (ops[j]?).bind (·.dst) with
    | none => False
    | some d => match get st.sl d with
      | .kb c => bif c == want then execW P T sg nt o st fr m K else bif dstOK nt o.dst then K ⟨putP st.sl o.dst (.c undef), st.hp⟩ else False
      | .c (.tuple _) => bif dstOK nt o.dst then K ⟨putP st.sl o.dst (.c undef), st.hp⟩ else False
      | .d (.b x) => bif dstOK nt o.dst then
          (x = true → bif want then execW P T sg nt o ⟨(d, .kb true) :: st.sl, st.hp⟩ fr m K else K ⟨putP ((d, .kb true) :: st.sl) o.dst (.c undef), st.hp⟩) ∧
          (x = false → bif want then K ⟨putP ((d, .kb false) :: st.sl) o.dst (.c undef), st.hp⟩ else execW P T sg nt o ⟨(d, .kb false) :: st.sl, st.hp⟩ fr m K) else False
      | _ => False

theorem stepW_sound {P : Program} {sg : Sg} {nt : Nat} {ops : Array Oper} {o : Oper} {st : St} {fr m : Nat} {K : St → Prop} (hT : TOK P T) (h : stepW P T sg nt ops o st fr m K) {G0 G : Gh} {hp0 : List Blk} {w0 w : World} {a : Act} (hs : SRel T nt G st a w) (ev : Evo G0 hp0 w0 G st.hp w)
    (hfr : ∀ b, fr ≤ b → b < fr + m → st.hp.getD b Blk.none = Blk.none) {next : Act → World → Prop} {Q : Exit → Act → World → Prop} (hn : ∀ a w, Nx T nt G0 hp0 w0 K a w → next a w) :
    if Region.wanted o (yielded ops a.tmps) = true then o.wp P a w next Q else next (a.put o.dst undef) w := by
  have skip : ∀ {sl : List (Nat × PV)}, SRel T nt G ⟨sl, st.hp⟩ a w → dstOK nt o.dst = true → K ⟨putP sl o.dst (.c undef), st.hp⟩ → next (a.put o.dst undef) w :=
    fun hs' hd hK => hn _ _ ⟨G, _, hK, hs'.put hs.hp (GExt.refl G) (fun _ _ => rfl) hd (PRel.c undef), ev⟩
  unfold stepW at h
  split at h
  · rename_i hg
    rw [if_pos (by simp [Region.wanted, hg])]
    exact execW_sound hT h hs ev hfr hn
  · rename_i j want hg
    split at h
    case h_1 => exact h.elim
    rename_i d hdj
    have hy : ∀ c, a.tmps.getD d undef = .bool c → yielded ops a.tmps j = some c := by
      intro c hc
      unfold yielded
      rw [hdj]
      simp only [Option.bind_some]
      rw [Array.getD_eq_getD_getElem?] at hc
      cases ht : a.tmps[d]? with
      | none => rw [ht] at hc; simp [undef] at hc
      | some u => rw [ht] at hc; simp at hc; subst hc; rfl
    have hsd := hs.sl d
    split at h
    · rename_i c hgd
      rw [hgd] at hsd
      have hv : a.tmps.getD d undef = .bool c := by
        generalize a.tmps.getD d undef = u at hsd; cases hsd; rfl
      have hy := hy c hv
      cases hcw : (c == want) with
      | true =>
        rw [hcw] at h
        simp only [cond_true] at h
        have : c = want := by simpa using hcw
        rw [if_pos (by simp [Region.wanted, hg, hy, this])]
        exact execW_sound hT h hs ev hfr hn
      | false =>
        rw [hcw] at h
        simp only [cond_false] at h
        have hne : c ≠ want := by simpa using hcw
        rw [if_neg (by simp [Region.wanted, hg, hy, hne])]
        cases hd : dstOK nt o.dst with
        | false => rw [hd] at h; exact h.elim
        | true => rw [hd] at h; exact skip (sl := st.sl) hs hd h
    · rename_i vs hgd
      rw [hgd] at hsd
      have hv : a.tmps.getD d undef = .tuple vs := by
        generalize a.tmps.getD d undef = u at hsd; cases hsd; rfl
      have hy : yielded ops a.tmps j = none := by
        unfold yielded
        rw [hdj]
        simp only [Option.bind_some]
        rw [Array.getD_eq_getD_getElem?] at hv
        cases ht : a.tmps[d]? with
        | none => rfl
        | some u => rw [ht] at hv; simp at hv; subst hv; rfl
      rw [if_neg (by simp [Region.wanted, hg, hy])]
      cases hd : dstOK nt o.dst with
      | false => rw [hd] at h; exact h.elim
      | true => rw [hd] at h; exact skip (sl := st.sl) hs hd h
    · rename_i x hgd
      rw [hgd] at hsd
      have hv : a.tmps.getD d undef = .bool x := by
        generalize a.tmps.getD d undef = u at hsd; exact boolP_rel hsd rfl
      have hy := hy x hv
      cases hd : dstOK nt o.dst with
      | false => rw [hd] at h; exact h.elim
      | true =>
        rw [hd] at h
        simp only [cond_true] at h
        have told : ∀ c, x = c → SRel T nt G ⟨(d, .kb c) :: st.sl, st.hp⟩ a w := fun c hc => hs.retell (by rw [hv, hc]; exact .kb c)
        cases x with
        | true =>
          have h := h.1 rfl
          cases want with
          | true => rw [if_pos (by simp [Region.wanted, hg, hy])]; exact execW_sound hT h (told true rfl) ev hfr hn
          | false => rw [if_neg (by simp [Region.wanted, hg, hy])]; exact skip (told true rfl) hd h
        | false =>
          have h := h.2 rfl
          cases want with
          | true => rw [if_neg (by simp [Region.wanted, hg, hy])]; exact skip (told false rfl) hd h
          | false => rw [if_pos (by simp [Region.wanted, hg, hy])]; exact execW_sound hT h (told false rfl) ev hfr hn
    · exact h.elim

/-- A region in the order of the text. -/
def regionW (P : Program) (T : TT) (sg : Sg) (nt : Nat) (ops : Array Oper) : List Oper → St → (St → Prop) → Prop
  | [], st, K => K st
  | o :: r, st, K => stepW P T sg nt ops o st st.hp.length 1000 fun st' => regionW P T sg nt ops r st' K

/-- What a concrete ending of code owes. -/
def CQ (T : TT) (nt : Nat) (G0 : Gh) (hp0 : List Blk) (w0 : World) (Q : Exit → St → Prop) : Exit → Act → World → Prop
  | .outgrown, _, _ => False
  | .panic _, _, _ => False
  | e, a, w => Nx T nt G0 hp0 w0 (Q e) a w

theorem getD_len {hp : List Blk} {b : Nat} (h : hp.length ≤ b) : hp.getD b Blk.none = Blk.none := by
  simp [List.getD, List.getElem?_eq_none h]

theorem regionW_sound {P : Program} {sg : Sg} {nt : Nat} {ops : Array Oper} (hT : TOK P T) {G0 : Gh} {hp0 : List Blk} {w0 : World} {Q : Exit → St → Prop} :
    ∀ (l : List Oper) {st : St} {G : Gh} {a : Act} {w : World}, SRel T nt G st a w → Evo G0 hp0 w0 G st.hp w → regionW P T sg nt ops l st (Q .normal) → wpList P ops (CQ T nt G0 hp0 w0 Q) l a w
  | [], st, G, a, w, hs, ev, h => ⟨G, st, h, hs, ev⟩
  | o :: r, st, G, a, w, hs, ev, h => by
    refine wpList_step fun K hK => ?_
    exact stepW_sound hT h hs ev (fun b hb _ => getD_len hb) (fun a w ⟨G', st', h1, h2, h3⟩ => hK _ _ (regionW_sound hT r h2 h3 h1))

end Go.Abs
/- A program's table of types, checked. -/
namespace Go.Abs

def chkLeaf : LK → Value → Bool
  | .bool, .bool b => !b
  | .int k, .int k' n => decide (k = k') && decide (n = 0)
  | .str, .string s => Nat.beq s.data.size 0
  | .slice _, .slice none 0 0 => true
  | .ptr, .pointer none => true
  | .map, .map none => true
  | .func, .nilFunc => true
  | .iface, .nilIface => true
  | _, _ => false

theorem chkLeaf_eq {k : LK} {v : Value} (h : chkLeaf k v = true) : v = k.zeroV := by
  unfold chkLeaf at h
  split at h
  · simp at h; subst h; rfl
  · simp at h; obtain ⟨rfl, rfl⟩ := h; rfl
  · rename_i s
    have := Nat.eq_of_beq_eq_true h
    have e : s.data = #[] := Array.eq_empty_of_size_eq_zero this
    cases s; simp at e; subst e; rfl
  · rfl
  · rfl
  · rfl
  · rfl
  · rfl
  · cases h

def chkLeaves : List LK → List Value → Bool
  | [], [] => true
  | k :: ks, v :: vs => chkLeaf k v && chkLeaves ks vs
  | _, _ => false

theorem chkLeaves_eq : ∀ {ks : List LK} {vs : List Value}, chkLeaves ks vs = true → vs = ks.map LK.zeroV
  | [], [], _ => rfl
  | k :: ks, v :: vs, h => by
    simp only [chkLeaves, Bool.and_eq_true] at h
    rw [chkLeaf_eq h.1, chkLeaves_eq h.2]; rfl
  | [], _ :: _, h => by cases h
  | _ :: _, [], h => by cases h

def chkZero (i : TI) : Value → Bool
  | .agg cs => i.desc.agg && chkLeaves i.leaves cs.toList
  | v => !i.desc.agg && chkLeaves i.leaves [v]

theorem chkZero_eq {i : TI} {v : Value} (h : chkZero i v = true) : v = zeroV i := by
  unfold chkZero at h
  split at h
  · rename_i cs
    simp only [Bool.and_eq_true] at h
    unfold zeroV
    rw [if_pos h.1, ← chkLeaves_eq h.2]
  · simp only [Bool.and_eq_true, Bool.not_eq_true'] at h
    unfold zeroV
    rw [h.1]
    have := chkLeaves_eq h.2
    match hl : i.leaves, this with
    | [k], this => simp at this; simp [this]
    | [], this => simp at this
    | _ :: _ :: _, this => simp at this

def chkEq (P : Program) (t : TypeId) : Bool := !P.eqGuardType P.depth t && !P.stoodInHeld t && match P.underlying t with
  | some (.struct fs) => fs.toList.all fun f => !decide (f.name = "_")
  | _ => true

def chkT (P : Program) (t : TypeId) (i : TI) : Bool :=
  match P.info? t, P.underlying t with
  | some inf, some d => Nat.beq inf.size i.leaves.length && Nat.beq inf.bytes i.bytes && descOK i.desc d && i.leaves.all (fun k => !decide (k = .other)) && (i.desc.agg || Nat.beq i.leaves.length 1) && (!i.eq || chkEq P t) &&
      match inf.zero with | some v => chkZero i v | none => false
  | _, _ => false

theorem chkT_ok {P : Program} {t : TypeId} {i : TI} (h : chkT P t i = true) : TOK1 P t i := by
  unfold chkT at h
  split at h
  case h_2 => cases h
  rename_i inf d hi hd
  simp only [Bool.and_eq_true] at h
  obtain ⟨⟨⟨⟨⟨⟨h1, h2⟩, h3⟩, h4⟩, h5⟩, h7⟩, h6⟩ := h
  split at h6
  case h_2 => cases h6
  rename_i v hz
  refine ⟨⟨inf, hi, Nat.eq_of_beq_eq_true h1, Nat.eq_of_beq_eq_true h2, by rw [hz, chkZero_eq h6]⟩, ⟨d, hd, h3⟩, fun ha => ?_, fun hm => ?_, fun he => ?_⟩
  · rw [ha] at h5; exact Nat.eq_of_beq_eq_true (by simpa using h5)
  · have := (List.all_eq_true.1 h4) _ hm
    simp at this
  · rw [he] at h7
    simp only [Bool.not_true, Bool.false_or, chkEq, Bool.and_eq_true, Bool.not_eq_true'] at h7
    refine ⟨h7.1.1, h7.1.2, fun fields hf f hfm => ?_⟩
    have h8 := h7.2
    rw [hf] at h8
    have := List.all_eq_true.1 h8 f (by simpa using hfm)
    simpa using this

def chkAll (P : Program) : Nat → List (Option TI) → Bool
  | _, [] => true
  | t, none :: r => chkAll P (t + 1) r
  | t, some i :: r => chkT P t i && chkAll P (t + 1) r

theorem chkAll_ok {P : Program} : ∀ {l : List (Option TI)} {t j : Nat} {i : TI}, chkAll P t l = true → l[j]? = some (some i) → TOK1 P (t + j) i
  | [], t, j, i, _, h => by simp at h
  | none :: r, t, j, i, hc, h => by
    simp only [chkAll] at hc
    cases j with
    | zero => simp at h
    | succ j => have := chkAll_ok (j := j) hc (by simpa using h); rw [show t + (j + 1) = t + 1 + j by omega]; exact this
  | some i' :: r, t, j, i, hc, h => by
    simp only [chkAll, Bool.and_eq_true] at hc
    cases j with
    | zero => simp at h; subst h; exact chkT_ok hc.1
    | succ j => have := chkAll_ok (j := j) hc.2 (by simpa using h); rw [show t + (j + 1) = t + 1 + j by omega]; exact this

def ttOf (l : List (Option TI)) : TT := fun t => l.getD t none

theorem TOK.of {P : Program} {l : List (Option TI)} (h : chkAll P 0 l = true) : TOK P (ttOf l) := by
  intro t i ht
  have : l[t]? = some (some i) := by
    unfold ttOf at ht
    rw [List.getD_eq_getElem?_getD] at ht
    cases hl : l[t]? with
    | none => rw [hl] at ht; simp at ht
    | some q => rw [hl] at ht; simp at ht; rw [ht]
  have := chkAll_ok (t := 0) h this
  simpa using this

end Go.Abs
/- Forgetting: slots and blocks that nobody asks for any more. -/
namespace Go.Abs
open Go.RowKit

variable {T : TT}

mutual
def refsLt (n : Nat) : PV → Bool
  | .ptr b _ => Nat.blt b n
  | .el b _ _ _ => Nat.blt b n
  | .sl b _ _ => Nat.blt b n
  | .sv b _ _ _ => Nat.blt b n
  | .mp b => Nat.blt b n
  | .st xs => refsLtL n xs
  | .tup xs => refsLtL n xs
  | .fn _ xs => refsLtL n xs
  | _ => true
def refsLtL (n : Nat) : List PV → Bool
  | [] => true
  | p :: ps => refsLt n p && refsLtL n ps
end

def refsLtB (n : Nat) : List Blk → Bool
  | [] => true
  | .var cs :: r => refsLtL n cs && refsLtB n r
  | _ :: r => refsLtB n r

def refsLtS (n : Nat) : List (Nat × PV) → Bool
  | [] => true
  | (_, p) :: r => refsLt n p && refsLtS n r

theorem refsLtL_mem {n : Nat} : ∀ {ps : List PV}, refsLtL n ps = true → ∀ p ∈ ps, refsLt n p = true
  | [], _ => by simp
  | p :: ps, h => by
    simp only [refsLtL, Bool.and_eq_true] at h
    intro q hq
    rcases List.mem_cons.1 hq with rfl | hq
    · exact h.1
    · exact refsLtL_mem h.2 q hq

/-- The ghost state of the blocks below n. -/
def Gh.cut (G : Gh) (n : Nat) : Gh where
  F := G.F
  ι := fun b => if b < n then G.ι b else none
  γ := fun b => if b < n then G.γ b else 0
  κ := G.κ
  et := G.et
  len := G.len

theorem PRel.cut {G : Gh} {w : World} {n : Nat} {p : PV} {v : Value} (h : PRel T G w p v) : refsLt n p = true → PRel T (G.cut n) w p v := by
  induction h with
  | kb c => intro _; exact .kb c
  | d x v h => intro _; exact .d x v h
  | c v => intro _; exact PRel.c v
  | st xs vs hl _ h1 ih => intro e; exact .st xs vs hl (fun j x v hx hv => ih j x v hx hv (refsLtL_mem (by simpa [refsLt] using e) x (List.mem_of_getElem? hx))) h1
  | tup xs vs hl _ ih => intro e; exact .tup xs vs hl (fun j x v hx hv => ih j x v hx hv (refsLtL_mem (by simpa [refsLt] using e) x (List.mem_of_getElem? hx)))
  | ptr b off m h h0 => intro e; have := blt_iff (by simpa [refsLt] using e : Nat.blt b n = true); exact .ptr b off m (by simp [Gh.cut, this, h]) (by simp [Gh.cut, this, h0])
  | elOld b g i off v h => intro e; have := blt_iff (by simpa [refsLt] using e : Nat.blt b n = true); exact .elOld b g i off v (by simpa [Gh.cut, this] using h)
  | el b g i off m hg h0 h hi => intro e; have := blt_iff (by simpa [refsLt] using e : Nat.blt b n = true); exact .el b g i off m (by simpa [Gh.cut, this] using hg) h0 (by simpa [Gh.cut, this] using h) hi
  | rp e x off bl o cs ty fr hF hh hT hc => intro _; exact .rp e x off bl o cs ty fr hF hh hT hc
  | slOld b g m v h => intro e; have := blt_iff (by simpa [refsLt] using e : Nat.blt b n = true); exact .slOld b g m v (by simpa [Gh.cut, this] using h)
  | slNil b g hg h0 h => intro e; have := blt_iff (by simpa [refsLt] using e : Nat.blt b n = true); exact .slNil b g (by simpa [Gh.cut, this] using hg) h0 (by simpa [Gh.cut, this] using h)
  | sl b g m q hg h0 h hn => intro e; have := blt_iff (by simpa [refsLt] using e : Nat.blt b n = true); exact .sl b g m q (by simpa [Gh.cut, this] using hg) h0 (by simpa [Gh.cut, this] using h) hn
  | svOld b g o m v h => intro e; have := blt_iff (by simpa [refsLt] using e : Nat.blt b n = true); exact .svOld b g o m v (by simpa [Gh.cut, this] using h)
  | svZ b g o a cap hg h0 => intro e; have := blt_iff (by simpa [refsLt] using e : Nat.blt b n = true); exact .svZ b g o a cap (by simpa [Gh.cut, this] using hg) h0
  | sv b g o m q hg h0 h hn => intro e; have := blt_iff (by simpa [refsLt] using e : Nat.blt b n = true); exact .sv b g o m q (by simpa [Gh.cut, this] using hg) h0 (by simpa [Gh.cut, this] using h) hn
  | mp b m h h0 => intro e; have := blt_iff (by simpa [refsLt] using e : Nat.blt b n = true); exact .mp b m (by simp [Gh.cut, this, h]) (by simp [Gh.cut, this, h0])
  | fn f caps vs hl _ ih => intro e; exact .fn f caps vs hl (fun j x v hx hv => ih j x v hx hv (refsLtL_mem (by simpa [refsLt] using e) x (List.mem_of_getElem? hx)))
  | u v => intro _; exact .u v

theorem refsLtB_get {n : Nat} : ∀ {hp : List Blk} {b : Nat} {cs : List PV}, refsLtB n hp = true → hp[b]? = some (.var cs) → refsLtL n cs = true
  | [], b, cs, _, h => by simp at h
  | k :: r, 0, cs, hc, h => by
    simp at h; subst h
    simp only [refsLtB, Bool.and_eq_true] at hc; exact hc.1
  | k :: r, b + 1, cs, hc, h => by
    have hr : refsLtB n r = true := by
      cases k <;> first | exact hc | (simp only [refsLtB, Bool.and_eq_true] at hc; exact hc.2)
    exact refsLtB_get hr (by simpa using h)

theorem HRel.cut {G : Gh} {hp : List Blk} {w : World} (h : HRel T G hp w) {n : Nat} (hc : refsLtB n (hp.take n) = true) : HRel T (G.cut n) (hp.take n) w := by
  have lo : ∀ b, b < n → (hp.take n).getD b Blk.none = hp.getD b Blk.none := by
    intro b hb
    simp [List.getD, hb]
  have hi : ∀ b, ¬ b < n → (hp.take n).getD b Blk.none = Blk.none := by
    intro b hb
    simp [List.getD, List.getElem?_take, hb]
  refine ⟨fun b => ?_, fun b b' m a a' e e' => ?_, fun b m a e hf => ?_, h.lt⟩
  · by_cases hb : b < n
    · rw [lo b hb]
      have k := h.blk b
      have hcell : ∀ cs, hp.getD b Blk.none = .var cs → refsLtL n cs = true := by
        intro cs hq
        refine refsLtB_get hc (b := b) ?_
        rw [List.getElem?_take, if_pos hb]
        cases hx : hp[b]? with
        | none => simp [List.getD, hx] at hq
        | some k => simp [List.getD, hx] at hq; rw [hq]
      generalize hp.getD b Blk.none = q at k hcell ⊢
      cases k with
      | none h h0 => exact .none (by simp [Gh.cut, h]) (by simp [Gh.cut, h0])
      | var cells m cs ty h h0 hh hl hx h1 => exact .var cells m cs ty (by simp [Gh.cut, hb, h]) (by simp [Gh.cut, h0]) hh hl (fun j x v hx' hv => (hx j x v hx' hv).cut (refsLtL_mem (hcell cells rfl) x (List.mem_of_getElem? hx'))) h1
      | bufNil g e hg h0 h hl he => exact .bufNil g e (by simpa [Gh.cut, hb] using hg) h0 (by simp [Gh.cut, h]) hl he
      | buf g e xs m cs hg h0 h hl he hh hk hm hs hr => exact .buf g e xs m cs (by simpa [Gh.cut, hb] using hg) h0 (by simp [Gh.cut, hb, h]) hl he hh hk hm hs hr
      | frzNil g e hg h0 h hl he => exact .frzNil g e (by simpa [Gh.cut, hb] using hg) h0 (by simp [Gh.cut, h]) hl he
      | frz g e xs m cs ty fr hg h0 h hl he hF hh hk hr => exact .frz g e xs m cs ty fr (by simpa [Gh.cut, hb] using hg) h0 (by simp [Gh.cut, hb, h]) hl he hF hh hk hr
      | map k v es m ents clock h h0 hh hl hr => exact .map k v es m ents clock (by simp [Gh.cut, hb, h]) (by simp [Gh.cut, h0]) hh hl hr
    · rw [hi b hb]
      exact .none (by simp [Gh.cut, hb]) (by simp [Gh.cut, hb])
  · by_cases hb : b < n
    · by_cases hb' : b' < n
      · rw [lo b hb] at a; rw [lo b' hb'] at a'
        exact h.inj b b' m a a' (by simpa [Gh.cut, hb] using e) (by simpa [Gh.cut, hb'] using e')
      · rw [hi b' hb'] at a'; cases a'
    · rw [hi b hb] at a; cases a
  · by_cases hb : b < n
    · rw [lo b hb] at a
      exact h.sep b m a (by simpa [Gh.cut, hb] using e) hf
    · rw [hi b hb] at a; cases a

/-- What lay in a heap that is as long as n at most is not touched by the cut. -/
theorem Evo.cut {G0 G : Gh} {hp0 hp : List Blk} {w0 w : World} (h0 : HRel T G0 hp0 w0) (ev : Evo G0 hp0 w0 G hp w) {n : Nat} (hn : hp0.length ≤ n) : Evo G0 hp0 w0 (G.cut n) (hp.take n) w := by
  have un : ∀ b, ¬ b < n → G0.ι b = none ∧ G0.γ b = 0 := fun b hb => h0.unborn (getD_len (by omega))
  refine ⟨ev.os, ev.tape, ev.output, ev.size, ev.keep, ev.fnew, fun m ho => ?_, ev.ext.F, fun b => ?_, fun b hz hi => ?_, fun b he hi => ?_⟩
  · obtain ⟨b, a, e⟩ := ho
    by_cases hb : b < n
    · refine ev.own m ⟨b, ?_, by simpa [Gh.cut, hb] using e⟩
      simpa [List.getD, List.getElem?_take, hb] using a
    · simp [Gh.cut, hb] at e
  · by_cases hb : b < n
    · simpa [Gh.cut, hb] using ev.ext.le b
    · rw [(un b hb).2]; exact Nat.zero_le _
  · by_cases hb : b < n
    · simpa [Gh.cut, hb] using ev.ext.zero b hz hi
    · simp [Gh.cut, hb]
  · by_cases hb : b < n
    · simpa [Gh.cut, hb] using ev.ext.same b (by simpa [Gh.cut, hb] using he) hi
    · rcases hi with hi | hi
      · exact absurd (un b hb).1 hi
      · have := (un b hb).2; omega

/-- The slots ks and the first n blocks. -/
def pickS (sl : List (Nat × PV)) : List Nat → List (Nat × PV)
  | [] => []
  | k :: ks => (k, get sl k) :: pickS sl ks

theorem pickS_get (sl : List (Nat × PV)) : ∀ (ks : List Nat) (k : Nat), get (pickS sl ks) k = get sl k ∨ get (pickS sl ks) k = .u
  | [], k => .inr rfl
  | q :: ks, k => by
    simp only [pickS, get_cons]
    by_cases h : q = k
    · subst h; rw [if_pos rfl]; exact .inl rfl
    · rw [if_neg h]; exact pickS_get sl ks k

theorem refsLtS_get {n : Nat} : ∀ {sl : List (Nat × PV)} (k : Nat), refsLtS n sl = true → refsLt n (get sl k) = true
  | [], k, _ => rfl
  | (q, p) :: r, k, h => by
    simp only [refsLtS, Bool.and_eq_true] at h
    rw [get_cons]
    by_cases hk : q = k
    · rw [if_pos hk]; exact h.1
    · rw [if_neg hk]; exact refsLtS_get k h.2

theorem SRel.trim {nt : Nat} {G : Gh} {st : St} {a : Act} {w : World} (h : SRel T nt G st a w) (ks : List Nat) {n : Nat} (h1 : refsLtS n (pickS st.sl ks) = true) (h2 : refsLtB n (st.hp.take n) = true) :
    SRel T nt (G.cut n) ⟨pickS st.sl ks, st.hp.take n⟩ a w := by
  refine ⟨h.n, fun k => ?_, h.df, h.hp.cut h2⟩
  have hr := refsLtS_get k h1
  rcases pickS_get st.sl ks k with e | e
  · show PRel T (G.cut n) w (get (pickS st.sl ks) k) _
    rw [e] at hr ⊢
    exact (h.sl k).cut hr
  · show PRel T (G.cut n) w (get (pickS st.sl ks) k) _
    rw [e]; exact .u _

end Go.Abs
/- Each operation comes to one value: what holds of it holds at that value. -/
namespace Go.Abs
open Go.RowKit

variable {T : TT}

/-- K is asked of one value alone. -/
def Det {α : Type} (W : (α → Prop) → Prop) : Prop := ∀ K, W K → ∃ x, (∀ K', K' x → W K') ∧ K x
def Det2 {α β : Type} (W : (α → β → Prop) → Prop) : Prop := ∀ K, W K → ∃ x y, (∀ K', K' x y → W K') ∧ K x y

theorem Det.const {α : Type} (x : α) : Det fun K => K x := fun _ h => ⟨x, fun _ h => h, h⟩
theorem Det.no {α : Type} : Det fun (_ : α → Prop) => False := fun _ h => h.elim
theorem Det.and {α : Type} {c : Prop} {W : (α → Prop) → Prop} (h : Det W) : Det fun K => c ∧ W K := fun K ⟨hc, hw⟩ => let ⟨x, h1, h2⟩ := h K hw; ⟨x, fun K' hk => ⟨hc, h1 K' hk⟩, h2⟩
theorem Det.cond {α : Type} {b : Bool} {W V : (α → Prop) → Prop} (h : b = true → Det W) (k : b = false → Det V) : Det fun K => bif b then W K else V K := by
  cases b
  · exact k rfl
  · exact h rfl
theorem Det2.const {α β : Type} (x : α) (y : β) : Det2 fun K => K x y := fun _ h => ⟨x, y, fun _ h => h, h⟩
theorem Det2.no {α β : Type} : Det2 fun (_ : α → β → Prop) => False := fun _ h => h.elim
theorem Det2.and {α β : Type} {c : Prop} {W : (α → β → Prop) → Prop} (h : Det2 W) : Det2 fun K => c ∧ W K := fun K ⟨hc, hw⟩ => let ⟨x, y, h1, h2⟩ := h K hw; ⟨x, y, fun K' hk => ⟨hc, h1 K' hk⟩, h2⟩
theorem Det2.cond {α β : Type} {b : Bool} {W V : (α → β → Prop) → Prop} (h : b = true → Det2 W) (k : b = false → Det2 V) : Det2 fun K => bif b then W K else V K := by
  cases b
  · exact k rfl
  · exact h rfl
theorem Det.two {α β : Type} {W : (α → Prop) → Prop} (h : Det W) (f : α → β) : Det fun K => W fun x => K (f x) := fun K hw => let ⟨x, h1, h2⟩ := h _ hw; ⟨f x, fun _ hk => h1 _ hk, h2⟩
theorem Det.to2 {α β : Type} {W : (α → Prop) → Prop} (h : Det W) (y : β) : Det2 fun K => W fun x => K x y := fun K hw => let ⟨x, h1, h2⟩ := h _ hw; ⟨x, y, fun _ hk => h1 _ hk, h2⟩

theorem pickW_det (c a b : PV) : Det (pickW c a b) := by
  unfold pickW
  split
  · exact Det.const _
  · rename_i x
    split
    · exact Det.const _
    · intro K h
      cases x
      · exact ⟨b, fun K' hk => ⟨fun e => by simp at e, fun _ => hk⟩, h.2 rfl⟩
      · exact ⟨a, fun K' hk => ⟨fun _ => hk, fun e => by simp at e⟩, h.1 rfl⟩
  · exact Det.no

theorem intW_det (op : BinOp) (k : IntKind) (a b : Int) : Det (intW op k a b) := by
  cases op <;> unfold intW <;> first | exact Det.const _ | exact Det.and (Det.const _) | exact Det.no
theorem shiftW_det (op : BinOp) (k : IntKind) (a b : Int) : Det (shiftW op k a b) := by
  cases op <;> unfold shiftW <;> first | exact Det.and (Det.const _) | exact Det.no
theorem strW_det (op : BinOp) (a b : ByteArray) : Det (strW op a b) := by
  cases op <;> unfold strW <;> first | exact Det.const _ | exact Det.and (Det.const _) | exact Det.no

theorem binW_det (op : BinOp) (t : TypeId) (x y : PV) : Det (binW T op t x y) := by
  unfold binW
  split
  · refine Det.cond (fun _ => (shiftW_det _ _ _ _).two PV.d) (fun _ => ?_)
    split
    · exact (intW_det _ _ _ _).two PV.d
    · exact Det.no
  · exact (strW_det _ _ _).two PV.d
  · split
    · refine Det.cond (fun _ => ?_) (fun _ => Det.no)
      split
      · exact Det.const _
      · exact Det.const _
      · exact Det.no
    · exact Det.no
  · split
    · split
      · split
        · exact Det.const _
        · exact Det.const _
        · exact Det.no
      · exact Det.no
    · exact Det.no

theorem unW_det (op : UnOp) (x : PV) : Det (unW op x) := by
  unfold unW
  split <;> (try split) <;> first | exact Det.const _ | exact Det.no

theorem convW_det (s t : TypeId) (x : PV) : Det (convW T s t x) := by
  unfold convW
  split <;> (try split) <;> first | exact Det.const _ | exact Det.no

theorem fieldAtW_det (s : TypeId) (x : PV) (f : Nat) (hp : List Blk) : Det (fieldAtW T s x f hp) := by
  unfold fieldAtW
  split
  · split
    · split
      · split
        · refine Det.cond (fun _ => Det.no) (fun _ => ?_)
          split <;> first | exact Det.const _ | exact Det.and (Det.const _) | exact Det.no
        · exact Det.no
      · exact Det.no
    · exact Det.no
  · exact Det.no

theorem fieldW_det (s : TypeId) (x : PV) (f : Nat) : Det (fieldW T s x f) := by
  unfold fieldW
  split
  · split
    · split
      · split
        · split
          · exact Det.cond (fun _ => Det.const _) (fun _ => Det.no)
          · exact Det.no
        · exact Det.no
      · exact Det.no
    · exact Det.no
  · exact Det.no

theorem extractW_det (x : PV) (i : Nat) : Det (extractW x i) := by
  unfold extractW
  split
  · split <;> first | exact Det.const _ | exact Det.no
  · exact Det.no

theorem rdW_det (i : TI) (e : TypeId) (x : D) (o : Nat) : Det (rdW T i e x o) := by
  unfold rdW
  split
  · exact Det.cond (fun _ => Det.const _) (fun _ => Det.no)
  · exact Det.no

theorem loadW_det (t : TypeId) (p : PV) (hp : List Blk) : Det (loadW T t p hp) := by
  unfold loadW
  split
  · exact Det.no
  · split
    · split
      · exact Det.cond (fun _ => Det.const _) (fun _ => Det.no)
      · exact Det.no
    · exact rdW_det _ _ _ _
    · split
      · exact Det.and (rdW_det _ _ _ _)
      · exact Det.and (rdW_det _ _ _ _)
      · exact Det.no
    · exact Det.no

theorem nowA_det {α : Type} (hp : List Blk) (W : (α → Prop) → Prop) (h : Det W) : ∀ ps, Det fun K => nowA hp ps (W K)
  | [] => h
  | p :: ps => by
    have ih := nowA_det hp W h ps
    cases p <;> first
      | exact ih
      | exact Det.and ih

theorem storeW_det (t : TypeId) (pa px : PV) (hp : List Blk) : Det (storeW T t pa px hp) := by
  unfold storeW
  split
  · exact Det.no
  · split
    · split
      · exact Det.cond (fun _ => nowA_det hp _ (Det.const _) _) (fun _ => Det.no)
      · exact Det.no
    · split
      · split
        · refine Det.cond (fun _ => ?_) (fun _ => Det.no)
          split
          · exact Det.and (Det.const _)
          · exact Det.no
        · exact Det.no
      · exact Det.no
    · exact Det.no

theorem indexAtW_det (t : TypeId) (x i : PV) (hp : List Blk) : Det (indexAtW T t x i hp) := by
  unfold indexAtW
  split
  · split
    · split
      · exact Det.cond (fun _ => Det.and (Det.const _)) (fun _ => Det.no)
      · split
        · exact Det.cond (fun _ => Det.and (Det.and (Det.const _))) (fun _ => Det.no)
        · exact Det.cond (fun _ => Det.and (Det.and (Det.const _))) (fun _ => Det.no)
        · exact Det.no
      · exact Det.no
    · exact Det.no
  · exact Det.no

theorem indexW_det (t : TypeId) (x i : PV) : Det (indexW T t x i) := by
  unfold indexW
  split
  · split
    · exact Det.and (Det.const _)
    · exact Det.no
  · exact Det.no

theorem lenW_det (t : TypeId) (x : PV) (hp : List Blk) : Det (lenW T t x hp) := by
  unfold lenW
  split
  · split <;> first | exact Det.const _ | exact Det.and (Det.const _) | exact Det.no
  · exact Det.no

theorem foldW_det (pick : Int → Int → Int) : ∀ (ps : List PV) (p : PV), Det (foldW pick p ps)
  | [], p => by
    intro K h
    unfold foldW at h
    split at h
    · exact ⟨_, fun K' hk => by unfold foldW; exact hk, h⟩
    · rename_i heq; cases heq
    · exact h.elim
  | q :: ps, p => by
    intro K h
    unfold foldW at h
    split at h
    · rename_i heq; cases heq
    · rename_i heq; cases heq
      obtain ⟨x, h1, h2⟩ := foldW_det pick _ _ _ h
      exact ⟨x, fun K' hk => by unfold foldW; exact h1 K' hk, h2⟩
    · exact h.elim

theorem bndW_det {α : Type} (x : Option PV) (n : Int) (W : Int → (α → Prop) → Prop) (h : ∀ i, Det (W i)) : Det fun K => bndW x n fun i => W i K := by
  unfold bndW
  split
  · exact h _
  · exact h _
  · exact Det.no

theorem sliceW_det (t : TypeId) (x : PV) (lo hi : Option PV) (hp : List Blk) : Det (sliceW T t x lo hi hp) := by
  unfold sliceW
  split
  · split
    · exact bndW_det _ _ _ fun _ => bndW_det _ _ _ fun _ => Det.and (Det.const _)
    · exact Det.cond (fun _ => bndW_det _ _ _ fun _ => bndW_det _ _ _ fun _ => Det.and (Det.const _)) (fun _ => Det.no)
    · split
      · exact Det.cond (fun _ => Det.and (bndW_det _ _ _ fun _ => Det.and (Det.const _))) (fun _ => Det.no)
      · split
        · exact Det.cond (fun _ => Det.and (bndW_det _ _ _ fun _ => bndW_det _ _ _ fun _ => Det.and (Det.const _))) (fun _ => Det.no)
        · exact Det.cond (fun _ => Det.and (bndW_det _ _ _ fun _ => bndW_det _ _ _ fun _ => Det.and (Det.const _))) (fun _ => Det.no)
        · exact Det.no
    · exact Det.no
  · exact Det.no

theorem nowAll_det {α : Type} (hp : List Blk) (W : (α → Prop) → Prop) (h : Det W) : ∀ ps, Det fun K => nowAll hp ps (W K)
  | [] => h
  | (i, p) :: ps => nowA_det hp _ (nowAll_det hp W h ps) _

theorem buildW_det (t : TypeId) (parts : List (Nat × PV)) (hp : List Blk) : Det (buildW T t parts hp) := by
  unfold buildW
  split
  · split
    · refine Det.cond (fun _ => ?_) (fun _ => Det.no)
      split
      · exact nowAll_det hp _ (Det.const _) _
      · exact Det.no
    · exact Det.no
  · exact Det.no

theorem toD1W_det (k : LK) (p : PV) (hp : List Blk) : Det2 (toD1W k p hp) := by
  unfold toD1W
  split
  · exact Det2.const _ _
  · split
    · split
      · exact Det2.cond (fun _ => Det2.and (Det2.const _ _)) (fun _ => Det2.no)
      · exact Det2.cond (fun _ => Det2.and (Det2.const _ _)) (fun _ => Det2.no)
      · exact Det2.no
    · exact Det2.no

theorem Det2.bind {α β γ δ : Type} {W : (α → β → Prop) → Prop} (h : Det2 W) {V : α → β → (γ → δ → Prop) → Prop} (k : ∀ x y, Det2 (V x y)) : Det2 fun K => W fun x y => V x y K := by
  intro K hw
  obtain ⟨x, y, h1, h2⟩ := h _ hw
  obtain ⟨u, v, k1, k2⟩ := k x y K h2
  exact ⟨u, v, fun K' hk => h1 _ (k1 K' hk), k2⟩

theorem toDsW_det : ∀ (ks : List LK) (ps : List PV) (hp : List Blk), Det2 (toDsW ks ps hp)
  | [], [], hp => by show Det2 fun K => toDsW [] [] hp K; unfold toDsW; exact Det2.const _ _
  | k :: ks, p :: ps, hp => by
    show Det2 fun K => toDsW (k :: ks) (p :: ps) hp K
    unfold toDsW
    refine (toD1W_det k p hp).bind fun y hp' => ?_
    intro K h
    obtain ⟨u, v, k1, k2⟩ := toDsW_det ks ps hp' _ h
    exact ⟨y :: u, v, fun K' hk => k1 _ hk, k2⟩
  | [], q :: r, hp => by show Det2 fun K => toDsW [] (q :: r) hp K; unfold toDsW; exact Det2.no
  | q :: r, [], hp => by show Det2 fun K => toDsW (q :: r) [] hp K; unfold toDsW; exact Det2.no

theorem valDW_det (i : TI) (p : PV) (hp : List Blk) : Det2 (valDW i p hp) := by
  unfold valDW
  refine Det2.cond (fun _ => ?_) (fun _ => Det2.no)
  intro K h
  obtain ⟨u, v, k1, k2⟩ := toDsW_det _ _ _ _ h
  exact ⟨_, v, fun K' hk => k1 _ hk, k2⟩

theorem fillDW_det (i : TI) (n : Nat) : ∀ (parts : List (Nat × PV)) (xs : List D) (hp : List Blk), Det2 (fillDW i n parts xs hp)
  | [], xs, hp => by show Det2 fun K => fillDW i n [] xs hp K; unfold fillDW; exact Det2.const _ _
  | (ix, p) :: r, xs, hp => by
    show Det2 fun K => fillDW i n ((ix, p) :: r) xs hp K
    unfold fillDW
    exact Det2.cond (fun _ => (valDW_det i p hp).bind fun d hp' => fillDW_det i n r _ hp') (fun _ => Det2.no)

theorem buildSliceW_det (t : TypeId) (n : Nat) (parts : List (Nat × PV)) (hp : List Blk) (fr : Nat) : Det2 (buildSliceW T t n parts hp fr) := by
  unfold buildSliceW
  split
  · split
    · split
      · exact Det2.cond (fun _ => (fillDW_det _ _ _ _ _).bind fun xs hp' => Det2.const _ _) (fun _ => Det2.no)
      · exact Det2.no
    · exact Det2.no
  · exact Det2.no

theorem srcW_det {α β : Type} (e : TypeId) (p : PV) (hp : List Blk) (av : Option Nat) (W : List D → (α → β → Prop) → Prop) (h : ∀ ys, Det2 (W ys)) : Det2 fun K => srcW e p hp av fun ys => W ys K := by
  unfold srcW
  split
  · exact Det2.cond (fun _ => h _) (fun _ => Det2.no)
  · exact h _
  · refine Det2.cond (fun _ => Det2.no) (fun _ => ?_)
    split
    · exact Det2.cond (fun _ => Det2.and (h _)) (fun _ => Det2.no)
    · exact Det2.cond (fun _ => Det2.and (h _)) (fun _ => Det2.no)
    · exact Det2.no
  · refine Det2.cond (fun _ => Det2.no) (fun _ => ?_)
    split
    · exact Det2.cond (fun _ => Det2.and (h _)) (fun _ => Det2.no)
    · exact Det2.cond (fun _ => Det2.and (h _)) (fun _ => Det2.no)
    · exact Det2.no
  · exact Det2.no

theorem appW_det (t t2 : TypeId) (px py : PV) (hp : List Blk) (fr : Nat) : Det2 (appW T t t2 px py hp fr) := by
  unfold appW
  refine Det2.cond (fun _ => ?_) (fun _ => Det2.no)
  split
  · split
    · split
      · refine Det2.cond (fun _ => ?_) (fun _ => Det2.no)
        split
        · exact srcW_det _ _ _ _ _ fun _ => Det2.and (Det2.const _ _)
        · split
          · exact Det2.cond (fun _ => srcW_det _ _ _ _ _ fun _ => Det2.and (Det2.const _ _)) (fun _ => Det2.no)
          · exact Det2.no
        · exact Det2.no
      · exact Det2.no
    · exact Det2.no
  · exact Det2.no

theorem nowA_det2 {α β : Type} (hp : List Blk) (W : (α → β → Prop) → Prop) (h : Det2 W) : ∀ ps, Det2 fun K => nowA hp ps (W K)
  | [] => h
  | p :: ps => by
    have ih := nowA_det2 hp W h ps
    cases p <;> first
      | exact ih
      | exact Det2.and ih

theorem stW_det (t : TypeId) (pa px : PV) (hp : List Blk) : Det (stW T t pa px hp) := by
  unfold stW
  split
  · split
    · rename_i i hi
      cases isSt px == i.desc.agg with
      | false => exact Det.no
      | true =>
        intro K h
        obtain ⟨ys, hp', h1, h2⟩ := toDsW_det _ _ _ _ h
        obtain ⟨x, k1, k2⟩ := storeW_det _ _ _ _ _ h2
        exact ⟨x, fun K' hk => h1 _ (k1 K' hk), k2⟩
    · exact Det.no
  · exact storeW_det _ _ _ _

theorem copyW_det (t : TypeId) (px py : PV) (hp : List Blk) : Det2 (copyW T t px py hp) := by
  unfold copyW
  split
  · split
    · split
      · split
        · exact Det2.cond (fun _ => srcW_det _ _ _ _ _ fun ys => Det2.and (Det2.const _ _)) (fun _ => Det2.no)
        · exact Det2.no
      · exact Det2.no
    · exact Det2.no
  · exact Det2.no

theorem makeSliceW_det (t : TypeId) (pn pc : PV) (hp : List Blk) (fr : Nat) : Det2 (makeSliceW T t pn pc hp fr) := by
  unfold makeSliceW
  split
  · split
    · split
      · refine Det2.cond (fun _ => ?_) (fun _ => Det2.no)
        split
        · exact Det2.and (Det2.const _ _)
        · exact Det2.no
      · exact Det2.no
    · exact Det2.no
  · exact Det2.no

theorem atMapW_det {α β : Type} (t : TypeId) (x ix : PV) (hp : List Blk) (W : Nat → TypeId → TypeId → LK → List (D × D) → D → List Blk → (α → β → Prop) → Prop) (h : ∀ b k v lv es key hp', Det2 (W b k v lv es key hp')) : Det2 fun K => atMapW T t x ix hp fun b k v lv es key hp' => W b k v lv es key hp' K := by
  unfold atMapW
  split
  · split
    · split
      · split
        · refine Det2.cond (fun _ => (valDW_det _ _ _).bind fun key hp' => ?_) (fun _ => Det2.no)
          split
          · exact Det2.cond (fun _ => h _ _ _ _ _ _ _) (fun _ => Det2.no)
          · exact Det2.no
        · exact Det2.no
      · exact Det2.no
    · exact Det2.no
  · exact Det2.no

theorem opX_det (op : Op) (sl : List (Nat × PV)) (hp : List Blk) (fr : Nat) : Det2 (opX T op sl hp fr) := by
  unfold opX
  split
  · exact atMapW_det _ _ _ _ (fun b k v lv es key hp' (K : PV → List Blk → Prop) => _) fun _ _ _ _ _ _ _ => Det2.cond (fun _ => Det2.const _ _) (fun _ => Det2.const _ _)
  · refine atMapW_det _ _ _ _ (fun b k v lv es key hp' (K : PV → List Blk → Prop) => match leafD lv _ with | some y => K (.c undef) (hput hp' b (.map k v (mapSet es key y))) | none => False) fun _ _ _ lv _ _ _ => ?_
    split
    · exact Det2.const _ _
    · exact Det2.no
  · exact atMapW_det _ _ _ _ (fun b k v lv es key hp' (K : PV → List Blk → Prop) => _) fun _ _ _ _ _ _ _ => Det2.const _ _
  · unfold entryStoreW
    split
    · split
      · split
        · split
          · split
            · exact Det2.cond (fun _ => Det2.no) (fun _ => Det2.and (Det2.const _ _))
            · exact Det2.no
          · exact Det2.no
        · exact Det2.no
      · exact Det2.no
    · exact Det2.no
  · split
    · split
      · exact Det2.const _ _
      · exact Det2.no
    · exact Det2.no
  · exact makeSliceW_det _ _ _ _ _
  · exact Det2.no

theorem opW_det (op : Op) (sl : List (Nat × PV)) (hp : List Blk) (fr : Nat) : Det2 (opW T op sl hp fr) := by
  unfold opW
  split
  · exact Det2.const _ _
  · exact Det2.const _ _
  · exact (pickW_det _ _ _).to2 _
  · split <;> first | exact Det2.const _ _ | exact Det2.and (Det2.const _ _) | exact Det2.no
  · exact Det2.cond (fun _ => nowA_det2 _ _ (Det2.const _ _) _) (fun _ => Det2.no)
  · exact (buildW_det _ _ _).to2 _
  · exact buildSliceW_det _ _ _ _ _
  · exact (loadW_det _ _ _).to2 _
  · intro K h
    obtain ⟨x, h1, h2⟩ := stW_det (T := T) _ _ _ _ _ h
    exact ⟨_, x, fun K' hk => h1 _ hk, h2⟩
  · split <;> first | exact Det2.const _ _ | exact Det2.and (Det2.const _ _) | exact Det2.no
  · exact (binW_det _ _ _ _).to2 _
  · exact (unW_det _ _).to2 _
  · exact (convW_det _ _ _).to2 _
  · split <;> first | exact Det2.const _ _ | exact Det2.and (Det2.const _ _) | exact Det2.no
  · split
    · exact (sliceW_det _ _ _ _ _).to2 _
    · exact Det2.no
  · exact (fieldAtW_det _ _ _ _).to2 _
  · exact (fieldW_det _ _ _).to2 _
  · exact (indexAtW_det _ _ _ _).to2 _
  · exact (indexW_det _ _ _).to2 _
  · exact (extractW_det _ _).to2 _
  · split
    · split
      · exact (lenW_det _ _ _).to2 _
      · exact (foldW_det _ _ _).to2 _
      · exact (foldW_det _ _ _).to2 _
      · exact appW_det _ _ _ _ _ _
      · exact copyW_det _ _ _ _
      · exact Det2.no
    · exact Det2.no
  · exact opX_det _ _ _ _

theorem argsW_det : ∀ (ms : List Md) (ts : List TypeId) (ps : List PV) (hp : List Blk), Det2 (argsW T ms ts ps hp)
  | .d :: ms, t :: ts, p :: ps, hp => by
    show Det2 fun K => argsW T (.d :: ms) (t :: ts) (p :: ps) hp K
    unfold argsW
    split
    · refine Det2.cond (fun _ => (toDsW_det _ _ _).bind fun ys hp' => ?_) (fun _ => Det2.no)
      intro K h
      obtain ⟨u, v, k1, k2⟩ := argsW_det ms ts ps hp' _ h
      exact ⟨_, v, fun K' hk => k1 _ hk, k2⟩
    · exact Det2.no
  | .r :: ms, t :: ts, p :: ps, hp => by
    show Det2 fun K => argsW T (.r :: ms) (t :: ts) (p :: ps) hp K
    unfold argsW
    intro K h
    obtain ⟨u, v, k1, k2⟩ := argsW_det ms ts ps hp _ h
    exact ⟨_, v, fun K' hk => k1 _ hk, k2⟩
  | [], ts, p :: ps, hp => by
    show Det2 fun K => argsW T [] ts (p :: ps) hp K
    unfold argsW
    intro K h
    obtain ⟨u, v, k1, k2⟩ := argsW_det [] ts ps hp _ h
    exact ⟨_, v, fun K' hk => k1 _ hk, k2⟩
  | [], ts, [], hp => by show Det2 fun K => argsW T [] ts [] hp K; unfold argsW; exact Det2.const _ _
  | .d :: a, [], [], hp => by show Det2 fun K => argsW T (.d :: a) [] [] hp K; unfold argsW; exact Det2.const _ _
  | .r :: a, [], [], hp => by show Det2 fun K => argsW T (.r :: a) [] [] hp K; unfold argsW; exact Det2.const _ _
  | .d :: a, b :: c, [], hp => by show Det2 fun K => argsW T (.d :: a) (b :: c) [] hp K; unfold argsW; exact Det2.const _ _
  | .r :: a, b :: c, [], hp => by show Det2 fun K => argsW T (.r :: a) (b :: c) [] hp K; unfold argsW; exact Det2.const _ _
  | .d :: a, [], b :: c, hp => by show Det2 fun K => argsW T (.d :: a) [] (b :: c) hp K; unfold argsW; exact Det2.no
  | .r :: a, [], b :: c, hp => by show Det2 fun K => argsW T (.r :: a) [] (b :: c) hp K; unfold argsW; exact Det2.no

theorem callW_det (P : Program) (sg : Sg) (g : FuncId) (args : List PV) (tys : List TypeId) (hp : List Blk) (fr m : Nat) : Det2 (callW P T sg g args tys hp fr m) := by
  unfold callW
  refine (argsW_det _ _ _ _).bind fun qs hp1 => ?_
  generalize reach hp1 200 (refs qs) [] = ids
  split
  · refine Det2.cond (fun _ => ?_) (fun _ => Det2.no)
    intro K h
    obtain ⟨res, sub', hc, h, hd⟩ := calleeW_ex h
    cases hb : (Nat.ble _ sub'.length && Nat.ble (sub'.length - _) m) with
    | false => rw [hb] at h; exact h.elim
    | true =>
      rw [hb] at h
      simp only [cond_true] at h
      split at h
      · rename_i hr hb2
        refine ⟨_, _, fun K' hk => hd _ ?_, h⟩
        rw [hb, hr, hb2]
        exact hk
      · exact h.elim
  · exact Det2.no

theorem execW_det (P : Program) (sg : Sg) (nt : Nat) (o : Oper) (st : St) (fr m : Nat) : Det (execW P T sg nt o st fr m) := by
  have fin : ∀ {W : (PV → List Blk → Prop) → Prop}, Det2 W → Det fun (K : St → Prop) => W fun p hp' => K ⟨putP st.sl o.dst p, hp'⟩ := by
    intro W h K hw
    obtain ⟨x, y, h1, h2⟩ := h _ hw
    exact ⟨_, fun K' hk => h1 _ hk, h2⟩
  unfold execW
  refine Det.cond (fun _ => ?_) (fun _ => Det.no)
  split
  · split
    · split
      · exact fin (callW_det _ _ _ _ _ _ _ _)
      · exact Det.no
    · exact Det.cond (fun _ => fin (opW_det _ _ _ _)) (fun _ => Det.no)
  · exact Det.cond (fun _ => fin (opW_det _ _ _ _)) (fun _ => Det.no)

end Go.Abs
/- A part of the heap, under its own names; the rest is left alone. -/
namespace Go.Abs
open Go.RowKit

variable {T : TT}

mutual
def refsIn (ids : List Nat) : PV → Bool
  | .ptr b _ => memB ids b
  | .el b _ _ _ => memB ids b
  | .sl b _ _ => memB ids b
  | .sv b _ _ _ => memB ids b
  | .mp b => memB ids b
  | .st xs => refsInL ids xs
  | .tup xs => refsInL ids xs
  | .fn _ xs => refsInL ids xs
  | _ => true
def refsInL (ids : List Nat) : List PV → Bool
  | [] => true
  | p :: ps => refsIn ids p && refsInL ids ps
end

theorem refsInL_mem {ids : List Nat} : ∀ {ps : List PV}, refsInL ids ps = true → ∀ p ∈ ps, refsIn ids p = true
  | [], _ => by simp
  | p :: ps, h => by
    simp only [refsInL, Bool.and_eq_true] at h
    intro q hq
    rcases List.mem_cons.1 hq with rfl | hq
    · exact h.1
    · exact refsInL_mem h.2 q hq

def Gh.keep (G : Gh) (ids : List Nat) : Gh where
  F := G.F
  ι := fun b => if b ∈ ids then G.ι b else none
  γ := fun b => if b ∈ ids then G.γ b else 0
  κ := G.κ
  et := G.et
  len := G.len

theorem PRel.keep {G : Gh} {w : World} {ids : List Nat} {p : PV} {v : Value} (h : PRel T G w p v) : refsIn ids p = true → PRel T (G.keep ids) w p v := by
  induction h with
  | kb c => intro _; exact .kb c
  | d x v h => intro _; exact .d x v h
  | c v => intro _; exact PRel.c v
  | st xs vs hl _ h1 ih => intro e; exact .st xs vs hl (fun j x v hx hv => ih j x v hx hv (refsInL_mem (by simpa [refsIn] using e) x (List.mem_of_getElem? hx))) h1
  | tup xs vs hl _ ih => intro e; exact .tup xs vs hl (fun j x v hx hv => ih j x v hx hv (refsInL_mem (by simpa [refsIn] using e) x (List.mem_of_getElem? hx)))
  | ptr b off m h h0 => intro e; have := memB_iff.1 (by simpa [refsIn] using e : memB ids b = true); exact .ptr b off m (by simp [Gh.keep, this, h]) (by simp [Gh.keep, this, h0])
  | elOld b g i off v h => intro e; have := memB_iff.1 (by simpa [refsIn] using e : memB ids b = true); exact .elOld b g i off v (by simpa [Gh.keep, this] using h)
  | el b g i off m hg h0 h hi => intro e; have := memB_iff.1 (by simpa [refsIn] using e : memB ids b = true); exact .el b g i off m (by simpa [Gh.keep, this] using hg) h0 (by simpa [Gh.keep, this] using h) hi
  | rp e x off bl o cs ty fr hF hh hT hc => intro _; exact .rp e x off bl o cs ty fr hF hh hT hc
  | slOld b g m v h => intro e; have := memB_iff.1 (by simpa [refsIn] using e : memB ids b = true); exact .slOld b g m v (by simpa [Gh.keep, this] using h)
  | slNil b g hg h0 h => intro e; have := memB_iff.1 (by simpa [refsIn] using e : memB ids b = true); exact .slNil b g (by simpa [Gh.keep, this] using hg) h0 (by simpa [Gh.keep, this] using h)
  | sl b g m q hg h0 h hn => intro e; have := memB_iff.1 (by simpa [refsIn] using e : memB ids b = true); exact .sl b g m q (by simpa [Gh.keep, this] using hg) h0 (by simpa [Gh.keep, this] using h) hn
  | svOld b g o m v h => intro e; have := memB_iff.1 (by simpa [refsIn] using e : memB ids b = true); exact .svOld b g o m v (by simpa [Gh.keep, this] using h)
  | svZ b g o a cap hg h0 => intro e; have := memB_iff.1 (by simpa [refsIn] using e : memB ids b = true); exact .svZ b g o a cap (by simpa [Gh.keep, this] using hg) h0
  | sv b g o m q hg h0 h hn => intro e; have := memB_iff.1 (by simpa [refsIn] using e : memB ids b = true); exact .sv b g o m q (by simpa [Gh.keep, this] using hg) h0 (by simpa [Gh.keep, this] using h) hn
  | mp b m h h0 => intro e; have := memB_iff.1 (by simpa [refsIn] using e : memB ids b = true); exact .mp b m (by simp [Gh.keep, this, h]) (by simp [Gh.keep, this, h0])
  | fn f caps vs hl _ ih => intro e; exact .fn f caps vs hl (fun j x v hx hv => ih j x v hx hv (refsInL_mem (by simpa [refsIn] using e) x (List.mem_of_getElem? hx)))
  | u v => intro _; exact .u v

/-- The blocks of ids alone; k: the first block's number. -/
def keepH (ids : List Nat) : Nat → List Blk → List Blk
  | _, [] => []
  | k, x :: r => (bif memB ids k then x else .none) :: keepH ids (k + 1) r

theorem keepH_get (ids : List Nat) : ∀ (hp : List Blk) (k b : Nat), (keepH ids k hp).getD b Blk.none = if k + b ∈ ids then hp.getD b Blk.none else Blk.none
  | [], k, b => by simp [keepH]
  | x :: r, k, 0 => by
    simp only [keepH, List.getD_cons_zero, Nat.add_zero]
    cases h : memB ids k with
    | true => rw [if_pos (memB_iff.1 h)]; rfl
    | false => rw [if_neg (fun hm => by rw [memB_iff.2 hm] at h; cases h)]; rfl
  | x :: r, k, b + 1 => by
    simp only [keepH, List.getD_cons_succ]
    rw [keepH_get ids r (k + 1) b, show k + 1 + b = k + (b + 1) by omega]

/-- All that the blocks of hp lead to lies in ids. -/
def closedH (ids : List Nat) : List Blk → Bool
  | [] => true
  | .var cs :: r => refsInL ids cs && closedH ids r
  | _ :: r => closedH ids r

theorem closedH_get {ids : List Nat} : ∀ {hp : List Blk} {b : Nat} {cs : List PV}, closedH ids hp = true → hp.getD b Blk.none = .var cs → refsInL ids cs = true
  | [], b, cs, _, h => by simp at h
  | k :: r, 0, cs, hc, h => by
    simp at h; subst h
    simp only [closedH, Bool.and_eq_true] at hc; exact hc.1
  | k :: r, b + 1, cs, hc, h => by
    have hr : closedH ids r = true := by
      cases k <;> first | exact hc | (simp only [closedH, Bool.and_eq_true] at hc; exact hc.2)
    exact closedH_get hr (by simpa using h)

theorem closed_of {ids : List Nat} {hp : List Blk} (hc : closedH ids (keepH ids 0 hp) = true) : ∀ b cs, b ∈ ids → hp.getD b Blk.none = .var cs → refsInL ids cs = true := fun b cs hb h => closedH_get hc (by rw [keepH_get, Nat.zero_add, if_pos hb]; exact h)

theorem HRel.keep {G : Gh} {hp : List Blk} {w : World} (h : HRel T G hp w) {ids : List Nat} (hc : ∀ b cs, b ∈ ids → hp.getD b Blk.none = .var cs → refsInL ids cs = true) : HRel T (G.keep ids) (keepH ids 0 hp) w := by
  have lo : ∀ b, b ∈ ids → (keepH ids 0 hp).getD b Blk.none = hp.getD b Blk.none := by
    intro b hb; rw [keepH_get, Nat.zero_add, if_pos hb]
  have hi : ∀ b, b ∉ ids → (keepH ids 0 hp).getD b Blk.none = Blk.none := by
    intro b hb; rw [keepH_get, Nat.zero_add, if_neg hb]
  refine ⟨fun b => ?_, fun b b' m a a' e e' => ?_, fun b m a e hf => ?_, h.lt⟩
  · by_cases hb : b ∈ ids
    · have hcell : ∀ cs, hp.getD b Blk.none = .var cs → refsInL ids cs = true := fun cs hq => hc b cs hb hq
      rw [lo b hb]
      have k := h.blk b
      generalize hp.getD b Blk.none = q at k hcell ⊢
      cases k with
      | none h h0 => exact .none (by simp [Gh.keep, h]) (by simp [Gh.keep, h0])
      | var cells m cs ty h h0 hh hl hx h1 => exact .var cells m cs ty (by simp [Gh.keep, hb, h]) (by simp [Gh.keep, h0]) hh hl (fun j x v hx' hv => (hx j x v hx' hv).keep (refsInL_mem (hcell cells rfl) x (List.mem_of_getElem? hx'))) h1
      | bufNil g e hg h0 h hl he => exact .bufNil g e (by simpa [Gh.keep, hb] using hg) h0 (by simp [Gh.keep, h]) hl he
      | buf g e xs m cs hg h0 h hl he hh hk hm hs hr => exact .buf g e xs m cs (by simpa [Gh.keep, hb] using hg) h0 (by simp [Gh.keep, hb, h]) hl he hh hk hm hs hr
      | frzNil g e hg h0 h hl he => exact .frzNil g e (by simpa [Gh.keep, hb] using hg) h0 (by simp [Gh.keep, h]) hl he
      | frz g e xs m cs ty fr hg h0 h hl he hF hh hk hr => exact .frz g e xs m cs ty fr (by simpa [Gh.keep, hb] using hg) h0 (by simp [Gh.keep, hb, h]) hl he hF hh hk hr
      | map k v es m ents clock h h0 hh hl hr => exact .map k v es m ents clock (by simp [Gh.keep, hb, h]) (by simp [Gh.keep, h0]) hh hl hr
    · rw [hi b hb]
      exact .none (by simp [Gh.keep, hb]) (by simp [Gh.keep, hb])
  · by_cases hb : b ∈ ids
    · by_cases hb' : b' ∈ ids
      · rw [lo b hb] at a; rw [lo b' hb'] at a'
        exact h.inj b b' m a a' (by simpa [Gh.keep, hb] using e) (by simpa [Gh.keep, hb'] using e')
      · rw [hi b' hb'] at a'; cases a'
    · rw [hi b hb] at a; cases a
  · by_cases hb : b ∈ ids
    · rw [lo b hb] at a
      exact h.sep b m a (by simpa [Gh.keep, hb] using e) hf
    · rw [hi b hb] at a; cases a

/-- The ghost state behind an operation on the blocks of S. -/
def Gh.over (G G1 : Gh) (S : Nat → Prop) [DecidablePred S] : Gh where
  F := G1.F
  ι := fun b => if S b then G1.ι b else G.ι b
  γ := fun b => if S b then G1.γ b else G.γ b
  κ := fun b => if S b then G1.κ b else G.κ b
  et := fun b => if S b then G1.et b else G.et b
  len := fun b => if S b then G1.len b else G.len b

theorem PRel.over {G G1 : Gh} {w : World} {S : Nat → Prop} [DecidablePred S] (hS : ∀ b, ¬ S b → G1.ι b = none ∧ G1.γ b = 0) {p : PV} {v : Value} (h : PRel T G1 w p v) : PRel T (G.over G1 S) w p v := by
  induction h with
  | kb c => exact .kb c
  | d x v h => exact .d x v h
  | c v => exact PRel.c v
  | st xs vs hl _ h1 ih => exact .st xs vs hl ih h1
  | tup xs vs hl _ ih => exact .tup xs vs hl ih
  | ptr b off m h h0 =>
    have hb : S b := Classical.byContradiction fun hn => by rw [(hS b hn).1] at h; cases h
    exact .ptr b off m (by simp [Gh.over, hb, h]) (by simp [Gh.over, hb, h0])
  | elOld b g i off v h =>
    have hb : S b := Classical.byContradiction fun hn => by rw [(hS b hn).2] at h; omega
    exact .elOld b g i off v (by simpa [Gh.over, hb] using h)
  | el b g i off m hg h0 h hi =>
    have hb : S b := Classical.byContradiction fun hn => by rw [(hS b hn).1] at h; cases h
    have := PRel.el (T := T) (G := G.over G1 S) (w := w) b g i off m (by simpa [Gh.over, hb] using hg) h0 (by simpa [Gh.over, hb] using h) (by simpa [Gh.over, hb] using hi)
    simpa [Gh.over, hb] using this
  | rp e x off bl o cs ty fr hF hh hT hc => exact .rp e x off bl o cs ty fr hF hh hT hc
  | slOld b g m v h =>
    have hb : S b := Classical.byContradiction fun hn => by rw [(hS b hn).2] at h; omega
    exact .slOld b g m v (by simpa [Gh.over, hb] using h)
  | slNil b g hg h0 h =>
    have hb : S b := Classical.byContradiction fun hn => by rw [(hS b hn).2] at hg; omega
    exact .slNil b g (by simpa [Gh.over, hb] using hg) h0 (by simpa [Gh.over, hb] using h)
  | sl b g m q hg h0 h hn =>
    have hb : S b := Classical.byContradiction fun hn => by rw [(hS b hn).1] at h; cases h
    have := PRel.sl (T := T) (G := G.over G1 S) (w := w) b g m q (by simpa [Gh.over, hb] using hg) h0 (by simpa [Gh.over, hb] using h) (by simpa [Gh.over, hb] using hn)
    simpa [Gh.over, hb] using this
  | svOld b g o m v h =>
    have hb : S b := Classical.byContradiction fun hn => by rw [(hS b hn).2] at h; omega
    exact .svOld b g o m v (by simpa [Gh.over, hb] using h)
  | svZ b g o a cap hg h0 =>
    have hb : S b := Classical.byContradiction fun hn => by rw [(hS b hn).2] at hg; omega
    exact .svZ b g o a cap (by simpa [Gh.over, hb] using hg) h0
  | sv b g o m q hg h0 h hn =>
    have hb : S b := Classical.byContradiction fun hn => by rw [(hS b hn).1] at h; cases h
    have := PRel.sv (T := T) (G := G.over G1 S) (w := w) b g o m q (by simpa [Gh.over, hb] using hg) h0 (by simpa [Gh.over, hb] using h) (by simpa [Gh.over, hb] using hn)
    simpa [Gh.over, hb] using this
  | mp b m h h0 =>
    have hb : S b := Classical.byContradiction fun hn => by rw [(hS b hn).1] at h; cases h
    exact .mp b m (by simp [Gh.over, hb, h]) (by simp [Gh.over, hb, h0])
  | fn f caps vs hl _ ih => exact .fn f caps vs hl ih
  | u v => exact .u v

theorem BRel.over {G G1 : Gh} {w : World} {S : Nat → Prop} [DecidablePred S] (hS : ∀ b, ¬ S b → G1.ι b = Option.none ∧ G1.γ b = 0) {b : Nat} (hb : S b) {k : Blk} (h : BRel T G1 w b k) : BRel T (G.over G1 S) w b k := by
  cases h with
  | none h h0 => exact .none (by simp [Gh.over, hb, h]) (by simp [Gh.over, hb, h0])
  | var cells m cs ty h h0 hh hl hx h1 => exact .var cells m cs ty (by simp [Gh.over, hb, h]) (by simp [Gh.over, hb, h0]) hh hl (fun j x v hx' hv => (hx j x v hx' hv).over hS) h1
  | bufNil g e hg h0 h hl he => exact .bufNil g e (by simpa [Gh.over, hb] using hg) h0 (by simp [Gh.over, hb, h]) (by simpa [Gh.over, hb] using hl) (by simpa [Gh.over, hb] using he)
  | buf g e xs m cs hg h0 h hl he hh hk hm hs hr => exact .buf g e xs m cs (by simpa [Gh.over, hb] using hg) h0 (by simp [Gh.over, hb, h]) (by simpa [Gh.over, hb] using hl) (by simpa [Gh.over, hb] using he) hh (by simpa [Gh.over, hb] using hk) (by simpa [Gh.over, hb] using hm) (by simpa [Gh.over, hb] using hs) hr
  | frzNil g e hg h0 h hl he => exact .frzNil g e (by simpa [Gh.over, hb] using hg) h0 (by simp [Gh.over, hb, h]) (by simpa [Gh.over, hb] using hl) (by simpa [Gh.over, hb] using he)
  | frz g e xs m cs ty fr hg h0 h hl he hF hh hk hr => exact .frz g e xs m cs ty fr (by simpa [Gh.over, hb] using hg) h0 (by simp [Gh.over, hb, h]) (by simpa [Gh.over, hb] using hl) (by simpa [Gh.over, hb] using he) hF hh (by simpa [Gh.over, hb] using hk) hr
  | map k v es m ents clock h h0 hh hl hr => exact .map k v es m ents clock (by simp [Gh.over, hb, h]) (by simp [Gh.over, hb, h0]) hh hl hr

/-- hp with the blocks of ids, and those that are new, out of out. -/
def mergeH (ids : List Nat) : Nat → List Blk → List Blk → List Blk
  | _, [], out => out
  | k, x :: r, [] => (bif memB ids k then .none else x) :: mergeH ids (k + 1) r []
  | k, x :: r, y :: s => (bif memB ids k then y else match y with | .none => x | y => y) :: mergeH ids (k + 1) r s

theorem mergeH_get (ids : List Nat) : ∀ (hp out : List Blk) (k b : Nat), (k + b ∈ ids ∨ out.getD b Blk.none ≠ Blk.none → (mergeH ids k hp out).getD b Blk.none = out.getD b Blk.none) ∧ (¬ (k + b ∈ ids ∨ out.getD b Blk.none ≠ Blk.none) → (mergeH ids k hp out).getD b Blk.none = hp.getD b Blk.none)
  | [], out, k, b => by
    simp only [mergeH]
    refine ⟨fun _ => by first | rfl | trivial, fun h => ?_⟩
    have : out.getD b Blk.none = Blk.none := Classical.byContradiction fun hn => h (.inr hn)
    rw [this]; simp
  | x :: r, [], k, 0 => by
    simp only [mergeH, List.getD_cons_zero, Nat.add_zero]
    cases h : memB ids k with
    | true => exact ⟨fun _ => by simp, fun hn => absurd (.inl (memB_iff.1 h)) hn⟩
    | false => exact ⟨fun ho => by
        rcases ho with ho | ho
        · rw [memB_iff.2 ho] at h; cases h
        · simp at ho, fun _ => by simp⟩
  | x :: r, [], k, b + 1 => by
    simp only [mergeH, List.getD_cons_succ]
    have := mergeH_get ids r [] (k + 1) b
    rw [show k + 1 + b = k + (b + 1) by omega] at this
    simpa using this
  | x :: r, y :: s, k, 0 => by
    simp only [mergeH, List.getD_cons_zero, Nat.add_zero]
    cases h : memB ids k with
    | true => exact ⟨fun _ => rfl, fun hn => absurd (.inl (memB_iff.1 h)) hn⟩
    | false =>
      have hk : k ∉ ids := fun hm => by rw [memB_iff.2 hm] at h; cases h
      cases y <;> simp [hk]
  | x :: r, y :: s, k, b + 1 => by
    simp only [mergeH, List.getD_cons_succ]
    have := mergeH_get ids r s (k + 1) b
    rwa [show k + 1 + b = k + (b + 1) by omega] at this

theorem Owns.ofKeep {G : Gh} {hp : List Blk} {ids : List Nat} {n : Nat} (h : Owns (G.keep ids) (keepH ids 0 hp) n) : ∃ b, b ∈ ids ∧ (hp.getD b Blk.none).alive = true ∧ G.ι b = some n := by
  obtain ⟨b, a, e⟩ := h
  rw [keepH_get, Nat.zero_add] at a
  by_cases hb : b ∈ ids
  · rw [if_pos hb] at a
    exact ⟨b, hb, a, by simpa [Gh.keep, hb] using e⟩
  · rw [if_neg hb] at a; cases a

theorem frame {G G1 : Gh} {hp out : List Blk} {w w' : World} (h : HRel T G hp w) {ids : List Nat} (hc : ∀ b cs, b ∈ ids → hp.getD b Blk.none = .var cs → refsInL ids cs = true) (hnew : ∀ b, b ∉ ids → out.getD b Blk.none ≠ Blk.none → hp.getD b Blk.none = Blk.none)
    (h1 : HRel T G1 out w') (ev : Evo (G.keep ids) (keepH ids 0 hp) w G1 out w') :
    ∃ G', HRel T G' (mergeH ids 0 hp out) w' ∧ Evo G hp w G' (mergeH ids 0 hp out) w' ∧ (∀ p v, PRel T G1 w' p v → PRel T G' w' p v) := by
  classical
  let S : Nat → Prop := fun b => b ∈ ids ∨ out.getD b Blk.none ≠ Blk.none
  have hk := h.keep hc
  have mg : ∀ b, (S b → (mergeH ids 0 hp out).getD b Blk.none = out.getD b Blk.none) ∧ (¬ S b → (mergeH ids 0 hp out).getD b Blk.none = hp.getD b Blk.none) := by
    intro b
    have := mergeH_get ids hp out 0 b
    simpa [S] using this
  have hS : ∀ b, ¬ S b → G1.ι b = none ∧ G1.γ b = 0 := by
    intro b hn
    exact h1.unborn (Classical.byContradiction fun hx => hn (.inr hx))
  have fz : ∀ n, G.F n → w'.heap[n]? = w.heap[n]? := ev.frozen hk
  have notOwn : ∀ {b n}, ¬ S b → (hp.getD b Blk.none).alive = true → G.ι b = some n → ¬ Owns (G.keep ids) (keepH ids 0 hp) n := by
    intro b n hb a e ho
    obtain ⟨b', hb', a', e'⟩ := Owns.ofKeep ho
    have := h.inj b b' n a a' e e'
    subst this
    exact hb (.inl hb')
  have own_in : ∀ {b n}, S b → ((mergeH ids 0 hp out).getD b Blk.none).alive = true → (G.over G1 S).ι b = some n → Owns G1 out n := by
    intro b n hb a e
    rw [(mg b).1 hb] at a
    exact ⟨b, a, by simpa [Gh.over, hb] using e⟩
  have hext : GExt G (G.over G1 S) := by
    have cs : ∀ b, b ∈ ids ∨ (S b ∧ G.ι b = none ∧ G.γ b = 0) ∨ ¬ S b := by
      intro b
      by_cases hb : S b
      · rcases hb with hi | ho
        · exact .inl hi
        · by_cases hi : b ∈ ids
          · exact .inl hi
          · exact .inr (.inl ⟨.inr ho, h.unborn (hnew b hi ho)⟩)
      · exact .inr (.inr hb)
    refine ⟨ev.ext.F, fun b => ?_, fun b h0 hi => ?_, fun b hg' hi => ?_⟩
    · rcases cs b with c | ⟨c1, c2, c3⟩ | c
      · have := ev.ext.le b; simpa [Gh.over, Gh.keep, c, S] using this
      · rw [c3]; exact Nat.zero_le _
      · simp [Gh.over, c]
    · rcases cs b with c | ⟨c1, c2, c3⟩ | c
      · have := ev.ext.zero b (by simpa [Gh.keep, c] using h0) (by simpa [Gh.keep, c] using hi); simpa [Gh.over, c, S] using this
      · exact absurd c2 hi
      · simpa [Gh.over, c] using h0
    · rcases cs b with c | ⟨c1, c2, c3⟩ | c
      · have := ev.ext.same b (by simpa [Gh.keep, Gh.over, c, S] using hg') (by simpa [Gh.keep, c] using hi)
        simpa [Gh.keep, Gh.over, c, S] using this
      · rcases hi with hi | hi
        · exact absurd c2 hi
        · omega
      · simp [Gh.over, c]
  refine ⟨G.over G1 S, ⟨fun b => ?_, fun b b' n a a' e e' => ?_, fun b n a e hf => ?_, fun n hf => h1.lt n hf⟩, ⟨ev.os, ev.tape, ev.output, ev.size, fun n hlt hno => ?_, fun n hf => ?_, fun n ho => ?_, hext⟩, fun p v hp => hp.over hS⟩
  · by_cases hb : S b
    · rw [(mg b).1 hb]
      exact (h1.blk b).over hS hb
    · rw [(mg b).2 hb]
      refine BRel.mono hext fz (by simp [Gh.over, hb]) (fun hi _ => by simpa [Gh.over, hb] using hi) (fun n hn' => ?_) (h.blk b)
      by_cases a : (hp.getD b Blk.none).alive = true
      · exact ev.keep n (h.lt_of a hn') (notOwn hb a hn')
      · have := h.blk b
        generalize hq : hp.getD b Blk.none = q at *
        cases this with
        | none h1 _ => rw [hn'] at h1; cases h1
        | var => exact absurd rfl a
        | bufNil => exact absurd rfl a
        | buf => exact absurd rfl a
        | frzNil g e _ _ h1 => rw [hn'] at h1; cases h1
        | frz g e xs m cs ty fr _ _ h1 _ _ hFm => rw [hn'] at h1; cases h1; exact fz _ hFm
        | map => exact absurd rfl a
  · by_cases hb : S b <;> by_cases hb' : S b'
    · rw [(mg b).1 hb] at a
      rw [(mg b').1 hb'] at a'
      exact h1.inj b b' n a a' (by simpa [Gh.over, hb] using e) (by simpa [Gh.over, hb'] using e')
    · exfalso
      rw [(mg b').2 hb'] at a'
      have e'' : G.ι b' = some n := by simpa [Gh.over, hb'] using e'
      rcases ev.own n (own_in hb a e) with l | l
      · have := h.lt_of a' e''; omega
      · exact notOwn hb' a' e'' l
    · exfalso
      rw [(mg b).2 hb] at a
      have e'' : G.ι b = some n := by simpa [Gh.over, hb] using e
      rcases ev.own n (own_in hb' a' e') with l | l
      · have := h.lt_of a e''; omega
      · exact notOwn hb a e'' l
    · rw [(mg b).2 hb] at a
      rw [(mg b').2 hb'] at a'
      exact h.inj b b' n a a' (by simpa [Gh.over, hb] using e) (by simpa [Gh.over, hb'] using e')
  · by_cases hb : S b
    · rw [(mg b).1 hb] at a
      exact h1.sep b n a (by simpa [Gh.over, hb] using e) hf
    · rw [(mg b).2 hb] at a
      have e'' : G.ι b = some n := by simpa [Gh.over, hb] using e
      rcases ev.fnew n hf with f | l | o
      · exact h.sep b n a e'' f
      · have := h.lt_of a e''; omega
      · exact notOwn hb a e'' o
  · refine ev.keep n hlt fun ho => hno ?_
    obtain ⟨b, _, a, e⟩ := Owns.ofKeep ho
    exact ⟨b, a, e⟩
  · rcases ev.fnew n hf with f | l | o
    · exact .inl f
    · exact .inr (.inl l)
    · obtain ⟨b, _, a, e⟩ := Owns.ofKeep o
      exact .inr (.inr ⟨b, a, e⟩)
  · obtain ⟨b, a, e⟩ := ho
    by_cases hb : S b
    · rcases ev.own n (own_in hb a e) with l | l
      · exact .inl l
      · obtain ⟨b', _, a', e'⟩ := Owns.ofKeep l
        exact .inr ⟨b', a', e'⟩
    · rw [(mg b).2 hb] at a
      exact .inr ⟨b, a, by simpa [Gh.over, hb] using e⟩

end Go.Abs
/- Regions whose order is open: what is told of the text's order holds of every order. -/
namespace Go.Abs
open Go.RowKit

variable {T : TT}

theorem HRel.ext {G : Gh} {hp hp' : List Blk} {w : World} (h : HRel T G hp w) (he : ∀ b, hp'.getD b Blk.none = hp.getD b Blk.none) : HRel T G hp' w :=
  ⟨fun b => by rw [he]; exact h.blk b, fun b b' n a a' => by rw [he] at a a'; exact h.inj b b' n a a', fun b n a => by rw [he] at a; exact h.sep b n a, h.lt⟩

theorem Owns.ext {G : Gh} {hp hp' : List Blk} (he : ∀ b, hp'.getD b Blk.none = hp.getD b Blk.none) {n : Nat} (h : Owns G hp' n) : Owns G hp n := by
  obtain ⟨b, a, e⟩ := h; rw [he] at a; exact ⟨b, a, e⟩

theorem Evo.ext' {G0 G : Gh} {hp0 hp hp' : List Blk} {w0 w : World} (h : Evo G0 hp0 w0 G hp w) (he : ∀ b, hp'.getD b Blk.none = hp.getD b Blk.none) : Evo G0 hp0 w0 G hp' w :=
  ⟨h.os, h.tape, h.output, h.size, h.keep, h.fnew, fun n hn => h.own n (Owns.ext he hn), h.ext⟩

/-- execW, with the value told. -/
theorem execV_sound {P : Program} {sg : Sg} {nt : Nat} {o : Oper} {st : St} {fr m : Nat} {K : St → Prop} (hT : TOK P T) (h : execW P T sg nt o st fr m K) {G : Gh} {w : World} {a : Act} (hs : SRel T nt G st a w)
    (hfr : ∀ b, fr ≤ b → b < fr + m → st.hp.getD b Blk.none = Blk.none) {next : Act → World → Prop} {Q : Exit → Act → World → Prop}
    (hn : ∀ p hp' v w' G', K ⟨putP st.sl o.dst p, hp'⟩ → PRel T G' w' p v → HRel T G' hp' w' → Evo G st.hp w G' hp' w' → next (a.put o.dst v) w') : dstOK nt o.dst = true ∧ o.wp P a w next Q := by
  unfold execW at h
  cases hd : dstOK nt o.dst with
  | false => rw [hd] at h; exact h.elim
  | true =>
    rw [hd] at h
    simp only [cond_true] at h
    refine ⟨rfl, ?_⟩
    have plain : (bif Nat.ble 1 m then opW T o.op st.sl st.hp fr (fun p hp' => K ⟨putP st.sl o.dst p, hp'⟩) else False) → o.wp P a w next Q := by
      intro h
      cases hm : Nat.ble 1 m with
      | false => rw [hm] at h; exact h.elim
      | true =>
        rw [hm] at h
        simp only [cond_true] at h
        have hm := Nat.le_of_ble_eq_true hm
        obtain ⟨p, hp', h1, v, w', G', hr, h2, h3, h4⟩ := opW_sound hT hs (hfr fr (Nat.le_refl _) (by omega)) h
        unfold Oper.wp
        rcases hr with hr | ⟨hr, rfl⟩
        · rw [hr]; exact hn _ _ _ _ _ h1 h2 h3 h4
        · rw [hr]; exact hn _ _ _ _ _ h1 h2 h3 h4
    split at h
    · rename_i c ho
      split at h
      · rename_i f hc
        split at h
        case h_2 => exact h.elim
        rename_i g caps hf
        have hv := hs.ev f
        rw [hf] at hv
        generalize hvf : a.eval f = vf at hv
        cases hv with
        | fn g caps vs hl hx =>
          obtain ⟨r1, r2⟩ := evPs_rel (fun x => hs.ev x) c.args.toList
          obtain ⟨c1, c2⟩ := callW_sound (vs := c.args.map a.eval ++ vs) hs.hp (by simp at r1 ⊢; omega) (fun j p v hp hv => by
            by_cases hj : j < (evPs st.sl c.args.toList).length
            · rw [List.getElem?_append_left hj] at hp
              rw [Array.getElem?_append_left (by simp at r1 ⊢; omega)] at hv
              exact r2 j p v hp (by simpa using hv)
            · rw [List.getElem?_append_right (by omega)] at hp
              rw [Array.getElem?_append_right (by simp at r1 ⊢; omega)] at hv
              exact hx _ p v hp (by rw [r1]; simpa using hv)) hfr h
          have hrun : (execOp a.eval o).run P w = .ok (.enter g (c.args.map a.eval ++ vs)) w := by
            simp [execOp, ho, resolve, hc, hvf, Deferred.ofValue, invoke, c1]
          unfold Oper.wp
          rw [hrun]
          refine c2.mono fun e w' he => ?_
          cases e with
          | outgrown => exact he.elim
          | panicked ch => exact he.elim
          | returned v =>
            obtain ⟨p, hp', G', k1, k2, k3, k4⟩ := he
            exact hn _ _ _ _ _ k1 k2 k3 k4
      · exact plain h
    · exact plain h

/-- What an operation looks at and writes. -/
structure Fp where
  k : Nat
  preds : List Nat
  looks : List Nat
  dst : Option Nat
  ids : List Nat
  wr : List Nat
  all : Bool
  deriving Inhabited

def disj : List Nat → List Nat → Bool
  | [], _ => true
  | x :: r, l => !memB l x && disj r l

theorem disj_iff : ∀ {l m : List Nat}, disj l m = true → ∀ x ∈ l, x ∉ m
  | [], m, _ => by simp
  | y :: r, m, h => by
    simp only [disj, Bool.and_eq_true, Bool.not_eq_true'] at h
    intro x hx hm
    rcases List.mem_cons.1 hx with rfl | hx
    · rw [memB_iff.2 hm] at h; exact absurd h.1 (by simp)
    · exact disj_iff h.2 x hx hm

/-- Two operations that have nothing in common. -/
def indep (x y : Fp) : Bool :=
  (match x.dst with | some d => !memB y.looks d && (match y.dst with | some e => !Nat.beq d e | none => true) | none => true) &&
  (match y.dst with | some d => !memB x.looks d | none => true) && disj x.wr y.ids && disj x.wr y.wr && disj y.wr x.ids

def okFp (x : Fp) : List Fp → Bool
  | [] => true
  | y :: r => (memB x.preds y.k || indep x y) && okFp x r

def findPreds : List Fp → Nat → List Nat
  | [], _ => []
  | y :: r, k => bif Nat.beq y.k k then y.preds else findPreds r k

def predsOf (acc : List Fp) : List Edge → List Nat
  | [] => []
  | e :: r => bif Region.binds .any e then e.on :: findPreds acc e.on ++ predsOf acc r else predsOf acc r

def backOK (k : Nat) : List Edge → Bool
  | [] => true
  | e :: r => (!Region.binds .any e || Nat.blt e.on k) && backOK k r

def pureOp : Op → Bool
  | .move _ => true | .assign _ => true | .pick _ _ _ => true | .build _ _ => true | .load _ _ => true | .nilCheck _ => true | .binOp _ _ _ _ _ => true | .unOp _ _ _ => true
  | .convert _ _ _ => true | .makeFunc _ _ _ => true | .slice _ _ _ _ _ => true | .fieldAddr _ _ _ => true | .field _ _ _ => true | .indexAddr _ _ _ => true | .index _ _ _ => true | .extract _ _ => true
  | .call c => match c.callee with
    | .builtin .len => true
    | .builtin .min => true
    | .builtin .max => true
    | _ => false
  | _ => false

theorem opW_pure_sound {P : Program} {nt : Nat} {G : Gh} {st : St} {a : Act} {w : World} (hT : TOK P T) (hs : SRel T nt G st a w) {o : Oper} {fr : Nat} (hp0 : pureOp o.op = true) {K : PV → List Blk → Prop} (h : opW T o.op st.sl st.hp fr K) :
    ∃ p u, K p st.hp ∧ PRel T G w p u ∧ (execOp a.eval o).run P w = .ok (.value u) w := by
  have hev := fun x => hs.ev x
  have hh := hs.hp
  have pure_ : ∀ {p : PV} {u : Value}, K p st.hp → PRel T G w p u → (execOp a.eval o).run P w = .ok (.value u) w → ∃ p u, K p st.hp ∧ PRel T G w p u ∧ (execOp a.eval o).run P w = .ok (.value u) w :=
    fun hK hp hr => ⟨_, _, hK, hp, hr⟩
  unfold opW at h
  split at h
  · rename_i x ho; exact pure_ h (hev x) (by simp [execOp, ho])
  · rename_i x ho; exact pure_ h (hev x) (by simp [execOp, ho])
  · rename_i c x y ho
    obtain ⟨t, p, h1, h2, h3⟩ := pickW_sound (hev c) (hev x) (hev y) h
    refine pure_ h2 h3 ?_
    simp only [execOp, ho, h1, asBool]
    cases t <;> simp
  · rename_i e ho; rw [ho] at hp0; cases hp0
  · rename_i e x ho; rw [ho] at hp0; cases hp0
  · rename_i t parts ho
    obtain ⟨r1, r2⟩ := partsP_rel hev parts.toList
    obtain ⟨p, u, h1, h2, h3⟩ := buildW_sound (vs := parts.map fun (i, x) => (i, a.eval x)) hT hh (by simpa using r1) (by simpa using r2) h
    exact pure_ h1 h2 (by simp only [execOp, ho, Sem.run_bind, h3, Result.andThen_ok, Sem.run_pure])
  · rename_i t n parts ho; rw [ho] at hp0; cases hp0
  · rename_i t x ho
    obtain ⟨p, u, h1, h2, h3⟩ := loadW_sound hT hh (hev x) h
    exact pure_ h1 h2 (by simp only [execOp, ho, Sem.run_bind, h3, Result.andThen_ok, Sem.run_pure])
  · rename_i t x y ho; rw [ho] at hp0; cases hp0
  · rename_i x ho
    split at h
    · rename_i b off hx
      have := hev x
      rw [hx] at this
      generalize hv : a.eval x = v at this
      cases this with
      | ptr b off n e0 e1 => exact pure_ h (.ptr b off n e0 e1) (by simp [execOp, ho, hv])
    · rename_i e d off hx
      have := hev x
      rw [hx] at this
      have hk := this
      generalize hv : a.eval x = v at this hk
      cases this with
      | rp => exact pure_ h hk (by simp [execOp, ho, hv])
    · rename_i f c hx
      have := hev x
      rw [hx] at this
      have hk := this
      generalize hv : a.eval x = v at this hk
      cases this with
      | fn => exact pure_ h hk (by simp [execOp, ho, hv])
    · rename_i b g ix off hx
      obtain ⟨hn, hK⟩ := h
      have := hev x
      rw [hx] at this
      have hk := this
      generalize hv : a.eval x = v at this hk
      cases this with
      | elOld b g ix off v hlt => have := gen_now hh hn; omega
      | el b g ix off n hg h0 hb hi => exact pure_ hK hk (by simp [execOp, ho, hv])
    · exact h.elim
  · rename_i op t x y yt ho
    obtain ⟨p, u, h1, h2, h3⟩ := binW_sound (ox := x) (oy := y) hT (hev x) (hev y) h
    refine pure_ h1 h2 ?_
    simp only [execOp, ho]
    rw [Sem.run_bind, h3]
    rfl
  · rename_i op t x ho
    obtain ⟨p, u, h1, h2, h3⟩ := unW_sound (P := P) (hev x) h
    exact pure_ h1 h2 (by simp only [execOp, ho, Sem.run_bind, h3, Result.andThen_ok, Sem.run_pure])
  · rename_i s t x ho
    obtain ⟨p, u, h1, h2, h3⟩ := convW_sound hT (hev x) h
    exact pure_ h1 h2 (by simp only [execOp, ho, Sem.run_bind, h3, Result.andThen_ok, Sem.run_pure])
  · rename_i fn first caps ho
    split at h
    · rename_i f hfst
      obtain ⟨r1, r2⟩ := evPs_rel hev caps.toList
      have hf0 : first = #[] := by cases first; simp_all
      subst hf0
      refine pure_ h (.fn f _ (caps.map a.eval) (by simpa using r1.symm) (fun j p v hp hv => r2 j p v hp (by simpa using hv))) ?_
      simp [execOp, ho, Instr.makeFunc]
    · exact h.elim
  · rename_i t x lo hi mx ho
    split at h
    case h_2 => exact h.elim
    obtain ⟨p, u, h1, h2, h3⟩ := sliceW_sound (vl := lo.map a.eval) (vh := hi.map a.eval) hT hh (hev x) (by cases lo <;> simp [optP]; exact hev _) (by cases hi <;> simp [optP]; exact hev _) h
    exact pure_ h1 h2 (by simp only [execOp, ho, Option.map_none, Sem.run_bind, h3, Result.andThen_ok, Sem.run_pure])
  · rename_i s x f ho
    obtain ⟨p, u, h1, h2, h3⟩ := fieldAtW_sound hT (.inr hh) (hev x) h
    exact pure_ h1 h2 (by simp only [execOp, ho, Sem.run_bind, h3, Result.andThen_ok, Sem.run_pure])
  · rename_i s x f ho
    obtain ⟨p, u, h1, h2, h3⟩ := fieldW_sound hT (hev x) h
    exact pure_ h1 h2 (by simp only [execOp, ho, Sem.run_bind, h3, Result.andThen_ok, Sem.run_pure])
  · rename_i t x i ho
    obtain ⟨p, u, h1, h2, h3⟩ := indexAtW_sound hT hh (hev x) (hev i) h
    exact pure_ h1 h2 (by simp only [execOp, ho, Sem.run_bind, h3, Result.andThen_ok, Sem.run_pure])
  · rename_i t x i ho
    obtain ⟨p, u, h1, h2, h3⟩ := indexW_sound hT (hev x) (hev i) h
    exact pure_ h1 h2 (by simp only [execOp, ho, Sem.run_bind, h3, Result.andThen_ok, Sem.run_pure])
  · rename_i x i ho
    obtain ⟨p, u, h1, h2, h3⟩ := extractW_sound (P := P) (hev x) h
    exact pure_ h1 h2 (by simp only [execOp, ho, Sem.run_bind, h3, Result.andThen_ok, Sem.run_pure])
  · rename_i c ho
    split at h
    case h_2 => exact h.elim
    rename_i b hc
    split at h
    · rename_i x t hargs hty
      obtain ⟨p, u, h1, h2, h3⟩ := lenW_sound (ty := o.type) hT hh (hev x) h
      have e1 : c.args = #[x] := Array.ext' (by simpa using hargs)
      have e2 : c.argTypes = #[t] := Array.ext' (by simpa using hty)
      exact pure_ h1 h2 (by simp [execOp, ho, resolve, invoke, builtin, hc, e1, e2, h3])
    · rename_i _ x r hargs
      obtain ⟨r1, r2⟩ := evPs_rel hev r
      obtain ⟨p, u, h1, h2, h3⟩ := foldW_sound (P := P) mnI Builtin.min2 (fun k j x y => rfl) (evPs st.sl r) (r.map a.eval) _ _ (hev x) r1 r2 h
      have e1 : c.args = (x :: r).toArray := Array.ext' (by simpa using hargs)
      exact pure_ h1 h2 (by simp [execOp, ho, resolve, invoke, builtin, hc, e1, Builtin.min_, h3])
    · rename_i _ x r hargs
      obtain ⟨r1, r2⟩ := evPs_rel hev r
      obtain ⟨p, u, h1, h2, h3⟩ := foldW_sound (P := P) mxI Builtin.max2 (fun k j x y => rfl) (evPs st.sl r) (r.map a.eval) _ _ (hev x) r1 r2 h
      have e1 : c.args = (x :: r).toArray := Array.ext' (by simpa using hargs)
      exact pure_ h1 h2 (by simp [execOp, ho, resolve, invoke, builtin, hc, e1, Builtin.max_, h3])
    · rw [ho] at hp0; simp only [pureOp, hc] at hp0; cases hp0
    · rw [ho] at hp0; simp only [pureOp, hc] at hp0; cases hp0
    · exact h.elim
  · unfold opX at h
    split at h
    · rename_i ho; rw [ho] at hp0; cases hp0
    · rename_i ho; rw [ho] at hp0; cases hp0
    · rename_i ho; rw [ho] at hp0; cases hp0
    · rename_i ho; rw [ho] at hp0; cases hp0
    · rename_i ho; rw [ho] at hp0; cases hp0
    · rename_i ho; rw [ho] at hp0; cases hp0
    · exact h.elim

/-- No block but those of ids and new ones. -/
def onlyNew (ids : List Nat) : Nat → List Blk → List Blk → Bool
  | _, [], _ => true
  | _, _ :: _, [] => true
  | k, _ :: r, y :: s => (memB ids k || (match y with | .none => true | _ => false)) && onlyNew ids (k + 1) r s

theorem onlyNew_get (ids : List Nat) : ∀ (hp out : List Blk) (k b : Nat), onlyNew ids k hp out = true → k + b ∉ ids → out.getD b Blk.none ≠ Blk.none → hp.getD b Blk.none = Blk.none
  | [], out, k, b, _, _, _ => by simp
  | _ :: _, [], k, b, _, _, h => by simp at h
  | x :: r, y :: s, k, 0, h, hb, ho => by
    simp only [onlyNew, Bool.and_eq_true, Bool.or_eq_true] at h
    rcases h.1 with h1 | h1
    · exact absurd (memB_iff.1 h1) (by simpa using hb)
    · cases y <;> simp at h1
      simp at ho
  | x :: r, y :: s, k, b + 1, h, hb, ho => by
    simp only [onlyNew, Bool.and_eq_true] at h
    simpa using onlyNew_get ids r s (k + 1) b h.2 (by rw [show k + 1 + b = k + (b + 1) by omega]; exact hb) (by simpa using ho)

/-- What one step of the text's order says. -/
structure StepOK (P : Program) (T : TT) (nt : Nat) (ops : Array Oper) (o : Oper) (s s' : St) (fp : Fp) : Prop where
  dst : fp.dst = o.dst
  slots : ∀ k, o.dst ≠ some k → ∀ G w v, PRel T G w (get s.sl k) v ↔ PRel T G w (get s'.sl k) v
  heap : ∀ b, b ∉ fp.wr → s'.hp.getD b Blk.none = s.hp.getD b Blk.none
  fresh : ∀ b, b ∈ fp.wr → b ∉ fp.ids → s.hp.getD b Blk.none = Blk.none
  dok : dstOK nt o.dst = true
  trip : ∀ (G : Gh) (hpS : List Blk) (a : Act) (w : World) (next : Act → World → Prop) (Q : Exit → Act → World → Prop), HRel T G hpS w → a.tmps.size = nt → a.defers = [] → (∀ k ∈ fp.looks, PRel T G w (get s.sl k) (a.tmps.getD k undef)) →
    (∀ b ∈ fp.ids, hpS.getD b Blk.none = s.hp.getD b Blk.none) → (fp.all = true → ∀ b, hpS.getD b Blk.none = s.hp.getD b Blk.none) → (∀ b ∈ fp.wr, b ∉ fp.ids → hpS.getD b Blk.none = Blk.none) →
    (∀ v w' G' hpS', HRel T G' hpS' w' → Evo G hpS w G' hpS' w' → (∀ d, o.dst = some d → PRel T G' w' (get s'.sl d) v) → (∀ b ∈ fp.wr, hpS'.getD b Blk.none = s'.hp.getD b Blk.none) → (∀ b, b ∉ fp.wr → hpS'.getD b Blk.none = hpS.getD b Blk.none) → next (a.put o.dst v) w') →
    if Region.wanted o (yielded ops a.tmps) = true then o.wp P a w next Q else next (a.put o.dst undef) w

/-- The slots and blocks that an operation needs. -/
def lookIds (ops : Array Oper) (o : Oper) (st : St) : List Nat := reach st.hp 200 (refs (evPs st.sl ((o.looksAt ops).map Operand.tmp))) []

def scalarT (T : TT) (t : TypeId) : Bool := match T t with
  | some i => i.leaves.all fun k => match k with | .bool => true | .int _ => true | .str => true | _ => false
  | none => false
/-- A pure operation looks at what its slots lead to; a load of what holds references, at all that is reached. -/
def pureIds (T : TT) (ops : Array Oper) (o : Oper) (st : St) : List Nat :=
  match o.op with
  | .load t a => bif scalarT T t then reach [] 200 (refs (evPs st.sl ((o.looksAt ops).map Operand.tmp))) [] else match evP st.sl a, T t with
    | .ptr b k, some i => match st.hp.getD b .none with
      | .var cells => reach [] 200 (refs (evPs st.sl ((o.looksAt ops).map Operand.tmp)) ++ refs ((cells.drop k).take i.leaves.length)) []
      | _ => lookIds ops o st
    | _, _ => lookIds ops o st
  | _ => reach [] 200 (refs (evPs st.sl ((o.looksAt ops).map Operand.tmp))) []

/-- Cells that lead out of ids are forgotten. -/
def dropC (ids : List Nat) : List PV → List PV
  | [] => []
  | p :: ps => (bif refsIn ids p then p else .u) :: dropC ids ps
def dropB (ids : List Nat) : Blk → Blk
  | .var cs => .var (dropC ids cs)
  | k => k
def dropH (ids : List Nat) : List Blk → List Blk
  | [] => []
  | k :: r => dropB ids k :: dropH ids r

theorem dropC_get (ids : List Nat) : ∀ (cs : List PV) , (dropC ids cs).length = cs.length ∧ (∀ (j : Nat) (q : PV), (dropC ids cs)[j]? = some q → ∃ p, cs[j]? = some p ∧ (q = p ∨ q = .u)) ∧ refsInL ids (dropC ids cs) = true
  | [] => ⟨rfl, by simp [dropC], rfl⟩
  | p :: ps => by
    obtain ⟨h1, h2, h3⟩ := dropC_get ids ps
    refine ⟨by simp [dropC, h1], fun j q hq => ?_, ?_⟩
    · cases j with
      | zero =>
        simp only [dropC, List.getElem?_cons_zero, Option.some.injEq] at hq
        refine ⟨p, rfl, ?_⟩
        cases hb : refsIn ids p with
        | true => rw [hb] at hq; exact .inl hq.symm
        | false => rw [hb] at hq; exact .inr hq.symm
      | succ j => exact h2 j q (by simpa [dropC] using hq)
    · simp only [dropC, refsInL, h3, Bool.and_true]
      cases hb : refsIn ids p with
      | true => exact hb
      | false => rfl

theorem dropH_get (ids : List Nat) : ∀ (hp : List Blk) (b : Nat), (dropH ids hp).getD b Blk.none = dropB ids (hp.getD b Blk.none)
  | [], b => by simp [dropH, dropB]
  | k :: r, 0 => by simp [dropH]
  | k :: r, b + 1 => by simp only [dropH, List.getD_cons_succ]; exact dropH_get ids r b

theorem dropB_alive (ids : List Nat) (k : Blk) : (dropB ids k).alive = k.alive := by cases k <;> rfl

theorem HRel.drop {G : Gh} {hp : List Blk} {w : World} (h : HRel T G hp w) (ids : List Nat) : HRel T G (dropH ids hp) w := by
  refine ⟨fun b => ?_, fun b b' n a a' => ?_, fun b n a => ?_, h.lt⟩
  · rw [dropH_get]
    have k := h.blk b
    generalize hp.getD b Blk.none = q at k
    cases k with
    | var cells m cs ty h h0 hh hl hx h1 =>
      obtain ⟨g1, g2, _⟩ := dropC_get ids cells
      exact .var _ m cs ty h h0 hh (by omega) (fun j x v hx' hv => by
        obtain ⟨p, e1, e2⟩ := g2 j x hx'
        rcases e2 with rfl | rfl
        · exact hx j _ v e1 hv
        · exact .u v) h1
    | none h h0 => exact .none h h0
    | bufNil g e hg h0 h hl he => exact .bufNil g e hg h0 h hl he
    | buf g e xs m cs hg h0 h hl he hh hk hm hs hr => exact .buf g e xs m cs hg h0 h hl he hh hk hm hs hr
    | frzNil g e hg h0 h hl he => exact .frzNil g e hg h0 h hl he
    | frz g e xs m cs ty fr hg h0 h hl he hF hh hk hr => exact .frz g e xs m cs ty fr hg h0 h hl he hF hh hk hr
    | map k v es m ents clock h h0 hh hl hr => exact .map k v es m ents clock h h0 hh hl hr
  · rw [dropH_get, dropB_alive] at a a'; exact h.inj b b' n a a'
  · rw [dropH_get, dropB_alive] at a; exact h.sep b n a

theorem PRel.unkeep {G : Gh} {w : World} {ids : List Nat} {p : PV} {v : Value} (h : PRel T (G.keep ids) w p v) : PRel T G w p v := by
  induction h with
  | kb c => exact .kb c
  | d x v h => exact .d x v h
  | c v => exact PRel.c v
  | st xs vs hl _ h1 ih => exact .st xs vs hl ih h1
  | tup xs vs hl _ ih => exact .tup xs vs hl ih
  | ptr b off m h h0 =>
    by_cases hb : b ∈ ids
    · exact .ptr b off m (by simpa [Gh.keep, hb] using h) (by simpa [Gh.keep, hb] using h0)
    · simp [Gh.keep, hb] at h
  | elOld b g i off v h =>
    by_cases hb : b ∈ ids
    · exact .elOld b g i off v (by simpa [Gh.keep, hb] using h)
    · simp [Gh.keep, hb] at h
  | el b g i off m hg h0 h hi =>
    by_cases hb : b ∈ ids
    · exact .el b g i off m (by simpa [Gh.keep, hb] using hg) h0 (by simpa [Gh.keep, hb] using h) hi
    · simp [Gh.keep, hb] at h
  | rp e x off bl o cs ty fr hF hh hT hc => exact .rp e x off bl o cs ty fr hF hh hT hc
  | slOld b g m v h =>
    by_cases hb : b ∈ ids
    · exact .slOld b g m v (by simpa [Gh.keep, hb] using h)
    · simp [Gh.keep, hb] at h
  | slNil b g hg h0 h =>
    by_cases hb : b ∈ ids
    · exact .slNil b g (by simpa [Gh.keep, hb] using hg) h0 (by simpa [Gh.keep, hb] using h)
    · simp [Gh.keep, hb] at hg; omega
  | sl b g m q hg h0 h hn =>
    by_cases hb : b ∈ ids
    · exact .sl b g m q (by simpa [Gh.keep, hb] using hg) h0 (by simpa [Gh.keep, hb] using h) hn
    · simp [Gh.keep, hb] at hg; omega
  | svOld b g o m v h =>
    by_cases hb : b ∈ ids
    · exact .svOld b g o m v (by simpa [Gh.keep, hb] using h)
    · simp [Gh.keep, hb] at h
  | svZ b g o a cap hg h0 =>
    by_cases hb : b ∈ ids
    · exact .svZ b g o a cap (by simpa [Gh.keep, hb] using hg) h0
    · simp [Gh.keep, hb] at hg; omega
  | sv b g o m q hg h0 h hn =>
    by_cases hb : b ∈ ids
    · exact .sv b g o m q (by simpa [Gh.keep, hb] using hg) h0 (by simpa [Gh.keep, hb] using h) hn
    · simp [Gh.keep, hb] at hg; omega
  | mp b m h h0 =>
    by_cases hb : b ∈ ids
    · exact .mp b m (by simpa [Gh.keep, hb] using h) (by simpa [Gh.keep, hb] using h0)
    · simp [Gh.keep, hb] at h
  | fn f caps vs hl _ ih => exact .fn f caps vs hl ih
  | u v => exact .u v

def dstGet (sl : List (Nat × PV)) : Option Tmp → PV
  | some d => get sl d
  | none => .u

/-- What an operation does that looks at no block. -/
def isLight (op : Op) (sl : List (Nat × PV)) : Bool := match op with
  | .move _ => true
  | .assign _ => true
  | .nilCheck x => isAddr (evP sl x)
  | .fieldAddr _ x _ => isAddr (evP sl x)
  | _ => false

theorem light_sound {P : Program} {G : Gh} {w : World} {sl : List (Nat × PV)} {a : Act} (hT : TOK P T) (hev : ∀ x, PRel T G w (evP sl x) (a.eval x)) {o : Oper} (hl : isLight o.op sl = true) {hp : List Blk} {fr : Nat} {K : PV → List Blk → Prop} (h : opW T o.op sl hp fr K) :
    ∃ p u, K p hp ∧ PRel T G w p u ∧ (execOp a.eval o).run P w = .ok (.value u) w := by
  unfold isLight at hl
  split at hl
  · rename_i x ho; rw [ho] at h; exact ⟨_, _, h, hev x, by simp [execOp, ho]⟩
  · rename_i x ho; rw [ho] at h; exact ⟨_, _, h, hev x, by simp [execOp, ho]⟩
  · rename_i x ho
    rw [ho] at h
    have hx := hev x
    unfold opW at h
    simp only at h
    generalize hv : a.eval x = v at hx
    generalize evP sl x = p at hl h hx
    cases hx <;> simp [isAddr] at hl
    · rename_i b off n e0 e1
      exact ⟨_, _, h, .ptr b off n e0 e1, by simp [execOp, ho, hv]⟩
    · rename_i e d off bl q cs ty fr hF hw hxT hc
      exact ⟨_, _, h, .rp e d off bl q cs ty fr hF hw hxT hc, by simp [execOp, ho, hv]⟩
  · rename_i s x f ho
    rw [ho] at h
    have h : fieldAtW T s (evP sl x) f hp fun p => K p hp := h
    obtain ⟨p, u, h1, h2, h3⟩ := fieldAtW_sound (hp := hp) hT (.inl hl) (hev x) h
    exact ⟨p, u, h1, h2, by simp only [execOp, ho, Sem.run_bind, h3, Result.andThen_ok, Sem.run_pure]⟩
  · cases hl

/-- The step itself, where the guard is met. told: what the guard has told. -/
def anyGo (P : Program) (T : TT) (sg : Sg) (nt : Nat) (ops : Array Oper) (k : Nat) (o : Oper) (st : St) (told : List (Nat × PV)) (acc : List Fp) (K : St → Fp → Prop) : Prop :=
  bif isLight o.op (told ++ pickS st.sl (o.looksAt ops)) then
    bif backOK k o.after.toList && dstOK nt o.dst then
      opW T o.op (told ++ pickS st.sl (o.looksAt ops)) [] 0 fun p _ =>
        K ⟨putP (told ++ st.sl) o.dst p, st.hp⟩ ⟨k, predsOf acc o.after.toList, o.looksAt ops, o.dst, [], [], false⟩
    else False
  else bif pureOp o.op then
    bif refsInL (pureIds T ops o st) (evPs st.sl ((o.looksAt ops).map Operand.tmp)) && backOK k o.after.toList then
      execW P T sg nt o ⟨told ++ pickS st.sl (o.looksAt ops), keepH (pureIds T ops o st) 0 (dropH (pureIds T ops o st) st.hp)⟩ st.hp.length 1000 fun out =>
        K ⟨putP (told ++ st.sl) o.dst (dstGet out.sl o.dst), st.hp⟩ ⟨k, predsOf acc o.after.toList, o.looksAt ops, o.dst, pureIds T ops o st, [], false⟩
    else False
  else bif closedH (lookIds ops o st) (keepH (lookIds ops o st) 0 st.hp) && refsInL (lookIds ops o st) (evPs st.sl ((o.looksAt ops).map Operand.tmp)) && backOK k o.after.toList then
    execW P T sg nt o ⟨told ++ pickS st.sl (o.looksAt ops), keepH (lookIds ops o st) 0 st.hp⟩ st.hp.length 1000 fun out =>
      bif onlyNew (lookIds ops o st) 0 st.hp out.hp then
        K ⟨putP (told ++ st.sl) o.dst (dstGet out.sl o.dst), mergeH (lookIds ops o st) 0 st.hp out.hp⟩ ⟨k, predsOf acc o.after.toList, o.looksAt ops, o.dst, lookIds ops o st, lookIds ops o st ++ freshL st.hp.length (out.hp.length - st.hp.length), false⟩
      else False
  else False

def anySkip (nt : Nat) (ops : Array Oper) (k : Nat) (o : Oper) (st : St) (told : List (Nat × PV)) (acc : List Fp) (K : St → Fp → Prop) : Prop :=
  bif dstOK nt o.dst && backOK k o.after.toList then K ⟨putP (told ++ st.sl) o.dst (.c undef), st.hp⟩ ⟨k, predsOf acc o.after.toList, o.looksAt ops, o.dst, [], [], false⟩ else False

def anyStep (P : Program) (T : TT) (sg : Sg) (nt : Nat) (ops : Array Oper) (k : Nat) (o : Oper) (st : St) (acc : List Fp) (K : St → Fp → Prop) : Prop :=
  match o.guard with
  | none => anyGo P T sg nt ops k o st [] acc K
  | some (j, want) => match (ops[j]?).bind (·.dst) with
    | none => False
    | some d => match get st.sl d with
      | .kb c => bif c == want then anyGo P T sg nt ops k o st [] acc K else anySkip nt ops k o st [] acc K
      | .c (.tuple _) => anySkip nt ops k o st [] acc K
      | .d (.b x) => (x = true → bif want then anyGo P T sg nt ops k o st [(d, .kb true)] acc K else anySkip nt ops k o st [(d, .kb true)] acc K) ∧
          (x = false → bif want then anySkip nt ops k o st [(d, .kb false)] acc K else anyGo P T sg nt ops k o st [(d, .kb false)] acc K)
      | _ => False

/-- A region whose order is open. -/
def anyW (P : Program) (T : TT) (sg : Sg) (nt : Nat) (ops : Array Oper) : Nat → List Oper → St → List Fp → (St → Prop) → Prop
  | _, [], st, _, K => K st
  | k, o :: r, st, acc, K => anyStep P T sg nt ops k o st acc fun st' fp => bif okFp fp acc then anyW P T sg nt ops (k + 1) r st' (fp :: acc) K else False

theorem Evo.ext0 {G0 G : Gh} {hp0 hp0' hp : List Blk} {w0 w : World} (h : Evo G0 hp0 w0 G hp w) (he : ∀ b, hp0'.getD b Blk.none = hp0.getD b Blk.none) : Evo G0 hp0' w0 G hp w :=
  ⟨h.os, h.tape, h.output, h.size, fun n hn ho => h.keep n hn fun o => ho (Owns.ext (fun b => (he b).symm) o), fun n hn => (h.fnew n hn).imp id (Or.imp id (Owns.ext fun b => (he b).symm)), fun n hn => (h.own n hn).imp id (Owns.ext fun b => (he b).symm), h.ext⟩

theorem onlyNew_none (ids : List Nat) : ∀ (hp out : List Blk) (k b : Nat), onlyNew ids k hp out = true → k + b ∉ ids → b < hp.length → out.getD b Blk.none = Blk.none
  | [], out, k, b, _, _, h => by simp at h
  | _ :: _, [], k, b, _, _, _ => by simp
  | x :: r, y :: s, k, 0, h, hb, _ => by
    simp only [onlyNew, Bool.and_eq_true, Bool.or_eq_true] at h
    rcases h.1 with h1 | h1
    · exact absurd (memB_iff.1 h1) (by simpa using hb)
    · cases y <;> simp at h1
      rfl
  | x :: r, y :: s, k, b + 1, h, hb, hl => by
    simp only [onlyNew, Bool.and_eq_true] at h
    simpa using onlyNew_none ids r s (k + 1) b h.2 (by rw [show k + 1 + b = k + (b + 1) by omega]; exact hb) (by simpa using hl)

theorem execW_dst {P : Program} {sg : Sg} {nt : Nat} {o : Oper} {st : St} {fr m : Nat} {K : St → Prop} (h : execW P T sg nt o st fr m K) : dstOK nt o.dst = true := by
  unfold execW at h
  cases hd : dstOK nt o.dst with
  | false => rw [hd] at h; exact h.elim
  | true => rfl

theorem opW_pure {op : Op} {sl : List (Nat × PV)} {hp : List Blk} {fr : Nat} {K : PV → List Blk → Prop} (hp0 : pureOp op = true) (h : opW T op sl hp fr K) : ∃ p, K p hp := by
  have one : ∀ {W : (PV → Prop) → Prop}, Det W → W (fun p => K p hp) → ∃ p, K p hp := fun hd hw => let ⟨x, _, h2⟩ := hd _ hw; ⟨x, h2⟩
  unfold opW at h
  split at h
  · exact ⟨_, h⟩
  · exact ⟨_, h⟩
  · exact one (pickW_det _ _ _) h
  · simp [pureOp] at hp0
  · simp [pureOp] at hp0
  · exact one (buildW_det _ _ _) h
  · simp [pureOp] at hp0
  · exact one (loadW_det _ _ _) h
  · simp [pureOp] at hp0
  · split at h <;> first | exact ⟨_, h⟩ | exact ⟨_, h.2⟩ | exact h.elim
  · exact one (binW_det _ _ _ _) h
  · exact one (unW_det _ _) h
  · exact one (convW_det _ _ _) h
  · split at h <;> first | exact ⟨_, h⟩ | exact h.elim
  · split at h
    · exact one (sliceW_det _ _ _ _ _) h
    · exact h.elim
  · exact one (fieldAtW_det _ _ _ _) h
  · exact one (fieldW_det _ _ _) h
  · exact one (indexAtW_det _ _ _ _) h
  · exact one (indexW_det _ _ _) h
  · exact one (extractW_det _ _) h
  · rename_i c
    split at h
    · rename_i b hc
      split at h
      · exact one (lenW_det _ _ _) h
      · exact one (foldW_det _ _ _) h
      · exact one (foldW_det _ _ _) h
      · simp [pureOp, hc] at hp0
      · simp [pureOp, hc] at hp0
      · exact h.elim
    · exact h.elim
  · unfold opX at h
    split at h <;> first | (simp [pureOp] at hp0; done) | exact h.elim

theorem execW_pure {P : Program} {sg : Sg} {nt : Nat} {o : Oper} {st : St} {fr m : Nat} {K : St → Prop} (hp0 : pureOp o.op = true) (h : execW P T sg nt o st fr m K) : ∃ p, K ⟨putP st.sl o.dst p, st.hp⟩ := by
  unfold execW at h
  cases hd : dstOK nt o.dst with
  | false => rw [hd] at h; exact h.elim
  | true =>
    rw [hd] at h
    simp only [cond_true] at h
    have plain : (bif Nat.ble 1 m then opW T o.op st.sl st.hp fr (fun p hp' => K ⟨putP st.sl o.dst p, hp'⟩) else False) → ∃ p, K ⟨putP st.sl o.dst p, st.hp⟩ := by
      intro h
      cases hm : Nat.ble 1 m with
      | false => rw [hm] at h; exact h.elim
      | true => rw [hm] at h; simp only [cond_true] at h; exact opW_pure (K := fun p hp' => K ⟨putP st.sl o.dst p, hp'⟩) hp0 h
    split at h
    · rename_i c ho
      split at h
      · rename_i f hc
        rw [ho] at hp0
        simp [pureOp, hc] at hp0
      · exact plain h
    · exact plain h

theorem keepH_length (ids : List Nat) : ∀ (k : Nat) (hp : List Blk), (keepH ids k hp).length = hp.length
  | _, [] => rfl
  | k, x :: r => by simp [keepH, keepH_length ids (k + 1) r]

theorem evPs_get (sl : List (Nat × PV)) : ∀ (l : List Operand) (j : Nat), (evPs sl l)[j]? = (l[j]?).map (evP sl)
  | [], j => by simp [evPs]
  | x :: r, 0 => by simp [evPs]
  | x :: r, j + 1 => by simp [evPs, evPs_get sl r j]

theorem refsIn_look {ids : List Nat} {sl : List (Nat × PV)} {ks : List Nat} (h : refsInL ids (evPs sl (ks.map Operand.tmp)) = true) {k : Nat} (hk : k ∈ ks) : refsIn ids (get sl k) = true := by
  obtain ⟨j, hj, rfl⟩ := List.mem_iff_getElem.1 hk
  refine refsInL_mem h _ (List.mem_of_getElem? (i := j) ?_)
  rw [evPs_get, List.getElem?_map, List.getElem?_eq_getElem hj]; rfl

theorem get_putP {sl : List (Nat × PV)} {dst : Option Tmp} {p : PV} {k : Nat} (h : dst ≠ some k) : get (putP sl dst p) k = get sl k := by
  cases dst with
  | none => rfl
  | some d => simp only [putP, get_cons]; rw [if_neg (fun e => h (by rw [e]))]

theorem get_putP_same (sl : List (Nat × PV)) (d : Tmp) (p : PV) : get (putP sl (some d) p) d = p := by
  simp only [putP, get_cons, if_true]

/-- What a guard has told, beside what was known. -/
inductive Told (T : TT) (sl : List (Nat × PV)) (looks : List Nat) : List (Nat × PV) → Prop
  | nil : Told T sl looks []
  | one (d : Nat) (c : Bool) (h : get sl d = .d (.b c)) (hd : d ∈ looks) : Told T sl looks [(d, .kb c)]

theorem Told.eqv {sl : List (Nat × PV)} {looks : List Nat} {told : List (Nat × PV)} (h : Told T sl looks told) (k : Nat) (G : Gh) (w : World) (v : Value) : PRel T G w (get sl k) v ↔ PRel T G w (get (told ++ sl) k) v := by
  cases h with
  | nil => exact Iff.rfl
  | one d c hd _ =>
    show _ ↔ PRel T G w (get ((d, .kb c) :: sl) k) v
    rw [get_cons]
    by_cases e : d = k
    · rw [if_pos e, ← e, hd]
      constructor
      · intro hp; have := boolP_rel hp (x := c) rfl; subst this; exact .kb c
      · intro hp; cases hp; exact .d _ _ (.b c)
    · rw [if_neg e]

theorem anyGo_ok {P : Program} {sg : Sg} {nt : Nat} {ops : Array Oper} (hT : TOK P T) {k : Nat} {o : Oper} {st : St} {told : List (Nat × PV)} {acc : List Fp} {K : St → Fp → Prop} (htold : Told T st.sl (o.looksAt ops) told)
    (hw : ∀ (G : Gh) (w : World) (a : Act), (∀ q ∈ o.looksAt ops, PRel T G w (get st.sl q) (a.tmps.getD q undef)) → Region.wanted o (yielded ops a.tmps) = true) (h : anyGo P T sg nt ops k o st told acc K) :
    ∃ s' fp, K s' fp ∧ StepOK P T nt ops o st s' fp ∧ fp.k = k ∧ fp.preds = predsOf acc o.after.toList ∧ fp.looks = o.looksAt ops ∧ backOK k o.after.toList = true ∧ fp.all = false := by
  unfold anyGo at h
  cases hli : isLight o.op (told ++ pickS st.sl (o.looksAt ops)) with
  | true =>
    rw [hli] at h
    simp only [cond_true] at h
    cases hb : (backOK k o.after.toList && dstOK nt o.dst) with
    | false => rw [hb] at h; exact h.elim
    | true =>
      rw [hb] at h
      simp only [cond_true] at h
      simp only [Bool.and_eq_true] at hb
      obtain ⟨b3, hdok⟩ := hb
      obtain ⟨p, hp1, hx, hK⟩ := opW_det (T := T) o.op _ _ _ _ h
      have hx := hx (fun q _ => q = p) rfl
      refine ⟨_, _, hK, ⟨rfl, fun q hq G w v => ?_, fun _ _ => rfl, fun b hb => by simp at hb, hdok, ?_⟩, rfl, rfl, rfl, b3, rfl⟩
      · show PRel T G w (get st.sl q) v ↔ PRel T G w (get (putP (told ++ st.sl) o.dst _) q) v
        rw [get_putP hq]; exact htold.eqv q G w v
      · intro G hpS a w next Q hh hsz hdf hlook hidv _ hfreshv hnext
        rw [if_pos (hw G w a hlook)]
        have hsl : ∀ q, PRel T G w (get (told ++ pickS st.sl (o.looksAt ops)) q) (a.tmps.getD q undef) := by
          intro q
          have pick : ∀ q, PRel T G w (get (pickS st.sl (o.looksAt ops)) q) (a.tmps.getD q undef) := by
            intro q
            by_cases hq : q ∈ o.looksAt ops
            · rcases pickS_get st.sl (o.looksAt ops) q with e | e
              · rw [e]; exact hlook q hq
              · rw [e]; exact .u _
            · have : get (pickS st.sl (o.looksAt ops)) q = .u := by
                generalize o.looksAt ops = l at hq
                induction l with
                | nil => rfl
                | cons x r ih =>
                  simp only [pickS, get_cons]
                  rw [if_neg (fun e => hq (by simp [e])), ih (fun hm => hq (by simp [hm]))]
              rw [this]; exact .u _
          cases htold with
          | nil => exact pick q
          | one d c hd hdl =>
            show PRel T G w (get ((d, .kb c) :: pickS st.sl (o.looksAt ops)) q) _
            rw [get_cons]
            by_cases e : d = q
            · rw [if_pos e, ← e]
              have := hlook d hdl
              rw [hd] at this
              rw [boolP_rel this rfl]; exact .kb c
            · rw [if_neg e]; exact pick q
        have hev : ∀ x, PRel T G w (evP (told ++ pickS st.sl (o.looksAt ops)) x) (a.eval x) := by
          intro x
          cases x with
          | tmp t => exact hsl t
          | const v => exact PRel.const T G w v
          | func f => exact .fn f [] #[] rfl (by simp)
          | global g => exact .u _
        obtain ⟨p', u, e1, e2, e3⟩ := light_sound hT hev hli hx
        subst e1
        unfold Oper.wp
        rw [e3]
        refine hnext u w G hpS hh (Evo.refl _ _ _) (fun d hd => ?_) (fun b hb => by simp at hb) (fun _ _ => rfl)
        show PRel T G w (get (putP (told ++ st.sl) o.dst p') d) u
        rw [hd, get_putP_same]
        exact e2
  | false =>
  rw [hli] at h
  simp only [cond_false] at h
  cases hpu : pureOp o.op with
  | true =>
    rw [hpu] at h
    simp only [cond_true] at h
    generalize pureIds T ops o st = ids at h
    cases hb : (refsInL ids (evPs st.sl ((o.looksAt ops).map Operand.tmp)) && backOK k o.after.toList) with
    | false => rw [hb] at h; exact h.elim
    | true =>
      rw [hb] at h
      simp only [cond_true] at h
      simp only [Bool.and_eq_true] at hb
      obtain ⟨b2, b3⟩ := hb
      obtain ⟨out, hx, hK⟩ := execW_det P sg nt o _ _ _ _ h
      have hx := hx (fun q => q = out) rfl
      have hdok := execW_dst hx
      refine ⟨_, _, hK, ⟨rfl, fun q hq G w v => ?_, fun _ _ => rfl, fun b hb => by simp at hb, hdok, ?_⟩, rfl, rfl, rfl, b3, rfl⟩
      · show PRel T G w (get st.sl q) v ↔ PRel T G w (get (putP (told ++ st.sl) o.dst _) q) v
        rw [get_putP hq]; exact htold.eqv q G w v
      · intro G hpS a w next Q hh hsz hdf hlook hidv _ hfreshv hnext
        rw [if_pos (hw G w a hlook)]
        have ek : ∀ b, (keepH ids 0 (dropH ids st.hp)).getD b Blk.none = (keepH ids 0 (dropH ids hpS)).getD b Blk.none := by
          intro b
          rw [keepH_get, keepH_get]
          by_cases hb : 0 + b ∈ ids
          · rw [if_pos hb, if_pos hb, dropH_get, dropH_get, hidv b (by simpa using hb)]
          · rw [if_neg hb, if_neg hb]
        have hcl : ∀ b cs, b ∈ ids → (dropH ids hpS).getD b Blk.none = .var cs → refsInL ids cs = true := by
          intro b cs _ hq
          rw [dropH_get] at hq
          cases hk : hpS.getD b Blk.none with
          | var c => rw [hk] at hq; cases hq; exact (dropC_get ids c).2.2
          | none => rw [hk] at hq; cases hq
          | buf g e xs => rw [hk] at hq; cases hq
          | frz g e xs => rw [hk] at hq; cases hq
          | map q v es => rw [hk] at hq; cases hq
        have hk := ((hh.drop ids).keep hcl).ext ek
        have hsr : SRel T nt (G.keep ids) ⟨told ++ pickS st.sl (o.looksAt ops), keepH ids 0 (dropH ids st.hp)⟩ a w := by
          refine ⟨hsz, fun q => ?_, hdf, hk⟩
          have pick : ∀ q, PRel T (G.keep ids) w (get (pickS st.sl (o.looksAt ops)) q) (a.tmps.getD q undef) := by
            intro q
            by_cases hq : q ∈ o.looksAt ops
            · rcases pickS_get st.sl (o.looksAt ops) q with e | e
              · rw [e]; exact (hlook q hq).keep (refsIn_look b2 hq)
              · rw [e]; exact .u _
            · have : get (pickS st.sl (o.looksAt ops)) q = .u := by
                generalize o.looksAt ops = l at hq
                induction l with
                | nil => rfl
                | cons x r ih =>
                  simp only [pickS, get_cons]
                  rw [if_neg (fun e => hq (by simp [e])), ih (fun hm => hq (by simp [hm]))]
              rw [this]; exact .u _
          cases htold with
          | nil => exact pick q
          | one d c hd hdl =>
            show PRel T (G.keep ids) w (get ((d, .kb c) :: pickS st.sl (o.looksAt ops)) q) _
            rw [get_cons]
            by_cases e : d = q
            · rw [if_pos e, ← e]
              have := hlook d hdl
              rw [hd] at this
              rw [boolP_rel this rfl]; exact .kb c
            · rw [if_neg e]; exact pick q
        unfold execW at hx
        rw [hdok] at hx
        simp only [cond_true] at hx
        have plain : (bif Nat.ble 1 1000 then opW T o.op (told ++ pickS st.sl (o.looksAt ops)) (keepH ids 0 (dropH ids st.hp)) st.hp.length (fun p hp' => (⟨putP (told ++ pickS st.sl (o.looksAt ops)) o.dst p, hp'⟩ : St) = out) else False) → o.wp P a w next Q := by
          intro h1
          have h1 : opW T o.op (told ++ pickS st.sl (o.looksAt ops)) (keepH ids 0 (dropH ids st.hp)) st.hp.length (fun p hp' => (⟨putP (told ++ pickS st.sl (o.looksAt ops)) o.dst p, hp'⟩ : St) = out) := h1
          obtain ⟨p, u, e1, e2, e3⟩ := opW_pure_sound hT hsr hpu h1
          unfold Oper.wp
          rw [e3]
          refine hnext u w G hpS hh (Evo.refl _ _ _) (fun d hd => ?_) (fun b hb => by simp at hb) (fun _ _ => rfl)
          show PRel T G w (get (putP (told ++ st.sl) o.dst (dstGet out.sl o.dst)) d) u
          rw [hd, get_putP_same, ← e1, hd]
          show PRel T G w (get (putP _ (some d) p) d) u
          rw [get_putP_same]
          exact e2.unkeep
        split at hx
        · rename_i c ho
          split at hx
          · rename_i f hc
            rw [ho] at hpu
            simp only [pureOp, hc] at hpu
            cases hpu
          · exact plain hx
        · exact plain hx
  | false =>
  rw [hpu] at h
  simp only [cond_false] at h
  generalize hids : lookIds ops o st = ids at h
  cases hb : (closedH ids (keepH ids 0 st.hp) && refsInL ids (evPs st.sl ((o.looksAt ops).map Operand.tmp)) && backOK k o.after.toList) with
  | false => rw [hb] at h; exact h.elim
  | true =>
    rw [hb] at h
    simp only [cond_true] at h
    simp only [Bool.and_eq_true] at hb
    obtain ⟨⟨b1, b2⟩, b3⟩ := hb
    have hcl := closed_of b1
    obtain ⟨out, hx, hK⟩ := execW_det P sg nt o _ _ _ _ h
    have hx := hx (fun q => q = out) rfl
    have hdok := execW_dst hx
    -- the heap behind it
    have main : ∀ (wr : List Nat) (s' : St), s'.sl = putP (told ++ st.sl) o.dst (dstGet out.sl o.dst) →
        (∀ b, b ∉ wr → b ∉ ids → out.hp.getD b Blk.none = Blk.none) → (∀ b, b ∈ wr → b ∉ ids → st.hp.getD b Blk.none = Blk.none) → (∀ b, b ∉ wr → b ∈ ids → out.hp.getD b Blk.none = st.hp.getD b Blk.none) →
        (∀ b, b ∉ wr → s'.hp.getD b Blk.none = st.hp.getD b Blk.none) → (∀ b, b ∈ wr → b ∈ ids → s'.hp.getD b Blk.none = out.hp.getD b Blk.none) → (∀ b, b ∈ wr → b ∉ ids → s'.hp.getD b Blk.none = out.hp.getD b Blk.none) →
        StepOK P T nt ops o st s' ⟨k, predsOf acc o.after.toList, o.looksAt ops, o.dst, ids, wr, false⟩ := by
      intro wr s' hs1 hw1 hw2 hw3 hs2 hs3 hs4
      refine ⟨rfl, fun q hq G w v => ?_, hs2, hw2, hdok, ?_⟩
      · rw [hs1, get_putP hq]; exact htold.eqv q G w v
      · intro G hpS a w next Q hh hsz hdf hlook hidv _ hfreshv hnext
        rw [if_pos (hw G w a hlook)]
        have hclS : ∀ b cs, b ∈ ids → hpS.getD b Blk.none = .var cs → refsInL ids cs = true := fun b cs hb hq => hcl b cs hb (by rw [← hidv b hb]; exact hq)
        have ek : ∀ b, (keepH ids 0 st.hp).getD b Blk.none = (keepH ids 0 hpS).getD b Blk.none := by
          intro b
          rw [keepH_get, keepH_get]
          by_cases hb : 0 + b ∈ ids
          · rw [if_pos hb, if_pos hb, hidv b (by simpa using hb)]
          · rw [if_neg hb, if_neg hb]
        have hk := (hh.keep hclS).ext ek
        have hsr : SRel T nt (G.keep ids) ⟨told ++ pickS st.sl (o.looksAt ops), keepH ids 0 st.hp⟩ a w := by
          refine ⟨hsz, fun q => ?_, hdf, hk⟩
          have pick : ∀ q, PRel T (G.keep ids) w (get (pickS st.sl (o.looksAt ops)) q) (a.tmps.getD q undef) := by
            intro q
            by_cases hq : q ∈ o.looksAt ops
            · rcases pickS_get st.sl (o.looksAt ops) q with e | e
              · rw [e]; exact (hlook q hq).keep (refsIn_look b2 hq)
              · rw [e]; exact .u _
            · have : get (pickS st.sl (o.looksAt ops)) q = .u := by
                generalize o.looksAt ops = l at hq
                induction l with
                | nil => rfl
                | cons x r ih =>
                  simp only [pickS, get_cons]
                  rw [if_neg (fun e => hq (by simp [e])), ih (fun hm => hq (by simp [hm]))]
              rw [this]; exact .u _
          cases htold with
          | nil => exact pick q
          | one d c hd hdl =>
            show PRel T (G.keep ids) w (get ((d, .kb c) :: pickS st.sl (o.looksAt ops)) q) _
            rw [get_cons]
            by_cases e : d = q
            · rw [if_pos e, ← e]
              have := hlook d hdl
              rw [hd] at this
              rw [boolP_rel this rfl]; exact .kb c
            · rw [if_neg e]; exact pick q
        refine (execV_sound hT hx hsr (fun b hb _ => getD_len (by rw [keepH_length]; exact hb)) (fun p hp' v w' G1 he hp1 hh1 ev1 => ?_)).2
        subst he
        have ev1' : Evo (G.keep ids) (keepH ids 0 hpS) w G1 hp' w' := ev1.ext0 fun b => (ek b).symm
        obtain ⟨G', f1, f2, f3⟩ := frame hh hclS (fun b hbn hne => by
          by_cases hbw : b ∈ wr
          · exact hfreshv b hbw hbn
          · exact absurd (hw1 b hbw hbn) hne) hh1 ev1'
        refine hnext v w' G' (mergeH ids 0 hpS hp') f1 f2 (fun d hd => ?_) (fun b hbw => ?_) (fun b hbw => ?_)
        · rw [hs1, hd, get_putP_same]
          show PRel T G' w' (get (putP _ (some d) p) d) v
          rw [get_putP_same]
          exact f3 p v hp1
        · have mg := mergeH_get ids hpS hp' 0 b
          rw [Nat.zero_add] at mg
          by_cases hbi : b ∈ ids
          · rw [mg.1 (.inl hbi), hs3 b hbw hbi]
          · rw [hs4 b hbw hbi]
            by_cases hne : hp'.getD b Blk.none ≠ Blk.none
            · exact mg.1 (.inr hne)
            · rw [mg.2 (fun ho => ho.elim hbi hne), hfreshv b hbw hbi]
              exact (Classical.not_not.1 hne).symm
        · have mg := mergeH_get ids hpS hp' 0 b
          rw [Nat.zero_add] at mg
          by_cases hbi : b ∈ ids
          · rw [mg.1 (.inl hbi), hidv b hbi]
            exact hw3 b hbw hbi
          · rw [mg.2 (fun ho => ho.elim hbi (fun hne => hne (hw1 b hbw hbi)))]
    cases hon : onlyNew ids 0 st.hp out.hp with
    | false => rw [hon] at hK; exact hK.elim
    | true =>
      rw [hon] at hK
      simp only [cond_true] at hK
      have outs : ∀ b, b ∉ ids → b ∉ freshL st.hp.length (out.hp.length - st.hp.length) → out.hp.getD b Blk.none = Blk.none := by
        intro b hbn hbf
        by_cases hl : b < st.hp.length
        · exact onlyNew_none ids st.hp out.hp 0 b hon (by simpa using hbn) hl
        · by_cases hl2 : b < out.hp.length
          · exfalso
            refine hbf ?_
            have : ∀ (n fr : Nat), fr ≤ b → b < fr + n → b ∈ freshL fr n := by
              intro n
              induction n with
              | zero => intro fr h1 h2; omega
              | succ n ih =>
                intro fr h1 h2
                simp only [freshL, List.mem_cons]
                by_cases e : b = fr
                · exact .inl e
                · exact .inr (ih (fr + 1) (by omega) (by omega))
            exact this _ _ (by omega) (by omega)
          · exact getD_len (by omega)
      have mg := mergeH_get ids st.hp out.hp 0
      refine ⟨_, _, hK, main (ids ++ freshL st.hp.length (out.hp.length - st.hp.length)) _ rfl (fun b hb hbn => outs b hbn (fun hf => hb (List.mem_append_right _ hf))) (fun b hb hbn => ?_) (fun b hb hbi => absurd (List.mem_append_left _ hbi) hb) (fun b hb => ?_) (fun b _ hbi => ?_) (fun b hb hbn => ?_), rfl, rfl, rfl, b3, rfl⟩
      · rcases List.mem_append.1 hb with h1 | h1
        · exact absurd h1 hbn
        · exact getD_len (freshL_mem h1).1
      · have m := mg b
        rw [Nat.zero_add] at m
        exact m.2 (fun ho => ho.elim (fun hi => hb (List.mem_append_left _ hi)) (fun hne => hne (outs b (fun hi => hb (List.mem_append_left _ hi)) (fun hf => hb (List.mem_append_right _ hf)))))
      · have m := mg b
        rw [Nat.zero_add] at m
        exact m.1 (.inl hbi)
      · have m := mg b
        rw [Nat.zero_add] at m
        by_cases hne : out.hp.getD b Blk.none ≠ Blk.none
        · exact m.1 (.inr hne)
        · rw [m.2 (fun ho => ho.elim hbn hne)]
          rcases List.mem_append.1 hb with h1 | h1
          · exact absurd h1 hbn
          · rw [getD_len (freshL_mem h1).1]; exact (Classical.not_not.1 hne).symm

end Go.Abs
/- Regions whose order is open: the whole. -/
namespace Go.Abs
open Go.RowKit

variable {T : TT}

theorem anySkip_ok {P : Program} {nt : Nat} {ops : Array Oper} {k : Nat} {o : Oper} {st : St} {told : List (Nat × PV)} {acc : List Fp} {K : St → Fp → Prop} (htold : Told T st.sl (o.looksAt ops) told)
    (hw : ∀ (G : Gh) (w : World) (a : Act), (∀ q ∈ o.looksAt ops, PRel T G w (get st.sl q) (a.tmps.getD q undef)) → Region.wanted o (yielded ops a.tmps) = false) (h : anySkip nt ops k o st told acc K) :
    ∃ s' fp, K s' fp ∧ StepOK P T nt ops o st s' fp ∧ fp.k = k ∧ fp.preds = predsOf acc o.after.toList ∧ fp.looks = o.looksAt ops ∧ backOK k o.after.toList = true ∧ fp.all = false := by
  unfold anySkip at h
  cases hb : (dstOK nt o.dst && backOK k o.after.toList) with
  | false => rw [hb] at h; exact h.elim
  | true =>
    rw [hb] at h
    simp only [cond_true] at h
    simp only [Bool.and_eq_true] at hb
    refine ⟨_, _, h, ⟨rfl, fun q hq G w v => ?_, fun _ _ => rfl, fun b hb => by simp at hb, hb.1, ?_⟩, rfl, rfl, rfl, hb.2, rfl⟩
    · show _ ↔ PRel T G w (get (putP _ _ _) q) v
      rw [get_putP hq]; exact htold.eqv q G w v
    · intro G hpS a w next Q hh hsz hdf hlook _ _ _ hnext
      rw [if_neg (by rw [hw G w a hlook]; simp)]
      refine hnext undef w G hpS hh (Evo.refl _ _ _) (fun d hd => ?_) (fun b hb => by simp at hb) (fun _ _ => rfl)
      rw [hd]
      show PRel T G w (get (putP (told ++ st.sl) (some d) (PV.c undef)) d) undef
      rw [get_putP_same]; exact PRel.c undef

theorem anyStep_ok {P : Program} {sg : Sg} {nt : Nat} {ops : Array Oper} (hT : TOK P T) {k : Nat} {o : Oper} {st : St} {acc : List Fp} {K : St → Fp → Prop} (h : anyStep P T sg nt ops k o st acc K) :
    ∃ s' fp, K s' fp ∧ StepOK P T nt ops o st s' fp ∧ fp.k = k ∧ fp.preds = predsOf acc o.after.toList ∧ fp.looks = o.looksAt ops ∧ backOK k o.after.toList = true ∧ fp.all = false := by
  unfold anyStep at h
  split at h
  · rename_i hg
    exact anyGo_ok hT .nil (fun G w a _ => by simp [Region.wanted, hg]) h
  · rename_i j want hg
    split at h
    case h_1 => exact h.elim
    rename_i d hdj
    have hdl : d ∈ o.looksAt ops := by
      unfold Oper.looksAt
      rw [hg]
      simp [hdj]
    have hy : ∀ (a : Act) c, a.tmps.getD d undef = .bool c → yielded ops a.tmps j = some c := by
      intro a c hc
      unfold yielded
      rw [hdj]
      simp only [Option.bind_some]
      rw [Array.getD_eq_getD_getElem?] at hc
      cases ht : a.tmps[d]? with
      | none => rw [ht] at hc; simp [undef] at hc
      | some u => rw [ht] at hc; simp at hc; subst hc; rfl
    split at h
    · rename_i c hgd
      have hv : ∀ (G : Gh) (w : World) (a : Act), (∀ q ∈ o.looksAt ops, PRel T G w (get st.sl q) (a.tmps.getD q undef)) → yielded ops a.tmps j = some c := by
        intro G w a hl
        have := hl d hdl
        rw [hgd] at this
        refine hy a c ?_
        generalize a.tmps.getD d undef = u at this
        cases this; rfl
      cases hcw : (c == want) with
      | true =>
        rw [hcw] at h
        have : c = want := by simpa using hcw
        exact anyGo_ok hT .nil (fun G w a hl => by simp [Region.wanted, hg, hv G w a hl, this]) h
      | false =>
        rw [hcw] at h
        have hne : c ≠ want := by simpa using hcw
        exact anySkip_ok .nil (fun G w a hl => by simp [Region.wanted, hg, hv G w a hl, hne]) h
    · rename_i vs hgd
      have hv : ∀ (G : Gh) (w : World) (a : Act), (∀ q ∈ o.looksAt ops, PRel T G w (get st.sl q) (a.tmps.getD q undef)) → yielded ops a.tmps j = none := by
        intro G w a hl
        have := hl d hdl
        rw [hgd] at this
        have hv : a.tmps.getD d undef = .tuple vs := by
          generalize a.tmps.getD d undef = u at this; cases this; rfl
        unfold yielded
        rw [hdj]
        simp only [Option.bind_some]
        rw [Array.getD_eq_getD_getElem?] at hv
        cases ht : a.tmps[d]? with
        | none => rfl
        | some u => rw [ht] at hv; simp at hv; subst hv; rfl
      exact anySkip_ok .nil (fun G w a hl => by simp [Region.wanted, hg, hv G w a hl]) h
    · rename_i x hgd
      have hv : ∀ (G : Gh) (w : World) (a : Act), (∀ q ∈ o.looksAt ops, PRel T G w (get st.sl q) (a.tmps.getD q undef)) → yielded ops a.tmps j = some x := by
        intro G w a hl
        have := hl d hdl
        rw [hgd] at this
        exact hy a x (boolP_rel this rfl)
      cases x with
      | true =>
        have h := h.1 rfl
        cases want with
        | true => exact anyGo_ok hT (.one d true hgd hdl) (fun G w a hl => by simp [Region.wanted, hg, hv G w a hl]) h
        | false => exact anySkip_ok (.one d true hgd hdl) (fun G w a hl => by simp [Region.wanted, hg, hv G w a hl]) h
      | false =>
        have h := h.2 rfl
        cases want with
        | true => exact anySkip_ok (.one d false hgd hdl) (fun G w a hl => by simp [Region.wanted, hg, hv G w a hl]) h
        | false => exact anyGo_ok hT (.one d false hgd hdl) (fun G w a hl => by simp [Region.wanted, hg, hv G w a hl]) h
    · exact h.elim

/-- The text's order as two lists: the states and the footprints. -/
theorem anyW_trace {P : Program} {sg : Sg} {nt : Nat} {ops : Array Oper} (hT : TOK P T) : ∀ (l : List Oper) (k : Nat) (st : St) (acc : List Fp) (K : St → Prop), anyW P T sg nt ops k l st acc K →
    ∃ (ss : List St) (fs : List Fp), fs.length = l.length ∧ ss[0]? = some st ∧ (∃ z, ss[l.length]? = some z ∧ K z) ∧
      ∀ t o, l[t]? = some o → ∃ s s' fp, ss[t]? = some s ∧ ss[t + 1]? = some s' ∧ fs[t]? = some fp ∧ StepOK P T nt ops o s s' fp ∧ fp.k = k + t ∧ fp.preds = predsOf ((fs.take t).reverse ++ acc) o.after.toList ∧ fp.looks = o.looksAt ops ∧
        backOK (k + t) o.after.toList = true ∧ okFp fp ((fs.take t).reverse ++ acc) = true ∧ fp.all = false
  | [], k, st, acc, K, h => ⟨[st], [], rfl, rfl, ⟨st, rfl, h⟩, fun t o ho => by simp at ho⟩
  | o :: l, k, st, acc, K, h => by
    unfold anyW at h
    obtain ⟨s', fp, hK, h1, h2, h3, h4, h5, h6⟩ := anyStep_ok hT h
    cases hok : okFp fp acc with
    | false => rw [hok] at hK; exact hK.elim
    | true =>
      rw [hok] at hK
      simp only [cond_true] at hK
      obtain ⟨ss, fs, k1, k2, ⟨z, k3, k4⟩, k5⟩ := anyW_trace hT l (k + 1) s' (fp :: acc) K hK
      refine ⟨st :: ss, fp :: fs, by simp [k1], rfl, ⟨z, by simpa using k3, k4⟩, fun t o' ho => ?_⟩
      cases t with
      | zero =>
        simp at ho; subst ho
        exact ⟨st, s', fp, rfl, by simpa using k2, rfl, h1, by simpa using h2, by simpa using h3, h4, by simpa using h5, by simpa using hok, h6⟩
      | succ t =>
        obtain ⟨s1, s2, fp', q1, q2, q3, q4, q5, q6, q7, q8, q9, q10⟩ := k5 t o' (by simpa using ho)
        refine ⟨s1, s2, fp', by simpa using q1, by simpa using q2, by simpa using q3, q4, by omega, ?_, q7, by rw [show k + (t + 1) = k + 1 + t by omega]; exact q8, ?_, q10⟩
        · simpa using q6
        · simpa using q9

def Conf (x y : Fp) : Prop := (∃ d, x.dst = some d ∧ d ∈ y.looks) ∨ (∃ d, x.dst = some d ∧ y.dst = some d) ∨ (∃ d, y.dst = some d ∧ d ∈ x.looks) ∨ (∃ b, b ∈ x.wr ∧ (b ∈ y.ids ∨ b ∈ y.wr)) ∨ (∃ b, b ∈ y.wr ∧ b ∈ x.ids)

theorem Conf.symm {x y : Fp} (h : Conf x y) : Conf y x := by
  rcases h with ⟨d, a, b⟩ | ⟨d, a, b⟩ | ⟨d, a, b⟩ | ⟨d, a, b | b⟩ | ⟨d, a, b⟩
  · exact .inr (.inr (.inl ⟨d, a, b⟩))
  · exact .inr (.inl ⟨d, b, a⟩)
  · exact .inl ⟨d, a, b⟩
  · exact .inr (.inr (.inr (.inr ⟨d, a, b⟩)))
  · exact .inr (.inr (.inr (.inl ⟨d, b, .inr a⟩)))
  · exact .inr (.inr (.inr (.inl ⟨d, a, .inl b⟩)))

theorem indep_conf {x y : Fp} (h : indep x y = true) : ¬ Conf x y := by
  unfold indep at h
  simp only [Bool.and_eq_true] at h
  obtain ⟨⟨⟨⟨h1, h2⟩, h3⟩, h4⟩, h5⟩ := h
  rintro (⟨d, a, b⟩ | ⟨d, a, b⟩ | ⟨d, a, b⟩ | ⟨d, a, b | b⟩ | ⟨d, a, b⟩)
  · rw [a] at h1; simp only [Bool.and_eq_true, Bool.not_eq_true'] at h1; rw [memB_iff.2 b] at h1; exact absurd h1.1 (by simp)
  · rw [a, b] at h1; simp only [Bool.and_eq_true, Bool.not_eq_true'] at h1; exact absurd h1.2 (by simp)
  · rw [a] at h2; simp only [Bool.not_eq_true'] at h2; rw [memB_iff.2 b] at h2; cases h2
  · exact disj_iff h3 d a b
  · exact disj_iff h4 d a b
  · exact disj_iff h5 d a b

theorem okFp_mem {x : Fp} : ∀ {l : List Fp}, okFp x l = true → ∀ y ∈ l, y.k ∈ x.preds ∨ ¬ Conf x y
  | [], _ => by simp
  | z :: r, h => by
    simp only [okFp, Bool.and_eq_true, Bool.or_eq_true] at h
    intro y hy
    rcases List.mem_cons.1 hy with rfl | hy
    · rcases h.1 with h1 | h1
      · exact .inl (memB_iff.1 h1)
      · exact .inr (indep_conf h1)
    · exact okFp_mem h.2 y hy

theorem findPreds_mem : ∀ {acc : List Fp} {k q : Nat}, q ∈ findPreds acc k → ∃ y ∈ acc, y.k = k ∧ q ∈ y.preds
  | [], k, q, h => by simp [findPreds] at h
  | y :: r, k, q, h => by
    unfold findPreds at h
    cases hb : Nat.beq y.k k with
    | true => rw [hb] at h; exact ⟨y, by simp, Nat.eq_of_beq_eq_true hb, h⟩
    | false =>
      rw [hb] at h
      obtain ⟨z, h1, h2, h3⟩ := findPreds_mem h
      exact ⟨z, by simp [h1], h2, h3⟩

theorem predsOf_mem {acc : List Fp} : ∀ {es : List Edge} {q : Nat}, q ∈ predsOf acc es → ∃ e ∈ es, Region.binds .any e = true ∧ (q = e.on ∨ ∃ y ∈ acc, y.k = e.on ∧ q ∈ y.preds)
  | [], q, h => by simp [predsOf] at h
  | e :: r, q, h => by
    unfold predsOf at h
    cases hb : Region.binds .any e with
    | true =>
      rw [hb] at h
      simp only [cond_true, List.mem_cons, List.mem_append] at h
      rcases h with (rfl | h) | h
      · exact ⟨e, by simp, hb, .inl rfl⟩
      · exact ⟨e, by simp, hb, .inr (findPreds_mem h)⟩
      · obtain ⟨e', h1, h2, h3⟩ := predsOf_mem h
        exact ⟨e', by simp [h1], h2, h3⟩
    | false =>
      rw [hb] at h
      obtain ⟨e', h1, h2, h3⟩ := predsOf_mem h
      exact ⟨e', by simp [h1], h2, h3⟩

theorem backOK_mem {k : Nat} : ∀ {es : List Edge}, backOK k es = true → ∀ e ∈ es, Region.binds .any e = true → e.on < k
  | [], _ => by simp
  | e :: r, h => by
    simp only [backOK, Bool.and_eq_true, Bool.or_eq_true, Bool.not_eq_true'] at h
    intro e' he hb
    rcases List.mem_cons.1 he with rfl | he
    · rcases h.1 with h1 | h1
      · rw [hb] at h1; cases h1
      · exact blt_iff h1
    · exact backOK_mem h.2 e' he hb

theorem filter_lt {p p' : Nat → Bool} : ∀ (l : List Nat), (∀ x, p' x = true → p x = true) → (∃ x ∈ l, p x = true ∧ p' x = false) → (l.filter p').length < (l.filter p).length
  | [], _, h => by obtain ⟨x, hx, _⟩ := h; simp at hx
  | y :: l, hs, h => by
    have le : ∀ (l : List Nat), (l.filter p').length ≤ (l.filter p).length := by
      intro l
      induction l with
      | nil => simp
      | cons z l ih =>
        cases h1 : p' z with
        | true => simp [h1, hs z h1, ih]
        | false => cases h2 : p z <;> simp [h1, h2] <;> omega
    obtain ⟨x, hx, h1, h2⟩ := h
    by_cases hy : x = y
    · subst hy
      have := le l
      simp [h1, h2]; omega
    · have hx' : x ∈ l := by rcases List.mem_cons.1 hx with e | e; · exact absurd e hy
                             · exact e
      have ih := filter_lt l hs ⟨x, hx', h1, h2⟩
      cases h3 : p' y with
      | true => simp [h3, hs y h3]; omega
      | false => cases h4 : p y <;> simp [h3, h4] <;> omega

/-- What a trace says of a region. -/
def Trace (P : Program) (T : TT) (nt : Nat) (ops : Array Oper) (st : St) (K : St → Prop) : Prop :=
  ∃ (ss : List St) (fs : List Fp), fs.length = ops.toList.length ∧ ss[0]? = some st ∧ (∃ z, ss[ops.toList.length]? = some z ∧ K z) ∧
      ((∃ x ∈ fs, x.all = true) → ∀ y ∈ fs, y.wr = []) ∧
      ∀ t o, ops.toList[t]? = some o → ∃ s s' fp, ss[t]? = some s ∧ ss[t + 1]? = some s' ∧ fs[t]? = some fp ∧ StepOK P T nt ops o s s' fp ∧ fp.k = t ∧ fp.preds = predsOf (fs.take t).reverse o.after.toList ∧ fp.looks = o.looksAt ops ∧
        backOK t o.after.toList = true ∧ okFp fp (fs.take t).reverse = true

theorem trace_order {P : Program} {nt : Nat} {ops : Array Oper} {st : St} {G0 : Gh} {hp0 : List Blk} {w0 : World} {QA : Exit → St → Prop} (h : Trace P T nt ops st (QA .normal))
    {G : Gh} {a : Act} {w : World} (hs0 : SRel T nt G st a w) (ev0 : Evo G0 hp0 w0 G st.hp w) : wpAny P .any ops (CQ T nt G0 hp0 w0 QA) ops.size (Array.replicate ops.size false) a w := by
  obtain ⟨ss, fs, hfl, hs_0, ⟨z, hz, hKz⟩, hro, tr⟩ := h
  obtain ⟨s, hsdef⟩ : ∃ s : Nat → St, ∀ t, s t = ss.getD t ⟨[], []⟩ := ⟨_, fun _ => rfl⟩
  obtain ⟨f, hfdef⟩ : ∃ f : Nat → Fp, ∀ t, f t = fs.getD t default := ⟨_, fun _ => rfl⟩
  have sAt : ∀ {t x}, ss[t]? = some x → s t = x := fun {t x} e => by rw [hsdef]; simp [List.getD, e]
  have fAt : ∀ {t x}, fs[t]? = some x → f t = x := fun {t x} e => by rw [hfdef]; simp [List.getD, e]
  have T1 : ∀ t (ht : t < ops.size), StepOK P T nt ops ops[t] (s t) (s (t + 1)) (f t) ∧ (f t).k = t ∧ (f t).preds = predsOf (fs.take t).reverse ops[t].after.toList ∧ (f t).looks = ops[t].looksAt ops ∧ backOK t ops[t].after.toList = true ∧ okFp (f t) (fs.take t).reverse = true := by
    intro t ht
    obtain ⟨s1, s2, fp, q1, q2, q3, q4, q5, q6, q7, q8, q9⟩ := tr t ops[t] (by simp [ht])
    rw [sAt q1, sAt q2, fAt q3]
    exact ⟨q4, by omega, by simpa using q6, q7, by simpa using q8, by simpa using q9⟩
  have early : ∀ {t y}, y ∈ (fs.take t).reverse → ∃ j, j < t ∧ j < ops.size ∧ f j = y := by
    intro t y hy
    obtain ⟨j, hj, he⟩ := List.mem_iff_getElem.1 (List.mem_reverse.1 hy)
    have hj1 : j < t := by simp at hj; omega
    have hj2 : j < fs.length := by simp at hj; omega
    refine ⟨j, hj1, by rw [hfl] at hj2; simpa using hj2, fAt ?_⟩
    rw [← he, List.getElem_take]
    exact List.getElem?_eq_getElem hj2
  have memE : ∀ {t j}, j < t → j < ops.size → f j ∈ (fs.take t).reverse := by
    intro t j h1 h2
    have hjl : j < fs.length := by rw [hfl]; simpa using h2
    rw [List.mem_reverse, List.mem_iff_getElem]
    refine ⟨j, by simp; omega, ?_⟩
    rw [List.getElem_take, fAt (List.getElem?_eq_getElem hjl)]
  have conf : ∀ {i j}, i < ops.size → j < i → Conf (f i) (f j) → j ∈ (f i).preds := by
    intro i j hi hj hc
    have hjs : j < ops.size := by omega
    rcases okFp_mem (T1 i hi).2.2.2.2.2 (f j) (memE hj hjs) with h1 | h1
    · rwa [(T1 j hjs).2.1] at h1
    · exact absurd hc h1
  -- what holds behind any set of operations that has come up
  let S : Array Bool → Nat → Prop := fun listed t => listed.getD t false = true
  have closed : ∀ (listed : Array Bool), (∀ t (ht : t < ops.size), S listed t → ∀ e ∈ ops[t].after.toList, Region.binds .any e = true → S listed e.on) → ∀ t, t < ops.size → S listed t → ∀ q ∈ (f t).preds, S listed q := by
    intro listed hcl t
    induction t using Nat.strongRecOn with
    | _ t ih =>
      intro ht hSt q hq
      rw [(T1 t ht).2.2.1] at hq
      obtain ⟨e, he, hb, hq⟩ := predsOf_mem hq
      have hSe := hcl t ht hSt e he hb
      rcases hq with rfl | ⟨y, hy, hyk, hyq⟩
      · exact hSe
      · obtain ⟨j, hj1, hj2, rfl⟩ := early hy
        rw [(T1 j hj2).2.1] at hyk
        subst hyk
        exact ih _ hj1 hj2 hSe q hyq
  have main : ∀ (fuel : Nat) (listed : Array Bool) (a : Act) (w : World), listed.size = ops.size → (∀ t (ht : t < ops.size), S listed t → ∀ e ∈ ops[t].after.toList, Region.binds .any e = true → S listed e.on) →
      ((List.range ops.size).filter fun i => !listed.getD i true).length ≤ fuel →
      (∃ G hpS, HRel T G hpS w ∧ Evo G0 hp0 w0 G hpS w ∧ a.tmps.size = nt ∧ a.defers = [] ∧
        (∀ t, t ≤ ops.size → ∀ k, (∀ j, j < ops.size → (f j).dst = some k → (j < t ↔ S listed j)) → PRel T G w (get (s t).sl k) (a.tmps.getD k undef)) ∧
        (∀ t, t ≤ ops.size → ∀ b, (∀ j, j < ops.size → b ∈ (f j).wr → (j < t ↔ S listed j)) → hpS.getD b Blk.none = (s t).hp.getD b Blk.none)) →
      wpAny P .any ops (CQ T nt G0 hp0 w0 QA) fuel listed a w := by
    intro fuel
    have atEnd : ∀ (listed : Array Bool) (a : Act) (w : World), listed.size = ops.size → (∀ t, t < ops.size → S listed t) →
        (∃ G hpS, HRel T G hpS w ∧ Evo G0 hp0 w0 G hpS w ∧ a.tmps.size = nt ∧ a.defers = [] ∧
          (∀ t, t ≤ ops.size → ∀ k, (∀ j, j < ops.size → (f j).dst = some k → (j < t ↔ S listed j)) → PRel T G w (get (s t).sl k) (a.tmps.getD k undef)) ∧
          (∀ t, t ≤ ops.size → ∀ b, (∀ j, j < ops.size → b ∈ (f j).wr → (j < t ↔ S listed j)) → hpS.getD b Blk.none = (s t).hp.getD b Blk.none)) → CQ T nt G0 hp0 w0 QA .normal a w := by
      rintro listed a w _ hall ⟨G, hpS, h1, h2, h3, h4, h5, h6⟩
      have e1 : s ops.size = z := sAt (by simpa using hz)
      have hh : ∀ b, z.hp.getD b Blk.none = hpS.getD b Blk.none := fun b => by
        rw [← e1]; exact (h6 ops.size (Nat.le_refl _) b fun j hj _ => ⟨fun _ => hall j hj, fun _ => hj⟩).symm
      exact ⟨G, z, hKz, ⟨h3, fun k => by rw [← e1]; exact h5 ops.size (Nat.le_refl _) k fun j hj _ => ⟨fun _ => hall j hj, fun _ => hj⟩, h4, h1.ext hh⟩, h2.ext' hh⟩
    have minimal : ∀ (listed : Array Bool), listed.size = ops.size → ¬ (∀ t, t < ops.size → S listed t) → Region.ready .any ops listed ≠ [] := by
      intro listed hsz hnot hr
      have : ∃ t, t < ops.size ∧ ¬ S listed t ∧ ∀ j, j < t → S listed j := by
        have ex : ∃ t, t < ops.size ∧ ¬ S listed t := by
          refine Classical.byContradiction fun hne => hnot fun t ht => Classical.byContradiction fun hn => hne ⟨t, ht, hn⟩
        obtain ⟨t, ht, hn⟩ := ex
        induction t using Nat.strongRecOn with
        | _ t ih =>
          by_cases hb : ∀ j, j < t → S listed j
          · exact ⟨t, ht, hn, hb⟩
          · obtain ⟨j, hj⟩ := Classical.not_forall.1 hb
            obtain ⟨hj1, hj2⟩ := Classical.not_imp.1 hj
            exact ih j hj1 (by omega) hj2
      obtain ⟨t, ht, hn, hb⟩ := this
      have hmem : t ∈ Region.ready .any ops listed := by
        unfold Region.ready
        rw [List.mem_filter]
        refine ⟨by simpa using ht, ?_⟩
        have hlt : t < listed.size := by omega
        have e1 : listed.getD t true = false := by
          have : listed.getD t false ≠ true := hn
          simp [Array.getD, hlt] at this ⊢
          exact this
        rw [e1, Array.getElem?_eq_getElem ht]
        simp only [Bool.not_false, Option.map_some, Option.getD_some, Bool.true_and]
        rw [← Array.all_toList, List.all_eq_true]
        intro e he
        cases hbd : Region.binds .any e with
        | false => rfl
        | true =>
          have := backOK_mem (T1 t ht).2.2.2.2.1 e he hbd
          have := hb e.on this
          simpa [S] using this
      rw [hr] at hmem
      simp at hmem
    induction fuel with
    | zero =>
      intro listed a w hsz hcl hun hinv
      have hall : ∀ t, t < ops.size → S listed t := by
        intro t ht
        refine Classical.byContradiction fun hn => ?_
        have hlen : ((List.range ops.size).filter fun i => !listed.getD i true).length = 0 := by omega
        have hnil := List.eq_nil_of_length_eq_zero hlen
        have hm : t ∈ (List.range ops.size).filter fun i => !listed.getD i true := by
          rw [List.mem_filter]
          refine ⟨by simpa using ht, ?_⟩
          have hlt : t < listed.size := by omega
          have : listed.getD t false ≠ true := hn
          simp [Array.getD, hlt] at this ⊢
          exact this
        rw [hnil] at hm
        simp at hm
      refine ⟨?_, atEnd listed a w hsz hall hinv⟩
      unfold Region.ready
      rw [List.filter_eq_nil_iff]
      intro t ht
      have ht' : t < ops.size := by simpa using ht
      have := hall t ht'
      have hlt : t < listed.size := by omega
      have e1 : listed.getD t true = true := by
        have h2 : listed.getD t false = true := this
        simp [Array.getD, hlt] at h2 ⊢
        exact h2
      simp [e1]
    | succ fuel ih =>
      intro listed a w hsz hcl hun hinv
      refine ⟨fun hr => ?_, fun i hi => ?_⟩
      · refine atEnd listed a w hsz ?_ hinv
        exact Classical.byContradiction fun hn => minimal listed hsz hn hr
      · unfold Region.ready at hi
        rw [List.mem_filter] at hi
        have his : i < ops.size := by simpa using hi.1
        have hilt : i < listed.size := by omega
        have hi2 := hi.2
        simp only [Bool.and_eq_true, Bool.not_eq_true', Array.getElem?_eq_getElem his, Option.map_some, Option.getD_some] at hi2
        have hni : ¬ S listed i := by
          intro hS
          have h1 : listed.getD i false = true := hS
          have h2 := hi2.1
          simp [Array.getD, hilt] at h1 h2
          rw [h1] at h2; cases h2
        have hedges : ∀ e ∈ ops[i].after.toList, Region.binds .any e = true → S listed e.on := by
          intro e he hb
          have := hi2.2
          rw [← Array.all_toList, List.all_eq_true] at this
          have := this e he
          rw [hb] at this
          simpa [S] using this
        obtain ⟨ok, ok2, ok3, ok4, ok5, ok6⟩ := T1 i his
        obtain ⟨G, hpS, i1, i2, i3, i4, i5, i6⟩ := hinv
        have pre_i : ∀ q ∈ (f i).preds, S listed q := by
          intro q hq
          rw [ok3] at hq
          obtain ⟨e, he, hb, hq⟩ := predsOf_mem hq
          have hSe := hedges e he hb
          rcases hq with rfl | ⟨y, hy, hyk, hyq⟩
          · exact hSe
          · obtain ⟨j, hj1, hj2, rfl⟩ := early hy
            rw [(T1 j hj2).2.1] at hyk
            subst hyk
            exact closed listed hcl _ hj2 hSe q hyq
        -- operations that have something to do with i have come up just where the text has them ahead of it
        have around : ∀ j, j < ops.size → Conf (f i) (f j) → j ≠ i → (j < i ↔ S listed j) := by
          intro j hj hc hne
          constructor
          · intro hlt; exact pre_i j (conf his hlt hc)
          · intro hS
            rcases Nat.lt_or_gt_of_ne hne with h1 | h1
            · exact h1
            · exact absurd (closed listed hcl j hj hS i (conf hj h1 hc.symm)) hni
        have aroundI : ∀ j, j < ops.size → (j ≠ i → Conf (f i) (f j)) → (j < i ↔ S listed j) := by
          intro j hj hc
          by_cases hji : j = i
          · subst hji; exact ⟨fun h => absurd h (Nat.lt_irrefl _), fun h => absurd h hni⟩
          · exact around j hj (hc hji) hji
        unfold wpOp
        rw [Array.getElem?_eq_getElem his]
        have S' : ∀ j, j < ops.size → (S (listed.setIfInBounds i true) j ↔ (S listed j ∨ j = i)) := by
          intro j hj
          show ((listed.setIfInBounds i true).getD j false = true) ↔ _
          by_cases hji : j = i
          · subst hji; simp [Array.getD, hilt]
          · have hne : i ≠ j := fun e => hji e.symm
            simp [S, Array.getD_eq_getD_getElem?, Array.getElem?_setIfInBounds_ne hne, hji]
        have S'' : ∀ j, S listed j → S (listed.setIfInBounds i true) j := by
          intro j hS
          show (listed.setIfInBounds i true).getD j false = true
          have h1 : listed.getD j false = true := hS
          by_cases hji : i = j
          · subst hji; simp [Array.getD, hilt]
          · rw [Array.getD_eq_getD_getElem?, Array.getElem?_setIfInBounds_ne hji, ← Array.getD_eq_getD_getElem?]; exact h1
        have stepped := ok.trip G hpS a w (wpAny P .any ops (CQ T nt G0 hp0 w0 QA) fuel (listed.setIfInBounds i true)) (CQ T nt G0 hp0 w0 QA) i1 i3 i4
          (fun k hk => i5 i (by omega) k fun j hj hd => aroundI j hj fun _ => .inr (.inr (.inl ⟨k, hd, hk⟩)))
          (fun b hb => i6 i (by omega) b fun j hj hw => aroundI j hj fun _ => .inr (.inr (.inr (.inr ⟨b, hw, hb⟩))))
          (fun hall b => i6 i (by omega) b fun j hj hw => by
            have memf : ∀ q, q < ops.size → f q ∈ fs := fun q hq => by
              have hql : q < fs.length := by rw [hfl]; simpa using hq
              rw [fAt (List.getElem?_eq_getElem hql)]; exact List.getElem_mem hql
            have := hro ⟨f i, memf i his, hall⟩ (f j) (memf j hj)
            rw [this] at hw; simp at hw)
          (fun b hb hbn => by
            rw [i6 i (by omega) b fun j hj hw => aroundI j hj fun _ => .inr (.inr (.inr (.inl ⟨b, hb, .inr hw⟩)))]
            exact ok.fresh b hb hbn)
          (fun v w' G' hpS' j1 j2 j3 j4 j5 => by
            refine ih _ _ _ (by simpa using hsz) (fun t ht hSt e he hb => ?_) ?_ ⟨G', hpS', j1, i2.trans j2, by cases ops[i].dst <;> simp [Act.put, i3], by cases ops[i].dst <;> simpa [Act.put] using i4, fun t ht k hk => ?_, fun t ht b hb => ?_⟩
            · rcases (S' t ht).1 hSt with h1 | h1
              · exact S'' _ (hcl t ht h1 e he hb)
              · subst h1; exact S'' _ (hedges e he hb)
            · have := filter_lt (p := fun j => !listed.getD j true) (p' := fun j => !(listed.setIfInBounds i true).getD j true) (List.range ops.size) (fun x hx => by
                by_cases hxi : i = x
                · subst hxi; simp [Array.getD, hilt] at hx
                · simpa [Array.getD_eq_getD_getElem?, Array.getElem?_setIfInBounds_ne hxi] using hx) ⟨i, by simpa using his, by simpa using hi2.1, by simp [Array.getD, hilt]⟩
              omega
            · have chain : ∀ (m : Nat), i + 1 + m ≤ t → (∀ q, i + 1 ≤ q → q < i + 1 + m → ops[q]? ≠ none → ∀ hq : q < ops.size, ops[q].dst ≠ some k) → ∀ G w v, PRel T G w (get (s (i + 1)).sl k) v ↔ PRel T G w (get (s (i + 1 + m)).sl k) v := by
                intro m
                induction m with
                | zero => intro _ _ G w v; exact Iff.rfl
                | succ m ihm =>
                  intro hle hno G w v
                  have hq : i + 1 + m < ops.size := by omega
                  rw [ihm (by omega) (fun q h1 h2 => hno q h1 (by omega)) G w v]
                  exact (T1 (i + 1 + m) hq).1.slots k (hno (i + 1 + m) (by omega) (by omega) (by simp [hq]) hq) G w v
              by_cases hd : ops[i].dst = some k
              · have hit : i < t := by
                  have := hk i his (by rw [ok.dst, hd])
                  exact this.2 ((S' i his).2 (.inr rfl))
                have hkt : k < a.tmps.size := by
                  have := ok.dok
                  rw [hd] at this
                  rw [i3]; exact blt_iff this
                have e1 : (a.put ops[i].dst v).tmps.getD k undef = v := by
                  rw [hd]
                  simp [Act.put, Array.getD_eq_getD_getElem?, hkt]
                rw [e1]
                obtain ⟨m, rfl⟩ : ∃ m, t = i + 1 + m := ⟨t - (i + 1), by omega⟩
                refine (chain m (Nat.le_refl _) (fun q h1 h2 _ hq hdq => ?_) G' w' v).1 (j3 k hd)
                have hSq := (hk q hq (by rw [(T1 q hq).1.dst, hdq])).1 h2
                rcases (S' q hq).1 hSq with h3 | h3
                · exact hni (closed listed hcl q hq h3 i (conf hq (by omega) (.inr (.inl ⟨k, by rw [(T1 q hq).1.dst, hdq], by rw [ok.dst, hd]⟩))))
                · omega
              · have old := i5 t ht k fun j hj hdj => by
                  have := hk j hj hdj
                  rw [S' j hj] at this
                  have hji : j ≠ i := fun e => by subst e; rw [ok.dst] at hdj; exact hd hdj
                  simpa [hji] using this
                have e1 : (a.put ops[i].dst v).tmps.getD k undef = a.tmps.getD k undef := by
                  cases hdd : ops[i].dst with
                  | none => rfl
                  | some d =>
                    have hne : d ≠ k := fun e => hd (by rw [hdd, e])
                    simp [Act.put, Array.getD_eq_getD_getElem?, Array.getElem?_setIfInBounds_ne hne]
                rw [e1]
                exact old.mono j2.ext (j2.frozen i1)
            · by_cases hbw : b ∈ (f i).wr
              · have hit : i < t := (hb i his hbw).2 ((S' i his).2 (.inr rfl))
                rw [j4 b hbw]
                obtain ⟨m, rfl⟩ : ∃ m, t = i + 1 + m := ⟨t - (i + 1), by omega⟩
                have chain : ∀ (m' : Nat), m' ≤ m → (s (i + 1)).hp.getD b Blk.none = (s (i + 1 + m')).hp.getD b Blk.none := by
                  intro m'
                  induction m' with
                  | zero => intro _; rfl
                  | succ m' ihm =>
                    intro hle
                    have hq : i + 1 + m' < ops.size := by omega
                    rw [ihm (by omega)]
                    refine ((T1 (i + 1 + m') hq).1.heap b fun hwq => ?_).symm
                    have hSq := (hb _ hq hwq).1 (by omega)
                    rcases (S' _ hq).1 hSq with h3 | h3
                    · exact hni (closed listed hcl _ hq h3 i (conf hq (by omega) (.inr (.inr (.inr (.inl ⟨b, hwq, .inr hbw⟩))))))
                    · omega
                exact chain m (Nat.le_refl _)
              · rw [j5 b hbw]
                refine i6 t ht b fun j hj hwj => ?_
                have := hb j hj hwj
                rw [S' j hj] at this
                have hji : j ≠ i := fun e => by subst e; exact hbw hwj
                simpa [hji] using this)
        show if Region.wanted ops[i] (yielded ops a.tmps) = true then _ else _
        split
        · rename_i hw; rw [if_pos hw] at stepped; exact .inl stepped
        · rename_i hw; rw [if_neg hw] at stepped; exact stepped
  have nS : ∀ t, ¬ S (Array.replicate ops.size false) t := by
    intro t
    show ¬ ((Array.replicate ops.size false).getD t false = true)
    simp [Array.getD_eq_getD_getElem?, Array.getElem?_replicate]
    split <;> simp
  refine main ops.size _ a w (by simp) (fun t ht hSt => absurd hSt (nS t)) ?_ ⟨G, st.hp, hs0.hp, ev0, hs0.n, hs0.df, fun t ht k hk => ?_, fun t ht b hb => ?_⟩
  · exact Nat.le_trans (List.length_filter_le _ _) (by simp)
  · have e0 : s 0 = st := sAt hs_0
    have chain : ∀ m, m ≤ t → ∀ G w v, PRel T G w (get (s 0).sl k) v ↔ PRel T G w (get (s m).sl k) v := by
      intro m
      induction m with
      | zero => intro _ G w v; exact Iff.rfl
      | succ m ih =>
        intro hle G w v
        have hq : m < ops.size := by omega
        rw [ih (by omega) G w v]
        refine (T1 m hq).1.slots k (fun hd => ?_) G w v
        exact absurd ((hk m hq (by rw [(T1 m hq).1.dst, hd])).1 (by omega)) (nS m)
    refine (chain t (Nat.le_refl _) G w _).1 ?_
    rw [e0]; exact hs0.sl k
  · have e0 : s 0 = st := sAt hs_0
    have chain : ∀ m, m ≤ t → (s 0).hp.getD b Blk.none = (s m).hp.getD b Blk.none := by
      intro m
      induction m with
      | zero => intro _; rfl
      | succ m ih =>
        intro hle
        have hq : m < ops.size := by omega
        rw [ih (by omega)]
        refine ((T1 m hq).1.heap b fun hw => ?_).symm
        exact absurd ((hb m hq hw).1 (by omega)) (nS m)
    rw [← chain t (Nat.le_refl _), e0]


theorem any_order {P : Program} {sg : Sg} {nt : Nat} {ops : Array Oper} (hT : TOK P T) {st : St} {G0 : Gh} {hp0 : List Blk} {w0 : World} {QA : Exit → St → Prop} (h : anyW P T sg nt ops 0 ops.toList st [] (QA .normal))
    {G : Gh} {a : Act} {w : World} (hs0 : SRel T nt G st a w) (ev0 : Evo G0 hp0 w0 G st.hp w) : wpAny P .any ops (CQ T nt G0 hp0 w0 QA) ops.size (Array.replicate ops.size false) a w := by
  obtain ⟨ss, fs, hfl, hs_0, hz, tr⟩ := anyW_trace hT ops.toList 0 st [] _ h
  refine trace_order (QA := QA) ⟨ss, fs, hfl, hs_0, hz, ?_, fun t o ho => ?_⟩ hs0 ev0
  · rintro ⟨x, hx, hxa⟩
    obtain ⟨j, hj, rfl⟩ := List.mem_iff_getElem.1 hx
    have hjo : j < ops.toList.length := by rw [← hfl]; exact hj
    obtain ⟨s1, s2, fp, _, _, q3, _, _, _, _, _, _, q10⟩ := tr j ops.toList[j] (List.getElem?_eq_getElem hjo)
    rw [List.getElem?_eq_getElem hj] at q3
    cases q3
    rw [q10] at hxa; cases hxa
  · obtain ⟨s1, s2, fp, q1, q2, q3, q4, q5, q6, q7, q8, q9, _⟩ := tr t o ho
    exact ⟨s1, s2, fp, q1, q2, q3, q4, by omega, by simpa using q6, q7, by simpa using q8, by simpa using q9⟩

/-! ## Regions that only read -/
def roFp (ops : Array Oper) (k : Nat) (o : Oper) (acc : List Fp) : Fp := ⟨k, predsOf acc o.after.toList, o.looksAt ops, o.dst, [], [], true⟩
def roOK (ops : Array Oper) : Nat → List Oper → List Fp → Bool
  | _, [], _ => true
  | k, o :: r, acc => pureOp o.op && backOK k o.after.toList && okFp (roFp ops k o acc) acc && roOK ops (k + 1) r (roFp ops k o acc :: acc)
def roGo (P : Program) (T : TT) (sg : Sg) (nt : Nat) (ops : Array Oper) (o : Oper) (st : St) (told : List (Nat × PV)) (K : St → Prop) : Prop :=
  execW P T sg nt o ⟨told ++ pickS st.sl (o.looksAt ops), st.hp⟩ st.hp.length 1000 fun out => K ⟨putP (told ++ st.sl) o.dst (dstGet out.sl o.dst), st.hp⟩
def roSkip (nt : Nat) (o : Oper) (st : St) (told : List (Nat × PV)) (K : St → Prop) : Prop :=
  bif dstOK nt o.dst then K ⟨putP (told ++ st.sl) o.dst (.c undef), st.hp⟩ else False
def roStep (P : Program) (T : TT) (sg : Sg) (nt : Nat) (ops : Array Oper) (o : Oper) (st : St) (K : St → Prop) : Prop :=
  match o.guard with
  | none => roGo P T sg nt ops o st [] K
  | some (j, want) => match (ops[j]?).bind (·.dst) with
    | none => False
    | some d => match get st.sl d with
      | .kb c => bif c == want then roGo P T sg nt ops o st [] K else roSkip nt o st [] K
      | .c (.tuple _) => roSkip nt o st [] K
      | .d (.b x) => (x = true → bif want then roGo P T sg nt ops o st [(d, .kb true)] K else roSkip nt o st [(d, .kb true)] K) ∧
          (x = false → bif want then roSkip nt o st [(d, .kb false)] K else roGo P T sg nt ops o st [(d, .kb false)] K)
      | _ => False
def roW (P : Program) (T : TT) (sg : Sg) (nt : Nat) (ops : Array Oper) : List Oper → St → (St → Prop) → Prop
  | [], st, K => K st
  | o :: r, st, K => roStep P T sg nt ops o st fun st' => roW P T sg nt ops r st' K

theorem roGo_ok {P : Program} {sg : Sg} {nt : Nat} {ops : Array Oper} (hT : TOK P T) {k : Nat} {o : Oper} {st : St} {told : List (Nat × PV)} {acc : List Fp} {K : St → Prop} (hpu : pureOp o.op = true) (htold : Told T st.sl (o.looksAt ops) told)
    (hw : ∀ (G : Gh) (w : World) (a : Act), (∀ q ∈ o.looksAt ops, PRel T G w (get st.sl q) (a.tmps.getD q undef)) → Region.wanted o (yielded ops a.tmps) = true) (h : roGo P T sg nt ops o st told K) :
    ∃ s', K s' ∧ s'.hp = st.hp ∧ StepOK P T nt ops o st s' (roFp ops k o acc) := by
  unfold roGo at h
  obtain ⟨out, hx, hK⟩ := execW_det P sg nt o _ _ _ _ h
  have hx := hx (fun q => q = out) rfl
  have hdok := execW_dst hx
  refine ⟨_, hK, rfl, ⟨rfl, fun q hq G w v => ?_, fun _ _ => rfl, fun b hb => by simp [roFp] at hb, hdok, ?_⟩⟩
  · show PRel T G w (get st.sl q) v ↔ PRel T G w (get (putP (told ++ st.sl) o.dst _) q) v
    rw [get_putP hq]; exact htold.eqv q G w v
  · intro G hpS a w next Q hh hsz hdf hlook _ hall hfreshv hnext
    rw [if_pos (hw G w a hlook)]
    have hk : HRel T G st.hp w := hh.ext fun b => (hall rfl b).symm
    have hsr : SRel T nt G ⟨told ++ pickS st.sl (o.looksAt ops), st.hp⟩ a w := by
      refine ⟨hsz, fun q => ?_, hdf, hk⟩
      have pick : ∀ q, PRel T G w (get (pickS st.sl (o.looksAt ops)) q) (a.tmps.getD q undef) := by
        intro q
        by_cases hq : q ∈ o.looksAt ops
        · rcases pickS_get st.sl (o.looksAt ops) q with e | e
          · rw [e]; exact hlook q hq
          · rw [e]; exact .u _
        · have : get (pickS st.sl (o.looksAt ops)) q = .u := by
            generalize o.looksAt ops = l at hq
            induction l with
            | nil => rfl
            | cons x r ih =>
              simp only [pickS, get_cons]
              rw [if_neg (fun e => hq (by simp [e])), ih (fun hm => hq (by simp [hm]))]
          rw [this]; exact .u _
      cases htold with
      | nil => exact pick q
      | one d c hd hdl =>
        show PRel T G w (get ((d, .kb c) :: pickS st.sl (o.looksAt ops)) q) _
        rw [get_cons]
        by_cases e : d = q
        · rw [if_pos e, ← e]
          have := hlook d hdl
          rw [hd] at this
          rw [boolP_rel this rfl]; exact .kb c
        · rw [if_neg e]; exact pick q
    unfold execW at hx
    rw [hdok] at hx
    simp only [cond_true] at hx
    have plain : (bif Nat.ble 1 1000 then opW T o.op (told ++ pickS st.sl (o.looksAt ops)) st.hp st.hp.length (fun p hp' => (⟨putP (told ++ pickS st.sl (o.looksAt ops)) o.dst p, hp'⟩ : St) = out) else False) → o.wp P a w next Q := by
      intro h1
      have h1 : opW T o.op (told ++ pickS st.sl (o.looksAt ops)) st.hp st.hp.length (fun p hp' => (⟨putP (told ++ pickS st.sl (o.looksAt ops)) o.dst p, hp'⟩ : St) = out) := h1
      obtain ⟨p, u, e1, e2, e3⟩ := opW_pure_sound hT hsr hpu h1
      unfold Oper.wp
      rw [e3]
      refine hnext u w G hpS hh (Evo.refl _ _ _) (fun d hd => ?_) (fun b hb => by simp [roFp] at hb) (fun _ _ => rfl)
      show PRel T G w (get (putP (told ++ st.sl) o.dst (dstGet out.sl o.dst)) d) u
      rw [hd, get_putP_same, ← e1, hd]
      show PRel T G w (get (putP _ (some d) p) d) u
      rw [get_putP_same]
      exact e2
    split at hx
    · rename_i c ho
      split at hx
      · rename_i f hc
        rw [ho] at hpu
        simp only [pureOp, hc] at hpu
        cases hpu
      · exact plain hx
    · exact plain hx

theorem roSkip_ok {P : Program} {nt : Nat} {ops : Array Oper} {k : Nat} {o : Oper} {st : St} {told : List (Nat × PV)} {acc : List Fp} {K : St → Prop} (htold : Told T st.sl (o.looksAt ops) told)
    (hw : ∀ (G : Gh) (w : World) (a : Act), (∀ q ∈ o.looksAt ops, PRel T G w (get st.sl q) (a.tmps.getD q undef)) → Region.wanted o (yielded ops a.tmps) = false) (h : roSkip nt o st told K) :
    ∃ s', K s' ∧ s'.hp = st.hp ∧ StepOK P T nt ops o st s' (roFp ops k o acc) := by
  unfold roSkip at h
  cases hb : dstOK nt o.dst with
  | false => rw [hb] at h; exact h.elim
  | true =>
    rw [hb] at h
    simp only [cond_true] at h
    refine ⟨_, h, rfl, ⟨rfl, fun q hq G w v => ?_, fun _ _ => rfl, fun b hb => by simp [roFp] at hb, hb, ?_⟩⟩
    · show _ ↔ PRel T G w (get (putP _ _ _) q) v
      rw [get_putP hq]; exact htold.eqv q G w v
    · intro G hpS a w next Q hh hsz hdf hlook _ _ _ hnext
      rw [if_neg (by rw [hw G w a hlook]; simp)]
      refine hnext undef w G hpS hh (Evo.refl _ _ _) (fun d hd => ?_) (fun b hb => by simp [roFp] at hb) (fun _ _ => rfl)
      rw [hd]
      show PRel T G w (get (putP (told ++ st.sl) (some d) (PV.c undef)) d) undef
      rw [get_putP_same]; exact PRel.c undef

theorem roStep_ok {P : Program} {sg : Sg} {nt : Nat} {ops : Array Oper} (hT : TOK P T) {k : Nat} {o : Oper} {st : St} {acc : List Fp} {K : St → Prop} (hpu : pureOp o.op = true) (h : roStep P T sg nt ops o st K) :
    ∃ s', K s' ∧ s'.hp = st.hp ∧ StepOK P T nt ops o st s' (roFp ops k o acc) := by
  unfold roStep at h
  split at h
  · rename_i hg
    exact roGo_ok hT hpu .nil (fun G w a _ => by simp [Region.wanted, hg]) h
  · rename_i j want hg
    split at h
    case h_1 => exact h.elim
    rename_i d hdj
    have hdl : d ∈ o.looksAt ops := by
      unfold Oper.looksAt
      rw [hg]
      simp [hdj]
    have hy : ∀ (a : Act) c, a.tmps.getD d undef = .bool c → yielded ops a.tmps j = some c := by
      intro a c hc
      unfold yielded
      rw [hdj]
      simp only [Option.bind_some]
      rw [Array.getD_eq_getD_getElem?] at hc
      cases ht : a.tmps[d]? with
      | none => rw [ht] at hc; simp [undef] at hc
      | some u => rw [ht] at hc; simp at hc; subst hc; rfl
    split at h
    · rename_i c hgd
      have hv : ∀ (G : Gh) (w : World) (a : Act), (∀ q ∈ o.looksAt ops, PRel T G w (get st.sl q) (a.tmps.getD q undef)) → yielded ops a.tmps j = some c := by
        intro G w a hl
        have := hl d hdl
        rw [hgd] at this
        refine hy a c ?_
        generalize a.tmps.getD d undef = u at this
        cases this; rfl
      cases hcw : (c == want) with
      | true =>
        rw [hcw] at h
        have : c = want := by simpa using hcw
        exact roGo_ok hT hpu .nil (fun G w a hl => by simp [Region.wanted, hg, hv G w a hl, this]) h
      | false =>
        rw [hcw] at h
        have hne : c ≠ want := by simpa using hcw
        exact roSkip_ok .nil (fun G w a hl => by simp [Region.wanted, hg, hv G w a hl, hne]) h
    · rename_i vs hgd
      have hv : ∀ (G : Gh) (w : World) (a : Act), (∀ q ∈ o.looksAt ops, PRel T G w (get st.sl q) (a.tmps.getD q undef)) → yielded ops a.tmps j = none := by
        intro G w a hl
        have := hl d hdl
        rw [hgd] at this
        have hv : a.tmps.getD d undef = .tuple vs := by
          generalize a.tmps.getD d undef = u at this; cases this; rfl
        unfold yielded
        rw [hdj]
        simp only [Option.bind_some]
        rw [Array.getD_eq_getD_getElem?] at hv
        cases ht : a.tmps[d]? with
        | none => rfl
        | some u => rw [ht] at hv; simp at hv; subst hv; rfl
      exact roSkip_ok .nil (fun G w a hl => by simp [Region.wanted, hg, hv G w a hl]) h
    · rename_i x hgd
      have hv : ∀ (G : Gh) (w : World) (a : Act), (∀ q ∈ o.looksAt ops, PRel T G w (get st.sl q) (a.tmps.getD q undef)) → yielded ops a.tmps j = some x := by
        intro G w a hl
        have := hl d hdl
        rw [hgd] at this
        exact hy a x (boolP_rel this rfl)
      cases x with
      | true =>
        have h := h.1 rfl
        cases want with
        | true => exact roGo_ok hT hpu (.one d true hgd hdl) (fun G w a hl => by simp [Region.wanted, hg, hv G w a hl]) h
        | false => exact roSkip_ok (.one d true hgd hdl) (fun G w a hl => by simp [Region.wanted, hg, hv G w a hl]) h
      | false =>
        have h := h.2 rfl
        cases want with
        | true => exact roSkip_ok (.one d false hgd hdl) (fun G w a hl => by simp [Region.wanted, hg, hv G w a hl]) h
        | false => exact roGo_ok hT hpu (.one d false hgd hdl) (fun G w a hl => by simp [Region.wanted, hg, hv G w a hl]) h
    · exact h.elim


theorem roW_trace {P : Program} {sg : Sg} {nt : Nat} {ops : Array Oper} (hT : TOK P T) : ∀ (l : List Oper) (k : Nat) (st : St) (acc : List Fp) (K : St → Prop), roW P T sg nt ops l st K → roOK ops k l acc = true →
    ∃ (ss : List St) (fs : List Fp), fs.length = l.length ∧ ss[0]? = some st ∧ (∃ z, ss[l.length]? = some z ∧ K z) ∧ (∀ y ∈ fs, y.wr = []) ∧
      ∀ t o, l[t]? = some o → ∃ s s' fp, ss[t]? = some s ∧ ss[t + 1]? = some s' ∧ fs[t]? = some fp ∧ StepOK P T nt ops o s s' fp ∧ fp.k = k + t ∧ fp.preds = predsOf ((fs.take t).reverse ++ acc) o.after.toList ∧ fp.looks = o.looksAt ops ∧
        backOK (k + t) o.after.toList = true ∧ okFp fp ((fs.take t).reverse ++ acc) = true
  | [], k, st, acc, K, h, _ => ⟨[st], [], rfl, rfl, ⟨st, rfl, h⟩, by simp, fun t o ho => by simp at ho⟩
  | o :: l, k, st, acc, K, h, hok => by
    unfold roW at h
    simp only [roOK, Bool.and_eq_true] at hok
    obtain ⟨⟨⟨o1, o2⟩, o3⟩, o4⟩ := hok
    obtain ⟨s', hK, _, h1⟩ := roStep_ok (k := k) (acc := acc) hT o1 h
    obtain ⟨ss, fs, k1, k2, ⟨z, k3, k4⟩, kw, k5⟩ := roW_trace hT l (k + 1) s' (roFp ops k o acc :: acc) K hK o4
    refine ⟨st :: ss, roFp ops k o acc :: fs, by simp [k1], rfl, ⟨z, by simpa using k3, k4⟩, fun y hy => ?_, fun t o' ho => ?_⟩
    · rcases List.mem_cons.1 hy with rfl | hy
      · rfl
      · exact kw y hy
    · cases t with
      | zero =>
        simp at ho; subst ho
        exact ⟨st, s', roFp ops k o acc, rfl, by simpa using k2, rfl, h1, by simp [roFp], by simp [roFp], rfl, by simpa using o2, by simpa using o3⟩
      | succ t =>
        obtain ⟨s1, s2, fp', q1, q2, q3, q4, q5, q6, q7, q8, q9⟩ := k5 t o' (by simpa using ho)
        refine ⟨s1, s2, fp', by simpa using q1, by simpa using q2, by simpa using q3, q4, by omega, ?_, q7, by rw [show k + (t + 1) = k + 1 + t by omega]; exact q8, ?_⟩
        · simpa using q6
        · simpa using q9

theorem ro_order {P : Program} {sg : Sg} {nt : Nat} {ops : Array Oper} (hT : TOK P T) {st : St} {G0 : Gh} {hp0 : List Blk} {w0 : World} {QA : Exit → St → Prop} (h : roW P T sg nt ops ops.toList st (QA .normal)) (hok : roOK ops 0 ops.toList [] = true)
    {G : Gh} {a : Act} {w : World} (hs0 : SRel T nt G st a w) (ev0 : Evo G0 hp0 w0 G st.hp w) : wpAny P .any ops (CQ T nt G0 hp0 w0 QA) ops.size (Array.replicate ops.size false) a w := by
  obtain ⟨ss, fs, hfl, hs_0, hz, hwr, tr⟩ := roW_trace hT ops.toList 0 st [] _ h hok
  refine trace_order (QA := QA) ⟨ss, fs, hfl, hs_0, hz, fun _ => hwr, fun t o ho => ?_⟩ hs0 ev0
  obtain ⟨s1, s2, fp, q1, q2, q3, q4, q5, q6, q7, q8, q9⟩ := tr t o ho
  exact ⟨s1, s2, fp, q1, q2, q3, q4, by omega, by simpa using q6, q7, by simpa using q8, by simpa using q9⟩

end Go.Abs
