import Derived.Test.YthdohkabcpdpdaaM0
namespace Go.Proofs.Ythdohkabcpdpdaa.M
open Go.RowKit Go.Proofs.YthdohkabcpdpdaaW.PrintWords Go.Proofs.YthdohkabcpdpdaaW.PrintLast Go.Proofs.YthdohkabcpdpdaaW.PrintMore
attribute [local go_sem] max2_int min2_int max_two min_two max_three min_three max_four min_four   -- for this text's walks alone
set_option linter.unusedVariables false
set_option linter.unusedSimpArgs false
def addIv (out : List S41) (a b : Int) : List S41 :=
  if b ≤ a then out else if 0 < out.length ∧ (rd_T41 out ((out.length - 1 : Nat) : Int)).f1 = a then out.set (out.length - 1) ⟨(rd_T41 out ((out.length - 1 : Nat) : Int)).f0, b⟩ else out ++ [⟨a, b⟩]
def OutIs (w0 W : World) (c : Nat) (out : List S41) : Prop :=
  ∃ v, W.heap[c]? = some (Obj.cells #[v] 23 (0, 0)) ∧ w0.heap.size ≤ c ∧ Kd.R k41 41 W w0.heap.size (fun _ => True) v out
theorem OutIs.below {w0 W W1 : World} {c : Nat} {out : List S41} (h : OutIs w0 W c out) (hb : Below W.heap.size W W1) : OutIs w0 W1 c out := by
  obtain ⟨v, h1, h2, h3⟩ := h
  exact ⟨v, blk_below h1 hb, h2, Kd.R_below h3 hb⟩
set_option maxHeartbeats 800000 in
theorem add_none (c : Nat) (a b : Int) (w0 w : World) (out : List S41) (hI : OutIs w0 w c out) (hB : Below w0.heap.size w0 w) (h : b ≤ a) :
    Calls Try.prog 33 #[.int .i64 a, .int .i64 b, .pointer (some ⟨c, 0, none⟩)] w fun e w' => e = .returned (.tuple #[]) ∧ OutIs w0 w' c out ∧ Below w0.heap.size w0 w' := by
  have HI := Aside0.mk hI
  have HB := Aside0.mk hB
  clear hI hB
  have d1 : decide (b ≤ a) = true := decide_eq_true h
  go_enter Try.func33, Try.ntmps33
  go_wp2
  (try simp only [Exit.inBlock, Exit.then])
  refine bodyPost_ret (results_none rfl _ _ _) rfl ?_
  exact ⟨rfl, HI.out, HB.out⟩
set_option maxHeartbeats 800000 in
theorem add_app (c : Nat) (a b : Int) (w0 w : World) (out : List S41) (hI : OutIs w0 w c out) (hB : Below w0.heap.size w0 w) (hl : out.length < 8000000000000) (h : ¬ b ≤ a) (h2 : ¬ (0 < out.length ∧ (rd_T41 out ((out.length - 1 : Nat) : Int)).f1 = a)) :
    Calls Try.prog 33 #[.int .i64 a, .int .i64 b, .pointer (some ⟨c, 0, none⟩)] w fun e w' => e = .returned (.tuple #[]) ∧ OutIs w0 w' c (out ++ [⟨a, b⟩]) ∧ Below w0.heap.size w0 w' := by
  have HB := Aside0.mk hB
  obtain ⟨v, hb, hc, hR⟩ := hI
  obtain ⟨Av, cv, rfl⟩ := Kd.R_slice hR
  have HR := Aside0.mk hR
  have HBK := Aside0.mk hb
  have HC := Aside0.mk hc
  have HL := Aside0.mk hl
  have c0 : w.cell? ⟨c, 0, none⟩ = some (.slice Av out.length cv) := (blk_cell hb 0).trans rfl
  have hgl := blk_lt hb
  have d1 : decide (b ≤ a) = false := decide_eq_false h
  have hu := Try.underlying41
  by_cases h0 : 0 < out.length
  · obtain ⟨ad, e, x0, x1⟩ := at_T41 (Kd.R_reads' hR).2.2 ((out.length - 1 : Nat) : Int) (by omega) (by omega)
    subst e
    rw [Int.toNat_natCast] at x0 x1
    have e1 : ((out.length : Int) - 1) = ((out.length - 1 : Nat) : Int) := by omega
    have E1 := Aside0.mk e1
    generalize hm : out.length - 1 = m at *
    have hml : m < out.length := by omega
    generalize rd_T41 out (m : Int) = x at *
    have hxa : ¬ x.f1 = a := fun h => h2 ⟨h0, h⟩
    have d2 : (x.f1 == a) = false := beq_eq_false_iff_ne.mpr hxa
    have d3 : decide ((0 : Int) ≤ (out.length : Int) - 1) = true := decide_eq_true (by omega)
    clear hB hb hR hc h2 hxa e1
    go_enter Try.func33, Try.ntmps33
    go_wp2_with ((with_reducible refine gate_builtin (b:=.append) (xs:=#[.tmp 28,.tmp 32]) rfl ?_);at_builtin;refine Kd.R_append k41 w0.heap.size rfl (.tmp 28) (.tmp 32) 23 41 (.agg #[(.int .i64 0),(.int .i64 0)]) 16 rfl Try.underlying23 info41 rfl (by decide) (by omega) (.slice (some ad) out.length cv) out (⟨a,b⟩:S41) [.int .i64 a,.int .i64 b] (fun _=>True) (fun _=>False) rfl rfl (k41_mkM _ _ _ (⟨a,b⟩:S41)) (fun _ hk=>hk.elim) (fun _ _=>trivial) HR.out HB.out HB.out.size (by have:=HL.out;omega) ?_;intro v1 w1 ho hb1 hg1 hat;obtain ⟨out1,hn⟩:∃ z:List S41,z = out ++ [⟨a,b⟩]:=⟨_,rfl⟩;rw[← hn] at ho;have HN:=Aside0.mk hn;clear hn;obtain ⟨A1,c1,rfl⟩:=Kd.R_slice ho;have hblk1:=blk_grown HBK.out hg1 (Kd.R_ne HR.out HBK.out (by decide));have c01:w1.cell? ⟨c,0,none⟩ = some (.slice (some ad) out.length cv):=(blk_cell hblk1 0).trans rfl;have f01:=blk_frozen hblk1 0;have HO:=Aside0.mk ho;have HB1:=Aside0.mk hb1;have HG1:=Aside0.mk hg1;have HBLK1:=Aside0.mk hblk1;clear ho hb1 hg1 hblk1 hat c0)
    go_end0
    refine ⟨rfl, ⟨.slice A1 out1.length c1, ?_, HC.out, ?_⟩, ?_⟩
    · simpa using blk_set HBLK1.out 0 (.slice A1 out1.length c1)
    · rw [← HN.out]; exact Kd.R_set HO.out HBLK1.out (by decide) 0 _
    · exact below_set HB1.out HC.out
  · have d3 : decide ((1 : Int) ≤ (out.length : Int)) = false := decide_eq_false (by omega)
    have d4 : decide ((0 : Int) ≤ (out.length : Int) - 1) = false := decide_eq_false (by omega)
    clear hB hb hR hc h2
    go_enter Try.func33, Try.ntmps33
    go_wp2_with ((with_reducible refine gate_builtin (b:=.append) (xs:=#[.tmp 28,.tmp 32]) rfl ?_);at_builtin;refine Kd.R_append k41 w0.heap.size rfl (.tmp 28) (.tmp 32) 23 41 (.agg #[(.int .i64 0),(.int .i64 0)]) 16 rfl Try.underlying23 info41 rfl (by decide) (by omega) (.slice Av out.length cv) out (⟨a,b⟩:S41) [.int .i64 a,.int .i64 b] (fun _=>True) (fun _=>False) rfl rfl (k41_mkM _ _ _ (⟨a,b⟩:S41)) (fun _ hk=>hk.elim) (fun _ _=>trivial) HR.out HB.out HB.out.size (by have:=HL.out;omega) ?_;intro v1 w1 ho hb1 hg1 hat;obtain ⟨out1,hn⟩:∃ z:List S41,z = out ++ [⟨a,b⟩]:=⟨_,rfl⟩;rw[← hn] at ho;have HN:=Aside0.mk hn;clear hn;obtain ⟨A1,c1,rfl⟩:=Kd.R_slice ho;have hblk1:=blk_grown HBK.out hg1 (Kd.R_ne HR.out HBK.out (by decide));have c01:w1.cell? ⟨c,0,none⟩ = some (.slice Av out.length cv):=(blk_cell hblk1 0).trans rfl;have f01:=blk_frozen hblk1 0;have HO:=Aside0.mk ho;have HB1:=Aside0.mk hb1;have HG1:=Aside0.mk hg1;have HBLK1:=Aside0.mk hblk1;clear ho hb1 hg1 hblk1 hat c0)
    go_end0
    refine ⟨rfl, ⟨.slice A1 out1.length c1, ?_, HC.out, ?_⟩, ?_⟩
    · simpa using blk_set HBLK1.out 0 (.slice A1 out1.length c1)
    · rw [← HN.out]; exact Kd.R_set HO.out HBLK1.out (by decide) 0 _
    · exact below_set HB1.out HC.out
set_option maxHeartbeats 800000 in
theorem add_set (c : Nat) (a b : Int) (w0 w : World) (out : List S41) (hI : OutIs w0 w c out) (hB : Below w0.heap.size w0 w) (hl : out.length < 8000000000000) (h : ¬ b ≤ a) (h0 : 0 < out.length) (h2 : (rd_T41 out ((out.length - 1 : Nat) : Int)).f1 = a) :
    Calls Try.prog 33 #[.int .i64 a, .int .i64 b, .pointer (some ⟨c, 0, none⟩)] w fun e w' => e = .returned (.tuple #[]) ∧ OutIs w0 w' c (out.set (out.length - 1) ⟨(rd_T41 out ((out.length - 1 : Nat) : Int)).f0, b⟩) ∧ Below w0.heap.size w0 w' := by
  have HB := Aside0.mk hB
  obtain ⟨v, hb, hc, hR⟩ := hI
  obtain ⟨gv, cv, rfl, hgv, hgl2, cells, hcells⟩ := Kd.R_form hR h0
  have HR := Aside0.mk hR
  have HBK := Aside0.mk hb
  have HC := Aside0.mk hc
  have HGV := Aside0.mk hgv
  have hne := Kd.R_ne hR hb (by decide)
  have c0 : w.cell? ⟨c, 0, none⟩ = some (.slice (some ⟨gv, 0, none⟩) out.length cv) := (blk_cell hb 0).trans rfl
  have d1 : decide (b ≤ a) = false := decide_eq_false h
  obtain ⟨cs, hcl, hM, hcc, hfr⟩ := Kd.R_elem hR z41 ((out.length - 1 : Nat) : Int) (by omega) (by omega)
  have hx := k41_openM hM
  subst hx
  have e1 : ((out.length : Int) - 1) = ((out.length - 1 : Nat) : Int) := by omega
  have E1 := Aside0.mk e1
  have SEG:=Kd.R_seg hR ((out.length - 1:Nat):Int) (by omega) (by omega) (j:=1) (seg:=[.int .i64 b]) hcl hcc (Nat.le_refl _) (x':=⟨(rd_T41 out ((out.length - 1:Nat):Int)).f0,b⟩) (okp:=fun _=>False) (k41_mkM _ _ _ (⟨(rd_T41 out ((out.length - 1:Nat):Int)).f0,b⟩:S41)) (fun _ hk=>hk.elim)
  have SG := Aside0.mk SEG
  clear SEG
  have x1:w.cell? ⟨gv,(out.length - 1) * 2 + 1,none⟩ = some (.int .i64 (rd_T41 out ((out.length - 1:Nat):Int)).f1):=by have:=hcc 1 _ rfl;rw[Int.toNat_natCast] at this;exact this
  have f1:w.frozen? ⟨gv,(out.length - 1) * 2 + 1,none⟩ = false:=by have:=hfr 1;rw[Int.toNat_natCast] at this;exact this
  rw [Int.toNat_natCast] at SG
  clear hcc hfr hM hcl hcells hR hb hB
  have HB2 := Aside0.mk h2
  have hml : out.length - 1 < out.length := by omega
  generalize hm : out.length - 1 = m at *
  generalize rd_T41 out (m : Int) = x at *
  have d2 : (x.f1 == a) = true := beq_iff_eq.mpr h2
  have d3 : decide ((0 : Int) ≤ (out.length : Int) - 1) = true := decide_eq_true (by omega)
  clear h2 e1
  go_enter Try.func33, Try.ntmps33
  go_wp2
  (try simp only [Exit.inBlock, Exit.then])
  refine bodyPost_ret (results_none rfl _ _ _) rfl ?_
  refine ⟨rfl, ⟨.slice (some ⟨gv, 0, none⟩) out.length cv, ?_, HC.out, SG.out.1⟩, below_set HB.out HGV.out⟩
  exact blk_far HBK.out (fun e => hne (by rw [e]; rfl)) _
theorem add_calls (c : Nat) (a b : Int) (w0 w : World) (out : List S41) (hI : OutIs w0 w c out) (hB : Below w0.heap.size w0 w) (hl : out.length < 8000000000000) :
    Calls Try.prog 33 #[.int .i64 a, .int .i64 b, .pointer (some ⟨c, 0, none⟩)] w fun e w' => e = .returned (.tuple #[]) ∧ OutIs w0 w' c (addIv out a b) ∧ Below w0.heap.size w0 w' := by
  unfold addIv
  by_cases h : b ≤ a
  · rw [if_pos h]; exact add_none c a b w0 w out hI hB h
  · rw [if_neg h]
    by_cases h2 : 0 < out.length ∧ (rd_T41 out ((out.length - 1 : Nat) : Int)).f1 = a
    · rw [if_pos h2]; exact add_set c a b w0 w out hI hB hl h h2.1 h2.2
    · rw [if_neg h2]; exact add_app c a b w0 w out hI hB hl h h2
def cutB (z : Int) : List S41 → Int → List S41 → List S41 × Int
  | out, a, [] => (out, a)
  | out, a, b :: l => if b.f0 < z then cutB z (addIv out a b.f0) (mx a b.f1) l else (out, a)
def withoutGo : List S41 → List S41 → List S41 → List S41
  | out, _, [] => out
  | out, bs, x :: l => withoutGo (addIv (cutB x.f1 out x.f0 (bs.dropWhile fun b => decide (b.f1 ≤ x.f0))).1 (cutB x.f1 out x.f0 (bs.dropWhile fun b => decide (b.f1 ≤ x.f0))).2 x.f1) (bs.dropWhile fun b => decide (b.f1 ≤ x.f0)) l
def worktime_without.f (l0 l1 : List S41) : Option (List S41) := if l0.length * (l1.length + 1) < 4000000000000 then some (withoutGo [] l1 l0) else none
theorem rdI_at (l : List S41) (i : Nat) (h : i < l.length) : rd_T41 l (i : Int) = l[i] := by
  unfold rd_T41
  rw [Int.toNat_natCast, List.getD_eq_getElem?_getD, List.getElem?_eq_getElem h]; rfl
theorem addIv_len (out : List S41) (a b : Int) : (addIv out a b).length ≤ out.length + 1 := by
  unfold addIv
  split
  · omega
  · split <;> simp
theorem go_succ (out bs l : List S41) (i : Nat) (h : i < l.length) : withoutGo out bs (l.drop i) = withoutGo (addIv (cutB (rd_T41 l (i : Int)).f1 out (rd_T41 l (i : Int)).f0 (bs.dropWhile fun b => decide (b.f1 ≤ (rd_T41 l (i : Int)).f0))).1 (cutB (rd_T41 l (i : Int)).f1 out (rd_T41 l (i : Int)).f0 (bs.dropWhile fun b => decide (b.f1 ≤ (rd_T41 l (i : Int)).f0))).2 (rd_T41 l (i : Int)).f1) (bs.dropWhile fun b => decide (b.f1 ≤ (rd_T41 l (i : Int)).f0)) (l.drop (i + 1)) := by
  rw [rdI_at l i h, List.drop_eq_getElem_cons h]; rfl
theorem skip_yes (l : List S41) (k : Nat) (h : k < l.length) (a : Int) (ha : (rd_T41 l (k : Int)).f1 ≤ a) : (l.drop k).dropWhile (fun b => decide (b.f1 ≤ a)) = (l.drop (k + 1)).dropWhile (fun b => decide (b.f1 ≤ a)) := by
  rw [rdI_at l k h] at ha
  rw [List.drop_eq_getElem_cons h, List.dropWhile_cons, if_pos (by simpa using ha)]
theorem skip_no (l : List S41) (k : Nat) (h : k < l.length) (a : Int) (ha : ¬ (rd_T41 l (k : Int)).f1 ≤ a) : (l.drop k).dropWhile (fun b => decide (b.f1 ≤ a)) = l.drop k := by
  rw [rdI_at l k h] at ha
  conv => lhs; rw [List.drop_eq_getElem_cons h]
  rw [List.dropWhile_cons, if_neg (by simpa using ha), ← List.drop_eq_getElem_cons h]
theorem cut_yes (l : List S41) (m : Nat) (h : m < l.length) (out : List S41) (a z : Int) (hb : (rd_T41 l (m : Int)).f0 < z) : cutB z out a (l.drop m) = cutB z (addIv out a (rd_T41 l (m : Int)).f0) (mx a (rd_T41 l (m : Int)).f1) (l.drop (m + 1)) := by
  rw [rdI_at l m h] at hb ⊢
  rw [List.drop_eq_getElem_cons h, cutB, if_pos hb]
theorem cut_no (l : List S41) (m : Nat) (h : m < l.length) (out : List S41) (a z : Int) (hb : ¬ (rd_T41 l (m : Int)).f0 < z) : cutB z out a (l.drop m) = (out, a) := by
  rw [rdI_at l m h] at hb
  rw [List.drop_eq_getElem_cons h, cutB, if_neg hb]
set_option maxHeartbeats 4000000 in
theorem without_calls (A0 A1 : Option Addr) (c0 c1 : Nat) (l0 l1 : List S41) (w : World) (hr0 : Kd.C k41 w A0 l0.length l0) (hc0 : l0.length ≤ c0) (hr1 : Kd.C k41 w A1 l1.length l1) (hc1 : l1.length ≤ c1) (hlim : l0.length * (l1.length + 1) < 4000000000000) :
    Calls Try.prog 27 #[.slice A0 l0.length c0, .slice A1 l1.length c1] w fun e w' => ∃ v0_ : Value, e = .returned v0_ ∧ Kd.R k41 41 w' w.heap.size (fun _ => True) v0_ (withoutGo [] l1 l0) ∧ Below w.heap.size w w' := by
  have HR0 := Aside0.mk hr0
  have HR1 := Aside0.mk hr1
  have hm0 := hr0.2.1
  have hm1 := hr1.2.1
  have HLIM := Aside0.mk hlim
  have HB := Aside0.mk (Below.refl w.heap.size w)
  clear hr0 hr1 hc0 hc1 hlim
  obtain ⟨RES, hres⟩ : ∃ R, R = withoutGo [] l1 l0 := ⟨_, rfl⟩
  rw [← hres]
  have HRES := Aside0.mk hres
  clear hres
  have hu := Try.underlying41
  go_enter Try.func27, Try.ntmps27
  go_wp2
  go_loopw [7,8] (fun v7 v8 w'=>∃ (i k:Nat) (out:List S41),v7 = .int .i64 i∧v8 = .int .i64 k∧i≤l0.length∧k≤l1.length∧Aside0 (RES = withoutGo out (l1.drop k) (l0.drop i))∧Aside0 (OutIs w w' w.heap.size out)∧Aside0 (out.length≤i * (l1.length + 1))∧Aside0 (Below w.heap.size w w')) (fun v7 _ _=>l0.length - (intOf v7).toNat)
  case atStart=>exact⟨0,0,[],rfl,rfl,Nat.zero_le _,Nat.zero_le _,HRES,⟨⟨_,by simpa using blk_new _ _,Nat.le_refl _,Kd.R_nil _ _ _ _ _⟩⟩,⟨by simp⟩,⟨below_alloc HB.out _⟩⟩
  case round =>
    clear HRES
    obtain ⟨i, k, out, rfl, rfl, hi, hk, HRES, HO, HN, HB⟩ := hrel
    by_cases hlt : i < l0.length
    · obtain ⟨ad, e, x0, x1⟩ := at_T41 HR0.out (i : Int) (by omega) (by omega)
      subst e
      rw [Int.toNat_natCast] at x0 x1
      have X0 := Aside0.mk x0
      have X1 := Aside0.mk x1
      replace x0 := (HB.out.cell (World.block_lt_of_cell? w _ x0)).trans x0
      replace x1 := (HB.out.cell (World.block_lt_of_cell? w _ x1)).trans x1
      have hgo := HRES.out
      rw [go_succ out _ l0 i hlt] at hgo
      generalize rd_T41 l0 (i : Int) = x at *
      obtain ⟨x_0, x_1⟩ := x
      simp only at x0 x1 hgo
      have HGO := Aside0.mk hgo
      clear hgo HRES
      have b0 : decide ((i : Int) < l0.length) = true := decide_eq_true (by omega)
      go_wp2
      obtain ⟨wo, rfl⟩ : ∃ wo : World, wo = wr := ⟨_, rfl⟩
      obtain ⟨bs, hbs⟩ : ∃ b, b = (l1.drop k).dropWhile (fun b => decide (b.f1 ≤ x_0)) := ⟨_, rfl⟩
      rw [← hbs] at HGO
      have HBS := Aside0.mk hbs
      clear hbs
      go_loop [8] (fun v8=>∃ (k':Nat),v8 = .int .i64 k'∧k'≤l1.length∧Aside0 (bs = (l1.drop k').dropWhile (fun b=>decide (b.f1≤x_0)))) (fun v8=>l1.length - (intOf v8).toNat)
      case atStart => exact ⟨k, rfl, hk, HBS⟩
      case round =>
        clear HBS
        obtain ⟨k, rfl, hk, HBS⟩ := hrel
        by_cases hkl : k < l1.length
        · obtain ⟨ad1, e1, y0, y1⟩ := at_T41 HR1.out (k : Int) (by omega) (by omega)
          subst e1
          rw [Int.toNat_natCast] at y0 y1
          replace y0 := (HB.out.cell (World.block_lt_of_cell? w _ y0)).trans y0
          replace y1 := (HB.out.cell (World.block_lt_of_cell? w _ y1)).trans y1
          have b1 : decide ((k : Int) < l1.length) = true := decide_eq_true (by omega)
          have b1' : decide (k < l1.length) = true := decide_eq_true hkl
          by_cases hy : (rd_T41 l1 (k : Int)).f1 ≤ x_0
          · have HB2 := Aside0.mk (HBS.out.trans (skip_yes l1 k hkl x_0 hy))
            generalize rd_T41 l1 (k : Int) = y at *
            have b2 : decide (y.f1 ≤ x_0) = true := decide_eq_true hy
            clear HBS hy
            go_wp2
            go_round
            case rel => exact ⟨k + 1, by go_num, by omega, HB2⟩
            case measure => simp [intOf]; omega
          · have HBS2 := Aside0.mk (HBS.out.trans (skip_no l1 k hkl x_0 hy))
            generalize rd_T41 l1 (k : Int) = y at *
            have b2 : decide (y.f1 ≤ x_0) = false := decide_eq_false hy
            clear HBS hy
            go_wp2
            go_loopw [9,10] (fun v9 v10 w'=>∃ (a:Int) (m:Nat) (o:List S41),v9 = .int .i64 a∧v10 = .int .i64 m∧k≤m∧m≤l1.length∧Aside0 (cutB x_1 out x_0 bs = cutB x_1 o a (l1.drop m))∧Aside0 (OutIs w w' w.heap.size o)∧Aside0 (o.length + k≤out.length + m)∧Aside0 (Below w.heap.size w w')) (fun _ v10 _=>l1.length - (intOf v10).toNat)
            case atStart=>exact⟨x_0,k,out,rfl,rfl,Nat.le_refl _,hk,⟨by rw[HBS2.out]⟩,HO,⟨Nat.le_refl _⟩,HB⟩
            case round =>
              clear x0 x1
              try clear y0 y1 b2
              clear b1 b1'
              obtain ⟨a, m, o, rfl, rfl, hkm, hm, HCUT, HO2, HN2, HB2⟩ := hrel
              have HLEN : Aside0 (o.length + 2 < 8000000000000) := ⟨by
                have h1 := HN.out
                have h2 := HN2.out
                have h3 := HLIM.out
                have h4 : i * (l1.length + 1) + (l1.length + 1) ≤ l0.length * (l1.length + 1) := by
                  rw [← Nat.succ_mul]; exact Nat.mul_le_mul_right _ hlt
                omega⟩
              have x0 := (HB2.out.cell (World.block_lt_of_cell? w _ X0.out)).trans X0.out
              have x1 := (HB2.out.cell (World.block_lt_of_cell? w _ X1.out)).trans X1.out
              by_cases hml : m < l1.length
              · obtain ⟨ad1, e1, y0, y1⟩ := at_T41 HR1.out (m : Int) (by omega) (by omega)
                first | subst e1 | (injection e1 with e1; subst e1)
                rw [Int.toNat_natCast] at y0 y1
                have Y1 := Aside0.mk y1
                replace y0 := (HB2.out.cell (World.block_lt_of_cell? w _ y0)).trans y0
                replace y1 := (HB2.out.cell (World.block_lt_of_cell? w _ y1)).trans y1
                have b1 : decide ((m : Int) < l1.length) = true := decide_eq_true (by omega)
                have b1' : decide (m < l1.length) = true := decide_eq_true hml
                by_cases hy : (rd_T41 l1 (m : Int)).f0 < x_1
                · have HC2 := Aside0.mk (HCUT.out.trans (cut_yes l1 m hml o a x_1 hy))
                  generalize rd_T41 l1 (m : Int) = y at *
                  have b2 : decide (y.f0 < x_1) = true := decide_eq_true hy
                  clear HCUT hy
                  go_wp2
                  go_quiet (fail)
                  go_wp2_with (go_at_call 33;(with_reducible refine(add_calls w.heap.size a y.f0 w _ o (HO2.out.below (by repeat (first|exact Below.refl _ _|apply pw_below_drewN|apply below_drew))) (by repeat (first|exact HB2.out|apply pw_below_drewN|apply below_drew)) (by have:=HLEN.out;omega)).mono ?_);rintro e w3 ⟨rfl,ho,hb⟩;have HO3:=Aside0.mk ho;have HB3:=Aside0.mk hb;have y13:=(hb.cell (World.block_lt_of_cell? w _ Y1.out)).trans Y1.out;clear ho hb)
                  go_roundw
                  case rel=>exact⟨mx a y.f1,m + 1,addIv o a y.f0,rfl,by go_num,by omega,by omega,HC2,HO3,⟨by have h1:=addIv_len o a y.f0;have h2:=HN2.out;omega⟩,HB3⟩
                  case measure => simp [intOf]; omega
                · have HE := Aside0.mk (HCUT.out.trans (cut_no l1 m hml o a x_1 hy))
                  generalize rd_T41 l1 (m : Int) = y at *
                  have b2 : decide (y.f0 < x_1) = false := decide_eq_false hy
                  clear HCUT hy
                  go_wp2
                  go_quiet (fail)
                  go_wp2_with (go_at_call 33;(with_reducible refine(add_calls w.heap.size a x_1 w _ o (HO2.out.below (by repeat (first|exact Below.refl _ _|apply pw_below_drewN|apply below_drew))) (by repeat (first|exact HB2.out|apply pw_below_drewN|apply below_drew)) (by have:=HLEN.out;omega)).mono ?_);rintro e w3 ⟨rfl,ho,hb⟩;have HO3:=Aside0.mk ho;have HB3:=Aside0.mk hb;clear ho hb)
                  go_roundw
                  case rel=>exact⟨i + 1,k,addIv o a x_1,by go_num,rfl,by omega,hk,⟨by have h1:=HGO.out;rw[HE.out,HBS2.out] at h1;exact h1⟩,HO3,⟨by have h1:=addIv_len o a x_1;have h2:=HN2.out;have h3:=HN.out;rw[Nat.succ_mul];omega⟩,HB3⟩
                  case measure => simp [intOf]; omega
              · have b1 : decide ((m : Int) < l1.length) = false := decide_eq_false (by omega)
                have b1' : decide (m < l1.length) = false := decide_eq_false hml
                have HE:Aside0 (cutB x_1 out x_0 bs = (o,a)):=⟨by rw[HCUT.out,List.drop_of_length_le (by omega)];rfl⟩
                clear HCUT
                go_wp2
                go_quiet (fail)
                go_wp2_with (go_at_call 33;(with_reducible refine(add_calls w.heap.size a x_1 w _ o (HO2.out.below (by repeat (first|exact Below.refl _ _|apply pw_below_drewN|apply below_drew))) (by repeat (first|exact HB2.out|apply pw_below_drewN|apply below_drew)) (by have:=HLEN.out;omega)).mono ?_);rintro e w3 ⟨rfl,ho,hb⟩;have HO3:=Aside0.mk ho;have HB3:=Aside0.mk hb;clear ho hb)
                go_roundw
                case rel=>exact⟨i + 1,k,addIv o a x_1,by go_num,rfl,by omega,hk,⟨by have h1:=HGO.out;rw[HE.out,HBS2.out] at h1;exact h1⟩,HO3,⟨by have h1:=addIv_len o a x_1;have h2:=HN2.out;have h3:=HN.out;rw[Nat.succ_mul];omega⟩,HB3⟩
                case measure => simp [intOf]; omega
        · have b1 : decide ((k : Int) < l1.length) = false := decide_eq_false (by omega)
          have b1' : decide (k < l1.length) = false := decide_eq_false hkl
          have HBS2 : Aside0 (bs = l1.drop k) := ⟨by rw [HBS.out, List.drop_of_length_le (by omega)]; rfl⟩
          clear HBS
          go_wp2
          go_loopw [9,10] (fun v9 v10 w'=>∃ (a:Int) (m:Nat) (o:List S41),v9 = .int .i64 a∧v10 = .int .i64 m∧k≤m∧m≤l1.length∧Aside0 (cutB x_1 out x_0 bs = cutB x_1 o a (l1.drop m))∧Aside0 (OutIs w w' w.heap.size o)∧Aside0 (o.length + k≤out.length + m)∧Aside0 (Below w.heap.size w w')) (fun _ v10 _=>l1.length - (intOf v10).toNat)
          case atStart => exact ⟨x_0, k, out, rfl, rfl, Nat.le_refl _, hk, ⟨by rw [HBS2.out]⟩, HO, ⟨Nat.le_refl _⟩, HB⟩
          case round =>
            clear x0 x1
            try clear y0 y1 b2
            clear b1 b1'
            obtain ⟨a, m, o, rfl, rfl, hkm, hm, HCUT, HO2, HN2, HB2⟩ := hrel
            have HLEN : Aside0 (o.length + 2 < 8000000000000) := ⟨by
              have h1 := HN.out
              have h2 := HN2.out
              have h3 := HLIM.out
              have h4 : i * (l1.length + 1) + (l1.length + 1) ≤ l0.length * (l1.length + 1) := by
                rw [← Nat.succ_mul]; exact Nat.mul_le_mul_right _ hlt
              omega⟩
            have x0 := (HB2.out.cell (World.block_lt_of_cell? w _ X0.out)).trans X0.out
            have x1 := (HB2.out.cell (World.block_lt_of_cell? w _ X1.out)).trans X1.out
            by_cases hml : m < l1.length
            · exact absurd hml (by omega)
            · have b1 : decide ((m : Int) < l1.length) = false := decide_eq_false (by omega)
              have b1' : decide (m < l1.length) = false := decide_eq_false hml
              have HE:Aside0 (cutB x_1 out x_0 bs = (o,a)):=⟨by rw[HCUT.out,List.drop_of_length_le (by omega)];rfl⟩
              clear HCUT
              go_wp2
              go_quiet (fail)
              go_wp2_with (go_at_call 33;(with_reducible refine(add_calls w.heap.size a x_1 w _ o (HO2.out.below (by repeat (first|exact Below.refl _ _|apply pw_below_drewN|apply below_drew))) (by repeat (first|exact HB2.out|apply pw_below_drewN|apply below_drew)) (by have:=HLEN.out;omega)).mono ?_);rintro e w3 ⟨rfl,ho,hb⟩;have HO3:=Aside0.mk ho;have HB3:=Aside0.mk hb;clear ho hb)
              go_roundw
              case rel=>exact⟨i + 1,k,addIv o a x_1,by go_num,rfl,by omega,hk,⟨by have h1:=HGO.out;rw[HE.out,HBS2.out] at h1;exact h1⟩,HO3,⟨by have h1:=addIv_len o a x_1;have h2:=HN2.out;have h3:=HN.out;rw[Nat.succ_mul];omega⟩,HB3⟩
              case measure => simp [intOf]; omega
    · have b0 : decide ((i : Int) < l0.length) = false := decide_eq_false (by omega)
      have b0' : decide (i < l0.length) = false := decide_eq_false hlt
      obtain ⟨v, hb, hc, hR⟩ := HO.out
      obtain ⟨Av, cv, rfl⟩ := Kd.R_slice hR
      have c9 : wr.cell? ⟨w.heap.size, 0, none⟩ = some (.slice Av out.length cv) := (blk_cell hb 0).trans rfl
      have HR := Aside0.mk hR
      have hout := HRES.out
      rw [show l0.drop i = [] from List.drop_of_length_le (by omega)] at hout
      have HOUT := Aside0.mk hout
      clear hb hc hR hout
      go_wp2
      go_ret
      exact ⟨_, rfl, by rw [HOUT.out]; exact HR.out, HB.out⟩
theorem worktime_without.calls (A0 : Option Addr) (c0 : Nat) (l0 : List S41) (A1 : Option Addr) (c1 : Nat) (l1 : List S41) (r : List S41) (w : World) (hr0 : Kd.C k41 w A0 l0.length l0) (hc0 : l0.length ≤ c0) (hr1 : Kd.C k41 w A1 l1.length l1) (hc1 : l1.length ≤ c1) (h : worktime_without.f l0 l1 = some r) :
    Calls Try.prog 27 #[.slice A0 l0.length c0, .slice A1 l1.length c1] w fun e w' => ∃ v0_ : Value, e = .returned (v0_) ∧ Kd.R k41 41 w' w.heap.size (fun _ => True) v0_ r ∧ Below w.heap.size w w' := by
  unfold worktime_without.f at h
  by_cases hl : l0.length * (l1.length + 1) < 4000000000000
  · rw [if_pos hl] at h
    obtain rfl := Option.some.inj h
    exact without_calls A0 A1 c0 c1 l0 l1 w hr0 hc0 hr1 hc1 hl
  · rw [if_neg hl] at h; cases h
end Go.Proofs.Ythdohkabcpdpdaa.M
