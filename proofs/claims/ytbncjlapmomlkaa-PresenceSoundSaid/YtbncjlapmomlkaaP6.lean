-- Written for this claim by a program of this session (hybrid.py) over the kit's print. Not trusted: Lean checks it.
import Derived.Test.YtbncjlapmomlkaaP0
import Derived.Test.YtbncjlapmomlkaaP3
namespace Go.Proofs.Ytbncjlapmomlkaa.P
open Go.RowKit Go.Proofs.YtbncjlapmomlkaaW.PrintWords Go.Proofs.YtbncjlapmomlkaaW.PrintLast Go.Proofs.YtbncjlapmomlkaaW.PrintMore
attribute [local go_sem] max2_int min2_int max_two min_two max_three min_three max_four min_four   -- for this text's walks alone
set_option linter.unusedVariables false
set_option linter.unusedSimpArgs false

/-! ### presence_Pair: function 8 -/
-- (given)
/-- The state of the reader of stamps: state, stay, pause, breaks, presences, anomalies. -/
structure pairSt where
  st : Int
  stay : Int
  pause : Int
  br : List S26
  ps : List S29
  an : List S62
def pairSt.anomaly (s : pairSt) (kind time : Int) : pairSt := { s with an := s.an ++ [⟨kind, time⟩] }
def pairSt.begin_ (s : pairSt) (t : Int) : pairSt := { s with st := 1, stay := t, br := [] }
def pairSt.resume (s : pairSt) (t : Int) : pairSt := { s with br := if s.pause < t then s.br ++ [⟨s.pause, t⟩] else s.br, st := 1 }
def pairSt.end_ (s : pairSt) (lo t : Int) : pairSt :=
  if lo < wrap64 (t - s.stay) then { s with st := 0, an := s.an ++ [⟨3, s.stay⟩] }
  else if 0 < wrap64 (t - s.stay) then { s with st := 0, ps := s.ps ++ [⟨⟨s.stay, t⟩, s.br⟩] }
  else { s with st := 0 }
def pairSt.read (lo : Int) (s : pairSt) (x : S34) : pairSt :=
  if s.st = 0 then (if x.f1 = 1 then s.begin_ x.f0 else s.anomaly 2 x.f0)
  else if x.f1 = 1 then (s.anomaly 1 s.stay).begin_ x.f0
  else if s.st = 1 then (if x.f1 = 2 then s.end_ lo x.f0 else if x.f1 = 3 then { s with st := 2, pause := x.f0 } else s.anomaly 5 x.f0)
  else (if x.f1 = 2 then ((s.anomaly 4 s.pause).resume x.f0).end_ lo x.f0 else if x.f1 = 3 then { s.anomaly 4 s.pause with pause := x.f0 } else s.resume x.f0)
def pairSt.close (s : pairSt) : pairSt := if s.st = 0 then s else s.anomaly 1 s.stay
/-- The stamps are in order, of the four kinds, and not too late. -/
def stampsOk : Int → List S34 → Bool
  | _, [] => true
  | last, x :: l => decide (1 ≤ x.f1 ∧ x.f1 ≤ 4 ∧ last ≤ x.f0 ∧ x.f0 ≤ 120968639) && stampsOk x.f0 l
def pairOf (lo : Int) (l : List S34) : pairSt := (l.foldl (pairSt.read lo) ⟨0, 0, 0, [], [], []⟩).close
def presence_Pair.f (l0 : List S34) (a1 : Int) : Option (List S29 × List S62 × Int) :=
  if 1024 < l0.length then some ([], [], 3) else if a1 < 1 ∨ 10080 < a1 then some ([], [], 2) else if stampsOk 0 l0 = true then some ((pairOf a1 l0).ps, (pairOf a1 l0).an, 0) else some ([], [], 1)
def pTS : List Nat := [57, 26, 29, 62]
def PP (w0 W : World) (g : Nat) (lo : Int) (st stay pa : Int) (vb : Value) (br : List S26) (ps : List S29) (an : List S62) : Prop :=
  ∃ vp va, W.heap[g]? = some (.cells #[.int .i64 lo, .int .i64 st, .int .i64 stay, .int .i64 pa, vb, vp, va] 57 (0, 0)) ∧ w0.heap.size ≤ g ∧
   (st ≠ 0 → Kd.R k26 26 W w0.heap.size (fun _ => True) vb br) ∧ 
   Kd.S k29 29 W w0.heap.size (fun k => st ≠ 0 → some k ≠ vb.ownBlock) vp ps ∧ 
   Kd.R k62 62 W w0.heap.size (fun _ => True) va an
set_option maxHeartbeats 800000 in
theorem anomaly_calls (g : Nat) (kind time : Int) (w0 w : World) (lo st stay pa : Int) (vb : Value) (br : List S26) (ps : List S29) (an : List S62) (hI : PP w0 w g lo st stay pa vb br ps an) (hB : Below w0.heap.size w0 w) (hl : an.length < 1000000) :
  Calls Try.prog 23 #[.pointer (some ⟨g,0,none⟩), .int .i64 kind, .int .i64 time] w fun e w' => e = .returned (.tuple #[]) ∧ PP w0 w' g lo st stay pa vb br ps (an ++ [⟨kind, time⟩]) ∧ Below w0.heap.size w0 w' ∧ KeepT w w' pTS := by
  have HB := Aside0.mk hB
  clear hB
  have HL := Aside0.mk hl
  clear hl
  obtain ⟨vp, va, hb, hg, hR, hS, hA⟩ := hI
  have H1 := Aside0.mk hR
  have H2 := Aside0.mk hS
  have H3 := Aside0.mk hA
  have HG := Aside0.mk hg
  clear hR hS hA hg
  have hcell := fun i => blk_cell hb i
  have HBK := Aside0.mk hb
  have c6 : w.cell? ⟨g, 6, none⟩ = some va := (hcell 6).trans rfl
  clear hcell hb
  have hu := Try.underlying57
  have hu2 := Try.underlying62
  go_enter Try.func23, Try.ntmps23
  go_wp2_with ((with_reducible refine gate_builtin (b := .append) (xs := #[.tmp 10, .tmp 14]) rfl ?_); at_builtin; refine Kd.R_append k62 w0.heap.size rfl (.tmp 10) (.tmp 14) 35 62 (.agg #[(.int .i64 0), (.int .i64 0)]) 16 rfl Try.underlying35 info62 rfl (by decide) (by omega) va an (⟨kind, time⟩ : S62) [.int .i64 kind, .int .i64 time] (fun _ => True) (fun _ => False) rfl rfl (k62_mkM _ _ _ (⟨kind, time⟩ : S62)) (fun _ hk => hk.elim) (fun _ _ => trivial) H3.out HB.out HB.out.size (by have := HL.out; omega) ?_; intro v1 w1 ho hb1 hg1 hat; obtain ⟨an1, hn⟩ : ∃ z : List S62, z = an ++ [⟨kind, time⟩] := ⟨_, rfl⟩; rw [← hn] at ho; have HN := Aside0.mk hn; clear hn; obtain ⟨Av, cv, rfl⟩ := Kd.R_slice ho; have hblk1 := blk_grown HBK.out hg1 (Kd.R_ne H3.out HBK.out (by decide)); have c61 : w1.cell? ⟨g, 6, none⟩ = some va := (blk_cell hblk1 6).trans rfl; have f61 := blk_frozen hblk1 6; have HO := Aside0.mk ho; have HB1 := Aside0.mk hb1; have HG1 := Aside0.mk hg1; have HBLK1 := Aside0.mk hblk1; clear ho hb1 hg1 hblk1 hat c6)
  go_end0
  refine ⟨rfl, ⟨vp, .slice Av an1.length cv, ?_, HG.out, fun h0 => ?_, ?_, ?_⟩, ?_, ?_⟩
  · simpa using blk_set HBLK1.out 6 (.slice Av an1.length cv)
  · exact Kd.R_set (Kd.R_over' (H1.out h0) (Kd.R_typed H3.out) (by decide) HG1.out) HBLK1.out (by decide) 6 (.slice Av an1.length cv)
  · exact Kd.S_set (Kd.S_over' H2.out (Kd.R_typed H3.out) (by decide) HG1.out) HBLK1.out (by decide) 6 (.slice Av an1.length cv)
  · rw [← HN.out]; exact Kd.R_set HO.out HBLK1.out (by decide) 6 (.slice Av an1.length cv)
  · exact below_set HB1.out HG.out
  · exact (((KeepT.refl w pTS).grown HG1.out (Kd.R_typed H3.out) (by decide))).set HBLK1.out (by decide) 6 _
set_option maxHeartbeats 800000 in
theorem begin_calls (g : Nat) (t : Int) (w0 w : World) (lo st stay pa : Int) (vb : Value) (br : List S26) (ps : List S29) (an : List S62) (hI : PP w0 w g lo st stay pa vb br ps an) (hB : Below w0.heap.size w0 w) :
  Calls Try.prog 30 #[.pointer (some ⟨g,0,none⟩), .int .i64 t] w fun e w' => e = .returned (.tuple #[]) ∧ PP w0 w' g lo 1 t pa (.slice none 0 0) [] ps an ∧ Below w0.heap.size w0 w' ∧ KeepT w w' pTS := by
  have HB := Aside0.mk hB
  clear hB
  obtain ⟨vp, va, hb, hg, hR, hS, hA⟩ := hI
  have H2 := Aside0.mk hS
  have H3 := Aside0.mk hA
  have HG := Aside0.mk hg
  clear hR hS hA hg
  have HBK := Aside0.mk hb
  have c1 : w.cell? ⟨g, 1, none⟩ = some (.int .i64 st) := (blk_cell hb 1).trans rfl
  have c2 : w.cell? ⟨g, 2, none⟩ = some (.int .i64 stay) := (blk_cell hb 2).trans rfl
  have c4 : w.cell? ⟨g, 4, none⟩ = some vb := (blk_cell hb 4).trans rfl
  have f0 := fun i => blk_frozen hb i
  clear hb
  have hu := Try.underlying57
  go_enter Try.func30, Try.ntmps30
  go_wp2
  go_end0
  refine ⟨rfl, ⟨vp, va, ?_, HG.out, fun _ => Kd.R_nil _ _ _ _ _, ?_, ?_⟩, ?_, ?_⟩
  · simpa using blk_set (blk_set (blk_set HBK.out 1 (.int .i64 1)) 2 (.int .i64 t)) 4 (.slice none 0 0)
  · exact Kd.S_mono (Kd.S_set (Kd.S_set (Kd.S_set H2.out HBK.out (by decide) 1 _) (blk_set HBK.out 1 (.int .i64 1)) (by decide) 2 _) (blk_set (blk_set HBK.out 1 (.int .i64 1)) 2 (.int .i64 t)) (by decide) 4 _) (fun k hk _ => by simp [Value.ownBlock])
  · exact (Kd.R_set (Kd.R_set (Kd.R_set H3.out HBK.out (by decide) 1 _) (blk_set HBK.out 1 (.int .i64 1)) (by decide) 2 _) (blk_set (blk_set HBK.out 1 (.int .i64 1)) 2 (.int .i64 t)) (by decide) 4 _)
  · exact below_set (below_set (below_set HB.out HG.out) HG.out) HG.out
  · exact (((KeepT.refl w pTS).set HBK.out (by decide) 1 _).set (blk_set HBK.out 1 (.int .i64 1)) (by decide) 2 _).set (blk_set (blk_set HBK.out 1 (.int .i64 1)) 2 (.int .i64 t)) (by decide) 4 _
set_option maxHeartbeats 2000000 in
theorem resume_yes (g : Nat) (t : Int) (w0 w : World) (lo st stay pa : Int) (vb : Value) (br : List S26) (ps : List S29) (an : List S62) (hI : PP w0 w g lo st stay pa vb br ps an) (hst : st ≠ 0) (hB : Below w0.heap.size w0 w) (hl : br.length < 1000000) (ht : pa < t) :
  Calls Try.prog 32 #[.pointer (some ⟨g,0,none⟩), .int .i64 t] w fun e w' => e = .returned (.tuple #[]) ∧ ∃ vb1, PP w0 w' g lo 1 stay pa vb1 (br ++ [⟨pa, t⟩]) ps an ∧ Below w0.heap.size w0 w' ∧ KeepT w w' pTS := by
  have HB := Aside0.mk hB
  clear hB
  have HL := Aside0.mk hl
  clear hl
  obtain ⟨vp, va, hb, hg, hR, hS, hA⟩ := hI
  replace hR := hR hst
  obtain ⟨Ab, cb, rfl⟩ := Kd.R_slice hR
  have H1 := Aside0.mk hR
  have H2 := Aside0.mk hS
  have H3 := Aside0.mk hA
  have HG := Aside0.mk hg
  have HST := Aside0.mk hst
  clear hR hS hA hg hst
  have HBK := Aside0.mk hb
  have c1 : w.cell? ⟨g, 1, none⟩ = some (.int .i64 st) := (blk_cell hb 1).trans rfl
  have c3 : w.cell? ⟨g, 3, none⟩ = some (.int .i64 pa) := (blk_cell hb 3).trans rfl
  have c4 : w.cell? ⟨g, 4, none⟩ = some (.slice Ab br.length cb) := (blk_cell hb 4).trans rfl
  have f0 := fun i => blk_frozen hb i
  have hgl := blk_lt hb
  clear hb
  have ht' : decide (pa < t) = true := decide_eq_true ht
  clear ht
  have hu := Try.underlying57
  have hu2 := Try.underlying26
  go_enter Try.func32, Try.ntmps32
  go_wp2
  go_region_law ((first | (refine Kd.R_append_step k26 (w0 := w0) (W := w) w0.heap.size rfl (.tmp 14) (.tmp 21) 27 26 (.agg #[(.int .i64 0), (.int .i64 0)]) 16 rfl Try.underlying27 info26 rfl (by decide) (by omega) (.slice Ab br.length cb) br (⟨pa, t⟩ : S26) [.int .i64 pa, .int .i64 t] (fun _ => True) (fun _ => False) (by simp [Act.eval, Act.put]) (by simp [Act.eval, Act.put]) (k26_mkM _ _ _ (⟨pa, t⟩ : S26)) (fun _ hk => hk.elim) (fun _ _ => trivial) (by repeat (first | exact H1.out | apply Kd.R_drew)) (by repeat (first | exact HB.out | apply below_drew)) (by exact HB.out.size) (by have := HL.out; omega) ?_) | (refine Kd.R_append_step k26 (w0 := w0) (W := w.drew) w0.heap.size rfl (.tmp 14) (.tmp 21) 27 26 (.agg #[(.int .i64 0), (.int .i64 0)]) 16 rfl Try.underlying27 info26 rfl (by decide) (by omega) (.slice Ab br.length cb) br (⟨pa, t⟩ : S26) [.int .i64 pa, .int .i64 t] (fun _ => True) (fun _ => False) (by simp [Act.eval, Act.put]) (by simp [Act.eval, Act.put]) (k26_mkM _ _ _ (⟨pa, t⟩ : S26)) (fun _ hk => hk.elim) (fun _ _ => trivial) (by repeat (first | exact H1.out | apply Kd.R_drew)) (by repeat (first | exact HB.out | apply below_drew)) (by exact HB.out.size) (by have := HL.out; omega) ?_) | (refine Kd.R_append_step k26 (w0 := w0) (W := w.drew.drew) w0.heap.size rfl (.tmp 14) (.tmp 21) 27 26 (.agg #[(.int .i64 0), (.int .i64 0)]) 16 rfl Try.underlying27 info26 rfl (by decide) (by omega) (.slice Ab br.length cb) br (⟨pa, t⟩ : S26) [.int .i64 pa, .int .i64 t] (fun _ => True) (fun _ => False) (by simp [Act.eval, Act.put]) (by simp [Act.eval, Act.put]) (k26_mkM _ _ _ (⟨pa, t⟩ : S26)) (fun _ hk => hk.elim) (fun _ _ => trivial) (by repeat (first | exact H1.out | apply Kd.R_drew)) (by repeat (first | exact HB.out | apply below_drew)) (by exact HB.out.size) (by have := HL.out; omega) ?_) | (refine Kd.R_append_step k26 (w0 := w0) (W := w.drew.drew.drew) w0.heap.size rfl (.tmp 14) (.tmp 21) 27 26 (.agg #[(.int .i64 0), (.int .i64 0)]) 16 rfl Try.underlying27 info26 rfl (by decide) (by omega) (.slice Ab br.length cb) br (⟨pa, t⟩ : S26) [.int .i64 pa, .int .i64 t] (fun _ => True) (fun _ => False) (by simp [Act.eval, Act.put]) (by simp [Act.eval, Act.put]) (k26_mkM _ _ _ (⟨pa, t⟩ : S26)) (fun _ hk => hk.elim) (fun _ _ => trivial) (by repeat (first | exact H1.out | apply Kd.R_drew)) (by repeat (first | exact HB.out | apply below_drew)) (by exact HB.out.size) (by have := HL.out; omega) ?_) | (refine Kd.R_append_step k26 (w0 := w0) (W := w.drew.drew.drew.drew) w0.heap.size rfl (.tmp 14) (.tmp 21) 27 26 (.agg #[(.int .i64 0), (.int .i64 0)]) 16 rfl Try.underlying27 info26 rfl (by decide) (by omega) (.slice Ab br.length cb) br (⟨pa, t⟩ : S26) [.int .i64 pa, .int .i64 t] (fun _ => True) (fun _ => False) (by simp [Act.eval, Act.put]) (by simp [Act.eval, Act.put]) (k26_mkM _ _ _ (⟨pa, t⟩ : S26)) (fun _ hk => hk.elim) (fun _ _ => trivial) (by repeat (first | exact H1.out | apply Kd.R_drew)) (by repeat (first | exact HB.out | apply below_drew)) (by exact HB.out.size) (by have := HL.out; omega) ?_)); intro v1 w1 ho hb1 hg1 hat; obtain ⟨br1, hn⟩ : ∃ z : List S26, z = br ++ [⟨pa, t⟩] := ⟨_, rfl⟩; rw [← hn] at ho; have HN := Aside0.mk hn; clear hn; obtain ⟨Av, cv, rfl⟩ := Kd.R_slice ho; have hg1 : w.grownBy w1 (Value.slice Ab br.length cb).ownBlock := ⟨hg1.os, hg1.tape, hg1.output, hg1.size, hg1.block⟩; have hblk1 := blk_grown HBK.out hg1 (Kd.R_ne H1.out HBK.out (by decide)); have c41 : w1.cell? ⟨g, 4, none⟩ = some (.slice Ab br.length cb) := (blk_cell hblk1 4).trans rfl; have c11 : w1.cell? ⟨g, 1, none⟩ = some (.int .i64 st) := (blk_cell hblk1 1).trans rfl; have f41 := fun i => blk_frozen hblk1 i; have HO := Aside0.mk ho; have HB1 := Aside0.mk hb1; have HG1 := Aside0.mk hg1; have HBLK1 := Aside0.mk hblk1; have HAT := Aside0.mk hat; clear ho hb1 hg1 hblk1 hat c4)
  all_goals
    go_wp2
    go_end0
    refine ⟨rfl, .slice Av br1.length cv, ⟨vp, va, ?_, HG.out, fun _ => ?_, ?_, ?_⟩, ?_, ?_⟩
    · simpa using blk_set (blk_set HBLK1.out 4 (.slice Av br1.length cv)) 1 (.int .i64 1)
    · rw [← HN.out]; exact Kd.R_set (Kd.R_set HO.out HBLK1.out (by decide) 4 _) (blk_set HBLK1.out 4 (.slice Av br1.length cv)) (by decide) 1 _
    · exact Kd.S_mono (Kd.S_set (Kd.S_set (Kd.S_after (Kd.S_mono H2.out (fun k hk => ⟨trivial, hk HST.out⟩)) HG1.out HAT.out) HBLK1.out (by decide) 4 _) (blk_set HBLK1.out 4 (.slice Av br1.length cv)) (by decide) 1 _) (fun k hk _ => hk.2)
    · exact Kd.R_set (Kd.R_set (Kd.R_over' H3.out (Kd.R_typed H1.out) (by decide) HG1.out) HBLK1.out (by decide) 4 _) (blk_set HBLK1.out 4 (.slice Av br1.length cv)) (by decide) 1 _
    · exact below_set (below_set HB1.out HG.out) HG.out
    · exact ((((KeepT.refl w pTS).grown HG1.out (Kd.R_typed H1.out) (by decide))).set HBLK1.out (by decide) 4 _).set (blk_set HBLK1.out 4 (.slice Av br1.length cv)) (by decide) 1 _
set_option maxHeartbeats 800000 in
theorem resume_no (g : Nat) (t : Int) (w0 w : World) (lo st stay pa : Int) (vb : Value) (br : List S26) (ps : List S29) (an : List S62) (hI : PP w0 w g lo st stay pa vb br ps an) (hst : st ≠ 0) (hB : Below w0.heap.size w0 w) (ht : ¬ pa < t) :
  Calls Try.prog 32 #[.pointer (some ⟨g,0,none⟩), .int .i64 t] w fun e w' => e = .returned (.tuple #[]) ∧ ∃ vb1, PP w0 w' g lo 1 stay pa vb1 br ps an ∧ Below w0.heap.size w0 w' ∧ KeepT w w' pTS := by
  have HB := Aside0.mk hB
  clear hB
  obtain ⟨vp, va, hb, hg, hR, hS, hA⟩ := hI
  replace hR := hR hst
  have H1 := Aside0.mk hR
  have H2 := Aside0.mk hS
  have H3 := Aside0.mk hA
  have HG := Aside0.mk hg
  have HST := Aside0.mk hst
  clear hR hS hA hg hst
  have HBK := Aside0.mk hb
  have c1 : w.cell? ⟨g, 1, none⟩ = some (.int .i64 st) := (blk_cell hb 1).trans rfl
  have c3 : w.cell? ⟨g, 3, none⟩ = some (.int .i64 pa) := (blk_cell hb 3).trans rfl
  have f0 := fun i => blk_frozen hb i
  clear hb
  have ht' : decide (pa < t) = false := decide_eq_false ht
  clear ht
  have hu := Try.underlying57
  go_enter Try.func32, Try.ntmps32
  go_wp2
  go_end0
  refine ⟨rfl, vb, ⟨vp, va, ?_, HG.out, fun _ => ?_, ?_, ?_⟩, ?_, ?_⟩
  · simpa using blk_set HBK.out 1 (.int .i64 1)
  · exact Kd.R_set H1.out HBK.out (by decide) 1 _
  · exact Kd.S_mono (Kd.S_set H2.out HBK.out (by decide) 1 _) (fun k hk _ => hk HST.out)
  · exact Kd.R_set H3.out HBK.out (by decide) 1 _
  · exact below_set HB.out HG.out
  · exact (KeepT.refl w pTS).set HBK.out (by decide) 1 _
theorem PP.absent {w0 W : World} {g : Nat} {lo st stay pa : Int} {vb : Value} {br : List S26} {ps : List S29} {an : List S62} (h : PP w0 W g lo st stay pa vb br ps an) : PP w0 (W.setCell ⟨g, 1, none⟩ (.int .i64 0)) g lo 0 stay pa vb br ps an := by
  obtain ⟨vp, va, hb, hg, hR, hS, hA⟩ := h
  refine ⟨vp, va, by simpa using blk_set hb 1 (.int .i64 0), hg, fun h0 => absurd rfl h0, ?_, Kd.R_set hA hb (by decide) 1 _⟩
  exact Kd.S_mono (Kd.S_set hS hb (by decide) 1 _) (fun k _ h0 => absurd rfl h0)
set_option maxHeartbeats 800000 in
theorem end_none (g : Nat) (t : Int) (w0 w : World) (lo st stay pa : Int) (vb : Value) (br : List S26) (ps : List S29) (an : List S62) (hI : PP w0 w g lo st stay pa vb br ps an) (hB : Below w0.heap.size w0 w) (h1 : ¬ lo < wrap64 (t - stay)) (h2 : ¬ 0 < wrap64 (t - stay)) :
  Calls Try.prog 31 #[.pointer (some ⟨g,0,none⟩), .int .i64 t] w fun e w' => e = .returned (.tuple #[]) ∧ PP w0 w' g lo 0 stay pa vb br ps an ∧ Below w0.heap.size w0 w' ∧ KeepT w w' pTS := by
  have HB := Aside0.mk hB
  have HI := Aside0.mk hI
  obtain ⟨vp, va, hb, hg, hR, hS, hA⟩ := hI
  have HG := Aside0.mk hg
  have HBK := Aside0.mk hb
  clear hB hR hS hA hg
  have c0 : w.cell? ⟨g, 0, none⟩ = some (.int .i64 lo) := (blk_cell hb 0).trans rfl
  have c1 : w.cell? ⟨g, 1, none⟩ = some (.int .i64 st) := (blk_cell hb 1).trans rfl
  have c2 : w.cell? ⟨g, 2, none⟩ = some (.int .i64 stay) := (blk_cell hb 2).trans rfl
  have f0 := fun i => blk_frozen hb i
  clear hb
  have d1 : decide (lo < wrap64 (t - stay)) = false := decide_eq_false h1
  have d2 : decide (0 < wrap64 (t - stay)) = false := decide_eq_false h2
  clear h1 h2
  have hu := Try.underlying57
  go_enter Try.func31, Try.ntmps31
  go_wp2
  go_end0
  exact ⟨rfl, HI.out.absent, below_set HB.out HG.out, (KeepT.refl w pTS).set HBK.out (by decide) 1 _⟩
set_option maxHeartbeats 800000 in
theorem end_long (g : Nat) (t : Int) (w0 w : World) (lo st stay pa : Int) (vb : Value) (br : List S26) (ps : List S29) (an : List S62) (hI : PP w0 w g lo st stay pa vb br ps an) (hB : Below w0.heap.size w0 w) (hl : an.length < 1000000) (h1 : lo < wrap64 (t - stay)) :
  Calls Try.prog 31 #[.pointer (some ⟨g,0,none⟩), .int .i64 t] w fun e w' => e = .returned (.tuple #[]) ∧ PP w0 w' g lo 0 stay pa vb br ps (an ++ [⟨3, stay⟩]) ∧ Below w0.heap.size w0 w' ∧ KeepT w w' pTS := by
  have HB := Aside0.mk hB
  have HI := Aside0.mk hI
  have HL := Aside0.mk hl
  obtain ⟨vp, va, hb, hg, hR, hS, hA⟩ := hI
  have HG := Aside0.mk hg
  have HBK := Aside0.mk hb
  clear hB hR hS hA hg hl
  have c0 : w.cell? ⟨g, 0, none⟩ = some (.int .i64 lo) := (blk_cell hb 0).trans rfl
  have c1 : w.cell? ⟨g, 1, none⟩ = some (.int .i64 st) := (blk_cell hb 1).trans rfl
  have c2 : w.cell? ⟨g, 2, none⟩ = some (.int .i64 stay) := (blk_cell hb 2).trans rfl
  have f0 := fun i => blk_frozen hb i
  clear hb
  have d1 : decide (lo < wrap64 (t - stay)) = true := decide_eq_true h1
  clear h1
  have hu := Try.underlying57
  go_enter Try.func31, Try.ntmps31
  go_wp2_with (go_at_call 23; (with_reducible refine (anomaly_calls g 3 stay w0 _ lo 0 stay pa vb br ps an HI.out.absent (below_set HB.out HG.out) HL.out).mono ?_); rintro e w1 ⟨rfl, hi, hb, hk⟩; have HI1 := Aside0.mk hi; have HB1 := Aside0.mk hb; have HK1 := Aside0.mk (((KeepT.refl w pTS).set HBK.out (by decide) 1 (.int .i64 0)).trans hk); clear hi hb hk)
  go_end0
  exact ⟨rfl, HI1.out, HB1.out, HK1.out⟩
set_option maxHeartbeats 2000000 in
theorem end_yes (g : Nat) (t : Int) (w0 w : World) (lo st stay pa : Int) (vb : Value) (br : List S26) (ps : List S29) (an : List S62) (hI : PP w0 w g lo st stay pa vb br ps an) (hst : st ≠ 0) (hB : Below w0.heap.size w0 w) (hl : ps.length < 1000000) (h1 : ¬ lo < wrap64 (t - stay)) (h2 : 0 < wrap64 (t - stay)) :
  Calls Try.prog 31 #[.pointer (some ⟨g,0,none⟩), .int .i64 t] w fun e w' => e = .returned (.tuple #[]) ∧ PP w0 w' g lo 0 stay pa vb br (ps ++ [⟨⟨stay, t⟩, br⟩]) an ∧ Below w0.heap.size w0 w' ∧ KeepT w w' pTS := by
  have HB := Aside0.mk hB
  have HL := Aside0.mk hl
  obtain ⟨vp, va, hb, hg, hR, hS, hA⟩ := hI
  have HG := Aside0.mk hg
  have hR := hR hst
  have hS := Kd.S_mono hS (fun k hk => hk hst)
  obtain ⟨Ab, cb, rfl⟩ := Kd.R_slice hR
  obtain ⟨Ap, cp, rfl⟩ := Kd.S_slice hS
  have HK : Aside0 (∀ k, some k = (Value.slice Ab br.length cb).ownBlock → True ∧ some k ≠ (Value.slice Ap ps.length cp).ownBlock) := ⟨fun k hk => ⟨trivial, fun e => (Kd.S_R hS).1 k e.symm hk⟩⟩
  have hbk1 : (w.setCell ⟨g, 1, none⟩ (.int .i64 0)).heap[g]? = some (.cells #[.int .i64 lo, .int .i64 0, .int .i64 stay, .int .i64 pa, .slice Ab br.length cb, .slice Ap ps.length cp, va] 57 (0, 0)) := by simpa using blk_set hb 1 (.int .i64 0)
  have H1 := Aside0.mk (Kd.R_set (Kd.R_tight rfl hR) hb (by decide) 1 (.int .i64 0))
  have H2 := Aside0.mk (Kd.S_mono (ok' := fun k => True ∧ ¬ some k = (Value.slice Ab br.length cb).ownBlock) (Kd.S_set hS hb (by decide) 1 (.int .i64 0)) (fun k hk => ⟨trivial, hk⟩))
  have H3 := Aside0.mk (Kd.R_set hA hb (by decide) 1 (.int .i64 0))
  have HB1 := Aside0.mk (below_set (j := 1) (v := .int .i64 0) hB hg)
  have c0 : w.cell? ⟨g, 0, none⟩ = some (.int .i64 lo) := (blk_cell hb 0).trans rfl
  have c1 : w.cell? ⟨g, 1, none⟩ = some (.int .i64 st) := (blk_cell hb 1).trans rfl
  have c2 : w.cell? ⟨g, 2, none⟩ = some (.int .i64 stay) := (blk_cell hb 2).trans rfl
  have c4 : w.cell? ⟨g, 4, none⟩ = some (.slice Ab br.length cb) := (blk_cell hb 4).trans rfl
  have c5 : w.cell? ⟨g, 5, none⟩ = some (.slice Ap ps.length cp) := (blk_cell hb 5).trans rfl
  have f0 := fun i => blk_frozen hb i
  have hgl := blk_lt hb
  have HBK1 := Aside0.mk hbk1
  have HBK := Aside0.mk hb
  clear hb hB hR hS hA hg hl hst hbk1 HB
  have d1 : decide (lo < wrap64 (t - stay)) = false := decide_eq_false h1
  have d2 : decide (0 < wrap64 (t - stay)) = true := decide_eq_true h2
  clear h1 h2
  have hu := Try.underlying57
  have hu2 := Try.underlying26
  have hu3 := Try.underlying29
  go_enter Try.func31, Try.ntmps31
  go_wp2
  go_region_law ((first | (refine Kd.S_append_step k29 (w0 := w0) (W := (w.setCell ⟨g, 1, none⟩ (.int .i64 0))) w0.heap.size rfl (.tmp 34) (.tmp 46) 24 29 (.agg #[(.int .i64 0), (.int .i64 0), (.slice none 0 0)]) 40 rfl Try.underlying24 info29 rfl (by decide) (by omega) (.slice Ap ps.length cp) ps (⟨⟨stay, t⟩, br⟩ : S29) [.int .i64 stay, .int .i64 t, .slice Ab br.length cb] (fun _ => True) (fun k => some k = (Value.slice Ab br.length cb).ownBlock) (by simp [Act.eval, Act.put]) (by simp [Act.eval, Act.put]) (k29_mkM _ _ _ (⟨⟨stay, t⟩, br⟩ : S29) (by repeat (first | exact H1.out | apply Kd.R_drew))) HK.out (fun _ _ => trivial) (by repeat (first | exact H2.out | apply Kd.S_drew)) (by repeat (first | exact HB1.out | apply below_drew)) (by exact HB1.out.size) (by have := HL.out; omega) ?_) | (refine Kd.S_append_step k29 (w0 := w0) (W := (w.setCell ⟨g, 1, none⟩ (.int .i64 0)).drew) w0.heap.size rfl (.tmp 34) (.tmp 46) 24 29 (.agg #[(.int .i64 0), (.int .i64 0), (.slice none 0 0)]) 40 rfl Try.underlying24 info29 rfl (by decide) (by omega) (.slice Ap ps.length cp) ps (⟨⟨stay, t⟩, br⟩ : S29) [.int .i64 stay, .int .i64 t, .slice Ab br.length cb] (fun _ => True) (fun k => some k = (Value.slice Ab br.length cb).ownBlock) (by simp [Act.eval, Act.put]) (by simp [Act.eval, Act.put]) (k29_mkM _ _ _ (⟨⟨stay, t⟩, br⟩ : S29) (by repeat (first | exact H1.out | apply Kd.R_drew))) HK.out (fun _ _ => trivial) (by repeat (first | exact H2.out | apply Kd.S_drew)) (by repeat (first | exact HB1.out | apply below_drew)) (by exact HB1.out.size) (by have := HL.out; omega) ?_) | (refine Kd.S_append_step k29 (w0 := w0) (W := (w.setCell ⟨g, 1, none⟩ (.int .i64 0)).drew.drew) w0.heap.size rfl (.tmp 34) (.tmp 46) 24 29 (.agg #[(.int .i64 0), (.int .i64 0), (.slice none 0 0)]) 40 rfl Try.underlying24 info29 rfl (by decide) (by omega) (.slice Ap ps.length cp) ps (⟨⟨stay, t⟩, br⟩ : S29) [.int .i64 stay, .int .i64 t, .slice Ab br.length cb] (fun _ => True) (fun k => some k = (Value.slice Ab br.length cb).ownBlock) (by simp [Act.eval, Act.put]) (by simp [Act.eval, Act.put]) (k29_mkM _ _ _ (⟨⟨stay, t⟩, br⟩ : S29) (by repeat (first | exact H1.out | apply Kd.R_drew))) HK.out (fun _ _ => trivial) (by repeat (first | exact H2.out | apply Kd.S_drew)) (by repeat (first | exact HB1.out | apply below_drew)) (by exact HB1.out.size) (by have := HL.out; omega) ?_) | (refine Kd.S_append_step k29 (w0 := w0) (W := (w.setCell ⟨g, 1, none⟩ (.int .i64 0)).drew.drew.drew) w0.heap.size rfl (.tmp 34) (.tmp 46) 24 29 (.agg #[(.int .i64 0), (.int .i64 0), (.slice none 0 0)]) 40 rfl Try.underlying24 info29 rfl (by decide) (by omega) (.slice Ap ps.length cp) ps (⟨⟨stay, t⟩, br⟩ : S29) [.int .i64 stay, .int .i64 t, .slice Ab br.length cb] (fun _ => True) (fun k => some k = (Value.slice Ab br.length cb).ownBlock) (by simp [Act.eval, Act.put]) (by simp [Act.eval, Act.put]) (k29_mkM _ _ _ (⟨⟨stay, t⟩, br⟩ : S29) (by repeat (first | exact H1.out | apply Kd.R_drew))) HK.out (fun _ _ => trivial) (by repeat (first | exact H2.out | apply Kd.S_drew)) (by repeat (first | exact HB1.out | apply below_drew)) (by exact HB1.out.size) (by have := HL.out; omega) ?_) | (refine Kd.S_append_step k29 (w0 := w0) (W := (w.setCell ⟨g, 1, none⟩ (.int .i64 0)).drew.drew.drew.drew) w0.heap.size rfl (.tmp 34) (.tmp 46) 24 29 (.agg #[(.int .i64 0), (.int .i64 0), (.slice none 0 0)]) 40 rfl Try.underlying24 info29 rfl (by decide) (by omega) (.slice Ap ps.length cp) ps (⟨⟨stay, t⟩, br⟩ : S29) [.int .i64 stay, .int .i64 t, .slice Ab br.length cb] (fun _ => True) (fun k => some k = (Value.slice Ab br.length cb).ownBlock) (by simp [Act.eval, Act.put]) (by simp [Act.eval, Act.put]) (k29_mkM _ _ _ (⟨⟨stay, t⟩, br⟩ : S29) (by repeat (first | exact H1.out | apply Kd.R_drew))) HK.out (fun _ _ => trivial) (by repeat (first | exact H2.out | apply Kd.S_drew)) (by repeat (first | exact HB1.out | apply below_drew)) (by exact HB1.out.size) (by have := HL.out; omega) ?_)); intro v1 w1 ho hb1 hg1 hat; obtain ⟨ps1, hn⟩ : ∃ z : List S29, z = ps ++ [⟨⟨stay, t⟩, br⟩] := ⟨_, rfl⟩; rw [← hn] at ho; have HN := Aside0.mk hn; clear hn; obtain ⟨Av, cv, rfl⟩ := Kd.S_slice ho; have hg1 : (w.setCell ⟨g, 1, none⟩ (.int .i64 0)).grownBy w1 (Value.slice Ap ps.length cp).ownBlock := ⟨hg1.os, hg1.tape, hg1.output, hg1.size, hg1.block⟩; have hblk1 := blk_grown HBK1.out hg1 (Kd.S_ne H2.out HBK1.out (by decide)); have c51 : w1.cell? ⟨g, 5, none⟩ = some (.slice Ap ps.length cp) := (blk_cell hblk1 5).trans rfl; have f51 := fun i => blk_frozen hblk1 i; have HO := Aside0.mk ho; have HB2 := Aside0.mk hb1; have HG1 := Aside0.mk hg1; have HBLK1 := Aside0.mk hblk1; have HAT := Aside0.mk hat; clear ho hb1 hg1 hblk1 hat c5 c4)
  all_goals
    go_wp2
    go_end0
    refine ⟨rfl, ⟨.slice Av ps1.length cv, va, ?_, HG.out, fun h0 => absurd rfl h0, ?_, ?_⟩, ?_, ?_⟩
    · simpa using blk_set HBLK1.out 5 (.slice Av ps1.length cv)
    · rw [← HN.out]; exact Kd.S_mono (Kd.S_set HO.out HBLK1.out (by decide) 5 _) (fun k _ h0 => absurd rfl h0)
    · exact Kd.R_set (Kd.R_over' H3.out (Kd.S_typed H2.out) (by decide) HG1.out) HBLK1.out (by decide) 5 _
    · exact below_set HB2.out HG.out
    · exact ((((KeepT.refl w pTS).set HBK.out (by decide) 1 (.int .i64 0)).grown HG1.out (Kd.S_typed H2.out) (by decide))).set HBLK1.out (by decide) 5 _
/-- The reader's block, and what it leads to. -/
def PI (w0 W : World) (g : Nat) (lo : Int) (s : pairSt) : Prop := (s.st = 0 ∨ s.st = 1 ∨ s.st = 2) ∧ ∃ vb, PP w0 W g lo s.st s.stay s.pause vb s.br s.ps s.an
theorem PP.below {w0 W W1 : World} {g : Nat} {lo st stay pa : Int} {vb : Value} {br : List S26} {ps : List S29} {an : List S62} (h : PP w0 W g lo st stay pa vb br ps an) (hb : Below W.heap.size W W1) : PP w0 W1 g lo st stay pa vb br ps an := by
  obtain ⟨vp, va, h1, hg, hR, hS, hA⟩ := h
  exact ⟨vp, va, blk_below h1 hb, hg, fun h0 => Kd.R_below (hR h0) hb, Kd.S_below hS hb, Kd.R_below hA hb⟩
theorem PI.below {w0 W W1 : World} {g : Nat} {lo : Int} {s : pairSt} (h : PI w0 W g lo s) (hb : Below W.heap.size W W1) : PI w0 W1 g lo s := by
  obtain ⟨h1, vb, h2⟩ := h
  exact ⟨h1, vb, h2.below hb⟩
theorem PI.alloc {w0 W : World} {g : Nat} {lo : Int} {s : pairSt} (h : PI w0 W g lo s) (o : Obj) : PI w0 (W.alloc o) g lo s := h.below (below_alloc (Below.refl _ _) o)
theorem PI.drew {w0 W : World} {g : Nat} {lo : Int} {s : pairSt} (h : PI w0 W g lo s) : PI w0 W.drew g lo s := h.below (below_drew (Below.refl _ _))
theorem PP.set1 {w0 W : World} {g : Nat} {lo st stay pa : Int} {vb : Value} {br : List S26} {ps : List S29} {an : List S62} (h : PP w0 W g lo st stay pa vb br ps an) (st' : Int) (h0 : st ≠ 0) : PP w0 (W.setCell ⟨g, 1, none⟩ (.int .i64 st')) g lo st' stay pa vb br ps an := by
  obtain ⟨vp, va, hb, hg, hR, hS, hA⟩ := h
  exact ⟨vp, va, by simpa using blk_set hb 1 (.int .i64 st'), hg, fun _ => Kd.R_set (hR h0) hb (by decide) 1 _, Kd.S_mono (Kd.S_set hS hb (by decide) 1 _) (fun k hk _ => hk h0), Kd.R_set hA hb (by decide) 1 _⟩
theorem PP.set3 {w0 W : World} {g : Nat} {lo st stay pa : Int} {vb : Value} {br : List S26} {ps : List S29} {an : List S62} (h : PP w0 W g lo st stay pa vb br ps an) (pa' : Int) : PP w0 (W.setCell ⟨g, 3, none⟩ (.int .i64 pa')) g lo st stay pa' vb br ps an := by
  obtain ⟨vp, va, hb, hg, hR, hS, hA⟩ := h
  exact ⟨vp, va, by simpa using blk_set hb 3 (.int .i64 pa'), hg, fun h0 => Kd.R_set (hR h0) hb (by decide) 3 _, Kd.S_set hS hb (by decide) 3 _, Kd.R_set hA hb (by decide) 3 _⟩
theorem PP.blk {w0 W : World} {g : Nat} {lo st stay pa : Int} {vb : Value} {br : List S26} {ps : List S29} {an : List S62} (h : PP w0 W g lo st stay pa vb br ps an) : ∃ vp va, W.heap[g]? = some (Obj.cells #[.int .i64 lo, .int .i64 st, .int .i64 stay, .int .i64 pa, vb, vp, va] 57 (0, 0)) := by
  obtain ⟨vp, va, hb, _⟩ := h
  exact ⟨vp, va, hb⟩
theorem PP.ge {w0 W : World} {g : Nat} {lo st stay pa : Int} {vb : Value} {br : List S26} {ps : List S29} {an : List S62} (h : PP w0 W g lo st stay pa vb br ps an) : w0.heap.size ≤ g := by
  obtain ⟨vp, va, hb, hg, _⟩ := h
  exact hg
abbrev GP (w0 w : World) (g : Nat) (lo : Int) (s' : pairSt) (e : Ending) (w' : World) : Prop := e = .returned (.tuple #[]) ∧ PI w0 w' g lo s' ∧ Below w0.heap.size w0 w' ∧ KeepT w w' pTS
theorem anomaly_s (g : Nat) (kind time : Int) (w0 w : World) (lo : Int) (s : pairSt) (hI : PI w0 w g lo s) (hB : Below w0.heap.size w0 w) (hl : s.an.length < 1000000) :
  Calls Try.prog 23 #[.pointer (some ⟨g,0,none⟩), .int .i64 kind, .int .i64 time] w (GP w0 w g lo (s.anomaly kind time)) := by
  obtain ⟨h1, vb, h2⟩ := hI
  exact (anomaly_calls g kind time w0 w lo s.st s.stay s.pause vb s.br s.ps s.an h2 hB hl).mono fun e w' h => ⟨h.1, ⟨h1, vb, h.2.1⟩, h.2.2⟩
theorem begin_s (g : Nat) (t : Int) (w0 w : World) (lo : Int) (s : pairSt) (hI : PI w0 w g lo s) (hB : Below w0.heap.size w0 w) :
  Calls Try.prog 30 #[.pointer (some ⟨g,0,none⟩), .int .i64 t] w (GP w0 w g lo (s.begin_ t)) := by
  obtain ⟨h1, vb, h2⟩ := hI
  exact (begin_calls g t w0 w lo s.st s.stay s.pause vb s.br s.ps s.an h2 hB).mono fun e w' h => ⟨h.1, ⟨.inr (.inl rfl), _, h.2.1⟩, h.2.2⟩
theorem resume_s (g : Nat) (t : Int) (w0 w : World) (lo : Int) (s : pairSt) (hI : PI w0 w g lo s) (hst : s.st ≠ 0) (hB : Below w0.heap.size w0 w) (hl : s.br.length < 1000000) :
  Calls Try.prog 32 #[.pointer (some ⟨g,0,none⟩), .int .i64 t] w (GP w0 w g lo (s.resume t)) := by
  obtain ⟨h1, vb, h2⟩ := hI
  by_cases c : s.pause < t
  · refine (resume_yes g t w0 w lo s.st s.stay s.pause vb s.br s.ps s.an h2 hst hB hl c).mono fun e w' h => ?_
    obtain ⟨he, vb1, hp, hr⟩ := h
    refine ⟨he, ⟨.inr (.inl rfl), vb1, ?_⟩, hr⟩
    show PP w0 w' g lo 1 s.stay s.pause vb1 (if s.pause < t then s.br ++ [⟨s.pause, t⟩] else s.br) s.ps s.an
    rw [if_pos c]; exact hp
  · refine (resume_no g t w0 w lo s.st s.stay s.pause vb s.br s.ps s.an h2 hst hB c).mono fun e w' h => ?_
    obtain ⟨he, vb1, hp, hr⟩ := h
    refine ⟨he, ⟨.inr (.inl rfl), vb1, ?_⟩, hr⟩
    show PP w0 w' g lo 1 s.stay s.pause vb1 (if s.pause < t then s.br ++ [⟨s.pause, t⟩] else s.br) s.ps s.an
    rw [if_neg c]; exact hp
theorem end_s (g : Nat) (t : Int) (w0 w : World) (lo : Int) (s : pairSt) (hI : PI w0 w g lo s) (hst : s.st ≠ 0) (hB : Below w0.heap.size w0 w) (hl : s.an.length < 1000000) (hl2 : s.ps.length < 1000000) :
  Calls Try.prog 31 #[.pointer (some ⟨g,0,none⟩), .int .i64 t] w (GP w0 w g lo (s.end_ lo t)) := by
  obtain ⟨h1, vb, h2⟩ := hI
  unfold pairSt.end_
  by_cases c : lo < wrap64 (t - s.stay)
  · rw [if_pos c]
    exact (end_long g t w0 w lo s.st s.stay s.pause vb s.br s.ps s.an h2 hB hl c).mono fun e w' h => ⟨h.1, ⟨.inl rfl, _, h.2.1⟩, h.2.2⟩
  · rw [if_neg c]
    by_cases c2 : 0 < wrap64 (t - s.stay)
    · rw [if_pos c2]
      exact (end_yes g t w0 w lo s.st s.stay s.pause vb s.br s.ps s.an h2 hst hB hl2 c c2).mono fun e w' h => ⟨h.1, ⟨.inl rfl, _, h.2.1⟩, h.2.2⟩
    · rw [if_neg c2]
      exact (end_none g t w0 w lo s.st s.stay s.pause vb s.br s.ps s.an h2 hB c c2).mono fun e w' h => ⟨h.1, ⟨.inl rfl, _, h.2.1⟩, h.2.2⟩
set_option maxHeartbeats 2000000 in
theorem read_0_1 (g : Nat) (t x1 x2 : Int) (w0 w : World) (lo stay pa : Int) (br : List S26) (ps : List S29) (an : List S62) (hI : PI w0 w g lo ⟨0, stay, pa, br, ps, an⟩) (hB : Below w0.heap.size w0 w) (hl : an.length < 900000 ∧ br.length < 900000 ∧ ps.length < 900000) :
  Calls Try.prog 22 #[.pointer (some ⟨g,0,none⟩), .agg #[.int .i64 t, .int .i64 1, .int .i64 x1, .int .i64 x2]] w (GP w0 w g lo (pairSt.read lo ⟨0, stay, pa, br, ps, an⟩ ⟨t, 1, ⟨x1, x2⟩⟩)) := by
  have HB := Aside0.mk hB
  have HI := Aside0.mk hI
  have HL := Aside0.mk hl
  have HK := Aside0.mk (KeepT.refl w pTS)
  have HBX := Aside0.mk (blk_new w (Obj.cells #[.int .i64 t, .int .i64 1, .int .i64 x1, .int .i64 x2] 34))
  obtain ⟨hst, vb, hP⟩ := hI
  obtain ⟨vp, va, hb⟩ := hP.blk
  have HP := Aside0.mk hP
  have HG := Aside0.mk hP.ge
  clear hB hl hst hP
  have c1 : w.cell? ⟨g, 1, none⟩ = some (.int .i64 0) := (blk_cell hb 1).trans rfl
  have c2 : w.cell? ⟨g, 2, none⟩ = some (.int .i64 stay) := (blk_cell hb 2).trans rfl
  have c3 : w.cell? ⟨g, 3, none⟩ = some (.int .i64 pa) := (blk_cell hb 3).trans rfl
  have f0 := fun i => blk_frozen hb i
  have hgl := blk_lt hb
  have HBK := Aside0.mk hb
  clear hb
  have hu := Try.underlying57
  have hu2 := Try.underlying34
  have hu3 := Try.underlying71
  go_enter Try.func22, Try.ntmps22
  go_wp2
  go_region
  all_goals go_wp2_with (go_at_call 30; (with_reducible refine (begin_s g t w0 _ lo (⟨0, stay, pa, br, ps, an⟩ : pairSt) (by repeat (first | exact HI.out | apply PI.alloc | apply PI.drew)) (by repeat (first | exact HB.out | apply below_alloc | apply below_drew))).mono ?_); rintro e w1 ⟨rfl, hi, hb, hk⟩; have n0 := Aside0.mk hi; have n1 := Aside0.mk hb; have n2 := Aside0.mk (KeepT.trans (by repeat (first | exact HK.out | apply KeepT.alloc | apply KeepT.drew)) hk); have n3 := Aside0.mk (KeepT.blk hk (by first | exact HBX.out | exact (HBX.out : _)) (by decide)); clear HI HB HK HBX; have HI := n0; have HB := n1; have HK := n2; have HBX := n3; clear n0 n1 n2 n3 hi hb hk; have b0_1 : w1.cell? ⟨w.heap.size, 0, none⟩ = some (.int .i64 t) := (blk_cell HBX.out 0).trans rfl; (try clear c1 c2 c3 f0))
  all_goals go_end0
  all_goals exact ⟨rfl, HI.out, HB.out, HK.out⟩

set_option maxHeartbeats 2000000 in
theorem read_0_2 (g : Nat) (t x1 x2 : Int) (w0 w : World) (lo stay pa : Int) (br : List S26) (ps : List S29) (an : List S62) (hI : PI w0 w g lo ⟨0, stay, pa, br, ps, an⟩) (hB : Below w0.heap.size w0 w) (hl : an.length < 900000 ∧ br.length < 900000 ∧ ps.length < 900000) :
  Calls Try.prog 22 #[.pointer (some ⟨g,0,none⟩), .agg #[.int .i64 t, .int .i64 2, .int .i64 x1, .int .i64 x2]] w (GP w0 w g lo (pairSt.read lo ⟨0, stay, pa, br, ps, an⟩ ⟨t, 2, ⟨x1, x2⟩⟩)) := by
  have HB := Aside0.mk hB
  have HI := Aside0.mk hI
  have HL := Aside0.mk hl
  have HK := Aside0.mk (KeepT.refl w pTS)
  have HBX := Aside0.mk (blk_new w (Obj.cells #[.int .i64 t, .int .i64 2, .int .i64 x1, .int .i64 x2] 34))
  obtain ⟨hst, vb, hP⟩ := hI
  obtain ⟨vp, va, hb⟩ := hP.blk
  have HP := Aside0.mk hP
  have HG := Aside0.mk hP.ge
  clear hB hl hst hP
  have c1 : w.cell? ⟨g, 1, none⟩ = some (.int .i64 0) := (blk_cell hb 1).trans rfl
  have c2 : w.cell? ⟨g, 2, none⟩ = some (.int .i64 stay) := (blk_cell hb 2).trans rfl
  have c3 : w.cell? ⟨g, 3, none⟩ = some (.int .i64 pa) := (blk_cell hb 3).trans rfl
  have f0 := fun i => blk_frozen hb i
  have hgl := blk_lt hb
  have HBK := Aside0.mk hb
  clear hb
  have hu := Try.underlying57
  have hu2 := Try.underlying34
  have hu3 := Try.underlying71
  go_enter Try.func22, Try.ntmps22
  go_wp2
  go_region
  all_goals go_wp2_with (go_at_call 23; (with_reducible refine (anomaly_s g 2 t w0 _ lo (⟨0, stay, pa, br, ps, an⟩ : pairSt) (by repeat (first | exact HI.out | apply PI.alloc | apply PI.drew)) (by repeat (first | exact HB.out | apply below_alloc | apply below_drew)) (by have := HL.out; simp only [pairSt.anomaly, pairSt.resume, List.length_append, List.length_singleton]; omega)).mono ?_); rintro e w1 ⟨rfl, hi, hb, hk⟩; have n0 := Aside0.mk hi; have n1 := Aside0.mk hb; have n2 := Aside0.mk (KeepT.trans (by repeat (first | exact HK.out | apply KeepT.alloc | apply KeepT.drew)) hk); have n3 := Aside0.mk (KeepT.blk hk (by first | exact HBX.out | exact (HBX.out : _)) (by decide)); clear HI HB HK HBX; have HI := n0; have HB := n1; have HK := n2; have HBX := n3; clear n0 n1 n2 n3 hi hb hk; have b0_1 : w1.cell? ⟨w.heap.size, 0, none⟩ = some (.int .i64 t) := (blk_cell HBX.out 0).trans rfl; (try clear c1 c2 c3 f0))
  all_goals go_end0
  all_goals exact ⟨rfl, HI.out, HB.out, HK.out⟩

set_option maxHeartbeats 2000000 in
theorem read_0_3 (g : Nat) (t x1 x2 : Int) (w0 w : World) (lo stay pa : Int) (br : List S26) (ps : List S29) (an : List S62) (hI : PI w0 w g lo ⟨0, stay, pa, br, ps, an⟩) (hB : Below w0.heap.size w0 w) (hl : an.length < 900000 ∧ br.length < 900000 ∧ ps.length < 900000) :
  Calls Try.prog 22 #[.pointer (some ⟨g,0,none⟩), .agg #[.int .i64 t, .int .i64 3, .int .i64 x1, .int .i64 x2]] w (GP w0 w g lo (pairSt.read lo ⟨0, stay, pa, br, ps, an⟩ ⟨t, 3, ⟨x1, x2⟩⟩)) := by
  have HB := Aside0.mk hB
  have HI := Aside0.mk hI
  have HL := Aside0.mk hl
  have HK := Aside0.mk (KeepT.refl w pTS)
  have HBX := Aside0.mk (blk_new w (Obj.cells #[.int .i64 t, .int .i64 3, .int .i64 x1, .int .i64 x2] 34))
  obtain ⟨hst, vb, hP⟩ := hI
  obtain ⟨vp, va, hb⟩ := hP.blk
  have HP := Aside0.mk hP
  have HG := Aside0.mk hP.ge
  clear hB hl hst hP
  have c1 : w.cell? ⟨g, 1, none⟩ = some (.int .i64 0) := (blk_cell hb 1).trans rfl
  have c2 : w.cell? ⟨g, 2, none⟩ = some (.int .i64 stay) := (blk_cell hb 2).trans rfl
  have c3 : w.cell? ⟨g, 3, none⟩ = some (.int .i64 pa) := (blk_cell hb 3).trans rfl
  have f0 := fun i => blk_frozen hb i
  have hgl := blk_lt hb
  have HBK := Aside0.mk hb
  clear hb
  have hu := Try.underlying57
  have hu2 := Try.underlying34
  have hu3 := Try.underlying71
  go_enter Try.func22, Try.ntmps22
  go_wp2
  go_region
  all_goals go_wp2_with (go_at_call 23; (with_reducible refine (anomaly_s g 2 t w0 _ lo (⟨0, stay, pa, br, ps, an⟩ : pairSt) (by repeat (first | exact HI.out | apply PI.alloc | apply PI.drew)) (by repeat (first | exact HB.out | apply below_alloc | apply below_drew)) (by have := HL.out; simp only [pairSt.anomaly, pairSt.resume, List.length_append, List.length_singleton]; omega)).mono ?_); rintro e w1 ⟨rfl, hi, hb, hk⟩; have n0 := Aside0.mk hi; have n1 := Aside0.mk hb; have n2 := Aside0.mk (KeepT.trans (by repeat (first | exact HK.out | apply KeepT.alloc | apply KeepT.drew)) hk); have n3 := Aside0.mk (KeepT.blk hk (by first | exact HBX.out | exact (HBX.out : _)) (by decide)); clear HI HB HK HBX; have HI := n0; have HB := n1; have HK := n2; have HBX := n3; clear n0 n1 n2 n3 hi hb hk; have b0_1 : w1.cell? ⟨w.heap.size, 0, none⟩ = some (.int .i64 t) := (blk_cell HBX.out 0).trans rfl; (try clear c1 c2 c3 f0))
  all_goals go_end0
  all_goals exact ⟨rfl, HI.out, HB.out, HK.out⟩

set_option maxHeartbeats 2000000 in
theorem read_0_4 (g : Nat) (t x1 x2 : Int) (w0 w : World) (lo stay pa : Int) (br : List S26) (ps : List S29) (an : List S62) (hI : PI w0 w g lo ⟨0, stay, pa, br, ps, an⟩) (hB : Below w0.heap.size w0 w) (hl : an.length < 900000 ∧ br.length < 900000 ∧ ps.length < 900000) :
  Calls Try.prog 22 #[.pointer (some ⟨g,0,none⟩), .agg #[.int .i64 t, .int .i64 4, .int .i64 x1, .int .i64 x2]] w (GP w0 w g lo (pairSt.read lo ⟨0, stay, pa, br, ps, an⟩ ⟨t, 4, ⟨x1, x2⟩⟩)) := by
  have HB := Aside0.mk hB
  have HI := Aside0.mk hI
  have HL := Aside0.mk hl
  have HK := Aside0.mk (KeepT.refl w pTS)
  have HBX := Aside0.mk (blk_new w (Obj.cells #[.int .i64 t, .int .i64 4, .int .i64 x1, .int .i64 x2] 34))
  obtain ⟨hst, vb, hP⟩ := hI
  obtain ⟨vp, va, hb⟩ := hP.blk
  have HP := Aside0.mk hP
  have HG := Aside0.mk hP.ge
  clear hB hl hst hP
  have c1 : w.cell? ⟨g, 1, none⟩ = some (.int .i64 0) := (blk_cell hb 1).trans rfl
  have c2 : w.cell? ⟨g, 2, none⟩ = some (.int .i64 stay) := (blk_cell hb 2).trans rfl
  have c3 : w.cell? ⟨g, 3, none⟩ = some (.int .i64 pa) := (blk_cell hb 3).trans rfl
  have f0 := fun i => blk_frozen hb i
  have hgl := blk_lt hb
  have HBK := Aside0.mk hb
  clear hb
  have hu := Try.underlying57
  have hu2 := Try.underlying34
  have hu3 := Try.underlying71
  go_enter Try.func22, Try.ntmps22
  go_wp2
  go_region
  all_goals go_wp2_with (go_at_call 23; (with_reducible refine (anomaly_s g 2 t w0 _ lo (⟨0, stay, pa, br, ps, an⟩ : pairSt) (by repeat (first | exact HI.out | apply PI.alloc | apply PI.drew)) (by repeat (first | exact HB.out | apply below_alloc | apply below_drew)) (by have := HL.out; simp only [pairSt.anomaly, pairSt.resume, List.length_append, List.length_singleton]; omega)).mono ?_); rintro e w1 ⟨rfl, hi, hb, hk⟩; have n0 := Aside0.mk hi; have n1 := Aside0.mk hb; have n2 := Aside0.mk (KeepT.trans (by repeat (first | exact HK.out | apply KeepT.alloc | apply KeepT.drew)) hk); have n3 := Aside0.mk (KeepT.blk hk (by first | exact HBX.out | exact (HBX.out : _)) (by decide)); clear HI HB HK HBX; have HI := n0; have HB := n1; have HK := n2; have HBX := n3; clear n0 n1 n2 n3 hi hb hk; have b0_1 : w1.cell? ⟨w.heap.size, 0, none⟩ = some (.int .i64 t) := (blk_cell HBX.out 0).trans rfl; (try clear c1 c2 c3 f0))
  all_goals go_end0
  all_goals exact ⟨rfl, HI.out, HB.out, HK.out⟩

set_option maxHeartbeats 2000000 in
theorem read_1_1 (g : Nat) (t x1 x2 : Int) (w0 w : World) (lo stay pa : Int) (br : List S26) (ps : List S29) (an : List S62) (hI : PI w0 w g lo ⟨1, stay, pa, br, ps, an⟩) (hB : Below w0.heap.size w0 w) (hl : an.length < 900000 ∧ br.length < 900000 ∧ ps.length < 900000) :
  Calls Try.prog 22 #[.pointer (some ⟨g,0,none⟩), .agg #[.int .i64 t, .int .i64 1, .int .i64 x1, .int .i64 x2]] w (GP w0 w g lo (pairSt.read lo ⟨1, stay, pa, br, ps, an⟩ ⟨t, 1, ⟨x1, x2⟩⟩)) := by
  have HB := Aside0.mk hB
  have HI := Aside0.mk hI
  have HL := Aside0.mk hl
  have HK := Aside0.mk (KeepT.refl w pTS)
  have HBX := Aside0.mk (blk_new w (Obj.cells #[.int .i64 t, .int .i64 1, .int .i64 x1, .int .i64 x2] 34))
  obtain ⟨hst, vb, hP⟩ := hI
  obtain ⟨vp, va, hb⟩ := hP.blk
  have HP := Aside0.mk hP
  have HG := Aside0.mk hP.ge
  clear hB hl hst hP
  have c1 : w.cell? ⟨g, 1, none⟩ = some (.int .i64 1) := (blk_cell hb 1).trans rfl
  have c2 : w.cell? ⟨g, 2, none⟩ = some (.int .i64 stay) := (blk_cell hb 2).trans rfl
  have c3 : w.cell? ⟨g, 3, none⟩ = some (.int .i64 pa) := (blk_cell hb 3).trans rfl
  have f0 := fun i => blk_frozen hb i
  have hgl := blk_lt hb
  have HBK := Aside0.mk hb
  clear hb
  have hu := Try.underlying57
  have hu2 := Try.underlying34
  have hu3 := Try.underlying71
  go_enter Try.func22, Try.ntmps22
  go_wp2
  go_region
  all_goals go_wp2_with (first | (go_at_call 23; (with_reducible refine (anomaly_s g 1 stay w0 _ lo (⟨1, stay, pa, br, ps, an⟩ : pairSt) (by repeat (first | exact HI.out | apply PI.alloc | apply PI.drew)) (by repeat (first | exact HB.out | apply below_alloc | apply below_drew)) (by have := HL.out; simp only [pairSt.anomaly, pairSt.resume, List.length_append, List.length_singleton]; omega)).mono ?_); rintro e w1 ⟨rfl, hi, hb, hk⟩; have n0 := Aside0.mk hi; have n1 := Aside0.mk hb; have n2 := Aside0.mk (KeepT.trans (by repeat (first | exact HK.out | apply KeepT.alloc | apply KeepT.drew)) hk); have n3 := Aside0.mk (KeepT.blk hk (by first | exact HBX.out | exact (HBX.out : _)) (by decide)); clear HI HB HK HBX; have HI := n0; have HB := n1; have HK := n2; have HBX := n3; clear n0 n1 n2 n3 hi hb hk; have b0_1 : w1.cell? ⟨w.heap.size, 0, none⟩ = some (.int .i64 t) := (blk_cell HBX.out 0).trans rfl; (try clear c1 c2 c3 f0)) | (go_at_call 30; (with_reducible refine (begin_s g t w0 _ lo ((⟨1, stay, pa, br, ps, an⟩ : pairSt).anomaly 1 stay) (by repeat (first | exact HI.out | apply PI.alloc | apply PI.drew)) (by repeat (first | exact HB.out | apply below_alloc | apply below_drew))).mono ?_); rintro e w2 ⟨rfl, hi, hb, hk⟩; have n0 := Aside0.mk hi; have n1 := Aside0.mk hb; have n2 := Aside0.mk (KeepT.trans (by repeat (first | exact HK.out | apply KeepT.alloc | apply KeepT.drew)) hk); have n3 := Aside0.mk (KeepT.blk hk (by first | exact HBX.out | exact (HBX.out : _)) (by decide)); clear HI HB HK HBX; have HI := n0; have HB := n1; have HK := n2; have HBX := n3; clear n0 n1 n2 n3 hi hb hk; have b0_2 : w2.cell? ⟨w.heap.size, 0, none⟩ = some (.int .i64 t) := (blk_cell HBX.out 0).trans rfl; (try clear c1 c2 c3 f0)))
  all_goals go_end0
  all_goals exact ⟨rfl, HI.out, HB.out, HK.out⟩

set_option maxHeartbeats 2000000 in
theorem read_1_2 (g : Nat) (t x1 x2 : Int) (w0 w : World) (lo stay pa : Int) (br : List S26) (ps : List S29) (an : List S62) (hI : PI w0 w g lo ⟨1, stay, pa, br, ps, an⟩) (hB : Below w0.heap.size w0 w) (hl : an.length < 900000 ∧ br.length < 900000 ∧ ps.length < 900000) :
  Calls Try.prog 22 #[.pointer (some ⟨g,0,none⟩), .agg #[.int .i64 t, .int .i64 2, .int .i64 x1, .int .i64 x2]] w (GP w0 w g lo (pairSt.read lo ⟨1, stay, pa, br, ps, an⟩ ⟨t, 2, ⟨x1, x2⟩⟩)) := by
  have HB := Aside0.mk hB
  have HI := Aside0.mk hI
  have HL := Aside0.mk hl
  have HK := Aside0.mk (KeepT.refl w pTS)
  have HBX := Aside0.mk (blk_new w (Obj.cells #[.int .i64 t, .int .i64 2, .int .i64 x1, .int .i64 x2] 34))
  obtain ⟨hst, vb, hP⟩ := hI
  obtain ⟨vp, va, hb⟩ := hP.blk
  have HP := Aside0.mk hP
  have HG := Aside0.mk hP.ge
  clear hB hl hst hP
  have c1 : w.cell? ⟨g, 1, none⟩ = some (.int .i64 1) := (blk_cell hb 1).trans rfl
  have c2 : w.cell? ⟨g, 2, none⟩ = some (.int .i64 stay) := (blk_cell hb 2).trans rfl
  have c3 : w.cell? ⟨g, 3, none⟩ = some (.int .i64 pa) := (blk_cell hb 3).trans rfl
  have f0 := fun i => blk_frozen hb i
  have hgl := blk_lt hb
  have HBK := Aside0.mk hb
  clear hb
  have hu := Try.underlying57
  have hu2 := Try.underlying34
  have hu3 := Try.underlying71
  go_enter Try.func22, Try.ntmps22
  go_wp2
  go_region
  all_goals go_wp2_with (go_at_call 31; (with_reducible refine (end_s g t w0 _ lo (⟨1, stay, pa, br, ps, an⟩ : pairSt) (by repeat (first | exact HI.out | apply PI.alloc | apply PI.drew)) (by simp [pairSt.anomaly, pairSt.resume]) (by repeat (first | exact HB.out | apply below_alloc | apply below_drew)) (by have := HL.out; simp only [pairSt.anomaly, pairSt.resume, List.length_append, List.length_singleton]; omega) (by have := HL.out; simp only [pairSt.anomaly, pairSt.resume]; omega)).mono ?_); rintro e w1 ⟨rfl, hi, hb, hk⟩; have n0 := Aside0.mk hi; have n1 := Aside0.mk hb; have n2 := Aside0.mk (KeepT.trans (by repeat (first | exact HK.out | apply KeepT.alloc | apply KeepT.drew)) hk); have n3 := Aside0.mk (KeepT.blk hk (by first | exact HBX.out | exact (HBX.out : _)) (by decide)); clear HI HB HK HBX; have HI := n0; have HB := n1; have HK := n2; have HBX := n3; clear n0 n1 n2 n3 hi hb hk; have b0_1 : w1.cell? ⟨w.heap.size, 0, none⟩ = some (.int .i64 t) := (blk_cell HBX.out 0).trans rfl; (try clear c1 c2 c3 f0))
  all_goals go_end0
  all_goals exact ⟨rfl, HI.out, HB.out, HK.out⟩

set_option maxHeartbeats 2000000 in
theorem read_1_3 (g : Nat) (t x1 x2 : Int) (w0 w : World) (lo stay pa : Int) (br : List S26) (ps : List S29) (an : List S62) (hI : PI w0 w g lo ⟨1, stay, pa, br, ps, an⟩) (hB : Below w0.heap.size w0 w) (hl : an.length < 900000 ∧ br.length < 900000 ∧ ps.length < 900000) :
  Calls Try.prog 22 #[.pointer (some ⟨g,0,none⟩), .agg #[.int .i64 t, .int .i64 3, .int .i64 x1, .int .i64 x2]] w (GP w0 w g lo (pairSt.read lo ⟨1, stay, pa, br, ps, an⟩ ⟨t, 3, ⟨x1, x2⟩⟩)) := by
  have HB := Aside0.mk hB
  have HI := Aside0.mk hI
  have HL := Aside0.mk hl
  have HK := Aside0.mk (KeepT.refl w pTS)
  have HBX := Aside0.mk (blk_new w (Obj.cells #[.int .i64 t, .int .i64 3, .int .i64 x1, .int .i64 x2] 34))
  obtain ⟨hst, vb, hP⟩ := hI
  obtain ⟨vp, va, hb⟩ := hP.blk
  have HP := Aside0.mk hP
  have HG := Aside0.mk hP.ge
  clear hB hl hst hP
  have c1 : w.cell? ⟨g, 1, none⟩ = some (.int .i64 1) := (blk_cell hb 1).trans rfl
  have c2 : w.cell? ⟨g, 2, none⟩ = some (.int .i64 stay) := (blk_cell hb 2).trans rfl
  have c3 : w.cell? ⟨g, 3, none⟩ = some (.int .i64 pa) := (blk_cell hb 3).trans rfl
  have f0 := fun i => blk_frozen hb i
  have hgl := blk_lt hb
  have HBK := Aside0.mk hb
  clear hb
  have hu := Try.underlying57
  have hu2 := Try.underlying34
  have hu3 := Try.underlying71
  go_enter Try.func22, Try.ntmps22
  go_wp2
  go_region
  all_goals go_wp2
  all_goals go_region
  all_goals go_wp2
  all_goals go_end0
  all_goals exact ⟨rfl, ((PI.alloc (show PI w0 _ g lo _ from ⟨.inr (.inr rfl), vb, (HP.out.set1 2 (by decide)).set3 t⟩) _).drew.drew : _), below_drew (below_drew (below_alloc (below_set (below_set HB.out HG.out) HG.out) _)), ((((KeepT.refl w pTS).set HBK.out (by decide) 1 (.int .i64 2)).set (blk_set HBK.out 1 (.int .i64 2)) (by decide) 3 (.int .i64 t)).alloc _).drew.drew⟩

set_option maxHeartbeats 2000000 in
theorem read_1_4 (g : Nat) (t x1 x2 : Int) (w0 w : World) (lo stay pa : Int) (br : List S26) (ps : List S29) (an : List S62) (hI : PI w0 w g lo ⟨1, stay, pa, br, ps, an⟩) (hB : Below w0.heap.size w0 w) (hl : an.length < 900000 ∧ br.length < 900000 ∧ ps.length < 900000) :
  Calls Try.prog 22 #[.pointer (some ⟨g,0,none⟩), .agg #[.int .i64 t, .int .i64 4, .int .i64 x1, .int .i64 x2]] w (GP w0 w g lo (pairSt.read lo ⟨1, stay, pa, br, ps, an⟩ ⟨t, 4, ⟨x1, x2⟩⟩)) := by
  have HB := Aside0.mk hB
  have HI := Aside0.mk hI
  have HL := Aside0.mk hl
  have HK := Aside0.mk (KeepT.refl w pTS)
  have HBX := Aside0.mk (blk_new w (Obj.cells #[.int .i64 t, .int .i64 4, .int .i64 x1, .int .i64 x2] 34))
  obtain ⟨hst, vb, hP⟩ := hI
  obtain ⟨vp, va, hb⟩ := hP.blk
  have HP := Aside0.mk hP
  have HG := Aside0.mk hP.ge
  clear hB hl hst hP
  have c1 : w.cell? ⟨g, 1, none⟩ = some (.int .i64 1) := (blk_cell hb 1).trans rfl
  have c2 : w.cell? ⟨g, 2, none⟩ = some (.int .i64 stay) := (blk_cell hb 2).trans rfl
  have c3 : w.cell? ⟨g, 3, none⟩ = some (.int .i64 pa) := (blk_cell hb 3).trans rfl
  have f0 := fun i => blk_frozen hb i
  have hgl := blk_lt hb
  have HBK := Aside0.mk hb
  clear hb
  have hu := Try.underlying57
  have hu2 := Try.underlying34
  have hu3 := Try.underlying71
  go_enter Try.func22, Try.ntmps22
  go_wp2
  go_region
  all_goals go_wp2_with (go_at_call 23; (with_reducible refine (anomaly_s g 5 t w0 _ lo (⟨1, stay, pa, br, ps, an⟩ : pairSt) (by repeat (first | exact HI.out | apply PI.alloc | apply PI.drew)) (by repeat (first | exact HB.out | apply below_alloc | apply below_drew)) (by have := HL.out; simp only [pairSt.anomaly, pairSt.resume, List.length_append, List.length_singleton]; omega)).mono ?_); rintro e w1 ⟨rfl, hi, hb, hk⟩; have n0 := Aside0.mk hi; have n1 := Aside0.mk hb; have n2 := Aside0.mk (KeepT.trans (by repeat (first | exact HK.out | apply KeepT.alloc | apply KeepT.drew)) hk); have n3 := Aside0.mk (KeepT.blk hk (by first | exact HBX.out | exact (HBX.out : _)) (by decide)); clear HI HB HK HBX; have HI := n0; have HB := n1; have HK := n2; have HBX := n3; clear n0 n1 n2 n3 hi hb hk; have b0_1 : w1.cell? ⟨w.heap.size, 0, none⟩ = some (.int .i64 t) := (blk_cell HBX.out 0).trans rfl; (try clear c1 c2 c3 f0))
  all_goals go_end0
  all_goals exact ⟨rfl, HI.out, HB.out, HK.out⟩

set_option maxHeartbeats 2000000 in
theorem read_2_1 (g : Nat) (t x1 x2 : Int) (w0 w : World) (lo stay pa : Int) (br : List S26) (ps : List S29) (an : List S62) (hI : PI w0 w g lo ⟨2, stay, pa, br, ps, an⟩) (hB : Below w0.heap.size w0 w) (hl : an.length < 900000 ∧ br.length < 900000 ∧ ps.length < 900000) :
  Calls Try.prog 22 #[.pointer (some ⟨g,0,none⟩), .agg #[.int .i64 t, .int .i64 1, .int .i64 x1, .int .i64 x2]] w (GP w0 w g lo (pairSt.read lo ⟨2, stay, pa, br, ps, an⟩ ⟨t, 1, ⟨x1, x2⟩⟩)) := by
  have HB := Aside0.mk hB
  have HI := Aside0.mk hI
  have HL := Aside0.mk hl
  have HK := Aside0.mk (KeepT.refl w pTS)
  have HBX := Aside0.mk (blk_new w (Obj.cells #[.int .i64 t, .int .i64 1, .int .i64 x1, .int .i64 x2] 34))
  obtain ⟨hst, vb, hP⟩ := hI
  obtain ⟨vp, va, hb⟩ := hP.blk
  have HP := Aside0.mk hP
  have HG := Aside0.mk hP.ge
  clear hB hl hst hP
  have c1 : w.cell? ⟨g, 1, none⟩ = some (.int .i64 2) := (blk_cell hb 1).trans rfl
  have c2 : w.cell? ⟨g, 2, none⟩ = some (.int .i64 stay) := (blk_cell hb 2).trans rfl
  have c3 : w.cell? ⟨g, 3, none⟩ = some (.int .i64 pa) := (blk_cell hb 3).trans rfl
  have f0 := fun i => blk_frozen hb i
  have hgl := blk_lt hb
  have HBK := Aside0.mk hb
  clear hb
  have hu := Try.underlying57
  have hu2 := Try.underlying34
  have hu3 := Try.underlying71
  go_enter Try.func22, Try.ntmps22
  go_wp2
  go_region
  all_goals go_wp2_with (first | (go_at_call 23; (with_reducible refine (anomaly_s g 1 stay w0 _ lo (⟨2, stay, pa, br, ps, an⟩ : pairSt) (by repeat (first | exact HI.out | apply PI.alloc | apply PI.drew)) (by repeat (first | exact HB.out | apply below_alloc | apply below_drew)) (by have := HL.out; simp only [pairSt.anomaly, pairSt.resume, List.length_append, List.length_singleton]; omega)).mono ?_); rintro e w1 ⟨rfl, hi, hb, hk⟩; have n0 := Aside0.mk hi; have n1 := Aside0.mk hb; have n2 := Aside0.mk (KeepT.trans (by repeat (first | exact HK.out | apply KeepT.alloc | apply KeepT.drew)) hk); have n3 := Aside0.mk (KeepT.blk hk (by first | exact HBX.out | exact (HBX.out : _)) (by decide)); clear HI HB HK HBX; have HI := n0; have HB := n1; have HK := n2; have HBX := n3; clear n0 n1 n2 n3 hi hb hk; have b0_1 : w1.cell? ⟨w.heap.size, 0, none⟩ = some (.int .i64 t) := (blk_cell HBX.out 0).trans rfl; (try clear c1 c2 c3 f0)) | (go_at_call 30; (with_reducible refine (begin_s g t w0 _ lo ((⟨2, stay, pa, br, ps, an⟩ : pairSt).anomaly 1 stay) (by repeat (first | exact HI.out | apply PI.alloc | apply PI.drew)) (by repeat (first | exact HB.out | apply below_alloc | apply below_drew))).mono ?_); rintro e w2 ⟨rfl, hi, hb, hk⟩; have n0 := Aside0.mk hi; have n1 := Aside0.mk hb; have n2 := Aside0.mk (KeepT.trans (by repeat (first | exact HK.out | apply KeepT.alloc | apply KeepT.drew)) hk); have n3 := Aside0.mk (KeepT.blk hk (by first | exact HBX.out | exact (HBX.out : _)) (by decide)); clear HI HB HK HBX; have HI := n0; have HB := n1; have HK := n2; have HBX := n3; clear n0 n1 n2 n3 hi hb hk; have b0_2 : w2.cell? ⟨w.heap.size, 0, none⟩ = some (.int .i64 t) := (blk_cell HBX.out 0).trans rfl; (try clear c1 c2 c3 f0)))
  all_goals go_end0
  all_goals exact ⟨rfl, HI.out, HB.out, HK.out⟩

set_option maxHeartbeats 2000000 in
theorem read_2_2 (g : Nat) (t x1 x2 : Int) (w0 w : World) (lo stay pa : Int) (br : List S26) (ps : List S29) (an : List S62) (hI : PI w0 w g lo ⟨2, stay, pa, br, ps, an⟩) (hB : Below w0.heap.size w0 w) (hl : an.length < 900000 ∧ br.length < 900000 ∧ ps.length < 900000) :
  Calls Try.prog 22 #[.pointer (some ⟨g,0,none⟩), .agg #[.int .i64 t, .int .i64 2, .int .i64 x1, .int .i64 x2]] w (GP w0 w g lo (pairSt.read lo ⟨2, stay, pa, br, ps, an⟩ ⟨t, 2, ⟨x1, x2⟩⟩)) := by
  have HB := Aside0.mk hB
  have HI := Aside0.mk hI
  have HL := Aside0.mk hl
  have HK := Aside0.mk (KeepT.refl w pTS)
  have HBX := Aside0.mk (blk_new w (Obj.cells #[.int .i64 t, .int .i64 2, .int .i64 x1, .int .i64 x2] 34))
  obtain ⟨hst, vb, hP⟩ := hI
  obtain ⟨vp, va, hb⟩ := hP.blk
  have HP := Aside0.mk hP
  have HG := Aside0.mk hP.ge
  clear hB hl hst hP
  have c1 : w.cell? ⟨g, 1, none⟩ = some (.int .i64 2) := (blk_cell hb 1).trans rfl
  have c2 : w.cell? ⟨g, 2, none⟩ = some (.int .i64 stay) := (blk_cell hb 2).trans rfl
  have c3 : w.cell? ⟨g, 3, none⟩ = some (.int .i64 pa) := (blk_cell hb 3).trans rfl
  have f0 := fun i => blk_frozen hb i
  have hgl := blk_lt hb
  have HBK := Aside0.mk hb
  clear hb
  have hu := Try.underlying57
  have hu2 := Try.underlying34
  have hu3 := Try.underlying71
  go_enter Try.func22, Try.ntmps22
  go_wp2
  go_region
  all_goals go_wp2_with (first | (go_at_call 23; (with_reducible refine (anomaly_s g 4 pa w0 _ lo (⟨2, stay, pa, br, ps, an⟩ : pairSt) (by repeat (first | exact HI.out | apply PI.alloc | apply PI.drew)) (by repeat (first | exact HB.out | apply below_alloc | apply below_drew)) (by have := HL.out; simp only [pairSt.anomaly, pairSt.resume, List.length_append, List.length_singleton]; omega)).mono ?_); rintro e w1 ⟨rfl, hi, hb, hk⟩; have n0 := Aside0.mk hi; have n1 := Aside0.mk hb; have n2 := Aside0.mk (KeepT.trans (by repeat (first | exact HK.out | apply KeepT.alloc | apply KeepT.drew)) hk); have n3 := Aside0.mk (KeepT.blk hk (by first | exact HBX.out | exact (HBX.out : _)) (by decide)); clear HI HB HK HBX; have HI := n0; have HB := n1; have HK := n2; have HBX := n3; clear n0 n1 n2 n3 hi hb hk; have b0_1 : w1.cell? ⟨w.heap.size, 0, none⟩ = some (.int .i64 t) := (blk_cell HBX.out 0).trans rfl; (try clear c1 c2 c3 f0)) | (go_at_call 32; (with_reducible refine (resume_s g t w0 _ lo ((⟨2, stay, pa, br, ps, an⟩ : pairSt).anomaly 4 pa) (by repeat (first | exact HI.out | apply PI.alloc | apply PI.drew)) (by simp [pairSt.anomaly, pairSt.resume]) (by repeat (first | exact HB.out | apply below_alloc | apply below_drew)) (by have := HL.out; simp only [pairSt.anomaly]; omega)).mono ?_); rintro e w2 ⟨rfl, hi, hb, hk⟩; have n0 := Aside0.mk hi; have n1 := Aside0.mk hb; have n2 := Aside0.mk (KeepT.trans (by repeat (first | exact HK.out | apply KeepT.alloc | apply KeepT.drew)) hk); have n3 := Aside0.mk (KeepT.blk hk (by first | exact HBX.out | exact (HBX.out : _)) (by decide)); clear HI HB HK HBX; have HI := n0; have HB := n1; have HK := n2; have HBX := n3; clear n0 n1 n2 n3 hi hb hk; have b0_2 : w2.cell? ⟨w.heap.size, 0, none⟩ = some (.int .i64 t) := (blk_cell HBX.out 0).trans rfl; (try clear c1 c2 c3 f0)) | (go_at_call 31; (with_reducible refine (end_s g t w0 _ lo (((⟨2, stay, pa, br, ps, an⟩ : pairSt).anomaly 4 pa).resume t) (by repeat (first | exact HI.out | apply PI.alloc | apply PI.drew)) (by simp [pairSt.anomaly, pairSt.resume]) (by repeat (first | exact HB.out | apply below_alloc | apply below_drew)) (by have := HL.out; simp only [pairSt.anomaly, pairSt.resume, List.length_append, List.length_singleton]; omega) (by have := HL.out; simp only [pairSt.anomaly, pairSt.resume]; omega)).mono ?_); rintro e w3 ⟨rfl, hi, hb, hk⟩; have n0 := Aside0.mk hi; have n1 := Aside0.mk hb; have n2 := Aside0.mk (KeepT.trans (by repeat (first | exact HK.out | apply KeepT.alloc | apply KeepT.drew)) hk); have n3 := Aside0.mk (KeepT.blk hk (by first | exact HBX.out | exact (HBX.out : _)) (by decide)); clear HI HB HK HBX; have HI := n0; have HB := n1; have HK := n2; have HBX := n3; clear n0 n1 n2 n3 hi hb hk; have b0_3 : w3.cell? ⟨w.heap.size, 0, none⟩ = some (.int .i64 t) := (blk_cell HBX.out 0).trans rfl; (try clear c1 c2 c3 f0)))
  all_goals go_end0
  all_goals exact ⟨rfl, HI.out, HB.out, HK.out⟩

set_option maxHeartbeats 2000000 in
theorem read_2_3 (g : Nat) (t x1 x2 : Int) (w0 w : World) (lo stay pa : Int) (br : List S26) (ps : List S29) (an : List S62) (hI : PI w0 w g lo ⟨2, stay, pa, br, ps, an⟩) (hB : Below w0.heap.size w0 w) (hl : an.length < 900000 ∧ br.length < 900000 ∧ ps.length < 900000) :
  Calls Try.prog 22 #[.pointer (some ⟨g,0,none⟩), .agg #[.int .i64 t, .int .i64 3, .int .i64 x1, .int .i64 x2]] w (GP w0 w g lo (pairSt.read lo ⟨2, stay, pa, br, ps, an⟩ ⟨t, 3, ⟨x1, x2⟩⟩)) := by
  have HB := Aside0.mk hB
  have HI := Aside0.mk hI
  have HL := Aside0.mk hl
  have HK := Aside0.mk (KeepT.refl w pTS)
  have HBX := Aside0.mk (blk_new w (Obj.cells #[.int .i64 t, .int .i64 3, .int .i64 x1, .int .i64 x2] 34))
  obtain ⟨hst, vb, hP⟩ := hI
  obtain ⟨vp, va, hb⟩ := hP.blk
  have HP := Aside0.mk hP
  have HG := Aside0.mk hP.ge
  clear hB hl hst hP
  have c1 : w.cell? ⟨g, 1, none⟩ = some (.int .i64 2) := (blk_cell hb 1).trans rfl
  have c2 : w.cell? ⟨g, 2, none⟩ = some (.int .i64 stay) := (blk_cell hb 2).trans rfl
  have c3 : w.cell? ⟨g, 3, none⟩ = some (.int .i64 pa) := (blk_cell hb 3).trans rfl
  have f0 := fun i => blk_frozen hb i
  have hgl := blk_lt hb
  have HBK := Aside0.mk hb
  clear hb
  have hu := Try.underlying57
  have hu2 := Try.underlying34
  have hu3 := Try.underlying71
  go_enter Try.func22, Try.ntmps22
  go_wp2
  go_region
  all_goals go_wp2_with (go_at_call 23; (with_reducible refine (anomaly_s g 4 pa w0 _ lo (⟨2, stay, pa, br, ps, an⟩ : pairSt) (by repeat (first | exact HI.out | apply PI.alloc | apply PI.drew)) (by repeat (first | exact HB.out | apply below_alloc | apply below_drew)) (by have := HL.out; simp only [pairSt.anomaly, pairSt.resume, List.length_append, List.length_singleton]; omega)).mono ?_); rintro e w1 ⟨rfl, hi, hb, hk⟩; have n0 := Aside0.mk hi; have n1 := Aside0.mk hb; have n2 := Aside0.mk (KeepT.trans (by repeat (first | exact HK.out | apply KeepT.alloc | apply KeepT.drew)) hk); have n3 := Aside0.mk (KeepT.blk hk (by first | exact HBX.out | exact (HBX.out : _)) (by decide)); clear HI HB HK HBX; have HI := n0; have HB := n1; have HK := n2; have HBX := n3; clear n0 n1 n2 n3 hi hb hk; have b0_1 : w1.cell? ⟨w.heap.size, 0, none⟩ = some (.int .i64 t) := (blk_cell HBX.out 0).trans rfl; (try clear c1 c2 c3 f0); obtain ⟨_, vb1, hp1⟩ := HI.out; have HP1 := Aside0.mk hp1; obtain ⟨vp1, va1, hb1⟩ := hp1.blk; have c31 : w1.cell? ⟨g, 3, none⟩ = some (.int .i64 pa) := (blk_cell hb1 3).trans rfl; have f31 := fun i => blk_frozen hb1 i; have HBK1 := Aside0.mk hb1; clear hb1 hp1)
  all_goals go_end0
  all_goals exact ⟨rfl, ⟨.inr (.inr rfl), vb1, HP1.out.set3 t⟩, below_set HB.out HG.out, HK.out.set HBK1.out (by decide) 3 _⟩

set_option maxHeartbeats 2000000 in
theorem read_2_4 (g : Nat) (t x1 x2 : Int) (w0 w : World) (lo stay pa : Int) (br : List S26) (ps : List S29) (an : List S62) (hI : PI w0 w g lo ⟨2, stay, pa, br, ps, an⟩) (hB : Below w0.heap.size w0 w) (hl : an.length < 900000 ∧ br.length < 900000 ∧ ps.length < 900000) :
  Calls Try.prog 22 #[.pointer (some ⟨g,0,none⟩), .agg #[.int .i64 t, .int .i64 4, .int .i64 x1, .int .i64 x2]] w (GP w0 w g lo (pairSt.read lo ⟨2, stay, pa, br, ps, an⟩ ⟨t, 4, ⟨x1, x2⟩⟩)) := by
  have HB := Aside0.mk hB
  have HI := Aside0.mk hI
  have HL := Aside0.mk hl
  have HK := Aside0.mk (KeepT.refl w pTS)
  have HBX := Aside0.mk (blk_new w (Obj.cells #[.int .i64 t, .int .i64 4, .int .i64 x1, .int .i64 x2] 34))
  obtain ⟨hst, vb, hP⟩ := hI
  obtain ⟨vp, va, hb⟩ := hP.blk
  have HP := Aside0.mk hP
  have HG := Aside0.mk hP.ge
  clear hB hl hst hP
  have c1 : w.cell? ⟨g, 1, none⟩ = some (.int .i64 2) := (blk_cell hb 1).trans rfl
  have c2 : w.cell? ⟨g, 2, none⟩ = some (.int .i64 stay) := (blk_cell hb 2).trans rfl
  have c3 : w.cell? ⟨g, 3, none⟩ = some (.int .i64 pa) := (blk_cell hb 3).trans rfl
  have f0 := fun i => blk_frozen hb i
  have hgl := blk_lt hb
  have HBK := Aside0.mk hb
  clear hb
  have hu := Try.underlying57
  have hu2 := Try.underlying34
  have hu3 := Try.underlying71
  go_enter Try.func22, Try.ntmps22
  go_wp2
  go_region
  all_goals go_wp2_with (go_at_call 32; (with_reducible refine (resume_s g t w0 _ lo (⟨2, stay, pa, br, ps, an⟩ : pairSt) (by repeat (first | exact HI.out | apply PI.alloc | apply PI.drew)) (by simp [pairSt.anomaly, pairSt.resume]) (by repeat (first | exact HB.out | apply below_alloc | apply below_drew)) (by have := HL.out; simp only [pairSt.anomaly]; omega)).mono ?_); rintro e w1 ⟨rfl, hi, hb, hk⟩; have n0 := Aside0.mk hi; have n1 := Aside0.mk hb; have n2 := Aside0.mk (KeepT.trans (by repeat (first | exact HK.out | apply KeepT.alloc | apply KeepT.drew)) hk); have n3 := Aside0.mk (KeepT.blk hk (by first | exact HBX.out | exact (HBX.out : _)) (by decide)); clear HI HB HK HBX; have HI := n0; have HB := n1; have HK := n2; have HBX := n3; clear n0 n1 n2 n3 hi hb hk; have b0_1 : w1.cell? ⟨w.heap.size, 0, none⟩ = some (.int .i64 t) := (blk_cell HBX.out 0).trans rfl; (try clear c1 c2 c3 f0))
  all_goals go_end0
  all_goals exact ⟨rfl, HI.out, HB.out, HK.out⟩
theorem stampsOk_drop (l : List S34) (last : Int) (i : Nat) (h : i < l.length) : stampsOk last (l.drop i) = (decide (1 ≤ (rd_T34 l (i : Int)).f1 ∧ (rd_T34 l (i : Int)).f1 ≤ 4 ∧ last ≤ (rd_T34 l (i : Int)).f0 ∧ (rd_T34 l (i : Int)).f0 ≤ 120968639) && stampsOk (rd_T34 l (i : Int)).f0 (l.drop (i + 1))) := by
  have e : rd_T34 l (i : Int) = l[i] := by simp [rd_T34, List.getD_eq_getElem?_getD, h]
  rw [e, List.drop_eq_getElem_cons h, stampsOk]
set_option maxHeartbeats 4000000 in
theorem pair_bad (A0 : Option Addr) (c0 : Nat) (l0 : List S34) (a1 : Int) (w : World) (hr0 : Kd.C k34 w A0 l0.length l0) (hc0 : l0.length ≤ c0) (h0 : l0.length ≤ 1024) (h1 : 1 ≤ a1) (h2 : a1 ≤ 10080) (h3 : stampsOk 0 l0 = false) :
    Calls Try.prog 8 #[.slice A0 l0.length c0, .int .i64 a1] w fun e w' => e = .returned (.tuple #[.slice none 0 0, .slice none 0 0, .int .i64 1]) ∧ Below w.heap.size w w' := by
  have HR0 := Aside0.mk hr0
  have H3 := Aside0.mk h3
  have HB := Aside0.mk (Below.refl w.heap.size w)
  clear hr0 hc0 h3
  have d0 : decide ((1024 : Int) < l0.length) = false := decide_eq_false (by omega)
  have d1 : decide (a1 < 1) = false := decide_eq_false (by omega)
  have d2 : decide (10080 < a1) = false := decide_eq_false (by omega)
  have hu := Try.underlying34
  go_enter Try.func8, Try.ntmps8
  go_wp2
  go_loopw [7, 24] (fun v7 v24 w' => ∃ (last : Int) (i : Nat), v7 = .int .i64 last ∧ v24 = .int .i64 i ∧ i ≤ l0.length ∧ Aside0 (stampsOk last (l0.drop i) = false) ∧ Aside0 (Below w.heap.size w w')) (fun _ v24 _ => l0.length - (intOf v24).toNat)
  case atStart => exact ⟨0, 0, rfl, rfl, Nat.zero_le _, H3, HB⟩
  case round =>
    obtain ⟨last, i, rfl, rfl, hi, HS, HB⟩ := hrel
    by_cases hlt : i < l0.length
    · have hs := HS.out
      rw [stampsOk_drop l0 last i hlt] at hs
      clear HS
      obtain ⟨ad, e, x0, x1, x2, x3⟩ := at_T34 HR0.out (i : Int) (by omega) (by omega)
      subst e
      rw [Int.toNat_natCast] at x0 x1 x2 x3
      replace x0 := (HB.out.cell (World.block_lt_of_cell? w _ x0)).trans x0
      replace x1 := (HB.out.cell (World.block_lt_of_cell? w _ x1)).trans x1
      replace x2 := (HB.out.cell (World.block_lt_of_cell? w _ x2)).trans x2
      replace x3 := (HB.out.cell (World.block_lt_of_cell? w _ x3)).trans x3
      generalize rd_T34 l0 (i : Int) = x at *
      have b0 : decide ((i : Int) < l0.length) = true := decide_eq_true (by omega)
      by_cases g : 1 ≤ x.f1 ∧ x.f1 ≤ 4 ∧ last ≤ x.f0 ∧ x.f0 ≤ 120968639
      · rw [decide_eq_true g, Bool.true_and] at hs
        obtain ⟨g1, g2, g3, g4⟩ := g
        have b1 : decide (x.f1 < 1) = false := decide_eq_false (by omega)
        have b2 : decide (4 < x.f1) = false := decide_eq_false (by omega)
        have b3 : decide (x.f0 < last) = false := decide_eq_false (by omega)
        have b4 : decide (120968639 < x.f0) = false := decide_eq_false (by omega)
        have HS := Aside0.mk hs
        clear hs
        go_wp2
        go_roundw
        case rel => exact ⟨x.f0, i + 1, rfl, by go_num, by omega, HS, ⟨below_step HB.out (by repeat (first | exact Below.refl _ _ | apply below_alloc | apply below_drew))⟩⟩
        case measure => simp [intOf]; omega
      · clear hs
        by_cases g1 : x.f1 < 1
        · have b1 : decide (x.f1 < 1) = true := decide_eq_true (by omega)
          go_wp2
          exact bodyPost_ret (v := .tuple #[.slice none 0 0, .slice none 0 0, .int .i64 1]) (by simp [results, Try.results8, go_sem]) rfl ⟨rfl, below_step HB.out (by repeat (first | exact Below.refl _ _ | apply below_alloc | apply below_drew))⟩
        · have b1 : decide (x.f1 < 1) = false := decide_eq_false (by omega)
          by_cases g2 : 4 < x.f1
          · have b2 : decide (4 < x.f1) = true := decide_eq_true (by omega)
            go_wp2
            exact bodyPost_ret (v := .tuple #[.slice none 0 0, .slice none 0 0, .int .i64 1]) (by simp [results, Try.results8, go_sem]) rfl ⟨rfl, below_step HB.out (by repeat (first | exact Below.refl _ _ | apply below_alloc | apply below_drew))⟩
          · have b2 : decide (4 < x.f1) = false := decide_eq_false (by omega)
            by_cases g3 : x.f0 < last
            · have b3 : decide (x.f0 < last) = true := decide_eq_true (by omega)
              go_wp2
              exact bodyPost_ret (v := .tuple #[.slice none 0 0, .slice none 0 0, .int .i64 1]) (by simp [results, Try.results8, go_sem]) rfl ⟨rfl, below_step HB.out (by repeat (first | exact Below.refl _ _ | apply below_alloc | apply below_drew))⟩
            · have b3 : decide (x.f0 < last) = false := decide_eq_false (by omega)
              have b4 : decide (120968639 < x.f0) = true := decide_eq_true (by omega)
              go_wp2
              exact bodyPost_ret (v := .tuple #[.slice none 0 0, .slice none 0 0, .int .i64 1]) (by simp [results, Try.results8, go_sem]) rfl ⟨rfl, below_step HB.out (by repeat (first | exact Below.refl _ _ | apply below_alloc | apply below_drew))⟩
    · have hs := HS.out
      rw [List.drop_of_length_le (by omega)] at hs
      exact absurd hs (by simp [stampsOk])

theorem foldl_read (lo : Int) (l : List S34) (i : Nat) (h : i < l.length) (s : pairSt) : (l.take (i + 1)).foldl (pairSt.read lo) s = pairSt.read lo ((l.take i).foldl (pairSt.read lo) s) (rd_T34 l (i : Int)) := by
  have e : rd_T34 l (i : Int) = l[i] := by simp [rd_T34, List.getD_eq_getElem?_getD, h]
  rw [e, List.take_succ_eq_append_getElem h, List.foldl_append]; rfl
theorem end_len (s : pairSt) (lo t : Int) : (s.end_ lo t).an.length ≤ s.an.length + 1 ∧ (s.end_ lo t).ps.length ≤ s.ps.length + 1 ∧ (s.end_ lo t).br = s.br := by
  unfold pairSt.end_
  split
  · simp
  · split <;> simp
theorem resume_len (s : pairSt) (t : Int) : (s.resume t).an = s.an ∧ (s.resume t).ps = s.ps ∧ (s.resume t).br.length ≤ s.br.length + 1 := by
  refine ⟨rfl, rfl, ?_⟩
  unfold pairSt.resume
  show (if s.pause < t then s.br ++ [⟨s.pause, t⟩] else s.br).length ≤ _
  split <;> simp
theorem anomaly_len (s : pairSt) (k t : Int) : (s.anomaly k t).an.length = s.an.length + 1 ∧ (s.anomaly k t).ps = s.ps ∧ (s.anomaly k t).br = s.br := ⟨by simp [pairSt.anomaly], rfl, rfl⟩
theorem read_len (lo : Int) (s : pairSt) (x : S34) (n : Nat) (h : s.an.length ≤ 2 * n ∧ s.br.length ≤ 2 * n ∧ s.ps.length ≤ 2 * n) : (pairSt.read lo s x).an.length ≤ 2 * (n + 1) ∧ (pairSt.read lo s x).br.length ≤ 2 * (n + 1) ∧ (pairSt.read lo s x).ps.length ≤ 2 * (n + 1) := by
  obtain ⟨h1, h2, h3⟩ := h
  unfold pairSt.read
  split
  · split
    · exact ⟨by simp only [pairSt.begin_]; omega, by simp [pairSt.begin_], by simp only [pairSt.begin_]; omega⟩
    · have := anomaly_len s 2 x.f0; rw [this.2.1, this.2.2]; exact ⟨by omega, by omega, by omega⟩
  · split
    · have := anomaly_len s 1 s.stay; exact ⟨by simp only [pairSt.begin_]; omega, by simp [pairSt.begin_], by simp only [pairSt.begin_]; rw [this.2.1]; omega⟩
    · split
      · split
        · have := end_len s lo x.f0; rw [this.2.2]; exact ⟨by omega, by omega, by omega⟩
        · split
          · exact ⟨by simp only []; omega, by simp only []; omega, by simp only []; omega⟩
          · have := anomaly_len s 5 x.f0; rw [this.2.1, this.2.2]; exact ⟨by omega, by omega, by omega⟩
      · split
        · have h4 := end_len ((s.anomaly 4 s.pause).resume x.f0) lo x.f0
          have h5 := resume_len (s.anomaly 4 s.pause) x.f0
          have h6 := anomaly_len s 4 s.pause
          rw [h4.2.2]
          rw [h5.1, h5.2.1] at h4
          rw [h6.2.1] at h4
          rw [h6.2.2] at h5
          exact ⟨by omega, by omega, by omega⟩
        · split
          · have h6 := anomaly_len s 4 s.pause
            exact ⟨by simp only []; omega, by simp only []; rw [h6.2.2]; omega, by simp only []; rw [h6.2.1]; omega⟩
          · have h5 := resume_len s x.f0
            rw [h5.1, h5.2.1]; exact ⟨by omega, by omega, by omega⟩
theorem stampsOk_kind (l : List S34) (last : Int) (h : stampsOk last l = true) (i : Nat) (hi : i < l.length) : 1 ≤ (rd_T34 l (i : Int)).f1 ∧ (rd_T34 l (i : Int)).f1 ≤ 4 := by
  induction l generalizing last i with
  | nil => simp at hi
  | cons y l ih =>
    simp only [stampsOk, Bool.and_eq_true, decide_eq_true_eq] at h
    cases i with
    | zero => exact ⟨h.1.1, h.1.2.1⟩
    | succ i => 
      have := ih y.f0 h.2 i (by simpa using hi)
      have e : rd_T34 (y :: l) ((i + 1 : Nat) : Int) = rd_T34 l (i : Int) := by simp [rd_T34]
      rw [e]; exact this
theorem read_s (g : Nat) (x : S34) (w0 w : World) (lo : Int) (s : pairSt) (hI : PI w0 w g lo s) (hB : Below w0.heap.size w0 w) (hl : s.an.length < 900000 ∧ s.br.length < 900000 ∧ s.ps.length < 900000) (hk : 1 ≤ x.f1 ∧ x.f1 ≤ 4) :
  Calls Try.prog 22 #[.pointer (some ⟨g,0,none⟩), .agg #[.int .i64 x.f0, .int .i64 x.f1, .int .i64 x.f2.f0, .int .i64 x.f2.f1]] w (GP w0 w g lo (pairSt.read lo s x)) := by
  obtain ⟨st, stay, pa, br, ps, an⟩ := s
  obtain ⟨t, k, x1, x2⟩ := x
  have hs := hI.1
  simp only at hs hk hl
  have hk4 : k = 1 ∨ k = 2 ∨ k = 3 ∨ k = 4 := by omega
  rcases hs with rfl | rfl | rfl <;> rcases hk4 with rfl | rfl | rfl | rfl
  · exact read_0_1 g t x1 x2 w0 w lo stay pa br ps an hI hB hl
  · exact read_0_2 g t x1 x2 w0 w lo stay pa br ps an hI hB hl
  · exact read_0_3 g t x1 x2 w0 w lo stay pa br ps an hI hB hl
  · exact read_0_4 g t x1 x2 w0 w lo stay pa br ps an hI hB hl
  · exact read_1_1 g t x1 x2 w0 w lo stay pa br ps an hI hB hl
  · exact read_1_2 g t x1 x2 w0 w lo stay pa br ps an hI hB hl
  · exact read_1_3 g t x1 x2 w0 w lo stay pa br ps an hI hB hl
  · exact read_1_4 g t x1 x2 w0 w lo stay pa br ps an hI hB hl
  · exact read_2_1 g t x1 x2 w0 w lo stay pa br ps an hI hB hl
  · exact read_2_2 g t x1 x2 w0 w lo stay pa br ps an hI hB hl
  · exact read_2_3 g t x1 x2 w0 w lo stay pa br ps an hI hB hl
  · exact read_2_4 g t x1 x2 w0 w lo stay pa br ps an hI hB hl
set_option maxHeartbeats 8000000 in
theorem pair_good (A0 : Option Addr) (c0 : Nat) (l0 : List S34) (a1 : Int) (w : World) (hr0 : Kd.C k34 w A0 l0.length l0) (hc0 : l0.length ≤ c0) (h0 : l0.length ≤ 1024) (h1 : 1 ≤ a1) (h2 : a1 ≤ 10080) (h3 : stampsOk 0 l0 = true) :
    Calls Try.prog 8 #[.slice A0 l0.length c0, .int .i64 a1] w fun e w' => ∃ v0_ v1_ : Value, e = .returned (.tuple #[v0_, v1_, .int .i64 0]) ∧ Kd.S k29 29 w' w.heap.size (fun _ => True) v0_ (pairOf a1 l0).ps ∧ Kd.R k62 62 w' w.heap.size (fun _ => True) v1_ (pairOf a1 l0).an ∧ Below w.heap.size w w' := by
  have HR0 := Aside0.mk hr0
  have H3 := Aside0.mk h3
  have H4 := Aside0.mk h3
  have HB := Aside0.mk (Below.refl w.heap.size w)
  clear hr0 hc0 h3
  have d0 : decide ((1024 : Int) < l0.length) = false := decide_eq_false (by omega)
  have d1 : decide (a1 < 1) = false := decide_eq_false (by omega)
  have d2 : decide (10080 < a1) = false := decide_eq_false (by omega)
  have hu := Try.underlying34
  have hu2 := Try.underlying57
  go_enter Try.func8, Try.ntmps8
  go_wp2
  go_loopw [7, 24] (fun v7 v24 w' => ∃ (last : Int) (i : Nat), v7 = .int .i64 last ∧ v24 = .int .i64 i ∧ i ≤ l0.length ∧ Aside0 (stampsOk last (l0.drop i) = true) ∧ Aside0 (Below w.heap.size w w')) (fun _ v24 _ => l0.length - (intOf v24).toNat)
  case atStart => exact ⟨0, 0, rfl, rfl, Nat.zero_le _, H3, HB⟩
  case round =>
    clear H3
    obtain ⟨last, i, rfl, rfl, hi, HS, HB⟩ := hrel
    by_cases hlt : i < l0.length
    · have hs := HS.out
      rw [stampsOk_drop l0 last i hlt] at hs
      clear HS
      obtain ⟨ad, e, x0, x1, x2, x3⟩ := at_T34 HR0.out (i : Int) (by omega) (by omega)
      subst e
      rw [Int.toNat_natCast] at x0 x1 x2 x3
      replace x0 := (HB.out.cell (World.block_lt_of_cell? w _ x0)).trans x0
      replace x1 := (HB.out.cell (World.block_lt_of_cell? w _ x1)).trans x1
      replace x2 := (HB.out.cell (World.block_lt_of_cell? w _ x2)).trans x2
      replace x3 := (HB.out.cell (World.block_lt_of_cell? w _ x3)).trans x3
      generalize rd_T34 l0 (i : Int) = x at *
      have b0 : decide ((i : Int) < l0.length) = true := decide_eq_true (by omega)
      simp only [Bool.and_eq_true, decide_eq_true_eq] at hs
      obtain ⟨⟨g1, g2, g3, g4⟩, hs⟩ := hs
      have b1 : decide (x.f1 < 1) = false := decide_eq_false (by omega)
      have b2 : decide (4 < x.f1) = false := decide_eq_false (by omega)
      have b3 : decide (x.f0 < last) = false := decide_eq_false (by omega)
      have b4 : decide (120968639 < x.f0) = false := decide_eq_false (by omega)
      have HS := Aside0.mk hs
      clear hs
      go_wp2
      go_roundw
      case rel => exact ⟨x.f0, i + 1, rfl, by go_num, by omega, HS, ⟨below_step HB.out (by repeat (first | exact Below.refl _ _ | apply below_alloc | apply below_drew))⟩⟩
      case measure => simp [intOf]; omega
    · have b0 : decide ((i : Int) < l0.length) = false := decide_eq_false (by omega)
      have b0' : decide (i < l0.length) = false := decide_eq_false hlt
      clear HS hlt hi
      go_wp2
      obtain ⟨wo, rfl⟩ : ∃ wo : World, wo = wr := ⟨_, rfl⟩
      go_loopw [55] (fun v55 w' => ∃ (j : Nat), v55 = .int .i64 j ∧ j ≤ l0.length ∧ Aside0 (PI w w' wo.heap.size a1 ((l0.take j).foldl (pairSt.read a1) ⟨0, 0, 0, [], [], []⟩)) ∧ Aside0 (((l0.take j).foldl (pairSt.read a1) ⟨0, 0, 0, [], [], []⟩).an.length ≤ 2 * j ∧ ((l0.take j).foldl (pairSt.read a1) ⟨0, 0, 0, [], [], []⟩).br.length ≤ 2 * j ∧ ((l0.take j).foldl (pairSt.read a1) ⟨0, 0, 0, [], [], []⟩).ps.length ≤ 2 * j) ∧ Aside0 (Below w.heap.size w w')) (fun v55 _ => l0.length - (intOf v55).toNat)
      case atStart => exact ⟨0, rfl, Nat.zero_le _, ⟨⟨.inl rfl, .slice none 0 0, .slice none 0 0, .slice none 0 0, by simpa using blk_new _ _, HB.out.size, fun h => absurd rfl h, Kd.S_nil _ _ _ _ _, Kd.R_nil _ _ _ _ _⟩⟩, ⟨by simp⟩, ⟨below_alloc HB.out _⟩⟩
      case round =>
        clear b0 b0'
        obtain ⟨j, rfl, hj, HI, HN, HB⟩ := hrel
        by_cases hlt : j < l0.length
        · obtain ⟨ad, e, x0, x1, x2, x3⟩ := at_T34 HR0.out (j : Int) (by omega) (by omega)
          subst e
          rw [Int.toNat_natCast] at x0 x1 x2 x3
          replace x0 := (HB.out.cell (World.block_lt_of_cell? w _ x0)).trans x0
          replace x1 := (HB.out.cell (World.block_lt_of_cell? w _ x1)).trans x1
          replace x2 := (HB.out.cell (World.block_lt_of_cell? w _ x2)).trans x2
          replace x3 := (HB.out.cell (World.block_lt_of_cell? w _ x3)).trans x3
          have HF := Aside0.mk (foldl_read a1 l0 j hlt ⟨0, 0, 0, [], [], []⟩)
          have HX := Aside0.mk (stampsOk_kind l0 0 H4.out j hlt)
          have HN1 := Aside0.mk (read_len a1 _ (rd_T34 l0 (j : Int)) j HN.out)
          rw [← HF.out] at HN1
          generalize rd_T34 l0 (j : Int) = x at *
          have b1 : decide ((j : Int) < l0.length) = true := decide_eq_true (by omega)
          go_wp2_with (go_at_call 22; (with_reducible refine (read_s wo.heap.size x w _ a1 _ (PI.alloc HI.out _) (below_alloc HB.out _) (by have := HN.out; omega) HX.out).mono ?_); rintro e w1 ⟨rfl, hi, hb, hk⟩; rw [← HF.out] at hi; have HI1 := Aside0.mk hi; have HB1 := Aside0.mk hb; clear hi hb hk)
          go_roundw
          case rel => exact ⟨j + 1, by go_num, by omega, HI1, HN1, HB1⟩
          case measure => simp [intOf]; omega
        · have hjl : j = l0.length := by omega
          subst hjl
          have b1 : decide ((l0.length : Int) < l0.length) = false := decide_eq_false (by omega)
          rw [List.take_of_length_le (Nat.le_refl _)] at HI HN
          generalize hs : l0.foldl (pairSt.read a1) ⟨0, 0, 0, [], [], []⟩ = s at HI HN
          have HS := Aside0.mk hs
          clear hs
          obtain ⟨hst, vb, hP⟩ := HI.out
          obtain ⟨vp, va, hbk, hg, hR, hS, hA⟩ := hP
          obtain ⟨Ap, cp, rfl⟩ := Kd.S_slice hS
          obtain ⟨Aa, ca, rfl⟩ := Kd.R_slice hA
          have c1 : wr.cell? ⟨wo.heap.size, 1, none⟩ = some (.int .i64 s.st) := (blk_cell hbk 1).trans rfl
          have c2 : wr.cell? ⟨wo.heap.size, 2, none⟩ = some (.int .i64 s.stay) := (blk_cell hbk 2).trans rfl
          have c5 : wr.cell? ⟨wo.heap.size, 5, none⟩ = some (.slice Ap s.ps.length cp) := (blk_cell hbk 5).trans rfl
          have c6 : wr.cell? ⟨wo.heap.size, 6, none⟩ = some (.slice Aa s.an.length ca) := (blk_cell hbk 6).trans rfl
          have H2 := Aside0.mk hS
          have H3 := Aside0.mk hA
          clear hbk hg hR hS hA
          by_cases hz : s.st = 0
          · have z1 : (s.st == 0) = true := beq_iff_eq.mpr hz
            have z2 : (s.st != 0) = false := bne_eq_false_iff_eq.mpr hz
            have HZ := Aside0.mk hz
            clear hz hst
            go_wp2
            go_region
            all_goals go_wp2
            all_goals exact bodyPost_ret (v := .tuple #[.slice Ap s.ps.length cp, .slice Aa s.an.length ca, .int .i64 0]) (by simp [results, Try.results8, go_sem]) rfl ⟨.slice Ap s.ps.length cp, .slice Aa s.an.length ca, rfl, by rw [show pairOf a1 l0 = s from by unfold pairOf pairSt.close; rw [HS.out, if_pos HZ.out]]; exact Kd.S_mono (Kd.S_drew H2.out) (fun _ _ => trivial), by rw [show pairOf a1 l0 = s from by unfold pairOf pairSt.close; rw [HS.out, if_pos HZ.out]]; exact Kd.R_drew H3.out, below_drew HB.out⟩
          · have z1 : (s.st == 0) = false := beq_eq_false_iff_ne.mpr hz
            have z2 : (s.st != 0) = true := bne_iff_ne.mpr hz
            have HZ := Aside0.mk hz
            clear hz hst
            go_wp2_with (go_at_call 23; (with_reducible refine (anomaly_s wo.heap.size 1 s.stay w _ a1 s HI.out HB.out (by have := HN.out; omega)).mono ?_); rintro e w1 ⟨rfl, hi, hb, hk⟩; have HI1 := Aside0.mk hi; have HB1 := Aside0.mk hb; clear hi hb hk; obtain ⟨hst1, vb1, hP1⟩ := HI1.out; obtain ⟨vp1, va1, hbk1, hg1, hR1, hS1, hA1⟩ := hP1; obtain ⟨Ap1, cp1, rfl⟩ := Kd.S_slice hS1; obtain ⟨an1, hn⟩ : ∃ z, z = (s.anomaly 1 s.stay).an := ⟨_, rfl⟩; rw [← hn] at hA1; have HN1 := Aside0.mk hn; clear hn; obtain ⟨Aa1, ca1, rfl⟩ := Kd.R_slice hA1; have c51 : w1.cell? ⟨wo.heap.size, 5, none⟩ = some (.slice Ap1 s.ps.length cp1) := (blk_cell hbk1 5).trans rfl; have c61 : w1.cell? ⟨wo.heap.size, 6, none⟩ = some (.slice Aa1 an1.length ca1) := (blk_cell hbk1 6).trans rfl; have H21 := Aside0.mk hS1; have H31 := Aside0.mk hA1; clear hbk1 hg1 hR1 hS1 hA1 hst1)
            go_region
            all_goals go_wp2
            all_goals exact bodyPost_ret (v := .tuple #[.slice Ap1 s.ps.length cp1, .slice Aa1 an1.length ca1, .int .i64 0]) (by simp [results, Try.results8, go_sem]) rfl ⟨.slice Ap1 s.ps.length cp1, .slice Aa1 an1.length ca1, rfl, by rw [show pairOf a1 l0 = s.anomaly 1 s.stay from by unfold pairOf pairSt.close; rw [HS.out, if_neg HZ.out]]; exact Kd.S_mono (Kd.S_drew H21.out) (fun _ _ => trivial), by rw [show pairOf a1 l0 = s.anomaly 1 s.stay from by unfold pairOf pairSt.close; rw [HS.out, if_neg HZ.out], ← HN1.out]; exact Kd.R_drew H31.out, below_drew HB1.out⟩

set_option maxHeartbeats 2000000 in
theorem pair_limit (A0 : Option Addr) (c0 : Nat) (l0 : List S34) (a1 : Int) (w : World) (h0 : 1024 < l0.length) :
    Calls Try.prog 8 #[.slice A0 l0.length c0, .int .i64 a1] w fun e w' => e = .returned (.tuple #[.slice none 0 0, .slice none 0 0, .int .i64 3]) ∧ Below w.heap.size w w' := by
  have d0 : decide ((1024 : Int) < l0.length) = true := decide_eq_true (by omega)
  have d0' : decide (1024 < l0.length) = true := decide_eq_true (by omega)
  go_enter Try.func8, Try.ntmps8
  go_wp2
  exact bodyPost_ret (v := .tuple #[.slice none 0 0, .slice none 0 0, .int .i64 3]) (by simp [results, Try.results8, go_sem]) rfl ⟨rfl, Below.refl _ _⟩
set_option maxHeartbeats 2000000 in
theorem pair_range (A0 : Option Addr) (c0 : Nat) (l0 : List S34) (a1 : Int) (w : World) (h0 : ¬ 1024 < l0.length) (h1 : a1 < 1 ∨ 10080 < a1) :
    Calls Try.prog 8 #[.slice A0 l0.length c0, .int .i64 a1] w fun e w' => e = .returned (.tuple #[.slice none 0 0, .slice none 0 0, .int .i64 2]) ∧ Below w.heap.size w w' := by
  have d0 : decide ((1024 : Int) < l0.length) = false := decide_eq_false (by omega)
  have d0' : decide (1024 < l0.length) = false := decide_eq_false (by omega)
  by_cases h2 : a1 < 1
  · have d1 : decide (a1 < 1) = true := decide_eq_true h2
    go_enter Try.func8, Try.ntmps8
    go_wp2
    exact bodyPost_ret (v := .tuple #[.slice none 0 0, .slice none 0 0, .int .i64 2]) (by simp [results, Try.results8, go_sem]) rfl ⟨rfl, Below.refl _ _⟩
  · have d1 : decide (a1 < 1) = false := decide_eq_false h2
    have d2 : decide (10080 < a1) = true := decide_eq_true (by omega)
    go_enter Try.func8, Try.ntmps8
    go_wp2
    exact bodyPost_ret (v := .tuple #[.slice none 0 0, .slice none 0 0, .int .i64 2]) (by simp [results, Try.results8, go_sem]) rfl ⟨rfl, Below.refl _ _⟩
theorem presence_Pair.calls_S (A0 : Option Addr) (c0 : Nat) (l0 : List S34) (a1 : Int) (r1 : List S29) (r2 : List S62) (r3 : Int) (w : World) (hr0 : Kd.C k34 w A0 l0.length l0) (hc0 : l0.length ≤ c0) (h : presence_Pair.f l0 a1 = some (r1, r2, r3)) :
    Calls Try.prog 8 #[.slice A0 l0.length c0, .int .i64 a1] w fun e w' => ∃ v0_ v1_ : Value, e = .returned (.tuple #[v0_, v1_, .int .i64 r3]) ∧ Kd.S k29 29 w' w.heap.size (fun _ => True) v0_ r1 ∧ Kd.R k62 62 w' w.heap.size (fun _ => True) v1_ r2 ∧ Below w.heap.size w w' := by
  unfold presence_Pair.f at h
  by_cases h0 : 1024 < l0.length
  · rw [if_pos h0] at h
    injection h with h
    simp only [Prod.mk.injEq] at h
    obtain ⟨rfl, rfl, rfl⟩ := h
    exact (pair_limit A0 c0 l0 a1 w h0).mono fun e w' h => ⟨_, _, h.1, Kd.S_nil _ _ _ _ _, Kd.R_nil _ _ _ _ _, h.2⟩
  rw [if_neg h0] at h
  by_cases h1 : a1 < 1 ∨ 10080 < a1
  · rw [if_pos h1] at h
    injection h with h
    simp only [Prod.mk.injEq] at h
    obtain ⟨rfl, rfl, rfl⟩ := h
    exact (pair_range A0 c0 l0 a1 w h0 h1).mono fun e w' h => ⟨_, _, h.1, Kd.S_nil _ _ _ _ _, Kd.R_nil _ _ _ _ _, h.2⟩
  rw [if_neg h1] at h
  by_cases h2 : stampsOk 0 l0 = true
  · rw [if_pos h2] at h
    injection h with h
    simp only [Prod.mk.injEq] at h
    obtain ⟨rfl, rfl, rfl⟩ := h
    exact pair_good A0 c0 l0 a1 w hr0 hc0 (by omega) (by omega) (by omega) h2
  · rw [if_neg h2] at h
    injection h with h
    simp only [Prod.mk.injEq] at h
    obtain ⟨rfl, rfl, rfl⟩ := h
    exact (pair_bad A0 c0 l0 a1 w hr0 hc0 (by omega) (by omega) (by omega) (by simpa using h2)).mono fun e w' h => ⟨_, _, h.1, Kd.S_nil _ _ _ _ _, Kd.R_nil _ _ _ _ _, h.2⟩
theorem presence_Pair.calls (A0 : Option Addr) (c0 : Nat) (l0 : List S34) (a1 : Int) (r1 : List S29) (r2 : List S62) (r3 : Int) (w : World) (hr0 : Kd.C k34 w A0 l0.length l0) (hc0 : l0.length ≤ c0) (h : presence_Pair.f l0 a1 = some (r1, r2, r3)) :
    Calls Try.prog 8 #[.slice A0 l0.length c0, .int .i64 a1] w fun e w' => ∃ v0_ v1_ : Value, e = .returned (.tuple #[v0_, v1_, .int .i64 r3]) ∧ Kd.N k29 29 w' w.heap.size (fun k_ => (w.heap.size ≤ k_) ∧ some k_ ≠ (v1_ : Value).ownBlock) v0_ r1 ∧ Kd.R k62 62 w' w.heap.size (fun k_ => (w.heap.size ≤ k_)) v1_ r2 ∧ Below w.heap.size w w' := by
  refine (presence_Pair.calls_S A0 c0 l0 a1 r1 r2 r3 w hr0 hc0 h).mono fun e w' h => ?_
  obtain ⟨v0, v1, he, h0, h1, hb⟩ := h
  exact ⟨v0, v1, he, Kd.N_mono (Kd.S_N (Kd.S_bound (Kd.S_apart' h0 (Kd.R_typed h1) (by decide)))) (fun k hk => ⟨hk.2.1, hk.1.2⟩), Kd.R_mono (Kd.R_bound h1) (fun k hk => hk.2.1), hb⟩

end Go.Proofs.Ytbncjlapmomlkaa.P
