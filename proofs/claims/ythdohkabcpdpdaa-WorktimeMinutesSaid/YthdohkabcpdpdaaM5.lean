import Derived.Test.YthdohkabcpdpdaaM0
import Derived.Test.YthdohkabcpdpdaaM4
namespace Go.Proofs.Ythdohkabcpdpdaa.M
open Go.RowKit Go.Proofs.YthdohkabcpdpdaaW.PrintWords Go.Proofs.YthdohkabcpdpdaaW.PrintLast Go.Proofs.YthdohkabcpdpdaaW.PrintMore
attribute [local go_sem] max2_int min2_int max_two min_two max_three min_three max_four min_four   -- for this text's walks alone
set_option linter.unusedVariables false
set_option linter.unusedSimpArgs false
def IsS54 (w0 W : World) (g : Nat) (f0 : List Int) (f1 : Int) : Prop := ∃ A0 c0, W.heap[g]? = some (.cells #[.slice A0 f0.length c0, .int .i64 f1] 54 (0, 0)) ∧ w0.heap.size ≤ g ∧ Kd.C (Kd.int .i64) w0 A0 f0.length f0
theorem IsS54.grown {w0 W : World} {g : Nat} {f0 : List Int} {f1 : Int} {W1 : World} {row : Option Nat} (h : IsS54 w0 W g f0 f1) (hw : W.grownBy W1 row) (hne : some g ≠ row) : IsS54 w0 W1 g f0 f1 := by
  obtain ⟨A0, c0, hb, hg, hr0⟩ := h
  exact ⟨A0, c0, blk_grown hb hw hne, hg, hr0⟩
theorem IsS54.own_neN {w0 W : World} {g : Nat} {f0 : List Int} {f1 : Int} {α : Type} {d : Kd α} {e : Nat} {base : Nat} {ok : Nat → Prop} {v : Value} {xs : List α} (h : IsS54 w0 W g f0 f1) (ho : Kd.N d e W base ok v xs) (ht : e ≠ 54) : some g ≠ v.ownBlock := by
  obtain ⟨A0, c0, hb, hg, hr0⟩ := h
  exact Kd.N_ne ho hb ht
theorem IsS54.fresh {w0 W : World} {g : Nat} {f0 : List Int} {f1 : Int} (h : IsS54 w0 W g f0 f1) : ∀ k, W.heap.size ≤ k → k ≠ g := by
  obtain ⟨A0, c0, hb, hg, hr0⟩ := h
  exact Kd.freshB hb
theorem IsS54.kept {w0 W : World} {g : Nat} {f0 : List Int} {f1 : Int} {W1 : World} {S : Nat → Prop} (h : IsS54 w0 W g f0 f1) (hk : Kept W W1 S) (hne : ¬ S g) : IsS54 w0 W1 g f0 f1 := by
  obtain ⟨A0, c0, hb, hg, hr0⟩ := h
  exact ⟨A0, c0, blk_kept hb hk hne, hg, hr0⟩
theorem IsS54.below {w0 W : World} {g : Nat} {f0 : List Int} {f1 : Int} {W1 : World} (h : IsS54 w0 W g f0 f1) (hw : Below W.heap.size W W1) : IsS54 w0 W1 g f0 f1 := h.grown (grown_of_below hw none) (by simp)
theorem IsS54.alloc {w0 W : World} {g : Nat} {f0 : List Int} {f1 : Int} (h : IsS54 w0 W g f0 f1) (o : Obj) : IsS54 w0 (W.alloc o) g f0 f1 := h.below (below_alloc (Below.refl _ _) o)
theorem IsS54.drewN {w0 W : World} {g : Nat} {f0 : List Int} {f1 : Int} (h : IsS54 w0 W g f0 f1) (m : Nat) : IsS54 w0 (W.drewN m) g f0 f1 := h
theorem IsS54.drew {w0 W : World} {g : Nat} {f0 : List Int} {f1 : Int} (h : IsS54 w0 W g f0 f1) : IsS54 w0 W.drew g f0 f1 := h
theorem IsS54.at_ {w0 W : World} {g : Nat} {f0 : List Int} {f1 : Int} {w' : World} {m : Nat} (hq : W.drewN m = w') (h : IsS54 w0 W g f0 f1) : IsS54 w0 w' g f0 f1 := by subst hq; exact IsS54.drewN h m
theorem IsS54.apart {w0 W : World} {g : Nat} {f0 : List Int} {f1 : Int} {α : Type} {d : Kd α} {e : Nat} {base : Nat} {ok : Nat → Prop} {v : Value} {xs : List α} (h : IsS54 w0 W g f0 f1) (ho : d.R e W base ok v xs) (ht : ∀ q, q ∈ e :: d.E → q ≠ 54) : d.R e W base (fun k => ok k ∧ k ≠ g) v xs := by
  obtain ⟨A0, c0, hb, hg, hr0⟩ := h
  exact Kd.R_types ho hb ht
theorem IsS54.own_ne {w0 W : World} {g : Nat} {f0 : List Int} {f1 : Int} {α : Type} {d : Kd α} {e : Nat} {base : Nat} {ok : Nat → Prop} {v : Value} {xs : List α} (h : IsS54 w0 W g f0 f1) (ho : d.R e W base ok v xs) (ht : e ≠ 54) : some g ≠ v.ownBlock := by
  obtain ⟨A0, c0, hb, hg, hr0⟩ := h
  exact Kd.R_ne ho hb ht
theorem IsS54.apartS {w0 W : World} {g : Nat} {f0 : List Int} {f1 : Int} {α : Type} {d : Kd α} {e : Nat} {base : Nat} {ok : Nat → Prop} {v : Value} {xs : List α} (h : IsS54 w0 W g f0 f1) (ho : d.S e W base ok v xs) (ht : ∀ q, q ∈ e :: d.E → q ≠ 54) : d.S e W base (fun k => ok k ∧ k ≠ g) v xs := by
  obtain ⟨A0, c0, hb, hg, hr0⟩ := h
  exact Kd.S_types ho hb ht
theorem IsS54.own_neS {w0 W : World} {g : Nat} {f0 : List Int} {f1 : Int} {α : Type} {d : Kd α} {e : Nat} {base : Nat} {ok : Nat → Prop} {v : Value} {xs : List α} (h : IsS54 w0 W g f0 f1) (ho : d.S e W base ok v xs) (ht : e ≠ 54) : some g ≠ v.ownBlock := by
  obtain ⟨A0, c0, hb, hg, hr0⟩ := h
  exact Kd.S_ne ho hb ht
theorem IsS54.lt {w0 W : World} {g : Nat} {f0 : List Int} {f1 : Int} (h : IsS54 w0 W g f0 f1) : g < W.heap.size := by
  obtain ⟨A0, c0, hb, hg, hr0⟩ := h
  exact blk_lt hb
theorem IsS54.ge {w0 W : World} {g : Nat} {f0 : List Int} {f1 : Int} (h : IsS54 w0 W g f0 f1) : w0.heap.size ≤ g := by
  obtain ⟨A0, c0, hb, hg, hr0⟩ := h
  exact hg
theorem IsS54.far {w0 W : World} {g : Nat} {f0 : List Int} {f1 : Int} {p : Addr} (h : IsS54 w0 W g f0 f1) (hne : g ≠ p.block) (u : Value) : IsS54 w0 (W.setCell p u) g f0 f1 := by
  obtain ⟨A0, c0, hb, hg, hr0⟩ := h
  exact ⟨A0, c0, blk_far hb hne u, hg, hr0⟩
theorem cellS54_0 {W : World} {g : Nat} {A0 : Option Addr} {c0 : Nat} {f0 : List Int} {f1 : Int} (h : W.heap[g]? = some (.cells #[.slice A0 f0.length c0, .int .i64 f1] 54 (0, 0))) : W.cell? ⟨g, 0, none⟩ = some (.slice A0 f0.length c0) := (blk_cell h 0).trans rfl
theorem cellS54_1 {W : World} {g : Nat} {A0 : Option Addr} {c0 : Nat} {f0 : List Int} {f1 : Int} (h : W.heap[g]? = some (.cells #[.slice A0 f0.length c0, .int .i64 f1] 54 (0, 0))) : W.cell? ⟨g, 1, none⟩ = some (.int .i64 f1) := (blk_cell h 1).trans rfl
theorem IsS54.set_1 {w0 W : World} {g : Nat} {f0 : List Int} {f1 : Int} (h : IsS54 w0 W g f0 f1) (x : Int) : IsS54 w0 (W.setCell ⟨g, 1, none⟩ (.int .i64 x)) g f0 x := by
  obtain ⟨A0, c0, hb, hg, hr0⟩ := h
  exact ⟨A0, c0, by simpa using blk_set hb 1 (.int .i64 x), hg, hr0⟩
theorem IsS54.new (w0 W : World) (A0 : Option Addr) (c0 : Nat) (f0 : List Int) (f1 : Int) (hB : Below w0.heap.size w0 W) (hr0 : Kd.C (Kd.int .i64) w0 A0 f0.length f0) : IsS54 w0 (W.alloc (.cells #[.slice A0 f0.length c0, .int .i64 f1] 54)) W.heap.size f0 f1 := ⟨A0, c0, by simpa using heap_alloc_new W _, hB.size, hr0⟩
def payrollgen_New.f (l0 : List Int) : Option (List Int × Int) := some (l0, 0)
set_option maxHeartbeats 8000000 in
set_option maxRecDepth 100000 in
theorem payrollgen_New.calls (A0 : Option Addr) (c0 : Nat) (l0 : List Int) (r1 : List Int) (r2 : Int) (w0 w : World) (hB : Below w0.heap.size w0 w) (hr0 : Kd.C (Kd.int .i64) w0 A0 l0.length l0) (hc0 : l0.length ≤ c0) (h : payrollgen_New.f l0 = some (r1, r2)) :
    Calls Try.prog 6 #[.slice A0 l0.length c0] w fun e w' => ∃ g_ : Nat, e = .returned (.pointer (some ⟨g_, 0, none⟩)) ∧ IsS54 w0 w' g_ r1 r2 ∧ Below w0.heap.size w0 w' ∧ Below w.heap.size w w' := by
  have hu54 := Try.underlying54
  have HR0 := Aside0.mk hr0
  have HC0 := Aside0.mk hc0
  clear hr0 hc0
  have HBW := Aside0.mk (Below.refl w.heap.size w)
  have HW0 := Aside0.mk hB.size
  have HB := Aside0.mk hB
  clear hB
  have H : (some (l0, 0)) = some (r1, r2) := h
  clear h
  simp only [Option.some.injEq, Prod.mk.injEq] at H
  obtain ⟨rfl, rfl⟩ := H
  go_enter Try.func6, Try.ntmps6
  go_wp2_with (first|((with_reducible refine gate_dst (N:=5) rfl ?_);refine box_event ?hg (N:=5) ?hd (cs:=#[.slice A0 l0.length c0,.int .i64 0]) (t:=54) ?hr ?_;(case hd=>rfl);(case hg=>rfl);(case hr=>first|(go_simp;done)|(go_simp;rfl));intro gb101 hg w2 hbox hb;have n0_:=Aside0.mk (below_step HBW.out hb);have n1_:=Aside0.mk (below_step (by repeat (first|(with_reducible first|exact HB.out|apply below_alloc|apply pw_below_drewN|apply below_drew1)|exact HB.out)) hb);have n2_:=Aside0.mk (hbox);have n3_:=Aside0.mk ((by rw[hg];exact(below_size (by repeat (first|(with_reducible first|exact HBW.out|apply below_alloc|apply pw_below_drewN|apply below_drew1)|exact HBW.out))):w.heap.size≤gb101));have n4_:=Aside0.mk ((Nat.le_trans HW0.out (by rw[hg];exact(below_size (by repeat (first|(with_reducible first|exact HBW.out|apply below_alloc|apply pw_below_drewN|apply below_drew1)|exact HBW.out))):w.heap.size≤gb101):w0.heap.size≤gb101));clear HBW;clear HB;have HBW:=n0_;have HB:=n1_;have BK101:=n2_;have GW101:=n3_;have GE101:=n4_;clear n0_ n1_ n2_ n3_ n4_;clear hb hbox hg))
  go_ret
  exact⟨_,rfl,(show IsS54 w0 _ gb101 l0 0 from ⟨_,_,by (with_reducible repeat (first|refine blk_drewN ?_ _|refine blk_drew ?_|refine blk_alloc ?_ _));exact BK101.out,GE101.out,HR0.out⟩),by repeat (first|(with_reducible first|exact HB.out|apply below_alloc|apply pw_below_drewN|apply below_drew1|refine below_set ?_ GE101.out)|exact HB.out),by repeat (first|(with_reducible first|exact HBW.out|apply below_alloc|apply pw_below_drewN|apply below_drew1|refine below_set ?_ GW101.out)|exact HBW.out)⟩
def payrollgen_Mod.f (a0 : Int) (a1 : Int) : Option (Int) := if a1 = 0 then (none) else (if (Int.tmod a0 a1) < 0 then (some (wrap64 ((Int.tmod a0 a1) + a1))) else (some (Int.tmod a0 a1)))
set_option maxHeartbeats 8000000 in
set_option maxRecDepth 100000 in
theorem payrollgen_Mod.calls (a0 : Int) (a1 : Int) (r : Int) (w : World) (h : payrollgen_Mod.f a0 a1 = some r) :
    Calls Try.prog 15 #[.int .i64 a0, .int .i64 a1] w fun e w' => e = .returned (.int .i64 r) ∧ Drawn0 w w' := by
  have H:(if a1 = 0 then (none) else (if (Int.tmod a0 a1) < 0 then (some (wrap64 ((Int.tmod a0 a1) + a1))) else (some (Int.tmod a0 a1)))) = some r:=h
  clear h
  by_cases c3 : a1 = 0
  · rw [if_pos c3] at H
    exact absurd H (by simp)
  · rw [if_neg c3] at H
    have c3b0 : (a1 == 0) = false := beq_eq_false_iff_ne.mpr c3
    have c3b1 : (a1 != 0) = true := bne_iff_ne.mpr c3
    by_cases c4 : (Int.tmod a0 a1) < 0
    · rw [if_pos c4] at H
      have c4b0 : decide ((Int.tmod a0 a1) < 0) = true := decide_eq_true c4
      clear c4
      obtain rfl := Option.some.inj H
      go_enter Try.func15, Try.ntmps15
      go_wp2
      go_ret
      exact⟨by first|rfl|(simp;done)|(simp[*];done),by repeat (first|exact Drawn0.refl _|apply Drawn0.step)⟩
    · rw [if_neg c4] at H
      have c4b0 : decide ((Int.tmod a0 a1) < 0) = false := decide_eq_false c4
      clear c4
      obtain rfl := Option.some.inj H
      go_enter Try.func15, Try.ntmps15
      go_wp2
      go_ret
      exact⟨by first|rfl|(simp;done)|(simp[*];done),by repeat (first|exact Drawn0.refl _|apply Drawn0.step)⟩
def payrollgen_Tape_Next.f (s0_0 : List Int) (s0_1 : Int) (a1 : Int) : Option (Int × Int) := if a1 < 1 then (some (0, s0_1)) else (if s0_1 ≥ (s0_0.length : Int) then (some (0, s0_1)) else (if 0 ≤ (wrap64 ((wrap64 (s0_1 + 1)) - 1)) then (if (wrap64 ((wrap64 (s0_1 + 1)) - 1)) < (s0_0.length : Int) then ((payrollgen_Mod.f (rd s0_0 (wrap64 ((wrap64 (s0_1 + 1)) - 1))) a1).bind fun t102 => (some (t102, wrap64 (s0_1 + 1)))) else (none)) else (none)))
set_option maxHeartbeats 8000000 in
set_option maxRecDepth 100000 in
theorem payrollgen_Tape_Next.calls (g : Nat) (s0_0 : List Int) (s0_1 : Int) (a1 : Int) (r1 : Int) (r2 : Int) (w0 w : World) (hI : IsS54 w0 w g s0_0 s0_1) (hB : Below w0.heap.size w0 w) (h : payrollgen_Tape_Next.f s0_0 s0_1 a1 = some (r1, r2)) :
    Calls Try.prog 17 #[.pointer (some ⟨g, 0, none⟩), .int .i64 a1] w fun e w' => e = .returned (.int .i64 r1) ∧ IsS54 w0 w' g s0_0 r2 ∧ Below w0.heap.size w0 w' ∧ KeepBut w w' g none := by
  have HI0 := Aside0.mk hI
  have HK := Aside0.mk (KeepBut.refl w g none)
  have HL := Aside0.mk hB.size
  clear hI
  have HW0 := Aside0.mk hB.size
  have HB := Aside0.mk hB
  clear hB
  have H:(if a1 < 1 then (some (0,s0_1)) else (if s0_1 ≥ (s0_0.length:Int) then (some (0,s0_1)) else (if 0≤(wrap64 ((wrap64 (s0_1 + 1)) - 1)) then (if (wrap64 ((wrap64 (s0_1 + 1)) - 1)) < (s0_0.length:Int) then ((payrollgen_Mod.f (rd s0_0 (wrap64 ((wrap64 (s0_1 + 1)) - 1))) a1).bind fun t102=>(some (t102,wrap64 (s0_1 + 1)))) else (none)) else (none)))) = some (r1,r2):=h
  clear h
  by_cases c3 : a1 < 1
  · rw [if_pos c3] at H
    have c3b0 : decide (a1 < 1) = true := decide_eq_true c3
    clear c3
    simp only [Option.some.injEq, Prod.mk.injEq] at H
    obtain ⟨rfl, rfl⟩ := H
    go_enter Try.func17, Try.ntmps17
    go_wp2
    repeat (go_quiet (fail); try go_wp2)
    go_ret
    exact⟨by first|rfl|(simp[errW_none,errW_some] <;> rfl)|(simp[*,errW_none,errW_some] <;> rfl),by repeat (first|(with_reducible first|exact HI0.out|apply IsS54.alloc|apply IsS54.drewN|apply IsS54.drew|apply IsS54.set_1)|exact HI0.out),by repeat (first|(with_reducible first|exact HB.out|apply below_alloc|apply pw_below_drewN|apply below_drew1|refine below_set ?_ (IsS54.ge HI0.out))|exact HB.out),by repeat (first|(with_reducible first|exact HK.out|apply KeepBut.set_|apply keep_drewN|apply keep_drew|apply keep_alloc)|exact HK.out)⟩
  · rw [if_neg c3] at H
    have c3b0 : decide (a1 < 1) = false := decide_eq_false c3
    clear c3
    by_cases c4 : s0_1 ≥ (s0_0.length : Int)
    · rw [if_pos c4] at H
      have c4b0 : decide ((s0_0.length : Int) ≤ s0_1) = true := decide_eq_true c4
      clear c4
      simp only [Option.some.injEq, Prod.mk.injEq] at H
      obtain ⟨rfl, rfl⟩ := H
      obtain ⟨ASz5_0, cSz5_0, HGz5, hgz5, HSz5_0⟩ := HI0.out
      have hcz5_0 := cellS54_0 HGz5
      have hcz5_1 := cellS54_1 HGz5
      have hfz5_1 := blk_frozen HGz5 1
      clear HGz5 hgz5
      go_enter Try.func17, Try.ntmps17
      go_wp2
      repeat (go_quiet (fail); try go_wp2)
      go_ret
      exact⟨by first|rfl|(simp[errW_none,errW_some] <;> rfl)|(simp[*,errW_none,errW_some] <;> rfl),by repeat (first|(with_reducible first|exact HI0.out|apply IsS54.alloc|apply IsS54.drewN|apply IsS54.drew|apply IsS54.set_1)|exact HI0.out),by repeat (first|(with_reducible first|exact HB.out|apply below_alloc|apply pw_below_drewN|apply below_drew1|refine below_set ?_ (IsS54.ge HI0.out))|exact HB.out),by repeat (first|(with_reducible first|exact HK.out|apply KeepBut.set_|apply keep_drewN|apply keep_drew|apply keep_alloc)|exact HK.out)⟩
    · rw [if_neg c4] at H
      have c4b0 : decide ((s0_0.length : Int) ≤ s0_1) = false := decide_eq_false c4
      clear c4
      obtain ⟨ji6, hji6⟩ : ∃ j_ : Int, (wrap64 ((wrap64 (s0_1 + 1)) - 1)) = j_ := ⟨_, rfl⟩
      replace H:(if 0≤(ji6) then (if (ji6) < (s0_0.length:Int) then ((payrollgen_Mod.f (rd s0_0 (ji6)) a1).bind fun t102=>(some (t102,wrap64 (s0_1 + 1)))) else (none)) else (none)) = some (r1,r2):=by first|(rw[hji6] at H;exact H)|(simp only[hji6] at H ⊢;exact H)
      have hji6w : (IntKind.i64.wrap ((wrap64 (s0_1 + 1)) - 1)) = ji6 := (i64_w _).trans hji6
      by_cases c7 : 0 ≤ (ji6)
      · rw [if_pos c7] at H
        have c7b0 : decide (0 ≤ (ji6)) = true := decide_eq_true c7
        clear c7
        by_cases c8 : (ji6) < (s0_0.length : Int)
        · rw [if_pos c8] at H
          have c8b0 : decide ((ji6) < (s0_0.length : Int)) = true := decide_eq_true c8
          clear c8
          replace H := Option.bind_eq_some_iff.mp H
          obtain ⟨t102, A90, H⟩ := H
          replace H : (some (t102, wrap64 (s0_1 + 1))) = some (r1, r2) := H
          have A9 := Aside0.mk A90
          clear A90
          simp only [Option.some.injEq, Prod.mk.injEq] at H
          obtain ⟨rfl, rfl⟩ := H
          obtain ⟨ASz10_0, cSz10_0, HGz10, hgz10, HSz10_0⟩ := HI0.out
          have hcz10_0 := cellS54_0 HGz10
          have hcz10_1 := cellS54_1 HGz10
          have hfz10_1 := blk_frozen HGz10 1
          clear HGz10 hgz10
          have p101 : 0 ≤ ((ji6) : Int) := of_decide_eq_true (by first | (with_reducible assumption) | assumption)
          have q101:(ji6) < (s0_0.length:Int):=of_decide_eq_true (by first|(with_reducible assumption)|assumption)
          obtain ⟨ad101, e101, hx101_0⟩ := Kd.at_int HSz10_0 (ji6) p101 q101
          cases e101
          have hn101_0:ad101.block≠g:=Nat.ne_of_lt (Nat.lt_of_lt_of_le (by have:=World.block_lt_of_cell? _ _ hx101_0;first|rwa [add_block] at this|exact this) (IsS54.ge HI0.out))
          replace hx101_0 := pw_cell_below HB.out hx101_0
          replace hx101_0:=(cell_far (p:=⟨g,1,none⟩) (by first|(rw[add_block];exact hn101_0)|(show (Addr.add _ _).block≠_;rw[add_block];exact hn101_0)|exact hn101_0) (.int .i64 (wrap64 (s0_1 + 1)))).trans hx101_0
          (try have hy101_0:=fun (n_:Nat)=>(show (((w.drewN n_).setCell ⟨g,1,none⟩ (.int .i64 (wrap64 (s0_1 + 1))))).cell? _ = some _ from hx101_0))
          clear hn101_0
          replace p101 := eq_true p101
          replace q101 := eq_true q101
          go_enter Try.func17, Try.ntmps17
          go_wp2_with (first|(go_at_call 15;(with_reducible refine(payrollgen_Mod.calls (rd s0_0 (ji6)) a1 t102 _ A9.out).mono ?_);rintro e w' ⟨rfl,⟨nd,rfl⟩⟩;(try first|exact⟨rfl,_,World.drewN_drewN _ _ _⟩|exact⟨rfl,_,Eq.trans (World.drewN_drewN _ _ _) (congrArg (World.drewN _) (Nat.add_assoc _ _ _))⟩)))
          repeat (go_quiet (first|(go_at_call 15;(with_reducible refine(payrollgen_Mod.calls (rd s0_0 (ji6)) a1 t102 _ A9.out).mono ?_);rintro e w' ⟨rfl,⟨nd,rfl⟩⟩;(try first|exact⟨rfl,_,World.drewN_drewN _ _ _⟩|exact⟨rfl,_,Eq.trans (World.drewN_drewN _ _ _) (congrArg (World.drewN _) (Nat.add_assoc _ _ _))⟩)));try go_wp2_with (first|(go_at_call 15;(with_reducible refine(payrollgen_Mod.calls (rd s0_0 (ji6)) a1 t102 _ A9.out).mono ?_);rintro e w' ⟨rfl,⟨nd,rfl⟩⟩;(try first|exact⟨rfl,_,World.drewN_drewN _ _ _⟩|exact⟨rfl,_,Eq.trans (World.drewN_drewN _ _ _) (congrArg (World.drewN _) (Nat.add_assoc _ _ _))⟩))))
          go_ret
          exact⟨by first|rfl|(simp[errW_none,errW_some] <;> rfl)|(simp only[← hji6];first|rfl|(simp[errW_none,errW_some] <;> rfl))|(simp[*,errW_none,errW_some] <;> rfl),by repeat (first|(with_reducible first|exact HI0.out|apply IsS54.alloc|apply IsS54.drewN|apply IsS54.drew|apply IsS54.set_1)|exact HI0.out),by repeat (first|(with_reducible first|exact HB.out|apply below_alloc|apply pw_below_drewN|apply below_drew1|refine below_set ?_ (IsS54.ge HI0.out))|exact HB.out),by repeat (first|(with_reducible first|exact HK.out|apply KeepBut.set_|apply keep_drewN|apply keep_drew|apply keep_alloc)|exact HK.out)⟩
        · rw [if_neg c8] at H
          exact absurd H (by simp)
      · rw [if_neg c7] at H
        exact absurd H (by simp)
def payrollgen_Tape_Pick.f (s0_0 : List Int) (s0_1 : Int) (l1 : List Int) : Option (Int × Int) := (payrollgen_Tape_Next.f s0_0 s0_1 (l1.length : Int)).bind fun bt101 => (if 0 ≤ bt101.1 then (if bt101.1 < (l1.length : Int) then (some (rd l1 bt101.1, bt101.2)) else (none)) else (none))
set_option maxHeartbeats 8000000 in
set_option maxRecDepth 100000 in
theorem payrollgen_Tape_Pick.calls (g : Nat) (s0_0 : List Int) (s0_1 : Int) (A1 : Option Addr) (c1 : Nat) (l1 : List Int) (r1 : Int) (r2 : Int) (w0 w : World) (hI : IsS54 w0 w g s0_0 s0_1) (hB : Below w0.heap.size w0 w) (hr1 : Kd.C (Kd.int .i64) w A1 l1.length l1) (hc1 : l1.length ≤ c1) (hf1 : ∀ ad, A1 = some ad → 0 < l1.length → ad.block ≠ g) (h : payrollgen_Tape_Pick.f s0_0 s0_1 l1 = some (r1, r2)) :
    Calls Try.prog 18 #[.pointer (some ⟨g, 0, none⟩), .slice A1 l1.length c1] w fun e w' => e = .returned (.int .i64 r1) ∧ IsS54 w0 w' g s0_0 r2 ∧ Below w0.heap.size w0 w' ∧ KeepBut w w' g none := by
  have HR1 := Aside0.mk hr1
  have HC1 := Aside0.mk hc1
  clear hr1 hc1
  have HI0 := Aside0.mk hI
  have HK := Aside0.mk (KeepBut.refl w g none)
  have HL := Aside0.mk hB.size
  clear hI
  have HW0 := Aside0.mk hB.size
  have HB := Aside0.mk hB
  clear hB
  have H:((payrollgen_Tape_Next.f s0_0 s0_1 (l1.length:Int)).bind fun bt101=>(if 0≤bt101.1 then (if bt101.1 < (l1.length:Int) then (some (rd l1 bt101.1,bt101.2)) else (none)) else (none))) = some (r1,r2):=h
  clear h
  replace H := Option.bind_eq_some_iff.mp H
  obtain ⟨⟨t101, t102⟩, A30, H⟩ := H
  replace H:(if 0≤t101 then (if t101 < (l1.length:Int) then (some (rd l1 t101,t102)) else (none)) else (none)) = some (r1,r2):=H
  have A3 := Aside0.mk A30
  clear A30
  by_cases c4 : 0 ≤ t101
  · rw [if_pos c4] at H
    have c4b0 : decide (0 ≤ t101) = true := decide_eq_true c4
    clear c4
    by_cases c5 : t101 < (l1.length : Int)
    · rw [if_pos c5] at H
      have c5b0 : decide (t101 < (l1.length : Int)) = true := decide_eq_true c5
      clear c5
      simp only [Option.some.injEq, Prod.mk.injEq] at H
      obtain ⟨rfl, rfl⟩ := H
      go_enter Try.func18, Try.ntmps18
      go_wp2_with (first|((with_reducible refine gate_callee (f:=17) rfl ?_);refine goesL_ (some 9) rfl rfl Try.func17 (by kernel_rfl) rfl #[.pointer (some ⟨g,0,none⟩),.int .i64 (l1.length:Int)] rfl (by (try simp only[List.map_toArray,List.map_cons,List.map_nil]);first|done|rfl|(simp only[List.length_drop,List.length_take];rfl)) ?_;(with_reducible refine(payrollgen_Tape_Next.calls g s0_0 s0_1 (l1.length:Int) t101 t102 w0 _ ?side1 ?side2 A3.out).mono ?_);(case side1=>repeat (first|(with_reducible first|exact HI0.out|apply IsS54.alloc|apply IsS54.drewN|apply IsS54.drew|apply IsS54.set_1)|exact HI0.out));(case side2=>repeat (first|(with_reducible first|exact HB.out|apply below_alloc|apply pw_below_drewN|apply below_drew1|refine below_set ?_ (IsS54.ge HI0.out))|exact HB.out));rintro e w6 ⟨rfl,hi,hb,hk⟩;refine⟨_,rfl,?_⟩;have n0_:=Aside0.mk (KeepBut.trans (by repeat (first|(with_reducible first|exact HK.out|apply KeepBut.set_|apply keep_drewN|apply keep_drew|apply keep_alloc)|exact HK.out)) hk (.inl rfl));have n1_:=Aside0.mk (hb);have n2_:=Aside0.mk (hi);clear HK;clear HB;clear HI0;have HK:=n0_;have HB:=n1_;have HI0:=n2_;clear n0_ n1_ n2_;(try clear hb);(try clear hb2);(try clear hk);(try clear hi);have p103:0≤(t101:Int):=of_decide_eq_true (by first|(with_reducible assumption)|assumption);have q103:t101 < (l1.length:Int):=of_decide_eq_true (by first|(with_reducible assumption)|assumption);obtain ⟨ad103,e103,hx103_0⟩:=Kd.at_int HR1.out t101 p103 q103;cases e103;replace hx103_0:=keep_cell HK.out hx103_0 (by first|(rw[add_block];exact hf1 _ rfl (by omega))|exact hf1 _ rfl (by omega)|exact hf1 ad103 rfl (by omega));replace p103:=eq_true p103;replace q103:=eq_true q103))
      go_ret
      exact⟨by first|rfl|(simp[errW_none,errW_some] <;> rfl)|(simp[*,errW_none,errW_some] <;> rfl),by repeat (first|(with_reducible first|exact HI0.out|apply IsS54.alloc|apply IsS54.drewN|apply IsS54.drew|apply IsS54.set_1)|exact HI0.out),by repeat (first|(with_reducible first|exact HB.out|apply below_alloc|apply pw_below_drewN|apply below_drew1|refine below_set ?_ (IsS54.ge HI0.out))|exact HB.out),by repeat (first|(with_reducible first|exact HK.out|apply KeepBut.set_|apply keep_drewN|apply keep_drew|apply keep_alloc)|exact HK.out)⟩
    · rw [if_neg c5] at H
      exact absurd H (by simp)
  · rw [if_neg c4] at H
    exact absurd H (by simp)
def swapW (l : List S30) (i : Int) : List S30 := (l.set 0 (rd_T30 l i)).set i.toNat (rd_T30 l 0)
mutual
def payrollgen_Tape_Works.l0 : Nat → List (S30) → Int → Int → List Int → Int → Option ((List (S30)) × Int)
  | 0, _, _, _, _, _ => none
  | k + 1, x5, x6, x7, x1000, x1001 => if x7 > 0 then ((payrollgen_Tape_Next.f x1000 x1001 5).bind fun bt105 => ((payrollgen_Tape_Next.f x1000 bt105.2 2).bind fun bt108 => (payrollgen_Tape_Works.l1 k x5 x6 x7 (wrap64 (1 + bt108.1)) x1000 bt108.2 (wrap64 ((wrap64 (Int.tdiv x6 1440)) - (wrap64 (Int.tdiv bt105.1 4)))) ([] : List (S41))))) else (if (x5.length : Int) > 1 then ((payrollgen_Tape_Next.f x1000 x1001 2).bind fun bt131 => (if bt131.1 = 0 then ((payrollgen_Tape_Next.f x1000 bt131.2 (x5.length : Int)).bind fun bt133 => (if 0 ≤ bt133.1 ∧ bt133.1 < (x5.length : Int) then (some (swapW x5 bt133.1, bt133.2)) else (none))) else (some (x5, bt131.2)))) else (some (x5, x1001)))
def payrollgen_Tape_Works.l1 : Nat → List (S30) → Int → Int → Int → List Int → Int → Int → List (S41) → Option ((List (S30)) × Int)
  | 0, _, _, _, _, _, _, _, _ => none
  | k + 1, x5, x6, x7, x9, x1000, x1001, x108000, x108001 => if x9 > 0 then ((payrollgen_Tape_Pick.f x1000 x1001 (([0, 30, 400, 1] : List Int))).bind fun bt113 => ((payrollgen_Tape_Pick.f x1000 bt113.2 (([240, 60, 480, 1] : List Int))).bind fun bt118 => (if x108001.length < 8796093022208 then (payrollgen_Tape_Works.l1 k x5 (wrap64 ((wrap64 (x6 + bt113.1)) + bt118.1)) x7 (wrap64 (x9 - 1)) x1000 bt118.2 x108000 (x108001 ++ [(⟨wrap64 (x6 + bt113.1), wrap64 ((wrap64 (x6 + bt113.1)) + bt118.1)⟩ : S41)])) else (none)))) else (if x5.length < 4398046511104 then ((payrollgen_Tape_Pick.f x1000 x1001 (([600, 0, 1440, 60] : List Int))).bind fun bt129 => (payrollgen_Tape_Works.l0 k (x5 ++ [(⟨x108000, x108001⟩ : S30)]) (wrap64 (x6 + bt129.1)) (wrap64 (x7 - 1)) x1000 bt129.2)) else (none))
end
def payrollgen_Tape_Works.f (k : Nat) (s0_0 : List Int) (s0_1 : Int) (a1 : Int) : Option ((List (S30)) × Int) := (payrollgen_Tape_Next.f s0_0 s0_1 3).bind fun bt101 => ((payrollgen_Tape_Next.f s0_0 bt101.2 (wrap64 (a1 + 1))).bind fun bt103 => (payrollgen_Tape_Works.l0 k ([] : List (S30)) (wrap64 (29453760 - (wrap64 (bt101.1 * 1440)))) bt103.1 s0_0 bt103.2))
theorem payrollgen_Tape_Works.mono_l : ∀ k, (∀ y0 y1 y2 y3 y4, LeO (payrollgen_Tape_Works.l0 k y0 y1 y2 y3 y4) (payrollgen_Tape_Works.l0 (k + 1) y0 y1 y2 y3 y4)) ∧ (∀ y0 y1 y2 y3 y4 y5 y6 y7, LeO (payrollgen_Tape_Works.l1 k y0 y1 y2 y3 y4 y5 y6 y7) (payrollgen_Tape_Works.l1 (k + 1) y0 y1 y2 y3 y4 y5 y6 y7))
  | 0 => ⟨fun _ _ _ _ _ r h => by simp [payrollgen_Tape_Works.l0] at h, fun _ _ _ _ _ _ _ _ r h => by simp [payrollgen_Tape_Works.l1] at h⟩
  | k + 1 => by
    obtain ⟨ih0, ih1⟩ := payrollgen_Tape_Works.mono_l k
    refine ⟨?_, ?_⟩
    · intro y0 y1 y2 y3 y4
      unfold payrollgen_Tape_Works.l0
      repeat' first
      | (with_reducible exact ih0 _ _ _ _ _)
      | (with_reducible exact ih1 _ _ _ _ _ _ _ _)
      | (with_reducible exact LeO.refl _)
      | (with_reducible exact LeO.none _)
      | (with_reducible refine LeO.ite ?_ ?_)
      | (with_reducible refine LeO.bind ?_ (fun _ => ?_))
      | exact ih0 _ _ _ _ _
      | exact ih1 _ _ _ _ _ _ _ _
      | exact LeO.none _
      | refine LeO.ite ?_ ?_
      | refine LeO.bind ?_ (fun _ => ?_)
    · intro y0 y1 y2 y3 y4 y5 y6 y7
      unfold payrollgen_Tape_Works.l1
      repeat' first
      | (with_reducible exact ih0 _ _ _ _ _)
      | (with_reducible exact ih1 _ _ _ _ _ _ _ _)
      | (with_reducible exact LeO.refl _)
      | (with_reducible exact LeO.none _)
      | (with_reducible refine LeO.ite ?_ ?_)
      | (with_reducible refine LeO.bind ?_ (fun _ => ?_))
      | exact ih0 _ _ _ _ _
      | exact ih1 _ _ _ _ _ _ _ _
      | exact LeO.none _
      | refine LeO.ite ?_ ?_
      | refine LeO.bind ?_ (fun _ => ?_)
theorem payrollgen_Tape_Works.mono : ∀ a0 a1 a2 k, LeO (payrollgen_Tape_Works.f k a0 a1 a2) (payrollgen_Tape_Works.f (k + 1) a0 a1 a2) := by
  intro a0 a1 a2 k
  obtain ⟨ih0, ih1⟩ := payrollgen_Tape_Works.mono_l k
  unfold payrollgen_Tape_Works.f
  repeat' first
      | (with_reducible exact ih0 _ _ _ _ _)
      | (with_reducible exact ih1 _ _ _ _ _ _ _ _)
      | (with_reducible exact LeO.refl _)
      | (with_reducible exact LeO.none _)
      | (with_reducible refine LeO.ite ?_ ?_)
      | (with_reducible refine LeO.bind ?_ (fun _ => ?_))
      | exact ih0 _ _ _ _ _
      | exact ih1 _ _ _ _ _ _ _ _
      | exact LeO.none _
      | refine LeO.ite ?_ ?_
      | refine LeO.bind ?_ (fun _ => ?_)
set_option maxHeartbeats 8000000 in
set_option maxRecDepth 100000 in
theorem payrollgen_Tape_Works.calls (k : Nat) (g : Nat) (s0_0 : List Int) (s0_1 : Int) (a1 : Int) (r1 : List (S30)) (r2 : Int) (w0 w : World) (hI : IsS54 w0 w g s0_0 s0_1) (hB : Below w0.heap.size w0 w) (h : payrollgen_Tape_Works.f k s0_0 s0_1 a1 = some (r1, r2)) :
    Calls Try.prog 7 #[.pointer (some ⟨g, 0, none⟩), .int .i64 a1] w fun e w' => ∃ v0_ : Value, e = .returned (v0_) ∧ Kd.N k30 30 w' w.heap.size (fun k_ => (w.heap.size ≤ k_)) v0_ r1 ∧ IsS54 w0 w' g s0_0 r2 ∧ Below w0.heap.size w0 w' ∧ KeepBut w w' g none := by
  have hu30 := Try.underlying30
  have hu41 := Try.underlying41
  have HI0 := Aside0.mk hI
  have HK := Aside0.mk (KeepBut.refl w g none)
  have HL := Aside0.mk hB.size
  clear hI
  have HW0 := Aside0.mk hB.size
  have HB := Aside0.mk hB
  clear hB
  have H:((payrollgen_Tape_Next.f s0_0 s0_1 3).bind fun bt101=>((payrollgen_Tape_Next.f s0_0 bt101.2 (wrap64 (a1 + 1))).bind fun bt103=>(payrollgen_Tape_Works.l0 k ([]:List (S30)) (wrap64 (29453760 - (wrap64 (bt101.1 * 1440)))) bt103.1 s0_0 bt103.2))) = some (r1,r2):=h
  clear h
  replace H := Option.bind_eq_some_iff.mp H
  obtain ⟨⟨t101, t102⟩, A30, H⟩ := H
  replace H:((payrollgen_Tape_Next.f s0_0 t102 (wrap64 (a1 + 1))).bind fun bt103=>(payrollgen_Tape_Works.l0 k ([]:List (S30)) (wrap64 (29453760 - (wrap64 (t101 * 1440)))) bt103.1 s0_0 bt103.2)) = some (r1,r2):=H
  have A3 := Aside0.mk A30
  clear A30
  replace H := Option.bind_eq_some_iff.mp H
  obtain ⟨⟨t103, t104⟩, A40, H⟩ := H
  replace H:(payrollgen_Tape_Works.l0 k ([]:List (S30)) (wrap64 (29453760 - (wrap64 (t101 * 1440)))) t103 s0_0 t104) = some (r1,r2):=H
  have A4 := Aside0.mk A40
  clear A40
  have H' := Aside0.mk H
  clear H
  go_enter Try.func7, Try.ntmps7
  go_wp2_with (first|((with_reducible refine gate_callee (f:=17) rfl ?_);refine goesL_ (some 13) rfl rfl Try.func17 (by kernel_rfl) rfl #[.pointer (some ⟨g,0,none⟩),.int .i64 3] rfl (by (try simp only[List.map_toArray,List.map_cons,List.map_nil]);first|done|rfl|(simp only[List.length_drop,List.length_take];rfl)) ?_;(with_reducible refine(payrollgen_Tape_Next.calls g s0_0 s0_1 3 t101 t102 w0 _ ?side1 ?side2 A3.out).mono ?_);(case side1=>repeat (first|(with_reducible first|exact HI0.out|apply IsS54.alloc|apply IsS54.drewN|apply IsS54.drew|apply IsS54.set_1)|exact HI0.out));(case side2=>repeat (first|(with_reducible first|exact HB.out|apply below_alloc|apply pw_below_drewN|apply below_drew1|refine below_set ?_ (IsS54.ge HI0.out))|exact HB.out));rintro e w5 ⟨rfl,hi,hb,hk⟩;refine⟨_,rfl,?_⟩;have n0_:=Aside0.mk (KeepBut.trans (by repeat (first|(with_reducible first|exact HK.out|apply KeepBut.set_|apply keep_drewN|apply keep_drew|apply keep_alloc)|exact HK.out)) hk (.inl rfl));have n1_:=Aside0.mk (hb);have n2_:=Aside0.mk (hi);clear HK;clear HB;clear HI0;have HK:=n0_;have HB:=n1_;have HI0:=n2_;clear n0_ n1_ n2_;(try clear hb);(try clear hb2);(try clear hk);(try clear hi))|((with_reducible refine gate_callee (f:=17) rfl ?_);refine goesL_ (some 19) rfl rfl Try.func17 (by kernel_rfl) rfl #[.pointer (some ⟨g,0,none⟩),.int .i64 (wrap64 (a1 + 1))] rfl (by (try simp only[List.map_toArray,List.map_cons,List.map_nil]);first|done|rfl|(simp only[List.length_drop,List.length_take];rfl)) ?_;(with_reducible refine(payrollgen_Tape_Next.calls g s0_0 t102 (wrap64 (a1 + 1)) t103 t104 w0 _ ?side1 ?side2 A4.out).mono ?_);(case side1=>repeat (first|(with_reducible first|exact HI0.out|apply IsS54.alloc|apply IsS54.drewN|apply IsS54.drew|apply IsS54.set_1)|exact HI0.out));(case side2=>repeat (first|(with_reducible first|exact HB.out|apply below_alloc|apply pw_below_drewN|apply below_drew1|refine below_set ?_ (IsS54.ge HI0.out))|exact HB.out));rintro e w6 ⟨rfl,hi,hb,hk⟩;refine⟨_,rfl,?_⟩;have n0_:=Aside0.mk (KeepBut.trans (by repeat (first|(with_reducible first|exact HK.out|apply KeepBut.set_|apply keep_drewN|apply keep_drew|apply keep_alloc)|exact HK.out)) hk (.inl rfl));have n1_:=Aside0.mk (hb);have n2_:=Aside0.mk (hi);clear HK;clear HB;clear HI0;have HK:=n0_;have HB:=n1_;have HI0:=n2_;clear n0_ n1_ n2_;(try clear hb);(try clear hb2);(try clear hk);(try clear hi)))
  go_loopg [5,6,7] k (fun kq v5 v6 v7 w'=>∃ (x5_1:List (S30)) (x6_1:Int) (x7_1:Int) (x1001_1:Int),v6 = .int .i64 x6_1∧v7 = .int .i64 x7_1∧Aside0 (payrollgen_Tape_Works.l0 kq x5_1 x6_1 x7_1 s0_0 x1001_1 = some (r1,r2))∧Aside0 (kq≤k)∧Aside0 (Kd.S k30 30 w' w.heap.size (fun _=>True) v5 x5_1)∧Aside0 (IsS54 w0 w' g s0_0 x1001_1)∧Aside0 (KeepBut w w' g none)∧Aside0 (Below w0.heap.size w0 w'))
  case atStart=>exact⟨(([]:List (S30))),(wrap64 (29453760 - (wrap64 (t101 * 1440)))),(t103),(t104),(by first|rfl|(simp;done)|(simp[*];done)),(by first|rfl|(simp;done)|(simp[*];done)),H',⟨Nat.le_refl _⟩,⟨by first|exact Kd.S_nil _ _ _ _ _|exact Kd.N_nil _ _ _ _ _|exact Kd.V_nil _ _ _ _ _|exact Kd.Q_nil _ _ _ _ _|exact Kd.R_nil _ _ _ _ _⟩,⟨by repeat (first|(with_reducible first|exact HI0.out|apply IsS54.alloc|apply IsS54.drewN|apply IsS54.drew|apply IsS54.set_1)|exact HI0.out)⟩,⟨by repeat (first|(with_reducible first|exact HK.out|apply KeepBut.set_|apply keep_drewN|apply keep_drew|apply keep_alloc)|exact HK.out)⟩,⟨by repeat (first|(with_reducible first|exact HB.out|apply below_alloc|apply pw_below_drewN|apply below_drew1|refine below_set ?_ (IsS54.ge HI0.out))|exact HB.out)⟩⟩
  case round =>
    clear H'
    try clear c1
    try clear p2
    try clear p6
    obtain ⟨x5_1, x6_1, x7_1, x1001_1, rfl, rfl, HA, HK1, HO_5, HI0, HK, HB⟩ := hrel
    cases gk with
    | zero => exact absurd HA.out (by simp [payrollgen_Tape_Works.l0])
    | succ k1 =>
      have H := HA.out
      clear HA
      simp only [payrollgen_Tape_Works.l0] at H
      by_cases c7 : x7_1 > 0
      · rw [if_pos c7] at H
        have c7b0 : decide (0 < x7_1) = true := decide_eq_true c7
        clear c7
        replace H := Option.bind_eq_some_iff.mp H
        obtain ⟨⟨t105, t106⟩, A80, H⟩ := H
        replace H:((payrollgen_Tape_Next.f s0_0 t106 2).bind fun bt108=>(payrollgen_Tape_Works.l1 k1 x5_1 x6_1 x7_1 (wrap64 (1 + bt108.1)) s0_0 bt108.2 (wrap64 ((wrap64 (Int.tdiv x6_1 1440)) - (wrap64 (Int.tdiv t105 4)))) ([]:List (S41)))) = some (r1,r2):=H
        have A8 := Aside0.mk A80
        clear A80
        replace H := Option.bind_eq_some_iff.mp H
        obtain ⟨⟨t108, t109⟩, A90, H⟩ := H
        replace H:(payrollgen_Tape_Works.l1 k1 x5_1 x6_1 x7_1 (wrap64 (1 + t108)) s0_0 t109 (wrap64 ((wrap64 (Int.tdiv x6_1 1440)) - (wrap64 (Int.tdiv t105 4)))) ([]:List (S41))) = some (r1,r2):=H
        have A9 := Aside0.mk A90
        clear A90
        have H' := Aside0.mk H
        clear H
        go_wp2_with (first|((with_reducible refine gate_callee (f:=17) rfl ?_);refine goesL_ (some 27) rfl rfl Try.func17 (by kernel_rfl) rfl #[.pointer (some ⟨g,0,none⟩),.int .i64 5] rfl (by (try simp only[List.map_toArray,List.map_cons,List.map_nil]);first|done|rfl|(simp only[List.length_drop,List.length_take];rfl)) ?_;(with_reducible refine(payrollgen_Tape_Next.calls g s0_0 x1001_1 5 t105 t106 w0 _ ?side1 ?side2 A8.out).mono ?_);(case side1=>repeat (first|(with_reducible first|exact HI0.out|apply IsS54.alloc|apply IsS54.drewN|apply IsS54.drew|apply IsS54.set_1)|exact HI0.out));(case side2=>repeat (first|(with_reducible first|exact HB.out|apply below_alloc|apply pw_below_drewN|apply below_drew1|refine below_set ?_ (IsS54.ge HI0.out))|exact HB.out));rintro e w10 ⟨rfl,hi,hb,hk⟩;refine⟨_,rfl,?_⟩;have n0_:=Aside0.mk (Kd.S_mono (Kd.S_keep (IsS54.apartS (show IsS54 w0 _ g s0_0 x1001_1 from by repeat (first|(with_reducible first|exact HI0.out|apply IsS54.alloc|apply IsS54.drewN|apply IsS54.drew|apply IsS54.set_1)|exact HI0.out)) (by (with_reducible repeat (first|apply Kd.S_alloc|apply Kd.S_drewN|apply Kd.S_drew));exact HO_5.out) (by decide)) hk (fun _ h=>h.2)) (fun _ h=>h.1));have n1_:=Aside0.mk (KeepBut.trans (by repeat (first|(with_reducible first|exact HK.out|apply KeepBut.set_|apply keep_drewN|apply keep_drew|apply keep_alloc)|exact HK.out)) hk (.inl rfl));have n2_:=Aside0.mk (hb);have n3_:=Aside0.mk (hi);clear HO_5;clear HK;clear HB;clear HI0;have HO_5:=n0_;have HK:=n1_;have HB:=n2_;have HI0:=n3_;clear n0_ n1_ n2_ n3_;(try clear hb);(try clear hb2);(try clear hk);(try clear hi))|((with_reducible refine gate_dst (N:=8) rfl ?_);refine box_event ?hg (N:=8) ?hd (cs:=#[.int .i64 0,.slice none 0 0]) (t:=30) ?hr ?_;(case hd=>rfl);(case hg=>rfl);(case hr=>first|(go_simp;done)|(go_simp;rfl));intro gb107 hg w11 hbox hb;have n0_:=Aside0.mk (Kd.S_below (Kd.S_elderB (by (with_reducible repeat (first|apply Kd.S_alloc|apply Kd.S_drewN|apply Kd.S_drew));exact HO_5.out) gb107 (Nat.le_of_eq hg.symm)) hb);have n1_:=Aside0.mk (IsS54.below (by repeat (first|(with_reducible first|exact HI0.out|apply IsS54.alloc|apply IsS54.drewN|apply IsS54.drew|apply IsS54.set_1)|exact HI0.out)) hb);have n2_:=Aside0.mk (KeepBut.trans (by repeat (first|(with_reducible first|exact HK.out|apply KeepBut.set_|apply keep_drewN|apply keep_drew|apply keep_alloc)|exact HK.out)) (KeepBut.of_below hb g none) (.inl rfl));have n3_:=Aside0.mk (below_step (by repeat (first|(with_reducible first|exact HB.out|apply below_alloc|apply pw_below_drewN|apply below_drew1|refine below_set ?_ (IsS54.ge HI0.out))|exact HB.out)) hb);have n4_:=Aside0.mk (hbox);have n5_:=Aside0.mk ((by rw[hg];exact(keep_size (w:=w) (g:=g) (row:=none) (by repeat (first|(with_reducible first|exact HK.out|apply KeepBut.set_|apply keep_drewN|apply keep_drew|apply keep_alloc)|exact HK.out))):w.heap.size≤gb107));have n6_:=Aside0.mk ((Nat.le_trans HW0.out (by rw[hg];exact(keep_size (w:=w) (g:=g) (row:=none) (by repeat (first|(with_reducible first|exact HK.out|apply KeepBut.set_|apply keep_drewN|apply keep_drew|apply keep_alloc)|exact HK.out))):w.heap.size≤gb107):w0.heap.size≤gb107));have n7_:=Aside0.mk ((by rw[hg];exact Nat.ne_of_lt (IsS54.lt (show IsS54 w0 _ g s0_0 t106 from by repeat (first|(with_reducible first|exact HI0.out|apply IsS54.alloc|apply IsS54.drewN|apply IsS54.drew|apply IsS54.set_1)|exact HI0.out))):g≠gb107));have n8_:=Aside0.mk ((by rw[hg];exact Nat.ne_of_gt (IsS54.lt (show IsS54 w0 _ g s0_0 t106 from by repeat (first|(with_reducible first|exact HI0.out|apply IsS54.alloc|apply IsS54.drewN|apply IsS54.drew|apply IsS54.set_1)|exact HI0.out))):gb107≠g));clear HO_5;clear HI0;clear HK;clear HB;have HO_5:=n0_;have HI0:=n1_;have HK:=n2_;have HB:=n3_;have BK107:=n4_;have GW107:=n5_;have GE107:=n6_;have NB0_107:=n7_;have NB107_0:=n8_;clear n0_ n1_ n2_ n3_ n4_ n5_ n6_ n7_ n8_;clear hb hbox hg;have hnb12:=NB107_0.out;have hnc12:=NB0_107.out;have hcz13_0:w11.cell? ⟨gb107,0,none⟩ = some (.int .i64 0):=(blk_cell BK107.out 0).trans rfl;have hcz13_1:w11.cell? ⟨gb107,1,none⟩ = some (.slice none 0 0):=(blk_cell BK107.out 1).trans rfl;have hfz13_0:=blk_frozen BK107.out 0;have hfz13_1:=blk_frozen BK107.out 1)|((with_reducible refine gate_callee (f:=17) rfl ?_);refine goesL_ (some 32) rfl rfl Try.func17 (by kernel_rfl) rfl #[.pointer (some ⟨g,0,none⟩),.int .i64 2] rfl (by (try simp only[List.map_toArray,List.map_cons,List.map_nil]);first|done|rfl|(simp only[List.length_drop,List.length_take];rfl)) ?_;(with_reducible refine(payrollgen_Tape_Next.calls g s0_0 t106 2 t108 t109 w0 _ ?side1 ?side2 A9.out).mono ?_);(case side1=>repeat (first|(with_reducible first|exact HI0.out|apply IsS54.alloc|apply IsS54.drewN|apply IsS54.drew|apply IsS54.set_1|refine IsS54.far ?_ NB0_107.out _)|exact HI0.out));(case side2=>repeat (first|(with_reducible first|exact HB.out|apply below_alloc|apply pw_below_drewN|apply below_drew1|refine below_set ?_ (IsS54.ge HI0.out)|refine below_set ?_ GE107.out)|exact HB.out));rintro e w14 ⟨rfl,hi,hb,hk⟩;refine⟨_,rfl,?_⟩;have n0_:=Aside0.mk (Kd.S_mono (Kd.S_keep (IsS54.apartS (show IsS54 w0 _ g s0_0 t106 from by repeat (first|(with_reducible first|exact HI0.out|apply IsS54.alloc|apply IsS54.drewN|apply IsS54.drew|apply IsS54.set_1|refine IsS54.far ?_ NB0_107.out _)|exact HI0.out)) (by (with_reducible repeat (first|apply Kd.S_alloc|apply Kd.S_drewN|apply Kd.S_drew));exact(Kd.S_mono (Kd.S_far (p:=⟨gb107,1,none⟩) (Kd.S_far (p:=⟨gb107,0,none⟩) (Kd.S_mono HO_5.out (fun k_ hk=>(⟨hk,hk.2⟩:_∧k_≠gb107))) (fun _ hk=>hk.2) (.int .i64 (wrap64 ((wrap64 (Int.tdiv x6_1 1440)) - (wrap64 (Int.tdiv t105 4)))))) (fun _ hk=>hk.2) (.slice none 0 0)) (fun _ h_=>h_.1))) (by decide)) hk (fun _ h=>h.2)) (fun _ h=>h.1));have n1_:=Aside0.mk (KeepBut.blk hk (g':=gb107) (o:=.cells #[.int .i64 (wrap64 ((wrap64 (Int.tdiv x6_1 1440)) - (wrap64 (Int.tdiv t105 4)))),.slice none 0 0] 30 (0,0)) (by (with_reducible repeat (first|refine blk_drewN ?_ _|refine blk_drew ?_|refine blk_alloc ?_ _));refine blk_put (cs:=#[.int .i64 (wrap64 ((wrap64 (Int.tdiv x6_1 1440)) - (wrap64 (Int.tdiv t105 4)))),.slice none 0 0]) ?_ 1 _ rfl;(with_reducible repeat (first|refine blk_drewN ?_ _|refine blk_drew ?_|refine blk_alloc ?_ _));refine blk_put (cs:=#[.int .i64 0,.slice none 0 0]) ?_ 0 _ rfl;(with_reducible repeat (first|refine blk_drewN ?_ _|refine blk_drew ?_|refine blk_alloc ?_ _));exact BK107.out) NB107_0.out (by simp));have n2_:=Aside0.mk (KeepBut.trans (by repeat (first|(with_reducible first|exact HK.out|apply KeepBut.set_|apply keep_drewN|apply keep_drew|apply keep_alloc|refine keep_far ?_ GW107.out _)|exact HK.out)) hk (.inl rfl));have n3_:=Aside0.mk (hb);have n4_:=Aside0.mk (hi);clear HO_5;clear BK107;clear HK;clear HB;clear HI0;have HO_5:=n0_;have BK107:=n1_;have HK:=n2_;have HB:=n3_;have HI0:=n4_;clear n0_ n1_ n2_ n3_ n4_;(try clear hb);(try clear hb2);(try clear hk);(try clear hi)))
        go_loopg [6,9] k1 (fun kq v6 v9 w'=>∃ (x6_2:Int) (x9_2:Int) (x1001_2:Int) (x108001_2:List (S41)) (u108001:Value),v6 = .int .i64 x6_2∧v9 = .int .i64 x9_2∧Aside0 (payrollgen_Tape_Works.l1 kq x5_1 x6_2 x7_1 x9_2 s0_0 x1001_2 (wrap64 ((wrap64 (Int.tdiv x6_1 1440)) - (wrap64 (Int.tdiv t105 4)))) x108001_2 = some (r1,r2))∧Aside0 (kq≤k1)∧Aside0 (Kd.S k30 30 w' w.heap.size (fun k_=>some k_≠(u108001:Value).ownBlock∧k_≠gb107) u5 x5_1)∧Aside0 (Kd.R k41 41 w' w.heap.size (fun _=>True) u108001 x108001_2)∧Aside0 (w'.heap[gb107]? = some (.cells #[.int .i64 (wrap64 ((wrap64 (Int.tdiv x6_1 1440)) - (wrap64 (Int.tdiv t105 4)))),u108001] 30 (0,0)))∧Aside0 (IsS54 w0 w' g s0_0 x1001_2)∧Aside0 (KeepBut w w' g none)∧Aside0 (Below w0.heap.size w0 w'))
        case atStart=>exact⟨(x6_1),(wrap64 (1 + t108)),(t109),(([]:List (S41))),(.slice none 0 0),(by first|rfl|(simp;done)|(simp[*];done)),(by first|rfl|(simp;done)|(simp[*];done)),H',⟨Nat.le_refl _⟩,⟨by (with_reducible repeat (first|apply Kd.S_alloc|apply Kd.S_drewN|apply Kd.S_drew));exact Kd.S_mono HO_5.out (fun _ hk=>⟨(by simp[Value.ownBlock]),hk.2⟩)⟩,⟨by first|exact Kd.R_nil _ _ _ _ _|exact Kd.N_nil _ _ _ _ _|exact Kd.V_nil _ _ _ _ _|exact Kd.Q_nil _ _ _ _ _|exact Kd.S_nil _ _ _ _ _⟩,⟨by (with_reducible repeat (first|refine blk_drewN ?_ _|refine blk_drew ?_|refine blk_alloc ?_ _));exact BK107.out⟩,⟨by repeat (first|(with_reducible first|exact HI0.out|apply IsS54.alloc|apply IsS54.drewN|apply IsS54.drew|apply IsS54.set_1|refine IsS54.far ?_ NB0_107.out _)|exact HI0.out)⟩,⟨by repeat (first|(with_reducible first|exact HK.out|apply KeepBut.set_|apply keep_drewN|apply keep_drew|apply keep_alloc|refine keep_far ?_ GW107.out _)|exact HK.out)⟩,⟨by repeat (first|(with_reducible first|exact HB.out|apply below_alloc|apply pw_below_drewN|apply below_drew1|refine below_set ?_ (IsS54.ge HI0.out)|refine below_set ?_ GE107.out)|exact HB.out)⟩⟩
        case round =>
          clear H'
          try clear c1
          try clear p2
          try clear p6
          try clear c7
          try clear c7b0
          try clear c12
          try clear hcz13_0
          try clear hcz13_1
          try clear hfz13_0
          try clear hfz13_1
          try clear p2
          try clear p6
          obtain ⟨x6_2,x9_2,x1001_2,x108001_2,u108001,rfl,rfl,HA,HK2,HO_5,HO_108001,BK107,HI0,HK,HB⟩:=hrel
          cases gk with
          | zero => exact absurd HA.out (by simp [payrollgen_Tape_Works.l1])
          | succ k2 =>
            have H := HA.out
            clear HA
            simp only [payrollgen_Tape_Works.l1] at H
            by_cases c15 : x9_2 > 0
            · rw [if_pos c15] at H
              have c15b0 : decide (0 < x9_2) = true := decide_eq_true c15
              clear c15
              obtain ⟨y110, hy110⟩ : ∃ y_ : List Int, y_ = (([0, 30, 400, 1] : List Int)) := ⟨_, rfl⟩
              replace H:((payrollgen_Tape_Pick.f s0_0 x1001_2 y110).bind fun bt113=>((payrollgen_Tape_Pick.f s0_0 bt113.2 (([240,60,480,1]:List Int))).bind fun bt118=>(if x108001_2.length < 8796093022208 then (payrollgen_Tape_Works.l1 k2 x5_1 (wrap64 ((wrap64 (x6_2 + bt113.1)) + bt118.1)) x7_1 (wrap64 (x9_2 - 1)) s0_0 bt118.2 (wrap64 ((wrap64 (Int.tdiv x6_1 1440)) - (wrap64 (Int.tdiv t105 4)))) (x108001_2 ++ [(⟨wrap64 (x6_2 + bt113.1),wrap64 ((wrap64 (x6_2 + bt113.1)) + bt118.1)⟩:S41)])) else (none)))) = some (r1,r2):=by first|(rw[hy110];with_reducible exact H)|(have H2_:=(Option.bind_some _ _).symm.trans H;rw[hy110];with_reducible exact H2_)|(have H2_:=(Option.bind_some _ _).symm.trans H;with_reducible exact H2_)|with_reducible exact H|(rw[hy110];exact H)|exact H
              have Ny110 := Aside0.mk hy110
              clear hy110
              replace H := Option.bind_eq_some_iff.mp H
              obtain ⟨⟨t113, t114⟩, A160, H⟩ := H
              replace H:((payrollgen_Tape_Pick.f s0_0 t114 (([240,60,480,1]:List Int))).bind fun bt118=>(if x108001_2.length < 8796093022208 then (payrollgen_Tape_Works.l1 k2 x5_1 (wrap64 ((wrap64 (x6_2 + t113)) + bt118.1)) x7_1 (wrap64 (x9_2 - 1)) s0_0 bt118.2 (wrap64 ((wrap64 (Int.tdiv x6_1 1440)) - (wrap64 (Int.tdiv t105 4)))) (x108001_2 ++ [(⟨wrap64 (x6_2 + t113),wrap64 ((wrap64 (x6_2 + t113)) + bt118.1)⟩:S41)])) else (none))) = some (r1,r2):=H
              have A16 := Aside0.mk A160
              clear A160
              obtain ⟨y115, hy115⟩ : ∃ y_ : List Int, y_ = (([240, 60, 480, 1] : List Int)) := ⟨_, rfl⟩
              replace H:((payrollgen_Tape_Pick.f s0_0 t114 y115).bind fun bt118=>(if x108001_2.length < 8796093022208 then (payrollgen_Tape_Works.l1 k2 x5_1 (wrap64 ((wrap64 (x6_2 + t113)) + bt118.1)) x7_1 (wrap64 (x9_2 - 1)) s0_0 bt118.2 (wrap64 ((wrap64 (Int.tdiv x6_1 1440)) - (wrap64 (Int.tdiv t105 4)))) (x108001_2 ++ [(⟨wrap64 (x6_2 + t113),wrap64 ((wrap64 (x6_2 + t113)) + bt118.1)⟩:S41)])) else (none))) = some (r1,r2):=by first|(rw[hy115];with_reducible exact H)|(have H2_:=(Option.bind_some _ _).symm.trans H;rw[hy115];with_reducible exact H2_)|(have H2_:=(Option.bind_some _ _).symm.trans H;with_reducible exact H2_)|with_reducible exact H|(rw[hy115];exact H)|exact H
              have Ny115 := Aside0.mk hy115
              clear hy115
              replace H := Option.bind_eq_some_iff.mp H
              obtain ⟨⟨t118, t119⟩, A170, H⟩ := H
              replace H:(if x108001_2.length < 8796093022208 then (payrollgen_Tape_Works.l1 k2 x5_1 (wrap64 ((wrap64 (x6_2 + t113)) + t118)) x7_1 (wrap64 (x9_2 - 1)) s0_0 t119 (wrap64 ((wrap64 (Int.tdiv x6_1 1440)) - (wrap64 (Int.tdiv t105 4)))) (x108001_2 ++ [(⟨wrap64 (x6_2 + t113),wrap64 ((wrap64 (x6_2 + t113)) + t118)⟩:S41)])) else (none)) = some (r1,r2):=H
              have A17 := Aside0.mk A170
              clear A170
              by_cases c18 : x108001_2.length < 8796093022208
              · rw [if_pos c18] at H
                have LMc18 := Aside0.mk c18
                clear c18
                obtain ⟨y120,hy120⟩:∃ y_:List (S41),y_ = (x108001_2 ++ [(⟨wrap64 (x6_2 + t113),wrap64 ((wrap64 (x6_2 + t113)) + t118)⟩:S41)]):=⟨_,rfl⟩
                replace H:(payrollgen_Tape_Works.l1 k2 x5_1 (wrap64 ((wrap64 (x6_2 + t113)) + t118)) x7_1 (wrap64 (x9_2 - 1)) s0_0 t119 (wrap64 ((wrap64 (Int.tdiv x6_1 1440)) - (wrap64 (Int.tdiv t105 4)))) y120) = some (r1,r2):=by first|(rw[hy120];with_reducible exact H)|(have H2_:=(Option.bind_some _ _).symm.trans H;rw[hy120];with_reducible exact H2_)|(have H2_:=(Option.bind_some _ _).symm.trans H;with_reducible exact H2_)|with_reducible exact H|(rw[hy120];exact H)|exact H
                have Ny120 := Aside0.mk hy120
                clear hy120
                have H' := Aside0.mk H
                clear H
                go_wp2_with (first|((with_reducible refine gate_dst (N:=40) rfl ?_);refine Kd.R_lit (Kd.int .i64) _ 3 ?hg (N:=40) ?hd (xs:=([0,30,400,1]:List Int)) (inner:=[.int .i64 0,.int .i64 30,.int .i64 400,.int .i64 1]) (ok:=fun _=>True) (okp:=fun _=>True) ?hr ?hp (fun _ hk=>hk) trivial (Below.refl _ _) (Nat.le_refl _) (by simp) ?_;(case hd=>rfl);(case hg=>rfl);(case hr=>first|(go_simp;done)|(go_simp;rfl));(case hp=>exact(Reps.one (show Kd.M (Kd.int .i64) _ _ _ 0 [.int .i64 0] from rfl) (Reps.one (show Kd.M (Kd.int .i64) _ _ _ 30 [.int .i64 30] from rfl) (Reps.one (show Kd.M (Kd.int .i64) _ _ _ 400 [.int .i64 400] from rfl) (Reps.one (show Kd.M (Kd.int .i64) _ _ _ 1 [.int .i64 1] from rfl) (Reps.none _ _))))));intro v111 w19 ho20 hb hg_ hnew_;clear hg_ hnew_;(first|rw[← Ny110.out] at ho20|(simp only[Int.reduceToNat] at ho20;rw[← Ny110.out] at ho20));have n0_:=Aside0.mk (Kd.S_below (by (with_reducible repeat (first|apply Kd.S_alloc|apply Kd.S_drewN|apply Kd.S_drew));exact HO_5.out) hb);have n1_:=Aside0.mk (Kd.R_below (by (with_reducible repeat (first|apply Kd.R_alloc|apply Kd.R_drewN|apply Kd.R_drew));exact HO_108001.out) hb);have n2_:=Aside0.mk (Kd.R_lower ho20 (keep_size (w:=w) (g:=g) (row:=none) (by repeat (first|(with_reducible first|exact HK.out|apply KeepBut.set_|apply keep_drewN|apply keep_drew|apply keep_alloc|refine keep_far ?_ GW107.out _)|exact HK.out))));have n3_:=Aside0.mk (blk_below (g:=gb107) (o:=.cells #[.int .i64 (wrap64 ((wrap64 (Int.tdiv x6_1 1440)) - (wrap64 (Int.tdiv t105 4)))),u108001] 30 (0,0)) (by (with_reducible repeat (first|refine blk_drewN ?_ _|refine blk_drew ?_|refine blk_alloc ?_ _));exact BK107.out) hb);have n4_:=Aside0.mk (IsS54.below (by repeat (first|(with_reducible first|exact HI0.out|apply IsS54.alloc|apply IsS54.drewN|apply IsS54.drew|apply IsS54.set_1|refine IsS54.far ?_ NB0_107.out _)|exact HI0.out)) hb);have n5_:=Aside0.mk (KeepBut.trans (by repeat (first|(with_reducible first|exact HK.out|apply KeepBut.set_|apply keep_drewN|apply keep_drew|apply keep_alloc|refine keep_far ?_ GW107.out _)|exact HK.out)) (KeepBut.of_below hb g none) (.inl rfl));have n6_:=Aside0.mk (below_step (by repeat (first|(with_reducible first|exact HB.out|apply below_alloc|apply pw_below_drewN|apply below_drew1|refine below_set ?_ (IsS54.ge HI0.out)|refine below_set ?_ GE107.out)|exact HB.out)) hb);clear HO_5;clear HO_108001;clear BK107;clear HI0;clear HK;clear HB;have HO_5:=n0_;have HO_108001:=n1_;have HO112:=n2_;have BK107:=n3_;have HI0:=n4_;have HK:=n5_;have HB:=n6_;clear n0_ n1_ n2_ n3_ n4_ n5_ n6_;clear hb ho20;obtain ⟨Ao21,co21,eo21⟩:=Kd.R_slice HO112.out;subst eo21)|((with_reducible refine gate_callee (f:=18) rfl ?_);refine goesL_ (some 41) rfl rfl Try.func18 (by kernel_rfl) rfl #[.pointer (some ⟨g,0,none⟩),.slice Ao21 y110.length co21] rfl (by (try simp only[List.map_toArray,List.map_cons,List.map_nil]);first|done|rfl|(simp only[List.length_drop,List.length_take];rfl)) ?_;(with_reducible refine(payrollgen_Tape_Pick.calls g s0_0 x1001_2 _ _ y110 t113 t114 w0 _ ?side1 ?side2 ?side3 ?side4 ?side5 A16.out).mono ?_);(case side1=>repeat (first|(with_reducible first|exact HI0.out|apply IsS54.alloc|apply IsS54.drewN|apply IsS54.drew|apply IsS54.set_1|refine IsS54.far ?_ NB0_107.out _)|exact HI0.out));(case side2=>repeat (first|(with_reducible first|exact HB.out|apply below_alloc|apply pw_below_drewN|apply below_drew1|refine below_set ?_ (IsS54.ge HI0.out)|refine below_set ?_ GE107.out)|exact HB.out));(case side3=>repeat (first|exact(Kd.R_reads' HO112.out).2.2|(with_reducible refine Kd.C_alloc ?_ _)|(with_reducible refine Kd.C_drewN ?_ _)|(with_reducible refine Kd.C_drew ?_)));(case side4=>exact(Kd.R_reads' HO112.out).2.1);(case side5=>exact far_slice (IsS54.own_ne HI0.out HO112.out (by decide)));rintro e w22 ⟨rfl,hi,hb,hk⟩;refine⟨_,rfl,?_⟩;have n0_:=Aside0.mk (Kd.S_mono (Kd.S_keep (IsS54.apartS (show IsS54 w0 _ g s0_0 x1001_2 from by repeat (first|(with_reducible first|exact HI0.out|apply IsS54.alloc|apply IsS54.drewN|apply IsS54.drew|apply IsS54.set_1|refine IsS54.far ?_ NB0_107.out _)|exact HI0.out)) (by (with_reducible repeat (first|apply Kd.S_alloc|apply Kd.S_drewN|apply Kd.S_drew));exact HO_5.out) (by decide)) hk (fun _ h=>h.2)) (fun _ h=>h.1));have n1_:=Aside0.mk (Kd.R_mono (Kd.R_keep (IsS54.apart (show IsS54 w0 _ g s0_0 x1001_2 from by repeat (first|(with_reducible first|exact HI0.out|apply IsS54.alloc|apply IsS54.drewN|apply IsS54.drew|apply IsS54.set_1|refine IsS54.far ?_ NB0_107.out _)|exact HI0.out)) (by (with_reducible repeat (first|apply Kd.R_alloc|apply Kd.R_drewN|apply Kd.R_drew));exact HO_108001.out) (by decide)) hk (fun _ h=>h.2)) (fun _ h=>h.1));have n2_:=Aside0.mk (KeepBut.blk hk (g':=gb107) (o:=.cells #[.int .i64 (wrap64 ((wrap64 (Int.tdiv x6_1 1440)) - (wrap64 (Int.tdiv t105 4)))),u108001] 30 (0,0)) (by (with_reducible repeat (first|refine blk_drewN ?_ _|refine blk_drew ?_|refine blk_alloc ?_ _));exact BK107.out) NB107_0.out (by simp));have n3_:=Aside0.mk (Kd.R_mono (Kd.R_keep (IsS54.apart (show IsS54 w0 _ g s0_0 x1001_2 from by repeat (first|(with_reducible first|exact HI0.out|apply IsS54.alloc|apply IsS54.drewN|apply IsS54.drew|apply IsS54.set_1|refine IsS54.far ?_ NB0_107.out _)|exact HI0.out)) (by (with_reducible repeat (first|apply Kd.R_alloc|apply Kd.R_drewN|apply Kd.R_drew));exact HO112.out) (by decide)) hk (fun _ h=>h.2)) (fun _ h=>h.1));have n4_:=Aside0.mk (KeepBut.trans (by repeat (first|(with_reducible first|exact HK.out|apply KeepBut.set_|apply keep_drewN|apply keep_drew|apply keep_alloc|refine keep_far ?_ GW107.out _)|exact HK.out)) hk (.inl rfl));have n5_:=Aside0.mk (hb);have n6_:=Aside0.mk (hi);clear HO_5;clear HO_108001;clear BK107;clear HO112;clear HK;clear HB;clear HI0;have HO_5:=n0_;have HO_108001:=n1_;have BK107:=n2_;have HO112:=n3_;have HK:=n4_;have HB:=n5_;have HI0:=n6_;clear n0_ n1_ n2_ n3_ n4_ n5_ n6_;(try clear hb);(try clear hb2);(try clear hk);(try clear hi))|((with_reducible refine gate_dst (N:=44) rfl ?_);refine Kd.R_lit (Kd.int .i64) _ 3 ?hg (N:=44) ?hd (xs:=([240,60,480,1]:List Int)) (inner:=[.int .i64 240,.int .i64 60,.int .i64 480,.int .i64 1]) (ok:=fun _=>True) (okp:=fun _=>True) ?hr ?hp (fun _ hk=>hk) trivial (Below.refl _ _) (Nat.le_refl _) (by simp) ?_;(case hd=>rfl);(case hg=>rfl);(case hr=>first|(go_simp;done)|(go_simp;rfl));(case hp=>exact(Reps.one (show Kd.M (Kd.int .i64) _ _ _ 240 [.int .i64 240] from rfl) (Reps.one (show Kd.M (Kd.int .i64) _ _ _ 60 [.int .i64 60] from rfl) (Reps.one (show Kd.M (Kd.int .i64) _ _ _ 480 [.int .i64 480] from rfl) (Reps.one (show Kd.M (Kd.int .i64) _ _ _ 1 [.int .i64 1] from rfl) (Reps.none _ _))))));intro v116 w23 ho24 hb hg_ hnew_;clear hg_ hnew_;(first|rw[← Ny115.out] at ho24|(simp only[Int.reduceToNat] at ho24;rw[← Ny115.out] at ho24));have n0_:=Aside0.mk (Kd.S_below (by (with_reducible repeat (first|apply Kd.S_alloc|apply Kd.S_drewN|apply Kd.S_drew));exact HO_5.out) hb);have n1_:=Aside0.mk (Kd.R_below (by (with_reducible repeat (first|apply Kd.R_alloc|apply Kd.R_drewN|apply Kd.R_drew));exact HO_108001.out) hb);have n2_:=Aside0.mk (Kd.R_elder' (by (with_reducible repeat (first|apply Kd.R_alloc|apply Kd.R_drewN|apply Kd.R_drew));exact HO112.out) (Kd.R_base ho24) hb);have n3_:=Aside0.mk (Kd.R_lower (Kd.R_new' ho24 (Kd.R_lt (by (with_reducible repeat (first|apply Kd.R_alloc|apply Kd.R_drewN|apply Kd.R_drew));exact HO112.out))) (keep_size (w:=w) (g:=g) (row:=none) (by repeat (first|(with_reducible first|exact HK.out|apply KeepBut.set_|apply keep_drewN|apply keep_drew|apply keep_alloc|refine keep_far ?_ GW107.out _)|exact HK.out))));have n4_:=Aside0.mk (blk_below (g:=gb107) (o:=.cells #[.int .i64 (wrap64 ((wrap64 (Int.tdiv x6_1 1440)) - (wrap64 (Int.tdiv t105 4)))),u108001] 30 (0,0)) (by (with_reducible repeat (first|refine blk_drewN ?_ _|refine blk_drew ?_|refine blk_alloc ?_ _));exact BK107.out) hb);have n5_:=Aside0.mk (IsS54.below (by repeat (first|(with_reducible first|exact HI0.out|apply IsS54.alloc|apply IsS54.drewN|apply IsS54.drew|apply IsS54.set_1|refine IsS54.far ?_ NB0_107.out _)|exact HI0.out)) hb);have n6_:=Aside0.mk (KeepBut.trans (by repeat (first|(with_reducible first|exact HK.out|apply KeepBut.set_|apply keep_drewN|apply keep_drew|apply keep_alloc|refine keep_far ?_ GW107.out _)|exact HK.out)) (KeepBut.of_below hb g none) (.inl rfl));have n7_:=Aside0.mk (below_step (by repeat (first|(with_reducible first|exact HB.out|apply below_alloc|apply pw_below_drewN|apply below_drew1|refine below_set ?_ (IsS54.ge HI0.out)|refine below_set ?_ GE107.out)|exact HB.out)) hb);clear HO_5;clear HO_108001;clear HO112;clear BK107;clear HI0;clear HK;clear HB;have HO_5:=n0_;have HO_108001:=n1_;have HO112:=n2_;have HO117:=n3_;have BK107:=n4_;have HI0:=n5_;have HK:=n6_;have HB:=n7_;clear n0_ n1_ n2_ n3_ n4_ n5_ n6_ n7_;clear hb ho24;obtain ⟨Ao25,co25,eo25⟩:=Kd.R_slice HO117.out;subst eo25)|((with_reducible refine gate_callee (f:=18) rfl ?_);refine goesL_ (some 45) rfl rfl Try.func18 (by kernel_rfl) rfl #[.pointer (some ⟨g,0,none⟩),.slice Ao25 y115.length co25] rfl (by (try simp only[List.map_toArray,List.map_cons,List.map_nil]);first|done|rfl|(simp only[List.length_drop,List.length_take];rfl)) ?_;(with_reducible refine(payrollgen_Tape_Pick.calls g s0_0 t114 _ _ y115 t118 t119 w0 _ ?side1 ?side2 ?side3 ?side4 ?side5 A17.out).mono ?_);(case side1=>repeat (first|(with_reducible first|exact HI0.out|apply IsS54.alloc|apply IsS54.drewN|apply IsS54.drew|apply IsS54.set_1|refine IsS54.far ?_ NB0_107.out _)|exact HI0.out));(case side2=>repeat (first|(with_reducible first|exact HB.out|apply below_alloc|apply pw_below_drewN|apply below_drew1|refine below_set ?_ (IsS54.ge HI0.out)|refine below_set ?_ GE107.out)|exact HB.out));(case side3=>repeat (first|exact(Kd.R_reads' HO117.out).2.2|(with_reducible refine Kd.C_alloc ?_ _)|(with_reducible refine Kd.C_drewN ?_ _)|(with_reducible refine Kd.C_drew ?_)));(case side4=>exact(Kd.R_reads' HO117.out).2.1);(case side5=>exact far_slice (IsS54.own_ne HI0.out HO117.out (by decide)));rintro e w26 ⟨rfl,hi,hb,hk⟩;refine⟨_,rfl,?_⟩;have n0_:=Aside0.mk (Kd.S_mono (Kd.S_keep (IsS54.apartS (show IsS54 w0 _ g s0_0 t114 from by repeat (first|(with_reducible first|exact HI0.out|apply IsS54.alloc|apply IsS54.drewN|apply IsS54.drew|apply IsS54.set_1|refine IsS54.far ?_ NB0_107.out _)|exact HI0.out)) (by (with_reducible repeat (first|apply Kd.S_alloc|apply Kd.S_drewN|apply Kd.S_drew));exact HO_5.out) (by decide)) hk (fun _ h=>h.2)) (fun _ h=>h.1));have n1_:=Aside0.mk (Kd.R_mono (Kd.R_keep (IsS54.apart (show IsS54 w0 _ g s0_0 t114 from by repeat (first|(with_reducible first|exact HI0.out|apply IsS54.alloc|apply IsS54.drewN|apply IsS54.drew|apply IsS54.set_1|refine IsS54.far ?_ NB0_107.out _)|exact HI0.out)) (by (with_reducible repeat (first|apply Kd.R_alloc|apply Kd.R_drewN|apply Kd.R_drew));exact HO_108001.out) (by decide)) hk (fun _ h=>h.2)) (fun _ h=>h.1));have n2_:=Aside0.mk (KeepBut.blk hk (g':=gb107) (o:=.cells #[.int .i64 (wrap64 ((wrap64 (Int.tdiv x6_1 1440)) - (wrap64 (Int.tdiv t105 4)))),u108001] 30 (0,0)) (by (with_reducible repeat (first|refine blk_drewN ?_ _|refine blk_drew ?_|refine blk_alloc ?_ _));exact BK107.out) NB107_0.out (by simp));have n3_:=Aside0.mk (Kd.R_mono (Kd.R_keep (IsS54.apart (show IsS54 w0 _ g s0_0 t114 from by repeat (first|(with_reducible first|exact HI0.out|apply IsS54.alloc|apply IsS54.drewN|apply IsS54.drew|apply IsS54.set_1|refine IsS54.far ?_ NB0_107.out _)|exact HI0.out)) (by (with_reducible repeat (first|apply Kd.R_alloc|apply Kd.R_drewN|apply Kd.R_drew));exact HO112.out) (by decide)) hk (fun _ h=>h.2)) (fun _ h=>h.1));have n4_:=Aside0.mk (Kd.R_mono (Kd.R_keep (IsS54.apart (show IsS54 w0 _ g s0_0 t114 from by repeat (first|(with_reducible first|exact HI0.out|apply IsS54.alloc|apply IsS54.drewN|apply IsS54.drew|apply IsS54.set_1|refine IsS54.far ?_ NB0_107.out _)|exact HI0.out)) (by (with_reducible repeat (first|apply Kd.R_alloc|apply Kd.R_drewN|apply Kd.R_drew));exact HO117.out) (by decide)) hk (fun _ h=>h.2)) (fun _ h=>h.1));have n5_:=Aside0.mk (KeepBut.trans (by repeat (first|(with_reducible first|exact HK.out|apply KeepBut.set_|apply keep_drewN|apply keep_drew|apply keep_alloc|refine keep_far ?_ GW107.out _)|exact HK.out)) hk (.inl rfl));have n6_:=Aside0.mk (hb);have n7_:=Aside0.mk (hi);clear HO_5;clear HO_108001;clear BK107;clear HO112;clear HO117;clear HK;clear HB;clear HI0;have HO_5:=n0_;have HO_108001:=n1_;have BK107:=n2_;have HO112:=n3_;have HO117:=n4_;have HK:=n5_;have HB:=n6_;have HI0:=n7_;clear n0_ n1_ n2_ n3_ n4_ n5_ n6_ n7_;(try clear hb);(try clear hb2);(try clear hk);(try clear hi);have hnb27:=NB107_0.out;have hnc27:=NB0_107.out;have hcz28_0:w26.cell? ⟨gb107,0,none⟩ = some (.int .i64 (wrap64 ((wrap64 (Int.tdiv x6_1 1440)) - (wrap64 (Int.tdiv t105 4))))):=(blk_cell BK107.out 0).trans rfl;have hcz28_1:w26.cell? ⟨gb107,1,none⟩ = some (u108001):=(blk_cell BK107.out 1).trans rfl;have hfz28_0:=blk_frozen BK107.out 0;have hfz28_1:=blk_frozen BK107.out 1)|((with_reducible refine gate_builtin (b:=.append) (xs:=#[.tmp 47,.tmp 53]) rfl ?_);at_builtin;refine Kd.R_append k41 w.heap.size rfl (.tmp 47) (.tmp 53) 23 41 (.agg #[(.int .i64 0),(.int .i64 0)]) 16 rfl Try.underlying23 info41 rfl (by decide) (by omega) u108001 x108001_2 (⟨wrap64 (x6_2 + t113),wrap64 ((wrap64 (x6_2 + t113)) + t118)⟩:S41) [.int .i64 (wrap64 (x6_2 + t113)),.int .i64 (wrap64 ((wrap64 (x6_2 + t113)) + t118))] (fun _=>True) (fun _=>False) rfl rfl ?aP (fun _ hk=>hk.elim) ?aF ?aO (Below.refl _ _) ?aS ?aL ?_;(case aP=>exact k41_mkM _ _ _ (⟨wrap64 (x6_2 + t113),wrap64 ((wrap64 (x6_2 + t113)) + t118)⟩:S41));(case aF=>exact(fun _ _=>trivial));(case aO=>exact(by (with_reducible repeat (first|apply Kd.R_alloc|apply Kd.R_drewN|apply Kd.R_drew));exact HO_108001.out));(case aS=>exact(keep_size (w:=w) (g:=g) (row:=none) (by repeat (first|(with_reducible first|exact HK.out|apply KeepBut.set_|apply keep_drewN|apply keep_drew|apply keep_alloc|refine keep_far ?_ GW107.out _)|exact HK.out))));(case aL=>have:=LMc18.out;omega);intro v121 w29 ho hb hg hat;rw[← Ny120.out] at ho;have n0_:=Aside0.mk (Kd.S_after (ok:=(fun k_=>k_≠gb107)) (by (with_reducible repeat (first|apply Kd.S_alloc|apply Kd.S_drewN|apply Kd.S_drew));exact Kd.S_mono HO_5.out (fun _ hk=>⟨hk.2,hk.1⟩)) hg hat);have n1_:=Aside0.mk (blk_grown (g:=gb107) (o:=.cells #[.int .i64 (wrap64 ((wrap64 (Int.tdiv x6_1 1440)) - (wrap64 (Int.tdiv t105 4)))),u108001] 30 (0,0)) (by (with_reducible repeat (first|refine blk_drewN ?_ _|refine blk_drew ?_|refine blk_alloc ?_ _));exact BK107.out) hg (Kd.R_ne HO_108001.out BK107.out (by decide)));have n2_:=Aside0.mk (IsS54.grown (by repeat (first|(with_reducible first|exact HI0.out|apply IsS54.alloc|apply IsS54.drewN|apply IsS54.drew|apply IsS54.set_1|refine IsS54.far ?_ NB0_107.out _)|exact HI0.out)) hg (IsS54.own_ne HI0.out HO_108001.out (by decide)));have n3_:=Aside0.mk (Kd.R_over' (by (with_reducible repeat (first|apply Kd.R_alloc|apply Kd.R_drewN|apply Kd.R_drew));exact HO112.out) (Kd.R_typed (by (with_reducible repeat (first|apply Kd.R_alloc|apply Kd.R_drewN|apply Kd.R_drew));exact HO_108001.out)) (by decide) hg);have n4_:=Aside0.mk (Kd.R_over' (by (with_reducible repeat (first|apply Kd.R_alloc|apply Kd.R_drewN|apply Kd.R_drew));exact HO117.out) (Kd.R_typed (by (with_reducible repeat (first|apply Kd.R_alloc|apply Kd.R_drewN|apply Kd.R_drew));exact HO_108001.out)) (by decide) hg);have n5_:=Aside0.mk (below_weaken (by repeat (first|(with_reducible first|exact HB.out|apply below_alloc|apply pw_below_drewN|apply below_drew1|refine below_set ?_ (IsS54.ge HI0.out)|refine below_set ?_ GE107.out)|exact HB.out)) HL.out hb);have n6_:=Aside0.mk (KeepBut.trans (by repeat (first|(with_reducible first|exact HK.out|apply KeepBut.set_|apply keep_drewN|apply keep_drew|apply keep_alloc|refine keep_far ?_ GW107.out _)|exact HK.out)) (KeepBut.of_grown hg g) (Kd.R_base2 HO_108001.out));have n7_:=Aside0.mk (ho);clear HO_5;clear BK107;clear HI0;clear HO112;clear HO117;clear HB;clear HK;clear HO_108001;have HO_5:=n0_;have BK107:=n1_;have HI0:=n2_;have HO112:=n3_;have HO117:=n4_;have HB:=n5_;have HK:=n6_;have HO122:=n7_;clear n0_ n1_ n2_ n3_ n4_ n5_ n6_ n7_;clear ho hb hg hat;obtain ⟨Ao30,co30,eo30⟩:=Kd.R_slice HO122.out;subst eo30;have hcz31_0:w29.cell? ⟨gb107,0,none⟩ = some (.int .i64 (wrap64 ((wrap64 (Int.tdiv x6_1 1440)) - (wrap64 (Int.tdiv t105 4))))):=(blk_cell BK107.out 0).trans rfl;have hcz31_1:w29.cell? ⟨gb107,1,none⟩ = some (u108001):=(blk_cell BK107.out 1).trans rfl;have hfz31_0:=blk_frozen BK107.out 0;have hfz31_1:=blk_frozen BK107.out 1))
                go_roundg k2
                case measure => have := HK1.out; have := HK2.out; omega
                case rel=>exact⟨(wrap64 ((wrap64 (x6_2 + t113)) + t118)),(wrap64 (x9_2 - 1)),(t119),(y120),(.slice Ao30 y120.length co30),(by first|rfl|(simp;done)|(simp[*];done)),(by first|rfl|(simp;done)|(simp[*];done)),H',⟨by have:=HK1.out;have:=HK2.out;omega⟩,⟨by (with_reducible repeat (first|apply Kd.S_alloc|apply Kd.S_drewN|apply Kd.S_drew));exact Kd.S_mono (Kd.S_far (p:=⟨gb107,1,none⟩) (Kd.S_mono HO_5.out (fun k_ hk=>(⟨hk,hk.1⟩:_∧k_≠gb107))) (fun _ hk=>hk.2) (.slice Ao30 y120.length co30)) (fun _ hk=>⟨hk.1.2,hk.1.1⟩)⟩,⟨by (with_reducible repeat (first|apply Kd.R_alloc|apply Kd.R_drewN|apply Kd.R_drew));exact Kd.R_mono (Kd.R_far (p:=⟨gb107,1,none⟩) (Kd.R_types HO122.out BK107.out (by decide)) (fun _ hk=>hk.2) (.slice Ao30 y120.length co30)) (fun _ hk=>trivial)⟩,⟨by (with_reducible repeat (first|refine blk_drewN ?_ _|refine blk_drew ?_|refine blk_alloc ?_ _));refine blk_put (cs:=#[.int .i64 (wrap64 ((wrap64 (Int.tdiv x6_1 1440)) - (wrap64 (Int.tdiv t105 4)))),u108001]) ?_ 1 _ rfl;(with_reducible repeat (first|refine blk_drewN ?_ _|refine blk_drew ?_|refine blk_alloc ?_ _));exact BK107.out⟩,⟨by repeat (first|(with_reducible first|exact HI0.out|apply IsS54.alloc|apply IsS54.drewN|apply IsS54.drew|apply IsS54.set_1|refine IsS54.far ?_ NB0_107.out _)|exact HI0.out)⟩,⟨by repeat (first|(with_reducible first|exact HK.out|apply KeepBut.set_|apply keep_drewN|apply keep_drew|apply keep_alloc|refine keep_far ?_ GW107.out _)|exact HK.out)⟩,⟨by repeat (first|(with_reducible first|exact HB.out|apply below_alloc|apply pw_below_drewN|apply below_drew1|refine below_set ?_ (IsS54.ge HI0.out)|refine below_set ?_ GE107.out)|exact HB.out)⟩⟩
              · rw [if_neg c18] at H
                exact absurd H (by simp)
            · rw [if_neg c15] at H
              have c15b0 : decide (0 < x9_2) = false := decide_eq_false c15
              clear c15
              by_cases c32 : x5_1.length < 4398046511104
              · rw [if_pos c32] at H
                have LMc32 := Aside0.mk c32
                clear c32
                obtain ⟨y123,hy123⟩:∃ y_:List (S30),y_ = (x5_1 ++ [(⟨(wrap64 ((wrap64 (Int.tdiv x6_1 1440)) - (wrap64 (Int.tdiv t105 4)))),x108001_2⟩:S30)]):=⟨_,rfl⟩
                replace H:((payrollgen_Tape_Pick.f s0_0 x1001_2 (([600,0,1440,60]:List Int))).bind fun bt129=>(payrollgen_Tape_Works.l0 k2 y123 (wrap64 (x6_2 + bt129.1)) (wrap64 (x7_1 - 1)) s0_0 bt129.2)) = some (r1,r2):=by first|(rw[hy123];with_reducible exact H)|(have H2_:=(Option.bind_some _ _).symm.trans H;rw[hy123];with_reducible exact H2_)|(have H2_:=(Option.bind_some _ _).symm.trans H;with_reducible exact H2_)|with_reducible exact H|(rw[hy123];exact H)|exact H
                have Ny123 := Aside0.mk hy123
                clear hy123
                obtain ⟨y126, hy126⟩ : ∃ y_ : List Int, y_ = (([600, 0, 1440, 60] : List Int)) := ⟨_, rfl⟩
                replace H:((payrollgen_Tape_Pick.f s0_0 x1001_2 y126).bind fun bt129=>(payrollgen_Tape_Works.l0 k2 y123 (wrap64 (x6_2 + bt129.1)) (wrap64 (x7_1 - 1)) s0_0 bt129.2)) = some (r1,r2):=by first|(rw[hy126];with_reducible exact H)|(have H2_:=(Option.bind_some _ _).symm.trans H;rw[hy126];with_reducible exact H2_)|(have H2_:=(Option.bind_some _ _).symm.trans H;with_reducible exact H2_)|with_reducible exact H|(rw[hy126];exact H)|exact H
                have Ny126 := Aside0.mk hy126
                clear hy126
                replace H := Option.bind_eq_some_iff.mp H
                obtain ⟨⟨t129, t130⟩, A330, H⟩ := H
                replace H:(payrollgen_Tape_Works.l0 k2 y123 (wrap64 (x6_2 + t129)) (wrap64 (x7_1 - 1)) s0_0 t130) = some (r1,r2):=H
                have A33 := Aside0.mk A330
                clear A330
                have H' := Aside0.mk H
                clear H
                have hnb34 := NB107_0.out
                have hnc34 := NB0_107.out
                have hcz35_0:wr.cell? ⟨gb107,0,none⟩ = some (.int .i64 (wrap64 ((wrap64 (Int.tdiv x6_1 1440)) - (wrap64 (Int.tdiv t105 4))))):=(blk_cell BK107.out 0).trans rfl
                have hcz35_1 : wr.cell? ⟨gb107, 1, none⟩ = some (u108001) := (blk_cell BK107.out 1).trans rfl
                have hfz35_0 := blk_frozen BK107.out 0
                have hfz35_1 := blk_frozen BK107.out 1
                obtain ⟨Ao37, co37, eo37⟩ := Kd.R_slice HO_108001.out
                subst eo37
                go_wp2_with (first|((with_reducible refine gate_builtin (b:=.append) (xs:=#[.tmp 59,.tmp 61]) rfl ?_);at_builtin;refine Kd.S_append k30 w.heap.size rfl (.tmp 59) (.tmp 61) 26 30 (.agg #[(.int .i64 0),(.slice none 0 0)]) 32 rfl Try.underlying26 info30 rfl (by decide) (by omega) u5 x5_1 (⟨(wrap64 ((wrap64 (Int.tdiv x6_1 1440)) - (wrap64 (Int.tdiv t105 4)))),x108001_2⟩:S30) [.int .i64 (wrap64 ((wrap64 (Int.tdiv x6_1 1440)) - (wrap64 (Int.tdiv t105 4)))),.slice Ao37 x108001_2.length co37] (fun k_=>k_≠gb107) (fun k_=>some k_ = (.slice Ao37 x108001_2.length co37:Value).ownBlock) rfl rfl ?aP (fun k_ hk_=>((Kd.R_mono (ok':=fun k_=>((fun k_=>k_≠gb107)) k_∧some k_≠(u5:Value).ownBlock) (Kd.R_types (Kd.R_apart' (HO_108001.out) (Kd.S_typed HO_5.out) (by decide)) BK107.out (by decide)) (fun k_ hk=>⟨hk.2,hk.1.2⟩))).1 k_ hk_.symm) ?aF ?aO (Below.refl _ _) ?aS ?aL ?_;(case aP=>exact k30_mkM _ _ _ (⟨(wrap64 ((wrap64 (Int.tdiv x6_1 1440)) - (wrap64 (Int.tdiv t105 4)))),x108001_2⟩:S30) (Kd.R_mono (Kd.R_tight rfl (Kd.R_mono (ok':=fun k_=>((fun k_=>k_≠gb107)) k_∧some k_≠(u5:Value).ownBlock) (Kd.R_types (Kd.R_apart' (HO_108001.out) (Kd.S_typed HO_5.out) (by decide)) BK107.out (by decide)) (fun k_ hk=>⟨hk.2,hk.1.2⟩))) (fun _ h_=>h_)));(case aF=>exact(fun k_ hk=>Kd.freshB (g:=gb107) (o:=.cells #[.int .i64 (wrap64 ((wrap64 (Int.tdiv x6_1 1440)) - (wrap64 (Int.tdiv t105 4)))),.slice Ao37 x108001_2.length co37] 30 (0,0)) (by (with_reducible repeat (first|refine blk_drewN ?_ _|refine blk_drew ?_|refine blk_alloc ?_ _));exact BK107.out) k_ hk));(case aO=>exact(by (with_reducible repeat (first|apply Kd.S_alloc|apply Kd.S_drewN|apply Kd.S_drew));exact Kd.S_mono HO_5.out (fun k_ hk=>⟨hk.2,fun e_=>hk.1 e_⟩)));(case aS=>exact(keep_size (w:=w) (g:=g) (row:=none) (by repeat (first|(with_reducible first|exact HK.out|apply KeepBut.set_|apply keep_drewN|apply keep_drew|apply keep_alloc|refine keep_far ?_ GW107.out _)|exact HK.out))));(case aL=>have:=LMc32.out;omega);intro v124 w36 ho hb hg hat;rw[← Ny123.out] at ho;have n0_:=Aside0.mk (blk_grown (g:=gb107) (o:=.cells #[.int .i64 (wrap64 ((wrap64 (Int.tdiv x6_1 1440)) - (wrap64 (Int.tdiv t105 4)))),.slice Ao37 x108001_2.length co37] 30 (0,0)) (by (with_reducible repeat (first|refine blk_drewN ?_ _|refine blk_drew ?_|refine blk_alloc ?_ _));exact BK107.out) hg (Kd.S_away HO_5.out (fun _ hk=>hk.2)));have n1_:=Aside0.mk (IsS54.grown (by repeat (first|(with_reducible first|exact HI0.out|apply IsS54.alloc|apply IsS54.drewN|apply IsS54.drew|apply IsS54.set_1|refine IsS54.far ?_ NB0_107.out _)|exact HI0.out)) hg (IsS54.own_neS HI0.out HO_5.out (by decide)));have n2_:=Aside0.mk (below_weaken (by repeat (first|(with_reducible first|exact HB.out|apply below_alloc|apply pw_below_drewN|apply below_drew1|refine below_set ?_ (IsS54.ge HI0.out)|refine below_set ?_ GE107.out)|exact HB.out)) HL.out hb);have n3_:=Aside0.mk (KeepBut.trans (by repeat (first|(with_reducible first|exact HK.out|apply KeepBut.set_|apply keep_drewN|apply keep_drew|apply keep_alloc|refine keep_far ?_ GW107.out _)|exact HK.out)) (KeepBut.of_grown hg g) (Kd.S_base2 HO_5.out));have n4_:=Aside0.mk (ho);clear BK107;clear HI0;clear HB;clear HK;clear HO_5;clear HO_108001;have BK107:=n0_;have HI0:=n1_;have HB:=n2_;have HK:=n3_;have HO125:=n4_;clear n0_ n1_ n2_ n3_ n4_;clear ho hb hg hat)|((with_reducible refine gate_dst (N:=65) rfl ?_);refine Kd.R_lit (Kd.int .i64) _ 3 ?hg (N:=65) ?hd (xs:=([600,0,1440,60]:List Int)) (inner:=[.int .i64 600,.int .i64 0,.int .i64 1440,.int .i64 60]) (ok:=fun _=>True) (okp:=fun _=>True) ?hr ?hp (fun _ hk=>hk) trivial (Below.refl _ _) (Nat.le_refl _) (by simp) ?_;(case hd=>rfl);(case hg=>rfl);(case hr=>first|(go_simp;done)|(go_simp;rfl));(case hp=>exact(Reps.one (show Kd.M (Kd.int .i64) _ _ _ 600 [.int .i64 600] from rfl) (Reps.one (show Kd.M (Kd.int .i64) _ _ _ 0 [.int .i64 0] from rfl) (Reps.one (show Kd.M (Kd.int .i64) _ _ _ 1440 [.int .i64 1440] from rfl) (Reps.one (show Kd.M (Kd.int .i64) _ _ _ 60 [.int .i64 60] from rfl) (Reps.none _ _))))));intro v127 w38 ho39 hb hg_ hnew_;clear hg_ hnew_;(first|rw[← Ny126.out] at ho39|(simp only[Int.reduceToNat] at ho39;rw[← Ny126.out] at ho39));have n0_:=Aside0.mk (Kd.S_below (by (with_reducible repeat (first|apply Kd.S_alloc|apply Kd.S_drewN|apply Kd.S_drew));exact HO125.out) hb);have n1_:=Aside0.mk (Kd.R_lower ho39 (keep_size (w:=w) (g:=g) (row:=none) (by repeat (first|(with_reducible first|exact HK.out|apply KeepBut.set_|apply keep_drewN|apply keep_drew|apply keep_alloc|refine keep_far ?_ GW107.out _)|exact HK.out))));have n2_:=Aside0.mk (blk_below (g:=gb107) (o:=.cells #[.int .i64 (wrap64 ((wrap64 (Int.tdiv x6_1 1440)) - (wrap64 (Int.tdiv t105 4)))),.slice Ao37 x108001_2.length co37] 30 (0,0)) (by (with_reducible repeat (first|refine blk_drewN ?_ _|refine blk_drew ?_|refine blk_alloc ?_ _));exact BK107.out) hb);have n3_:=Aside0.mk (IsS54.below (by repeat (first|(with_reducible first|exact HI0.out|apply IsS54.alloc|apply IsS54.drewN|apply IsS54.drew|apply IsS54.set_1|refine IsS54.far ?_ NB0_107.out _)|exact HI0.out)) hb);have n4_:=Aside0.mk (KeepBut.trans (by repeat (first|(with_reducible first|exact HK.out|apply KeepBut.set_|apply keep_drewN|apply keep_drew|apply keep_alloc|refine keep_far ?_ GW107.out _)|exact HK.out)) (KeepBut.of_below hb g none) (.inl rfl));have n5_:=Aside0.mk (below_step (by repeat (first|(with_reducible first|exact HB.out|apply below_alloc|apply pw_below_drewN|apply below_drew1|refine below_set ?_ (IsS54.ge HI0.out)|refine below_set ?_ GE107.out)|exact HB.out)) hb);clear HO125;clear BK107;clear HI0;clear HK;clear HB;have HO125:=n0_;have HO128:=n1_;have BK107:=n2_;have HI0:=n3_;have HK:=n4_;have HB:=n5_;clear n0_ n1_ n2_ n3_ n4_ n5_;clear hb ho39;obtain ⟨Ao40,co40,eo40⟩:=Kd.R_slice HO128.out;subst eo40)|((with_reducible refine gate_callee (f:=18) rfl ?_);refine goesL_ (some 66) rfl rfl Try.func18 (by kernel_rfl) rfl #[.pointer (some ⟨g,0,none⟩),.slice Ao40 y126.length co40] rfl (by (try simp only[List.map_toArray,List.map_cons,List.map_nil]);first|done|rfl|(simp only[List.length_drop,List.length_take];rfl)) ?_;(with_reducible refine(payrollgen_Tape_Pick.calls g s0_0 x1001_2 _ _ y126 t129 t130 w0 _ ?side1 ?side2 ?side3 ?side4 ?side5 A33.out).mono ?_);(case side1=>repeat (first|(with_reducible first|exact HI0.out|apply IsS54.alloc|apply IsS54.drewN|apply IsS54.drew|apply IsS54.set_1|refine IsS54.far ?_ NB0_107.out _)|exact HI0.out));(case side2=>repeat (first|(with_reducible first|exact HB.out|apply below_alloc|apply pw_below_drewN|apply below_drew1|refine below_set ?_ (IsS54.ge HI0.out)|refine below_set ?_ GE107.out)|exact HB.out));(case side3=>repeat (first|exact(Kd.R_reads' HO128.out).2.2|(with_reducible refine Kd.C_alloc ?_ _)|(with_reducible refine Kd.C_drewN ?_ _)|(with_reducible refine Kd.C_drew ?_)));(case side4=>exact(Kd.R_reads' HO128.out).2.1);(case side5=>exact far_slice (IsS54.own_ne HI0.out HO128.out (by decide)));rintro e w41 ⟨rfl,hi,hb,hk⟩;refine⟨_,rfl,?_⟩;have n0_:=Aside0.mk (KeepBut.blk hk (g':=gb107) (o:=.cells #[.int .i64 (wrap64 ((wrap64 (Int.tdiv x6_1 1440)) - (wrap64 (Int.tdiv t105 4)))),.slice Ao37 x108001_2.length co37] 30 (0,0)) (by (with_reducible repeat (first|refine blk_drewN ?_ _|refine blk_drew ?_|refine blk_alloc ?_ _));exact BK107.out) NB107_0.out (by simp));have n1_:=Aside0.mk (Kd.S_mono (Kd.S_keep (IsS54.apartS (show IsS54 w0 _ g s0_0 x1001_2 from by repeat (first|(with_reducible first|exact HI0.out|apply IsS54.alloc|apply IsS54.drewN|apply IsS54.drew|apply IsS54.set_1|refine IsS54.far ?_ NB0_107.out _)|exact HI0.out)) (by (with_reducible repeat (first|apply Kd.S_alloc|apply Kd.S_drewN|apply Kd.S_drew));exact HO125.out) (by decide)) hk (fun _ h=>h.2)) (fun _ h=>h.1));have n2_:=Aside0.mk (Kd.R_mono (Kd.R_keep (IsS54.apart (show IsS54 w0 _ g s0_0 x1001_2 from by repeat (first|(with_reducible first|exact HI0.out|apply IsS54.alloc|apply IsS54.drewN|apply IsS54.drew|apply IsS54.set_1|refine IsS54.far ?_ NB0_107.out _)|exact HI0.out)) (by (with_reducible repeat (first|apply Kd.R_alloc|apply Kd.R_drewN|apply Kd.R_drew));exact HO128.out) (by decide)) hk (fun _ h=>h.2)) (fun _ h=>h.1));have n3_:=Aside0.mk (KeepBut.trans (by repeat (first|(with_reducible first|exact HK.out|apply KeepBut.set_|apply keep_drewN|apply keep_drew|apply keep_alloc|refine keep_far ?_ GW107.out _)|exact HK.out)) hk (.inl rfl));have n4_:=Aside0.mk (hb);have n5_:=Aside0.mk (hi);clear BK107;clear HO125;clear HO128;clear HK;clear HB;clear HI0;have BK107:=n0_;have HO125:=n1_;have HO128:=n2_;have HK:=n3_;have HB:=n4_;have HI0:=n5_;clear n0_ n1_ n2_ n3_ n4_ n5_;(try clear hb);(try clear hb2);(try clear hk);(try clear hi)))
                go_roundg k2
                case measure => have := HK1.out; have := HK2.out; omega
                case rel=>exact⟨(y123),(wrap64 (x6_2 + t129)),(wrap64 (x7_1 - 1)),(t130),(by first|rfl|(simp;done)|(simp[*];done)),(by first|rfl|(simp;done)|(simp[*];done)),H',⟨by have:=HK1.out;have:=HK2.out;omega⟩,⟨by (with_reducible repeat (first|apply Kd.S_alloc|apply Kd.S_drewN|apply Kd.S_drew));exact Kd.S_mono HO125.out (fun _ hk=>trivial)⟩,⟨by repeat (first|(with_reducible first|exact HI0.out|apply IsS54.alloc|apply IsS54.drewN|apply IsS54.drew|apply IsS54.set_1|refine IsS54.far ?_ NB0_107.out _)|exact HI0.out)⟩,⟨by repeat (first|(with_reducible first|exact HK.out|apply KeepBut.set_|apply keep_drewN|apply keep_drew|apply keep_alloc|refine keep_far ?_ GW107.out _)|exact HK.out)⟩,⟨by repeat (first|(with_reducible first|exact HB.out|apply below_alloc|apply pw_below_drewN|apply below_drew1|refine below_set ?_ (IsS54.ge HI0.out)|refine below_set ?_ GE107.out)|exact HB.out)⟩⟩
              · rw [if_neg c32] at H
                exact absurd H (by simp)
      · rw [if_neg c7] at H
        have c7b0 : decide (0 < x7_1) = false := decide_eq_false c7
        clear c7
        by_cases c42 : (x5_1.length : Int) > 1
        · rw [if_pos c42] at H
          have c42b0 : decide (1 < (x5_1.length : Int)) = true := decide_eq_true c42
          have c42b1 : decide (1 < x5_1.length) = true := decide_eq_true (by omega)
          clear c42
          replace H := Option.bind_eq_some_iff.mp H
          obtain ⟨⟨t131, t132⟩, A430, H⟩ := H
          replace H:(if t131 = 0 then ((payrollgen_Tape_Next.f s0_0 t132 (x5_1.length:Int)).bind fun bt133=>(if 0≤bt133.1∧bt133.1 < (x5_1.length:Int) then (some (swapW x5_1 bt133.1,bt133.2)) else (none))) else (some (x5_1,t132))) = some (r1,r2):=H
          have A43 := Aside0.mk A430
          clear A430
          by_cases c44 : t131 = 0
          · rw [if_pos c44] at H
            have c44b0 : (t131 == 0) = true := beq_iff_eq.mpr c44
            have c44b1 : (t131 != 0) = false := bne_eq_false_iff_eq.mpr c44
            clear c44
            replace H := Option.bind_eq_some_iff.mp H
            obtain ⟨⟨t133, t134⟩, A450, H⟩ := H
            replace H:(if 0≤t133∧t133 < (x5_1.length:Int) then (some (swapW x5_1 t133,t134)) else (none)) = some (r1,r2):=H
            have A45 := Aside0.mk A450
            clear A450
            by_cases cs_ : 0 ≤ t133 ∧ t133 < (x5_1.length : Int)
            · rw [if_pos cs_] at H
              simp only [Option.some.injEq, Prod.mk.injEq] at H
              obtain ⟨rfl, rfl⟩ := H
              have hlen_ : 0 < x5_1.length := by omega
              obtain ⟨gv, co46, eo46, -, -, -⟩ := Kd.N_form (Kd.S_N HO_5.out) hlen_
              subst eo46
              go_wp2_with (first|(go_at_call 17;(with_reducible refine(payrollgen_Tape_Next.calls g s0_0 x1001_1 2 t131 t132 w0 _ ?side1 ?side2 A43.out).mono ?_);(case side1=>repeat (first|(with_reducible first|exact HI0.out|apply IsS54.alloc|apply IsS54.drewN|apply IsS54.drew|apply IsS54.set_1)|exact HI0.out));(case side2=>repeat (first|(with_reducible first|exact HB.out|apply below_alloc|apply pw_below_drewN|apply below_drew1|refine below_set ?_ (IsS54.ge HI0.out))|exact HB.out));rintro e w47 ⟨rfl,hi,hb,hk⟩;have n0_:=Aside0.mk (Kd.S_mono (Kd.S_keep (IsS54.apartS (show IsS54 w0 _ g s0_0 x1001_1 from by repeat (first|(with_reducible first|exact HI0.out|apply IsS54.alloc|apply IsS54.drewN|apply IsS54.drew|apply IsS54.set_1)|exact HI0.out)) (by (with_reducible repeat (first|apply Kd.S_alloc|apply Kd.S_drewN|apply Kd.S_drew));exact HO_5.out) (by decide)) hk (fun _ h=>h.2)) (fun _ h=>h.1));have n1_:=Aside0.mk (KeepBut.trans (by repeat (first|(with_reducible first|exact HK.out|apply KeepBut.set_|apply keep_drewN|apply keep_drew|apply keep_alloc)|exact HK.out)) hk (.inl rfl));have n2_:=Aside0.mk (hb);have n3_:=Aside0.mk (hi);clear HO_5;clear HK;clear HB;clear HI0;have HO_5:=n0_;have HK:=n1_;have HB:=n2_;have HI0:=n3_;clear n0_ n1_ n2_ n3_;(try clear hb);(try clear hb2);(try clear hk);(try clear hi))|((with_reducible refine gate_callee (f:=17) rfl ?_);refine goesL_ (some 79) rfl rfl Try.func17 (by kernel_rfl) rfl #[.pointer (some ⟨g,0,none⟩),.int .i64 (x5_1.length:Int)] rfl (by (try simp only[List.map_toArray,List.map_cons,List.map_nil]);first|done|rfl|(simp only[List.length_drop,List.length_take];rfl)) ?_;(with_reducible refine(payrollgen_Tape_Next.calls g s0_0 t132 (x5_1.length:Int) t133 t134 w0 _ ?side1 ?side2 A45.out).mono ?_);(case side1=>repeat (first|(with_reducible first|exact HI0.out|apply IsS54.alloc|apply IsS54.drewN|apply IsS54.drew|apply IsS54.set_1)|exact HI0.out));(case side2=>repeat (first|(with_reducible first|exact HB.out|apply below_alloc|apply pw_below_drewN|apply below_drew1|refine below_set ?_ (IsS54.ge HI0.out))|exact HB.out));rintro e w48 ⟨rfl,hi,hb,hk⟩;refine⟨_,rfl,?_⟩;have n0_:=Aside0.mk (Kd.S_mono (Kd.S_keep (IsS54.apartS (show IsS54 w0 _ g s0_0 t132 from by repeat (first|(with_reducible first|exact HI0.out|apply IsS54.alloc|apply IsS54.drewN|apply IsS54.drew|apply IsS54.set_1)|exact HI0.out)) (by (with_reducible repeat (first|apply Kd.S_alloc|apply Kd.S_drewN|apply Kd.S_drew));exact HO_5.out) (by decide)) hk (fun _ h=>h.2)) (fun _ h=>h.1));have n1_:=Aside0.mk (KeepBut.trans (by repeat (first|(with_reducible first|exact HK.out|apply KeepBut.set_|apply keep_drewN|apply keep_drew|apply keep_alloc)|exact HK.out)) hk (.inl rfl));have n2_:=Aside0.mk (hb);have n3_:=Aside0.mk (hi);clear HO_5;clear HK;clear HB;clear HI0;have HO_5:=n0_;have HK:=n1_;have HB:=n2_;have HI0:=n3_;clear n0_ n1_ n2_ n3_;(try clear hb);(try clear hb2);(try clear hk);(try clear hi)))
              have HNf:=Aside0.mk (Kd.N_mono (Kd.S_N (Kd.S_bound HO_5.out)) (ok':=fun k_=>(w.heap.size≤k_)) (fun k_ hk=>hk.2.1))
              obtain ⟨cs_0, l0_, F0_, q0_, z0_⟩ := Kd.N_elem HNf.out z30 0 (Int.le_refl _) (by omega)
              obtain ⟨A0_, c0_, rfl, b0_, g0_⟩ := k30_open (Kd.FK_now F0_)
              obtain ⟨cs_k, lk_, Fk_, qk_, zk_⟩ := Kd.N_elem HNf.out z30 t133 cs_.1 (by omega)
              obtain ⟨Ak_, ck_, rfl, bk_, gk_⟩ := k30_open (Kd.FK_now Fk_)
              have x00 : w48.cell? ⟨gv, 0, none⟩ = some (.int .i64 (rd_T30 x5_1 0).f0) := q0_ 0 _ rfl
              have x01 : w48.cell? ⟨gv, 1, none⟩ = some (.slice A0_ (rd_T30 x5_1 0).f1.length c0_) := q0_ 1 _ rfl
              have xk0 : w48.cell? ⟨gv, t133.toNat * 2, none⟩ = some (.int .i64 (rd_T30 x5_1 t133).f0) := qk_ 0 _ rfl
              have xk1:w48.cell? ⟨gv,t133.toNat * 2 + 1,none⟩ = some (.slice Ak_ (rd_T30 x5_1 t133).f1.length ck_):=qk_ 1 _ rfl
              have F0 := Aside0.mk F0_
              have Fk := Aside0.mk Fk_
              have CS_ := Aside0.mk cs_
              have pk_ := eq_true cs_.1
              have qk1_ := eq_true cs_.2
              have q01_ : ((0 : Int) < (x5_1.length : Int)) = True := eq_true (by omega)
              have q02_ := eq_true hlen_
              have HL0_ := Aside0.mk hlen_
              clear F0_ Fk_ q0_ qk_ z0_ zk_ g0_ gk_ b0_ bk_ l0_ lk_ cs_ hlen_
              refine start_ (n:=14) (S:=fun w'=>w'.cell? ⟨gv,0,none⟩ = some (.int .i64 (rd_T30 x5_1 0).f0)∧w'.cell? ⟨gv,1,none⟩ = some (.slice A0_ (rd_T30 x5_1 0).f1.length c0_)∧w'.cell? ⟨gv,t133.toNat * 2,none⟩ = some (.int .i64 (rd_T30 x5_1 t133).f0)∧w'.cell? ⟨gv,t133.toNat * 2 + 1,none⟩ = some (.slice Ak_ (rd_T30 x5_1 t133).f1.length ck_)) (ds:=[11,13]) #[false,false,false,false,false,false,false,false,false,false,false,false,false,false] (by kernel_rfl) rfl rfl ⟨x00,x01,xk0,xk1⟩ (fun hHeld=>?_)
              refine pure_ (i:=0) (N:=some 80) (v:=?_) (a':=?_) #[true,false,false,false,false,false,false,false,false,false,false,false,false,false] rfl rfl (by kernel_rfl) (fun _ _ _ h=>h) (Or.inl ⟨by rfl,?_⟩) ?_ ?_
              rotate_left
              · intro w'
                go_simp
                with_reducible rfl
              rotate_left
              · simp only [Act.put, List.setIfInBounds_toArray, List.set_cons_zero, List.set_cons_succ, i64_w, i32_w]
                rfl
              refine pure_ (i:=1) (N:=some 81) (v:=?_) (a':=?_) #[true,true,false,false,false,false,false,false,false,false,false,false,false,false] rfl rfl (by kernel_rfl) (fun _ _ _ h=>h) (Or.inl ⟨by rfl,?_⟩) ?_ ?_
              rotate_left
              · intro w'
                go_simp
                with_reducible rfl
              rotate_left
              · simp only [Act.put, List.setIfInBounds_toArray, List.set_cons_zero, List.set_cons_succ, i64_w, i32_w]
                rfl
              refine pure_ (i:=2) (N:=some 82) (v:=?_) (a':=?_) #[true,true,true,false,false,false,false,false,false,false,false,false,false,false] rfl rfl (by kernel_rfl) (fun _ _ _ h=>h) (Or.inl ⟨by rfl,?_⟩) ?_ ?_
              rotate_left
              · intro w'
                go_simp
                with_reducible rfl
              rotate_left
              · simp only [Act.put, List.setIfInBounds_toArray, List.set_cons_zero, List.set_cons_succ, i64_w, i32_w]
                rfl
              refine pure_ (i:=3) (N:=some 83) (v:=?_) (a':=?_) #[true,true,true,true,false,false,false,false,false,false,false,false,false,false] rfl rfl (by kernel_rfl) (fun _ _ _ h=>h) (Or.inl ⟨by rfl,?_⟩) ?_ ?_
              rotate_left
              · intro w'
                go_simp
                with_reducible rfl
              rotate_left
              · simp only [Act.put, List.setIfInBounds_toArray, List.set_cons_zero, List.set_cons_succ, i64_w, i32_w]
                rfl
              refine pure_ (i:=4) (N:=some 84) (v:=?_) (a':=?_) #[true,true,true,true,true,false,false,false,false,false,false,false,false,false] rfl rfl (by kernel_rfl) (fun _ _ _ h=>h) (Or.inl ⟨by rfl,?_⟩) ?_ ?_
              rotate_left
              · intro w'
                go_simp
                with_reducible rfl
              rotate_left
              · simp only [Act.put, List.setIfInBounds_toArray, List.set_cons_zero, List.set_cons_succ, i64_w, i32_w]
                rfl
              refine pure_ (i:=7) (N:=some 87) (v:=?_) (a':=?_) #[true,true,true,true,true,false,false,true,false,false,false,false,false,false] rfl rfl (by kernel_rfl) (fun _ _ _ h=>h) (Or.inl ⟨by rfl,?_⟩) ?_ ?_
              rotate_left
              · intro w'
                go_simp
                with_reducible rfl
              rotate_left
              · simp only [Act.put, List.setIfInBounds_toArray, List.set_cons_zero, List.set_cons_succ, i64_w, i32_w]
                rfl
              refine pure_ (i:=5) (N:=some 85) (v:=?_) (a':=?_) #[true,true,true,true,true,true,false,true,false,false,false,false,false,false] rfl rfl (by kernel_rfl) (fun _ _ _ h=>h) (Or.inl ⟨by rfl,?_⟩) ?_ ?_
              rotate_left
              · intro w'
                go_simp
                with_reducible rfl
              rotate_left
              · simp only [Act.put, List.setIfInBounds_toArray, List.set_cons_zero, List.set_cons_succ, i64_w, i32_w]
                rfl
              refine pure_ (i:=8) (N:=some 88) (v:=?_) (a':=?_) #[true,true,true,true,true,true,false,true,true,false,false,false,false,false] rfl rfl (by kernel_rfl) (fun _ _ _ h=>h) (Or.inl ⟨by rfl,?_⟩) ?_ ?_
              rotate_left
              · intro w'
                go_simp
                with_reducible rfl
              rotate_left
              · simp only [Act.put, List.setIfInBounds_toArray, List.set_cons_zero, List.set_cons_succ, i64_w, i32_w]
                rfl
              refine take_ (i:=6) (N:=some 86) (v:=?_) (a':=?_) #[true,true,true,true,true,true,true,true,true,false,false,false,false,false] rfl rfl (by kernel_rfl) (fun _ _ _ h=>h) (Or.inl ⟨by rfl,?_⟩) hHeld ?_ ?_
              rotate_left
              · rintro w' ⟨s0, s1, s2, s3⟩
                go_simp
                with_reducible rfl
              rotate_left
              · simp only [Act.put, List.setIfInBounds_toArray, List.set_cons_zero, List.set_cons_succ, i64_w, i32_w]
                rfl
              refine take_ (i:=9) (N:=some 89) (v:=?_) (a':=?_) #[true,true,true,true,true,true,true,true,true,true,false,false,false,false] rfl rfl (by kernel_rfl) (fun _ _ _ h=>h) (Or.inl ⟨by rfl,?_⟩) hHeld ?_ ?_
              rotate_left
              · rintro w' ⟨s0, s1, s2, s3⟩
                go_simp
                with_reducible rfl
              rotate_left
              · simp only [Act.put, List.setIfInBounds_toArray, List.set_cons_zero, List.set_cons_succ, i64_w, i32_w]
                rfl
              refine pure_ (i:=10) (N:=some 90) (v:=?_) (a':=?_) #[true,true,true,true,true,true,true,true,true,true,true,false,false,false] rfl rfl (by kernel_rfl) (fun _ _ _ h=>h) (Or.inl ⟨by rfl,?_⟩) ?_ ?_
              rotate_left
              · intro w'
                go_simp
                with_reducible rfl
              rotate_left
              · simp only [Act.put, List.setIfInBounds_toArray, List.set_cons_zero, List.set_cons_succ, i64_w, i32_w]
                rfl
              refine last_ (i:=11) (N:=none) #[true,true,true,true,true,true,true,true,true,true,true,true,false,false] rfl rfl (by kernel_rfl) (by decide) (fun K hK=>?_)
              obtain ⟨cy_,ly_,Fy_,qy_,zy_⟩:=Kd.N_elem (Kd.N_drew HNf.out) z30 0 (Int.le_refl _) (by have:=HL0_.out;omega)
              refine store_step k30 w.heap.size rfl rfl 30 (.tmp 90) (.tmp 86) rfl 30 (g:=gv) (n:=x5_1.length) (cap:=co46) 0 (x5_1) (rd_T30 x5_1 t133) (.agg #[.int .i64 (rd_T30 x5_1 t133).f0,.slice Ak_ (rd_T30 x5_1 t133).f1.length ck_]) [.int .i64 (rd_T30 x5_1 t133).f0,.slice Ak_ (rd_T30 x5_1 t133).f1.length ck_] cy_ (fun k_=>(w.heap.size≤k_)) (fun k_=>(w.heap.size≤k_)∧k_≠gv) rfl rfl rfl (by simp[Value.cells]) (by kernel_rfl) (by simp[Value.oneCell']) (Kd.N_drew HNf.out) (Int.le_refl _) (by have:=HL0_.out;omega) ly_ qy_ rfl Fk.out (fun _ h=>h) (Below.refl _ _) ?_
              clear qy_ zy_ Fy_ ly_
              intro ws11_ hn11_ hb11_ hg11_
              have HBg_ : Aside0 (w.heap.size ≤ gv) := ⟨Kd.N_base HNf.out gv rfl⟩
              have HNg_ : Aside0 (some g ≠ some gv) := ⟨IsS54.own_neN HI0.out HNf.out (by decide)⟩
              have F1:=Aside0.mk (Kd.FK_step F0.out (fun k_ hk hlt=>hg11_.block k_ hlt (fun he=>hk.2 (by injection he))))
              have HN11 := Aside0.mk hn11_
              have HI11 := Aside0.mk (IsS54.grown (IsS54.drew HI0.out) hg11_ HNg_.out)
              have HB11 := Aside0.mk ((Below.drew HB.out).trans (hb11_.mono HL.out))
              have HK11:=Aside0.mk (KeepBut.trans (keep_drew HK.out) (KeepBut.of_grown hg11_ g) (.inr ⟨gv,rfl,HBg_.out⟩))
              clear hn11_ hb11_ hg11_ F0 Fk HI0 HB HK HO_5 HNf hHeld x00 x01 xk0 xk1
              refine hK.out _ _ ?_
              clear hK K
              refine pure_ (i:=12) (N:=some 91) (v:=?_) (a':=?_) #[true,true,true,true,true,true,true,true,true,true,true,true,true,false] rfl rfl (by kernel_rfl) (fun _ _ _ h=>h) (Or.inl ⟨by rfl,?_⟩) ?_ ?_
              rotate_left
              · intro w'
                go_simp
                with_reducible rfl
              rotate_left
              · simp only [Act.put, List.setIfInBounds_toArray, List.set_cons_zero, List.set_cons_succ, i64_w, i32_w]
                rfl
              refine last_ (i:=13) (N:=none) #[true,true,true,true,true,true,true,true,true,true,true,true,true,true] rfl rfl (by kernel_rfl) (by decide) (fun K hK=>?_)
              obtain ⟨cy_,ly_,Fy_,qy_,zy_⟩:=Kd.N_elem HN11.out z30 t133 CS_.out.1 (by have:=CS_.out.2;(try rw[List.length_set]);omega)
              refine store_step k30 w.heap.size rfl rfl 30 (.tmp 91) (.tmp 89) rfl 30 (g:=gv) (n:=x5_1.length) (cap:=co46) t133 ((x5_1.set 0 (rd_T30 x5_1 t133))) (rd_T30 x5_1 0) (.agg #[.int .i64 (rd_T30 x5_1 0).f0,.slice A0_ (rd_T30 x5_1 0).f1.length c0_]) [.int .i64 (rd_T30 x5_1 0).f0,.slice A0_ (rd_T30 x5_1 0).f1.length c0_] cy_ (fun k_=>(w.heap.size≤k_)) (fun k_=>(w.heap.size≤k_)∧k_≠gv) rfl rfl rfl (by simp[Value.cells]) (by kernel_rfl) (by simp[Value.oneCell']) HN11.out CS_.out.1 (by have:=CS_.out.2;omega) ly_ qy_ rfl F1.out (fun _ h=>h) (Below.refl _ _) ?_
              clear qy_ zy_ Fy_ ly_
              intro ws13_ hn13_ hb13_ hg13_
              have HN2_ := Aside0.mk hn13_
              have HI2_ := Aside0.mk (IsS54.grown HI11.out hg13_ HNg_.out)
              have HB2_ := Aside0.mk (HB11.out.trans (hb13_.mono HL.out))
              have HK2_ := Aside0.mk (KeepBut.trans HK11.out (KeepBut.of_grown hg13_ g) (.inr ⟨gv, rfl, HBg_.out⟩))
              clear hn13_ hb13_ hg13_ HI11 HB11 HK11 HN11 F1
              refine hK.out _ _ ?_
              clear hK K
              refine done_ (by kernel_rfl) ?_
              go_wp2
              go_ret
              exact⟨_,by first|rfl|(simp[errW_none,errW_some] <;> rfl)|(simp[*,errW_none,errW_some] <;> rfl),HN2_.out,by repeat (first|(with_reducible first|exact HI2_.out|apply IsS54.alloc|apply IsS54.drewN|apply IsS54.drew|apply IsS54.set_1)|exact HI2_.out),by repeat (first|(with_reducible first|exact HB2_.out|apply below_alloc|apply pw_below_drewN|apply below_drew1|refine below_set ?_ (IsS54.ge HI0.out))|exact HB2_.out),by repeat (first|(with_reducible first|exact HK2_.out|apply KeepBut.set_|apply keep_drewN|apply keep_drew|apply keep_alloc)|exact HK2_.out)⟩
            · rw [if_neg cs_] at H
              exact absurd H (by simp)
          · rw [if_neg c44] at H
            have c44b0 : (t131 == 0) = false := beq_eq_false_iff_ne.mpr c44
            have c44b1 : (t131 != 0) = true := bne_iff_ne.mpr c44
            simp only [Option.some.injEq, Prod.mk.injEq] at H
            obtain ⟨rfl, rfl⟩ := H
            obtain ⟨Ao49, co49, eo49⟩ := Kd.S_slice HO_5.out
            subst eo49
            go_wp2_with (first|(go_at_call 17;(with_reducible refine(payrollgen_Tape_Next.calls g s0_0 x1001_1 2 t131 t132 w0 _ ?side1 ?side2 A43.out).mono ?_);(case side1=>repeat (first|(with_reducible first|exact HI0.out|apply IsS54.alloc|apply IsS54.drewN|apply IsS54.drew|apply IsS54.set_1)|exact HI0.out));(case side2=>repeat (first|(with_reducible first|exact HB.out|apply below_alloc|apply pw_below_drewN|apply below_drew1|refine below_set ?_ (IsS54.ge HI0.out))|exact HB.out));rintro e w50 ⟨rfl,hi,hb,hk⟩;have n0_:=Aside0.mk (Kd.S_mono (Kd.S_keep (IsS54.apartS (show IsS54 w0 _ g s0_0 x1001_1 from by repeat (first|(with_reducible first|exact HI0.out|apply IsS54.alloc|apply IsS54.drewN|apply IsS54.drew|apply IsS54.set_1)|exact HI0.out)) (by (with_reducible repeat (first|apply Kd.S_alloc|apply Kd.S_drewN|apply Kd.S_drew));exact HO_5.out) (by decide)) hk (fun _ h=>h.2)) (fun _ h=>h.1));have n1_:=Aside0.mk (KeepBut.trans (by repeat (first|(with_reducible first|exact HK.out|apply KeepBut.set_|apply keep_drewN|apply keep_drew|apply keep_alloc)|exact HK.out)) hk (.inl rfl));have n2_:=Aside0.mk (hb);have n3_:=Aside0.mk (hi);clear HO_5;clear HK;clear HB;clear HI0;have HO_5:=n0_;have HK:=n1_;have HB:=n2_;have HI0:=n3_;clear n0_ n1_ n2_ n3_;(try clear hb);(try clear hb2);(try clear hk);(try clear hi)))
            go_ret
            exact⟨_,by first|rfl|(simp[errW_none,errW_some] <;> rfl)|(simp[*,errW_none,errW_some] <;> rfl),by have hn_:=Kd.N_mono (Kd.S_N (Kd.S_bound HO_5.out)) (ok':=fun k_=>(w.heap.size≤k_)) (fun k_ hk=>hk.2.1);exact hn_,by repeat (first|(with_reducible first|exact HI0.out|apply IsS54.alloc|apply IsS54.drewN|apply IsS54.drew|apply IsS54.set_1)|exact HI0.out),by repeat (first|(with_reducible first|exact HB.out|apply below_alloc|apply pw_below_drewN|apply below_drew1|refine below_set ?_ (IsS54.ge HI0.out))|exact HB.out),by repeat (first|(with_reducible first|exact HK.out|apply KeepBut.set_|apply keep_drewN|apply keep_drew|apply keep_alloc)|exact HK.out)⟩
        · rw [if_neg c42] at H
          have c42b0 : decide (1 < (x5_1.length : Int)) = false := decide_eq_false c42
          have c42b1 : decide (1 < x5_1.length) = false := decide_eq_false (by omega)
          clear c42
          simp only [Option.some.injEq, Prod.mk.injEq] at H
          obtain ⟨rfl, rfl⟩ := H
          obtain ⟨Ao51, co51, eo51⟩ := Kd.S_slice HO_5.out
          subst eo51
          go_wp2
          go_ret
          exact⟨_,by first|rfl|(simp[errW_none,errW_some] <;> rfl)|(simp[*,errW_none,errW_some] <;> rfl),by have hn_:=Kd.N_mono (Kd.S_N (Kd.S_bound HO_5.out)) (ok':=fun k_=>(w.heap.size≤k_)) (fun k_ hk=>hk.2.1);exact hn_,by repeat (first|(with_reducible first|exact HI0.out|apply IsS54.alloc|apply IsS54.drewN|apply IsS54.drew|apply IsS54.set_1)|exact HI0.out),by repeat (first|(with_reducible first|exact HB.out|apply below_alloc|apply pw_below_drewN|apply below_drew1|refine below_set ?_ (IsS54.ge HI0.out))|exact HB.out),by repeat (first|(with_reducible first|exact HK.out|apply KeepBut.set_|apply keep_drewN|apply keep_drew|apply keep_alloc)|exact HK.out)⟩
def worktime_valid.f (a0_0 : Int) (a0_1 : Int) : Option (Bool) := if a0_0 ≥ 0 then (if a0_1 > a0_0 then (some (decide (a0_1 ≤ 120968640))) else (some false)) else (some false)
set_option maxHeartbeats 8000000 in
set_option maxRecDepth 100000 in
theorem worktime_valid.calls (a0_0 : Int) (a0_1 : Int) (r : Bool) (w : World) (h : worktime_valid.f a0_0 a0_1 = some r) :
    Calls Try.prog 19 #[.agg #[.int .i64 a0_0, .int .i64 a0_1]] w fun e w' => e = .returned (.bool r) ∧ Below w.heap.size w w' := by
  have hu41 := Try.underlying41
  have HB := Aside0.mk (Below.refl w.heap.size w)
  have H:(if a0_0 ≥ 0 then (if a0_1 > a0_0 then (some (decide (a0_1≤120968640))) else (some false)) else (some false)) = some r:=h
  clear h
  by_cases c2 : a0_0 ≥ 0
  · rw [if_pos c2] at H
    have c2b0 : decide (0 ≤ a0_0) = true := decide_eq_true c2
    clear c2
    by_cases c3 : a0_1 > a0_0
    · rw [if_pos c3] at H
      have c3b0 : decide (a0_0 < a0_1) = true := decide_eq_true c3
      clear c3
      obtain rfl := Option.some.inj H
      go_enter Try.func19, Try.ntmps19
      go_wp2_with (first|((with_reducible refine gate_dst (N:=1) rfl ?_);refine box_event ?hg (N:=1) ?hd (cs:=#[.int .i64 a0_0,.int .i64 a0_1]) (t:=41) ?hr ?_;(case hd=>rfl);(case hg=>rfl);(case hr=>first|(go_simp;done)|(go_simp;rfl));intro gb101 hg w4 hbox hb;have n0_:=Aside0.mk (below_step (by repeat (first|(with_reducible first|exact HB.out|apply below_alloc|apply pw_below_drewN|apply below_drew1)|exact HB.out)) hb);have n1_:=Aside0.mk (hbox);have n2_:=Aside0.mk ((by rw[hg];exact(below_size (by repeat (first|(with_reducible first|exact HB.out|apply below_alloc|apply pw_below_drewN|apply below_drew1)|exact HB.out))):w.heap.size≤gb101));have n3_:=Aside0.mk ((by rw[hg];exact(below_size (by repeat (first|(with_reducible first|exact HB.out|apply below_alloc|apply pw_below_drewN|apply below_drew1)|exact HB.out))):w.heap.size≤gb101));clear HB;have HB:=n0_;have BK101:=n1_;have GW101:=n2_;have GE101:=n3_;clear n0_ n1_ n2_ n3_;clear hb hbox hg;have hcz5_0:w4.cell? ⟨gb101,0,none⟩ = some (.int .i64 a0_0):=(blk_cell BK101.out 0).trans rfl;have hcz5_1:w4.cell? ⟨gb101,1,none⟩ = some (.int .i64 a0_1):=(blk_cell BK101.out 1).trans rfl;have hfz5_0:=blk_frozen BK101.out 0;have hfz5_1:=blk_frozen BK101.out 1))
      go_ret
      exact⟨by first|rfl|(simp[errW_none,errW_some] <;> rfl)|(simp[*,errW_none,errW_some] <;> rfl),by repeat (first|(with_reducible first|exact HB.out|apply below_alloc|apply pw_below_drewN|apply below_drew1|refine below_set ?_ GE101.out)|exact HB.out)⟩
    · rw [if_neg c3] at H
      have c3b0 : decide (a0_0 < a0_1) = false := decide_eq_false c3
      clear c3
      obtain rfl := Option.some.inj H
      go_enter Try.func19, Try.ntmps19
      go_wp2_with (first|((with_reducible refine gate_dst (N:=1) rfl ?_);refine box_event ?hg (N:=1) ?hd (cs:=#[.int .i64 a0_0,.int .i64 a0_1]) (t:=41) ?hr ?_;(case hd=>rfl);(case hg=>rfl);(case hr=>first|(go_simp;done)|(go_simp;rfl));intro gb101 hg w6 hbox hb;have n0_:=Aside0.mk (below_step (by repeat (first|(with_reducible first|exact HB.out|apply below_alloc|apply pw_below_drewN|apply below_drew1)|exact HB.out)) hb);have n1_:=Aside0.mk (hbox);have n2_:=Aside0.mk ((by rw[hg];exact(below_size (by repeat (first|(with_reducible first|exact HB.out|apply below_alloc|apply pw_below_drewN|apply below_drew1)|exact HB.out))):w.heap.size≤gb101));have n3_:=Aside0.mk ((by rw[hg];exact(below_size (by repeat (first|(with_reducible first|exact HB.out|apply below_alloc|apply pw_below_drewN|apply below_drew1)|exact HB.out))):w.heap.size≤gb101));clear HB;have HB:=n0_;have BK101:=n1_;have GW101:=n2_;have GE101:=n3_;clear n0_ n1_ n2_ n3_;clear hb hbox hg;have hcz7_0:w6.cell? ⟨gb101,0,none⟩ = some (.int .i64 a0_0):=(blk_cell BK101.out 0).trans rfl;have hcz7_1:w6.cell? ⟨gb101,1,none⟩ = some (.int .i64 a0_1):=(blk_cell BK101.out 1).trans rfl;have hfz7_0:=blk_frozen BK101.out 0;have hfz7_1:=blk_frozen BK101.out 1))
      go_ret
      exact⟨by first|rfl|(simp[errW_none,errW_some] <;> rfl)|(simp[*,errW_none,errW_some] <;> rfl),by repeat (first|(with_reducible first|exact HB.out|apply below_alloc|apply pw_below_drewN|apply below_drew1|refine below_set ?_ GE101.out)|exact HB.out)⟩
  · rw [if_neg c2] at H
    have c2b0 : decide (0 ≤ a0_0) = false := decide_eq_false c2
    clear c2
    obtain rfl := Option.some.inj H
    go_enter Try.func19, Try.ntmps19
    go_wp2_with (first|((with_reducible refine gate_dst (N:=1) rfl ?_);refine box_event ?hg (N:=1) ?hd (cs:=#[.int .i64 a0_0,.int .i64 a0_1]) (t:=41) ?hr ?_;(case hd=>rfl);(case hg=>rfl);(case hr=>first|(go_simp;done)|(go_simp;rfl));intro gb101 hg w8 hbox hb;have n0_:=Aside0.mk (below_step (by repeat (first|(with_reducible first|exact HB.out|apply below_alloc|apply pw_below_drewN|apply below_drew1)|exact HB.out)) hb);have n1_:=Aside0.mk (hbox);have n2_:=Aside0.mk ((by rw[hg];exact(below_size (by repeat (first|(with_reducible first|exact HB.out|apply below_alloc|apply pw_below_drewN|apply below_drew1)|exact HB.out))):w.heap.size≤gb101));have n3_:=Aside0.mk ((by rw[hg];exact(below_size (by repeat (first|(with_reducible first|exact HB.out|apply below_alloc|apply pw_below_drewN|apply below_drew1)|exact HB.out))):w.heap.size≤gb101));clear HB;have HB:=n0_;have BK101:=n1_;have GW101:=n2_;have GE101:=n3_;clear n0_ n1_ n2_ n3_;clear hb hbox hg;have hcz9_0:w8.cell? ⟨gb101,0,none⟩ = some (.int .i64 a0_0):=(blk_cell BK101.out 0).trans rfl;have hcz9_1:w8.cell? ⟨gb101,1,none⟩ = some (.int .i64 a0_1):=(blk_cell BK101.out 1).trans rfl;have hfz9_0:=blk_frozen BK101.out 0;have hfz9_1:=blk_frozen BK101.out 1))
    go_ret
    exact⟨by first|rfl|(simp[errW_none,errW_some] <;> rfl)|(simp[*,errW_none,errW_some] <;> rfl),by repeat (first|(with_reducible first|exact HB.out|apply below_alloc|apply pw_below_drewN|apply below_drew1|refine below_set ?_ GE101.out)|exact HB.out)⟩
end Go.Proofs.Ythdohkabcpdpdaa.M
