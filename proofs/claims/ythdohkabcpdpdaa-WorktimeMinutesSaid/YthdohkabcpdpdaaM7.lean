import Derived.Test.YthdohkabcpdpdaaM0
namespace Go.Proofs.Ythdohkabcpdpdaa.M
open Go.RowKit Go.Proofs.YthdohkabcpdpdaaW.PrintWords Go.Proofs.YthdohkabcpdpdaaW.PrintLast Go.Proofs.YthdohkabcpdpdaaW.PrintMore
attribute [local go_sem] max2_int min2_int max_two min_two max_three min_three max_four min_four   -- for this text's walks alone
set_option linter.unusedVariables false
set_option linter.unusedSimpArgs false
mutual
def worktime_Valid.j0 : Nat → Bool → Int → Int → Int → List (S60) → Option (Int)
  | 0, _, _, _, _, _ => none
  | k + 1, x26, x102000, x102001, x102002, x102003 => if x26 = true then (some 1) else (if x102001 = 0 then (if x102000 = 0 then (worktime_Valid.j1 k false x102000 x102001 x102002 x102003) else (worktime_Valid.j1 k true x102000 x102001 x102002 x102003)) else (if x102000 < 1 then (worktime_Valid.j1 k true x102000 x102001 x102002 x102003) else (worktime_Valid.j1 k (decide (x102000 > 60)) x102000 x102001 x102002 x102003)))
def worktime_Valid.j1 : Nat → Bool → Int → Int → Int → List (S60) → Option (Int)
  | 0, _, _, _, _, _ => none
  | k + 1, x49, x102000, x102001, x102002, x102003 => if x49 = true then (some 1) else (worktime_Valid.l0 k x102003 (x102003.length : Int) 0 x102000 x102001 x102002 x102003)
def worktime_Valid.l0 : Nat → List (S60) → Int → Int → Int → Int → Int → List (S60) → Option (Int)
  | 0, _, _, _, _, _, _, _ => none
  | k + 1, x51, x52, x53, x102000, x102001, x102002, x102003 => if x53 < x52 then (if 0 ≤ x53 then (if x53 < (x51.length : Int) then (if ((rd_T60 x51 x53).f0) < 0 then (worktime_Valid.j3 k x51 x52 x53 true x102000 x102001 x102002 x102003) else (if ((rd_T60 x51 x53).f0) > 1440 then (worktime_Valid.j3 k x51 x52 x53 true x102000 x102001 x102002 x102003) else (if ((rd_T60 x51 x53).f1) < 1 then (worktime_Valid.j3 k x51 x52 x53 true x102000 x102001 x102002 x102003) else (if ((rd_T60 x51 x53).f1) > 1440 then (worktime_Valid.j3 k x51 x52 x53 true x102000 x102001 x102002 x102003) else (if x53 > 0 then (if 0 ≤ (wrap64 (x53 - 1)) then (if (wrap64 (x53 - 1)) < (x102003.length : Int) then (if ((rd_T60 x51 x53).f0) ≤ ((rd_T60 x102003 (wrap64 (x53 - 1))).f0) then (worktime_Valid.j3 k x51 x52 x53 true x102000 x102001 x102002 x102003) else (worktime_Valid.j3 k x51 x52 x53 (decide (((rd_T60 x51 x53).f1) ≤ ((rd_T60 x102003 (wrap64 (x53 - 1))).f1))) x102000 x102001 x102002 x102003)) else (none)) else (none)) else (worktime_Valid.j3 k x51 x52 x53 false x102000 x102001 x102002 x102003)))))) else (none)) else (none)) else (some 0)
def worktime_Valid.j3 : Nat → List (S60) → Int → Int → Bool → Int → Int → Int → List (S60) → Option (Int)
  | 0, _, _, _, _, _, _, _, _ => none
  | k + 1, x51, x52, x53, x103, x102000, x102001, x102002, x102003 => if x103 = true then (some 1) else (worktime_Valid.l0 k x51 x52 (wrap64 (x53 + 1)) x102000 x102001 x102002 x102003)
end
def worktime_Valid.f (k : Nat) (a0_0 : Int) (a0_1 : Int) (a0_2 : Int) (l0_3 : List (S60)) : Option (Int) := if (l0_3.length : Int) > 16 then (some 3) else (if a0_1 < 0 then (worktime_Valid.j0 k true a0_0 a0_1 a0_2 l0_3) else (if a0_1 > 3 then (worktime_Valid.j0 k true a0_0 a0_1 a0_2 l0_3) else (if a0_2 < 0 then (worktime_Valid.j0 k true a0_0 a0_1 a0_2 l0_3) else (worktime_Valid.j0 k (decide (a0_2 > 120)) a0_0 a0_1 a0_2 l0_3))))
theorem worktime_Valid.mono_l : ∀ k, (∀ y0 y1 y2 y3 y4, LeO (worktime_Valid.j0 k y0 y1 y2 y3 y4) (worktime_Valid.j0 (k + 1) y0 y1 y2 y3 y4)) ∧ (∀ y0 y1 y2 y3 y4, LeO (worktime_Valid.j1 k y0 y1 y2 y3 y4) (worktime_Valid.j1 (k + 1) y0 y1 y2 y3 y4)) ∧ (∀ y0 y1 y2 y3 y4 y5 y6, LeO (worktime_Valid.l0 k y0 y1 y2 y3 y4 y5 y6) (worktime_Valid.l0 (k + 1) y0 y1 y2 y3 y4 y5 y6)) ∧ (∀ y0 y1 y2 y3 y4 y5 y6 y7, LeO (worktime_Valid.j3 k y0 y1 y2 y3 y4 y5 y6 y7) (worktime_Valid.j3 (k + 1) y0 y1 y2 y3 y4 y5 y6 y7))
  | 0 => ⟨fun _ _ _ _ _ r h => by simp [worktime_Valid.j0] at h, fun _ _ _ _ _ r h => by simp [worktime_Valid.j1] at h, fun _ _ _ _ _ _ _ r h => by simp [worktime_Valid.l0] at h, fun _ _ _ _ _ _ _ _ r h => by simp [worktime_Valid.j3] at h⟩
  | k + 1 => by
    obtain ⟨ih0, ih1, ih2, ih3⟩ := worktime_Valid.mono_l k
    refine ⟨?_, ?_, ?_, ?_⟩
    · intro y0 y1 y2 y3 y4
      unfold worktime_Valid.j0
      repeat' first
      | (with_reducible exact ih0 _ _ _ _ _)
      | (with_reducible exact ih1 _ _ _ _ _)
      | (with_reducible exact ih2 _ _ _ _ _ _ _)
      | (with_reducible exact ih3 _ _ _ _ _ _ _ _)
      | (with_reducible exact LeO.refl _)
      | (with_reducible exact LeO.none _)
      | (with_reducible refine LeO.ite ?_ ?_)
      | (with_reducible refine LeO.bind ?_ (fun _ => ?_))
      | exact ih0 _ _ _ _ _
      | exact ih1 _ _ _ _ _
      | exact ih2 _ _ _ _ _ _ _
      | exact ih3 _ _ _ _ _ _ _ _
      | exact LeO.none _
      | refine LeO.ite ?_ ?_
      | refine LeO.bind ?_ (fun _ => ?_)
    · intro y0 y1 y2 y3 y4
      unfold worktime_Valid.j1
      repeat' first
      | (with_reducible exact ih0 _ _ _ _ _)
      | (with_reducible exact ih1 _ _ _ _ _)
      | (with_reducible exact ih2 _ _ _ _ _ _ _)
      | (with_reducible exact ih3 _ _ _ _ _ _ _ _)
      | (with_reducible exact LeO.refl _)
      | (with_reducible exact LeO.none _)
      | (with_reducible refine LeO.ite ?_ ?_)
      | (with_reducible refine LeO.bind ?_ (fun _ => ?_))
      | exact ih0 _ _ _ _ _
      | exact ih1 _ _ _ _ _
      | exact ih2 _ _ _ _ _ _ _
      | exact ih3 _ _ _ _ _ _ _ _
      | exact LeO.none _
      | refine LeO.ite ?_ ?_
      | refine LeO.bind ?_ (fun _ => ?_)
    · intro y0 y1 y2 y3 y4 y5 y6
      unfold worktime_Valid.l0
      repeat' first
      | (with_reducible exact ih0 _ _ _ _ _)
      | (with_reducible exact ih1 _ _ _ _ _)
      | (with_reducible exact ih2 _ _ _ _ _ _ _)
      | (with_reducible exact ih3 _ _ _ _ _ _ _ _)
      | (with_reducible exact LeO.refl _)
      | (with_reducible exact LeO.none _)
      | (with_reducible refine LeO.ite ?_ ?_)
      | (with_reducible refine LeO.bind ?_ (fun _ => ?_))
      | exact ih0 _ _ _ _ _
      | exact ih1 _ _ _ _ _
      | exact ih2 _ _ _ _ _ _ _
      | exact ih3 _ _ _ _ _ _ _ _
      | exact LeO.none _
      | refine LeO.ite ?_ ?_
      | refine LeO.bind ?_ (fun _ => ?_)
    · intro y0 y1 y2 y3 y4 y5 y6 y7
      unfold worktime_Valid.j3
      repeat' first
      | (with_reducible exact ih0 _ _ _ _ _)
      | (with_reducible exact ih1 _ _ _ _ _)
      | (with_reducible exact ih2 _ _ _ _ _ _ _)
      | (with_reducible exact ih3 _ _ _ _ _ _ _ _)
      | (with_reducible exact LeO.refl _)
      | (with_reducible exact LeO.none _)
      | (with_reducible refine LeO.ite ?_ ?_)
      | (with_reducible refine LeO.bind ?_ (fun _ => ?_))
      | exact ih0 _ _ _ _ _
      | exact ih1 _ _ _ _ _
      | exact ih2 _ _ _ _ _ _ _
      | exact ih3 _ _ _ _ _ _ _ _
      | exact LeO.none _
      | refine LeO.ite ?_ ?_
      | refine LeO.bind ?_ (fun _ => ?_)
theorem worktime_Valid.mono : ∀ a0 a1 a2 a3 k, LeO (worktime_Valid.f k a0 a1 a2 a3) (worktime_Valid.f (k + 1) a0 a1 a2 a3) := by
  intro a0 a1 a2 a3 k
  obtain ⟨ih0, ih1, ih2, ih3⟩ := worktime_Valid.mono_l k
  unfold worktime_Valid.f
  repeat' first
      | (with_reducible exact ih0 _ _ _ _ _)
      | (with_reducible exact ih1 _ _ _ _ _)
      | (with_reducible exact ih2 _ _ _ _ _ _ _)
      | (with_reducible exact ih3 _ _ _ _ _ _ _ _)
      | (with_reducible exact LeO.refl _)
      | (with_reducible exact LeO.none _)
      | (with_reducible refine LeO.ite ?_ ?_)
      | (with_reducible refine LeO.bind ?_ (fun _ => ?_))
      | exact ih0 _ _ _ _ _
      | exact ih1 _ _ _ _ _
      | exact ih2 _ _ _ _ _ _ _
      | exact ih3 _ _ _ _ _ _ _ _
      | exact LeO.none _
      | refine LeO.ite ?_ ?_
      | refine LeO.bind ?_ (fun _ => ?_)
set_option maxHeartbeats 8000000 in
set_option maxRecDepth 100000 in
theorem worktime_Valid.calls (k : Nat) (a0_0 : Int) (a0_1 : Int) (a0_2 : Int) (A0_3 : Option Addr) (c0_3 : Nat) (l0_3 : List (S60)) (r : Int) (w : World) (hr0_3 : Kd.C k60 w A0_3 l0_3.length l0_3) (hc0_3 : l0_3.length ≤ c0_3) (h : worktime_Valid.f k a0_0 a0_1 a0_2 l0_3 = some r) :
    Calls Try.prog 23 #[.agg #[.int .i64 a0_0, .int .i64 a0_1, .int .i64 a0_2, .slice A0_3 l0_3.length c0_3]] w fun e w' => e = .returned (.int .i64 r) ∧ Below w.heap.size w w' := by
  have hu35 := Try.underlying35
  have hu60 := Try.underlying60
  have HR0_3 := Aside0.mk hr0_3
  have HC0_3 := Aside0.mk hc0_3
  clear hr0_3 hc0_3
  have HB := Aside0.mk (Below.refl w.heap.size w)
  have H:(if (l0_3.length:Int) > 16 then (some 3) else (if a0_1 < 0 then (worktime_Valid.j0 k true a0_0 a0_1 a0_2 l0_3) else (if a0_1 > 3 then (worktime_Valid.j0 k true a0_0 a0_1 a0_2 l0_3) else (if a0_2 < 0 then (worktime_Valid.j0 k true a0_0 a0_1 a0_2 l0_3) else (worktime_Valid.j0 k (decide (a0_2 > 120)) a0_0 a0_1 a0_2 l0_3))))) = some r:=h
  clear h
  by_cases c2 : (l0_3.length : Int) > 16
  · rw [if_pos c2] at H
    have c2b0 : decide (16 < (l0_3.length : Int)) = true := decide_eq_true c2
    have c2b1 : decide (16 < l0_3.length) = true := decide_eq_true (by omega)
    clear c2
    obtain rfl := Option.some.inj H
    go_enter Try.func23, Try.ntmps23
    go_wp2_with (first|((with_reducible refine gate_dst (N:=1) rfl ?_);refine box_event ?hg (N:=1) ?hd (cs:=#[.int .i64 a0_0,.int .i64 a0_1,.int .i64 a0_2,.slice A0_3 l0_3.length c0_3]) (t:=35) ?hr ?_;(case hd=>rfl);(case hg=>rfl);(case hr=>first|(go_simp;done)|(go_simp;rfl));intro gb101 hg w3 hbox hb;have n0_:=Aside0.mk (below_step (by repeat (first|(with_reducible first|exact HB.out|apply below_alloc|apply pw_below_drewN|apply below_drew1)|exact HB.out)) hb);have n1_:=Aside0.mk (hbox);have n2_:=Aside0.mk ((by rw[hg];exact(below_size (by repeat (first|(with_reducible first|exact HB.out|apply below_alloc|apply pw_below_drewN|apply below_drew1)|exact HB.out))):w.heap.size≤gb101));have n3_:=Aside0.mk ((by rw[hg];exact(below_size (by repeat (first|(with_reducible first|exact HB.out|apply below_alloc|apply pw_below_drewN|apply below_drew1)|exact HB.out))):w.heap.size≤gb101));clear HB;have HB:=n0_;have BK101:=n1_;have GW101:=n2_;have GE101:=n3_;clear n0_ n1_ n2_ n3_;clear hb hbox hg;have hcz4_0:w3.cell? ⟨gb101,0,none⟩ = some (.int .i64 a0_0):=(blk_cell BK101.out 0).trans rfl;have hcz4_1:w3.cell? ⟨gb101,1,none⟩ = some (.int .i64 a0_1):=(blk_cell BK101.out 1).trans rfl;have hcz4_2:w3.cell? ⟨gb101,2,none⟩ = some (.int .i64 a0_2):=(blk_cell BK101.out 2).trans rfl;have hcz4_3:w3.cell? ⟨gb101,3,none⟩ = some (.slice A0_3 l0_3.length c0_3):=(blk_cell BK101.out 3).trans rfl;have hfz4_0:=blk_frozen BK101.out 0;have hfz4_1:=blk_frozen BK101.out 1;have hfz4_2:=blk_frozen BK101.out 2;have hfz4_3:=blk_frozen BK101.out 3))
    repeat (go_quiet (first|((with_reducible refine gate_dst (N:=1) rfl ?_);refine box_event ?hg (N:=1) ?hd (cs:=#[.int .i64 a0_0,.int .i64 a0_1,.int .i64 a0_2,.slice A0_3 l0_3.length c0_3]) (t:=35) ?hr ?_;(case hd=>rfl);(case hg=>rfl);(case hr=>first|(go_simp;done)|(go_simp;rfl));intro gb101 hg w3 hbox hb;have n0_:=Aside0.mk (below_step (by repeat (first|(with_reducible first|exact HB.out|apply below_alloc|apply pw_below_drewN|apply below_drew1)|exact HB.out)) hb);have n1_:=Aside0.mk (hbox);have n2_:=Aside0.mk ((by rw[hg];exact(below_size (by repeat (first|(with_reducible first|exact HB.out|apply below_alloc|apply pw_below_drewN|apply below_drew1)|exact HB.out))):w.heap.size≤gb101));have n3_:=Aside0.mk ((by rw[hg];exact(below_size (by repeat (first|(with_reducible first|exact HB.out|apply below_alloc|apply pw_below_drewN|apply below_drew1)|exact HB.out))):w.heap.size≤gb101));clear HB;have HB:=n0_;have BK101:=n1_;have GW101:=n2_;have GE101:=n3_;clear n0_ n1_ n2_ n3_;clear hb hbox hg;have hcz4_0:w3.cell? ⟨gb101,0,none⟩ = some (.int .i64 a0_0):=(blk_cell BK101.out 0).trans rfl;have hcz4_1:w3.cell? ⟨gb101,1,none⟩ = some (.int .i64 a0_1):=(blk_cell BK101.out 1).trans rfl;have hcz4_2:w3.cell? ⟨gb101,2,none⟩ = some (.int .i64 a0_2):=(blk_cell BK101.out 2).trans rfl;have hcz4_3:w3.cell? ⟨gb101,3,none⟩ = some (.slice A0_3 l0_3.length c0_3):=(blk_cell BK101.out 3).trans rfl;have hfz4_0:=blk_frozen BK101.out 0;have hfz4_1:=blk_frozen BK101.out 1;have hfz4_2:=blk_frozen BK101.out 2;have hfz4_3:=blk_frozen BK101.out 3));try go_wp2_with (first|((with_reducible refine gate_dst (N:=1) rfl ?_);refine box_event ?hg (N:=1) ?hd (cs:=#[.int .i64 a0_0,.int .i64 a0_1,.int .i64 a0_2,.slice A0_3 l0_3.length c0_3]) (t:=35) ?hr ?_;(case hd=>rfl);(case hg=>rfl);(case hr=>first|(go_simp;done)|(go_simp;rfl));intro gb101 hg w3 hbox hb;have n0_:=Aside0.mk (below_step (by repeat (first|(with_reducible first|exact HB.out|apply below_alloc|apply pw_below_drewN|apply below_drew1)|exact HB.out)) hb);have n1_:=Aside0.mk (hbox);have n2_:=Aside0.mk ((by rw[hg];exact(below_size (by repeat (first|(with_reducible first|exact HB.out|apply below_alloc|apply pw_below_drewN|apply below_drew1)|exact HB.out))):w.heap.size≤gb101));have n3_:=Aside0.mk ((by rw[hg];exact(below_size (by repeat (first|(with_reducible first|exact HB.out|apply below_alloc|apply pw_below_drewN|apply below_drew1)|exact HB.out))):w.heap.size≤gb101));clear HB;have HB:=n0_;have BK101:=n1_;have GW101:=n2_;have GE101:=n3_;clear n0_ n1_ n2_ n3_;clear hb hbox hg;have hcz4_0:w3.cell? ⟨gb101,0,none⟩ = some (.int .i64 a0_0):=(blk_cell BK101.out 0).trans rfl;have hcz4_1:w3.cell? ⟨gb101,1,none⟩ = some (.int .i64 a0_1):=(blk_cell BK101.out 1).trans rfl;have hcz4_2:w3.cell? ⟨gb101,2,none⟩ = some (.int .i64 a0_2):=(blk_cell BK101.out 2).trans rfl;have hcz4_3:w3.cell? ⟨gb101,3,none⟩ = some (.slice A0_3 l0_3.length c0_3):=(blk_cell BK101.out 3).trans rfl;have hfz4_0:=blk_frozen BK101.out 0;have hfz4_1:=blk_frozen BK101.out 1;have hfz4_2:=blk_frozen BK101.out 2;have hfz4_3:=blk_frozen BK101.out 3)))
    go_ret
    exact⟨by first|rfl|(simp[errW_none,errW_some] <;> rfl)|(simp[*,errW_none,errW_some] <;> rfl),by repeat (first|(with_reducible first|exact HB.out|apply below_alloc|apply pw_below_drewN|apply below_drew1|refine below_set ?_ GE101.out)|exact HB.out)⟩
  · rw [if_neg c2] at H
    have c2b0 : decide (16 < (l0_3.length : Int)) = false := decide_eq_false c2
    have c2b1 : decide (16 < l0_3.length) = false := decide_eq_false (by omega)
    clear c2
    have HC5 := Aside0.mk H
    clear H
    go_enter Try.func23, Try.ntmps23
    go_upto_region 3 with (first|((with_reducible refine gate_dst (N:=1) rfl ?_);refine box_event ?hg (N:=1) ?hd (cs:=#[.int .i64 a0_0,.int .i64 a0_1,.int .i64 a0_2,.slice A0_3 l0_3.length c0_3]) (t:=35) ?hr ?_;(case hd=>rfl);(case hg=>rfl);(case hr=>first|(go_simp;done)|(go_simp;rfl));intro gb101 hg w6 hbox hb;have n0_:=Aside0.mk (below_step (by repeat (first|(with_reducible first|exact HB.out|apply below_alloc|apply pw_below_drewN|apply below_drew1)|exact HB.out)) hb);have n1_:=Aside0.mk (hbox);have n2_:=Aside0.mk ((by rw[hg];exact(below_size (by repeat (first|(with_reducible first|exact HB.out|apply below_alloc|apply pw_below_drewN|apply below_drew1)|exact HB.out))):w.heap.size≤gb101));have n3_:=Aside0.mk ((by rw[hg];exact(below_size (by repeat (first|(with_reducible first|exact HB.out|apply below_alloc|apply pw_below_drewN|apply below_drew1)|exact HB.out))):w.heap.size≤gb101));clear HB;have HB:=n0_;have BK101:=n1_;have GW101:=n2_;have GE101:=n3_;clear n0_ n1_ n2_ n3_;clear hb hbox hg;have hcz7_0:w6.cell? ⟨gb101,0,none⟩ = some (.int .i64 a0_0):=(blk_cell BK101.out 0).trans rfl;have hcz7_1:w6.cell? ⟨gb101,1,none⟩ = some (.int .i64 a0_1):=(blk_cell BK101.out 1).trans rfl;have hcz7_2:w6.cell? ⟨gb101,2,none⟩ = some (.int .i64 a0_2):=(blk_cell BK101.out 2).trans rfl;have hcz7_3:w6.cell? ⟨gb101,3,none⟩ = some (.slice A0_3 l0_3.length c0_3):=(blk_cell BK101.out 3).trans rfl;have hfz7_0:=blk_frozen BK101.out 0;have hfz7_1:=blk_frozen BK101.out 1;have hfz7_2:=blk_frozen BK101.out 2;have hfz7_3:=blk_frozen BK101.out 3))
    repeat (go_quiet (first|((with_reducible refine gate_dst (N:=1) rfl ?_);refine box_event ?hg (N:=1) ?hd (cs:=#[.int .i64 a0_0,.int .i64 a0_1,.int .i64 a0_2,.slice A0_3 l0_3.length c0_3]) (t:=35) ?hr ?_;(case hd=>rfl);(case hg=>rfl);(case hr=>first|(go_simp;done)|(go_simp;rfl));intro gb101 hg w6 hbox hb;have n0_:=Aside0.mk (below_step (by repeat (first|(with_reducible first|exact HB.out|apply below_alloc|apply pw_below_drewN|apply below_drew1)|exact HB.out)) hb);have n1_:=Aside0.mk (hbox);have n2_:=Aside0.mk ((by rw[hg];exact(below_size (by repeat (first|(with_reducible first|exact HB.out|apply below_alloc|apply pw_below_drewN|apply below_drew1)|exact HB.out))):w.heap.size≤gb101));have n3_:=Aside0.mk ((by rw[hg];exact(below_size (by repeat (first|(with_reducible first|exact HB.out|apply below_alloc|apply pw_below_drewN|apply below_drew1)|exact HB.out))):w.heap.size≤gb101));clear HB;have HB:=n0_;have BK101:=n1_;have GW101:=n2_;have GE101:=n3_;clear n0_ n1_ n2_ n3_;clear hb hbox hg;have hcz7_0:w6.cell? ⟨gb101,0,none⟩ = some (.int .i64 a0_0):=(blk_cell BK101.out 0).trans rfl;have hcz7_1:w6.cell? ⟨gb101,1,none⟩ = some (.int .i64 a0_1):=(blk_cell BK101.out 1).trans rfl;have hcz7_2:w6.cell? ⟨gb101,2,none⟩ = some (.int .i64 a0_2):=(blk_cell BK101.out 2).trans rfl;have hcz7_3:w6.cell? ⟨gb101,3,none⟩ = some (.slice A0_3 l0_3.length c0_3):=(blk_cell BK101.out 3).trans rfl;have hfz7_0:=blk_frozen BK101.out 0;have hfz7_1:=blk_frozen BK101.out 1;have hfz7_2:=blk_frozen BK101.out 2;have hfz7_3:=blk_frozen BK101.out 3));go_upto_region 3 with (first|((with_reducible refine gate_dst (N:=1) rfl ?_);refine box_event ?hg (N:=1) ?hd (cs:=#[.int .i64 a0_0,.int .i64 a0_1,.int .i64 a0_2,.slice A0_3 l0_3.length c0_3]) (t:=35) ?hr ?_;(case hd=>rfl);(case hg=>rfl);(case hr=>first|(go_simp;done)|(go_simp;rfl));intro gb101 hg w6 hbox hb;have n0_:=Aside0.mk (below_step (by repeat (first|(with_reducible first|exact HB.out|apply below_alloc|apply pw_below_drewN|apply below_drew1)|exact HB.out)) hb);have n1_:=Aside0.mk (hbox);have n2_:=Aside0.mk ((by rw[hg];exact(below_size (by repeat (first|(with_reducible first|exact HB.out|apply below_alloc|apply pw_below_drewN|apply below_drew1)|exact HB.out))):w.heap.size≤gb101));have n3_:=Aside0.mk ((by rw[hg];exact(below_size (by repeat (first|(with_reducible first|exact HB.out|apply below_alloc|apply pw_below_drewN|apply below_drew1)|exact HB.out))):w.heap.size≤gb101));clear HB;have HB:=n0_;have BK101:=n1_;have GW101:=n2_;have GE101:=n3_;clear n0_ n1_ n2_ n3_;clear hb hbox hg;have hcz7_0:w6.cell? ⟨gb101,0,none⟩ = some (.int .i64 a0_0):=(blk_cell BK101.out 0).trans rfl;have hcz7_1:w6.cell? ⟨gb101,1,none⟩ = some (.int .i64 a0_1):=(blk_cell BK101.out 1).trans rfl;have hcz7_2:w6.cell? ⟨gb101,2,none⟩ = some (.int .i64 a0_2):=(blk_cell BK101.out 2).trans rfl;have hcz7_3:w6.cell? ⟨gb101,3,none⟩ = some (.slice A0_3 l0_3.length c0_3):=(blk_cell BK101.out 3).trans rfl;have hfz7_0:=blk_frozen BK101.out 0;have hfz7_1:=blk_frozen BK101.out 1;have hfz7_2:=blk_frozen BK101.out 2;have hfz7_3:=blk_frozen BK101.out 3)))
    (try simp only [Act.put, List.setIfInBounds_toArray, List.set_cons_zero, List.set_cons_succ])
    go_cut [26] (fun v26 wc=>∃ (kq:Nat) (x26_4:Bool),v26 = .bool x26_4∧Aside0 (worktime_Valid.j0 kq x26_4 a0_0 a0_1 a0_2 l0_3 = some r)∧Aside0 (kq≤k)∧Aside0 (wc.heap[gb101]? = some (.cells #[.int .i64 a0_0,.int .i64 a0_1,.int .i64 a0_2,(.slice A0_3 l0_3.length c0_3)] 35 (0,0)))∧Aside0 (Below w.heap.size w wc))
    case first =>
      have H := HC5.out
      clear HC5
      by_cases c8 : a0_1 < 0
      · rw [if_pos c8] at H
        have c8b0 : decide (a0_1 < 0) = true := decide_eq_true c8
        clear c8
        (first | rw [c8b0] | (simp only [i64_w, i32_w]; rw [c8b0]) | skip)
        have H' := Aside0.mk H
        clear H
        have hcz9_0 : w6.cell? ⟨gb101, 0, none⟩ = some (.int .i64 a0_0) := (blk_cell BK101.out 0).trans rfl
        have hcz9_1 : w6.cell? ⟨gb101, 1, none⟩ = some (.int .i64 a0_1) := (blk_cell BK101.out 1).trans rfl
        have hcz9_2 : w6.cell? ⟨gb101, 2, none⟩ = some (.int .i64 a0_2) := (blk_cell BK101.out 2).trans rfl
        have hcz9_3:w6.cell? ⟨gb101,3,none⟩ = some (.slice A0_3 l0_3.length c0_3):=(blk_cell BK101.out 3).trans rfl
        have hfz9_0 := blk_frozen BK101.out 0
        have hfz9_1 := blk_frozen BK101.out 1
        have hfz9_2 := blk_frozen BK101.out 2
        have hfz9_3 := blk_frozen BK101.out 3
        go_wp2
        repeat (go_quiet (fail); try go_wp2)
        go_meet
        case rel=>exact⟨_,(true),(by first|rfl|(simp;done)|(simp[*];done)),H',⟨by first|omega|exact Nat.le_refl _⟩,⟨by (with_reducible repeat (first|refine blk_drewN ?_ _|refine blk_drew ?_|refine blk_alloc ?_ _));exact BK101.out⟩,⟨by repeat (first|(with_reducible first|exact HB.out|apply below_alloc|apply pw_below_drewN|apply below_drew1|refine below_set ?_ GE101.out)|exact HB.out)⟩⟩
      · rw [if_neg c8] at H
        have c8b0 : decide (a0_1 < 0) = false := decide_eq_false c8
        clear c8
        (first | rw [c8b0] | (simp only [i64_w, i32_w]; rw [c8b0]) | skip)
        by_cases c10 : a0_1 > 3
        · rw [if_pos c10] at H
          have c10b0 : decide (3 < a0_1) = true := decide_eq_true c10
          clear c10
          have H' := Aside0.mk H
          clear H
          have hcz11_0 : w6.cell? ⟨gb101, 0, none⟩ = some (.int .i64 a0_0) := (blk_cell BK101.out 0).trans rfl
          have hcz11_1 : w6.cell? ⟨gb101, 1, none⟩ = some (.int .i64 a0_1) := (blk_cell BK101.out 1).trans rfl
          have hcz11_2 : w6.cell? ⟨gb101, 2, none⟩ = some (.int .i64 a0_2) := (blk_cell BK101.out 2).trans rfl
          have hcz11_3:w6.cell? ⟨gb101,3,none⟩ = some (.slice A0_3 l0_3.length c0_3):=(blk_cell BK101.out 3).trans rfl
          have hfz11_0 := blk_frozen BK101.out 0
          have hfz11_1 := blk_frozen BK101.out 1
          have hfz11_2 := blk_frozen BK101.out 2
          have hfz11_3 := blk_frozen BK101.out 3
          go_wp2
          repeat (go_quiet (fail); try go_wp2)
          go_meet
          case rel=>exact⟨_,(true),(by first|rfl|(simp;done)|(simp[*];done)),H',⟨by first|omega|exact Nat.le_refl _⟩,⟨by (with_reducible repeat (first|refine blk_drewN ?_ _|refine blk_drew ?_|refine blk_alloc ?_ _));exact BK101.out⟩,⟨by repeat (first|(with_reducible first|exact HB.out|apply below_alloc|apply pw_below_drewN|apply below_drew1|refine below_set ?_ GE101.out)|exact HB.out)⟩⟩
        · rw [if_neg c10] at H
          have c10b0 : decide (3 < a0_1) = false := decide_eq_false c10
          clear c10
          by_cases c12 : a0_2 < 0
          · rw [if_pos c12] at H
            have c12b0 : decide (a0_2 < 0) = true := decide_eq_true c12
            clear c12
            have H' := Aside0.mk H
            clear H
            have hcz13_0 : w6.cell? ⟨gb101, 0, none⟩ = some (.int .i64 a0_0) := (blk_cell BK101.out 0).trans rfl
            have hcz13_1 : w6.cell? ⟨gb101, 1, none⟩ = some (.int .i64 a0_1) := (blk_cell BK101.out 1).trans rfl
            have hcz13_2 : w6.cell? ⟨gb101, 2, none⟩ = some (.int .i64 a0_2) := (blk_cell BK101.out 2).trans rfl
            have hcz13_3:w6.cell? ⟨gb101,3,none⟩ = some (.slice A0_3 l0_3.length c0_3):=(blk_cell BK101.out 3).trans rfl
            have hfz13_0 := blk_frozen BK101.out 0
            have hfz13_1 := blk_frozen BK101.out 1
            have hfz13_2 := blk_frozen BK101.out 2
            have hfz13_3 := blk_frozen BK101.out 3
            go_wp2
            repeat (go_quiet (fail); try go_wp2)
            go_meet
            case rel=>exact⟨_,(true),(by first|rfl|(simp;done)|(simp[*];done)),H',⟨by first|omega|exact Nat.le_refl _⟩,⟨by (with_reducible repeat (first|refine blk_drewN ?_ _|refine blk_drew ?_|refine blk_alloc ?_ _));exact BK101.out⟩,⟨by repeat (first|(with_reducible first|exact HB.out|apply below_alloc|apply pw_below_drewN|apply below_drew1|refine below_set ?_ GE101.out)|exact HB.out)⟩⟩
          · rw [if_neg c12] at H
            have c12b0 : decide (a0_2 < 0) = false := decide_eq_false c12
            clear c12
            have H' := Aside0.mk H
            clear H
            have hcz14_0 : w6.cell? ⟨gb101, 0, none⟩ = some (.int .i64 a0_0) := (blk_cell BK101.out 0).trans rfl
            have hcz14_1 : w6.cell? ⟨gb101, 1, none⟩ = some (.int .i64 a0_1) := (blk_cell BK101.out 1).trans rfl
            have hcz14_2 : w6.cell? ⟨gb101, 2, none⟩ = some (.int .i64 a0_2) := (blk_cell BK101.out 2).trans rfl
            have hcz14_3:w6.cell? ⟨gb101,3,none⟩ = some (.slice A0_3 l0_3.length c0_3):=(blk_cell BK101.out 3).trans rfl
            have hfz14_0 := blk_frozen BK101.out 0
            have hfz14_1 := blk_frozen BK101.out 1
            have hfz14_2 := blk_frozen BK101.out 2
            have hfz14_3 := blk_frozen BK101.out 3
            go_wp2
            repeat (go_quiet (fail); try go_wp2)
            go_meet
            case rel=>exact⟨_,(decide (a0_2 > 120)),(by first|rfl|(simp;done)|(simp[*];done)),H',⟨by first|omega|exact Nat.le_refl _⟩,⟨by (with_reducible repeat (first|refine blk_drewN ?_ _|refine blk_drew ?_|refine blk_alloc ?_ _));exact BK101.out⟩,⟨by repeat (first|(with_reducible first|exact HB.out|apply below_alloc|apply pw_below_drewN|apply below_drew1|refine below_set ?_ GE101.out)|exact HB.out)⟩⟩
    case rest =>
      clear HC5
      try clear c1
      try clear c2
      try clear c2b0
      try clear c2b1
      try clear p2
      try clear c8
      try clear c8b0
      try clear c10
      try clear c10b0
      try clear c12
      try clear c12b0
      try clear hcz11_0
      try clear hcz11_1
      try clear hcz11_2
      try clear hcz11_3
      try clear hcz13_0
      try clear hcz13_1
      try clear hcz13_2
      try clear hcz13_3
      try clear hcz14_0
      try clear hcz14_1
      try clear hcz14_2
      try clear hcz14_3
      try clear hcz4_0
      try clear hcz4_1
      try clear hcz4_2
      try clear hcz4_3
      try clear hcz7_0
      try clear hcz7_1
      try clear hcz7_2
      try clear hcz7_3
      try clear hcz9_0
      try clear hcz9_1
      try clear hcz9_2
      try clear hcz9_3
      try clear hfz11_0
      try clear hfz11_1
      try clear hfz11_2
      try clear hfz11_3
      try clear hfz13_0
      try clear hfz13_1
      try clear hfz13_2
      try clear hfz13_3
      try clear hfz14_0
      try clear hfz14_1
      try clear hfz14_2
      try clear hfz14_3
      try clear hfz4_0
      try clear hfz4_1
      try clear hfz4_2
      try clear hfz4_3
      try clear hfz7_0
      try clear hfz7_1
      try clear hfz7_2
      try clear hfz7_3
      try clear hfz9_0
      try clear hfz9_1
      try clear hfz9_2
      try clear hfz9_3
      obtain ⟨kq, x26_4, rfl, HA, HJ4, BK101, HB⟩ := hcut
      cases kq with
      | zero => exact absurd HA.out (by simp [worktime_Valid.j0])
      | succ kj4 =>
        have H := HA.out
        clear HA
        simp only [worktime_Valid.j0] at H
        by_cases c15 : x26_4 = true
        · subst c15
          have H1 : (some 1) = some r := by rw [if_pos rfl] at H; exact H
          clear H
          have H := H1
          clear H1
          obtain rfl := Option.some.inj H
          go_wp2
          repeat (go_quiet (fail); try go_wp2)
          go_ret
          exact⟨by first|rfl|(simp[errW_none,errW_some] <;> rfl)|(simp[*,errW_none,errW_some] <;> rfl),by repeat (first|(with_reducible first|exact HB.out|apply below_alloc|apply pw_below_drewN|apply below_drew1|refine below_set ?_ GE101.out)|exact HB.out)⟩
        · replace c15 := Bool.eq_false_iff.mpr c15
          subst c15
          have H1:(if a0_1 = 0 then (if a0_0 = 0 then (worktime_Valid.j1 kj4 false a0_0 a0_1 a0_2 l0_3) else (worktime_Valid.j1 kj4 true a0_0 a0_1 a0_2 l0_3)) else (if a0_0 < 1 then (worktime_Valid.j1 kj4 true a0_0 a0_1 a0_2 l0_3) else (worktime_Valid.j1 kj4 (decide (a0_0 > 60)) a0_0 a0_1 a0_2 l0_3))) = some r:=by rw[if_neg (show ¬ (false = true) by decide)] at H;exact H
          clear H
          have H := H1
          clear H1
          have HC16 := Aside0.mk H
          clear H
          go_upto_region 5 with (fail)
          repeat (go_quiet (fail); go_upto_region 5 with (fail))
          go_cut [49] (fun v49 wc=>∃ (kq:Nat) (x49_15:Bool),v49 = .bool x49_15∧Aside0 (worktime_Valid.j1 kq x49_15 a0_0 a0_1 a0_2 l0_3 = some r)∧Aside0 (kq≤kj4)∧Aside0 (wc.heap[gb101]? = some (.cells #[.int .i64 a0_0,.int .i64 a0_1,.int .i64 a0_2,(.slice A0_3 l0_3.length c0_3)] 35 (0,0)))∧Aside0 (Below w.heap.size w wc))
          case first =>
            have H := HC16.out
            clear HC16
            by_cases c17 : a0_1 = 0
            · rw [if_pos c17] at H
              have c17b0 : (a0_1 == 0) = true := beq_iff_eq.mpr c17
              have c17b1 : (a0_1 != 0) = false := bne_eq_false_iff_eq.mpr c17
              clear c17
              (first | rw [c17b0] | (simp only [i64_w, i32_w]; rw [c17b0]) | skip)
              by_cases c18 : a0_0 = 0
              · rw [if_pos c18] at H
                have c18b0 : (a0_0 == 0) = true := beq_iff_eq.mpr c18
                have c18b1 : (a0_0 != 0) = false := bne_eq_false_iff_eq.mpr c18
                clear c18
                have H' := Aside0.mk H
                clear H
                have hcz19_0 : wc.cell? ⟨gb101, 0, none⟩ = some (.int .i64 a0_0) := (blk_cell BK101.out 0).trans rfl
                have hcz19_1 : wc.cell? ⟨gb101, 1, none⟩ = some (.int .i64 a0_1) := (blk_cell BK101.out 1).trans rfl
                have hcz19_2 : wc.cell? ⟨gb101, 2, none⟩ = some (.int .i64 a0_2) := (blk_cell BK101.out 2).trans rfl
                have hcz19_3:wc.cell? ⟨gb101,3,none⟩ = some (.slice A0_3 l0_3.length c0_3):=(blk_cell BK101.out 3).trans rfl
                have hfz19_0 := blk_frozen BK101.out 0
                have hfz19_1 := blk_frozen BK101.out 1
                have hfz19_2 := blk_frozen BK101.out 2
                have hfz19_3 := blk_frozen BK101.out 3
                go_wp2
                repeat (go_quiet (fail); try go_wp2)
                go_meet
                case rel=>exact⟨_,(false),(by first|rfl|(simp;done)|(simp[*];done)),H',⟨by have:=HJ4.out;first|omega|exact Nat.le_refl _⟩,⟨by (with_reducible repeat (first|refine blk_drewN ?_ _|refine blk_drew ?_|refine blk_alloc ?_ _));exact BK101.out⟩,⟨by repeat (first|(with_reducible first|exact HB.out|apply below_alloc|apply pw_below_drewN|apply below_drew1|refine below_set ?_ GE101.out)|exact HB.out)⟩⟩
              · rw [if_neg c18] at H
                have c18b0 : (a0_0 == 0) = false := beq_eq_false_iff_ne.mpr c18
                have c18b1 : (a0_0 != 0) = true := bne_iff_ne.mpr c18
                have H' := Aside0.mk H
                clear H
                have hcz20_0 : wc.cell? ⟨gb101, 0, none⟩ = some (.int .i64 a0_0) := (blk_cell BK101.out 0).trans rfl
                have hcz20_1 : wc.cell? ⟨gb101, 1, none⟩ = some (.int .i64 a0_1) := (blk_cell BK101.out 1).trans rfl
                have hcz20_2 : wc.cell? ⟨gb101, 2, none⟩ = some (.int .i64 a0_2) := (blk_cell BK101.out 2).trans rfl
                have hcz20_3:wc.cell? ⟨gb101,3,none⟩ = some (.slice A0_3 l0_3.length c0_3):=(blk_cell BK101.out 3).trans rfl
                have hfz20_0 := blk_frozen BK101.out 0
                have hfz20_1 := blk_frozen BK101.out 1
                have hfz20_2 := blk_frozen BK101.out 2
                have hfz20_3 := blk_frozen BK101.out 3
                go_wp2
                repeat (go_quiet (fail); try go_wp2)
                go_meet
                case rel=>exact⟨_,(true),(by first|rfl|(simp;done)|(simp[*];done)),H',⟨by have:=HJ4.out;first|omega|exact Nat.le_refl _⟩,⟨by (with_reducible repeat (first|refine blk_drewN ?_ _|refine blk_drew ?_|refine blk_alloc ?_ _));exact BK101.out⟩,⟨by repeat (first|(with_reducible first|exact HB.out|apply below_alloc|apply pw_below_drewN|apply below_drew1|refine below_set ?_ GE101.out)|exact HB.out)⟩⟩
            · rw [if_neg c17] at H
              have c17b0 : (a0_1 == 0) = false := beq_eq_false_iff_ne.mpr c17
              have c17b1 : (a0_1 != 0) = true := bne_iff_ne.mpr c17
              (first | rw [c17b0] | (simp only [i64_w, i32_w]; rw [c17b0]) | skip)
              by_cases c21 : a0_0 < 1
              · rw [if_pos c21] at H
                have c21b0 : decide (a0_0 < 1) = true := decide_eq_true c21
                clear c21
                have H' := Aside0.mk H
                clear H
                have hcz22_0 : wc.cell? ⟨gb101, 0, none⟩ = some (.int .i64 a0_0) := (blk_cell BK101.out 0).trans rfl
                have hcz22_1 : wc.cell? ⟨gb101, 1, none⟩ = some (.int .i64 a0_1) := (blk_cell BK101.out 1).trans rfl
                have hcz22_2 : wc.cell? ⟨gb101, 2, none⟩ = some (.int .i64 a0_2) := (blk_cell BK101.out 2).trans rfl
                have hcz22_3:wc.cell? ⟨gb101,3,none⟩ = some (.slice A0_3 l0_3.length c0_3):=(blk_cell BK101.out 3).trans rfl
                have hfz22_0 := blk_frozen BK101.out 0
                have hfz22_1 := blk_frozen BK101.out 1
                have hfz22_2 := blk_frozen BK101.out 2
                have hfz22_3 := blk_frozen BK101.out 3
                go_wp2
                repeat (go_quiet (fail); try go_wp2)
                go_meet
                case rel=>exact⟨_,(true),(by first|rfl|(simp;done)|(simp[*];done)),H',⟨by have:=HJ4.out;first|omega|exact Nat.le_refl _⟩,⟨by (with_reducible repeat (first|refine blk_drewN ?_ _|refine blk_drew ?_|refine blk_alloc ?_ _));exact BK101.out⟩,⟨by repeat (first|(with_reducible first|exact HB.out|apply below_alloc|apply pw_below_drewN|apply below_drew1|refine below_set ?_ GE101.out)|exact HB.out)⟩⟩
              · rw [if_neg c21] at H
                have c21b0 : decide (a0_0 < 1) = false := decide_eq_false c21
                clear c21
                have H' := Aside0.mk H
                clear H
                have hcz23_0 : wc.cell? ⟨gb101, 0, none⟩ = some (.int .i64 a0_0) := (blk_cell BK101.out 0).trans rfl
                have hcz23_1 : wc.cell? ⟨gb101, 1, none⟩ = some (.int .i64 a0_1) := (blk_cell BK101.out 1).trans rfl
                have hcz23_2 : wc.cell? ⟨gb101, 2, none⟩ = some (.int .i64 a0_2) := (blk_cell BK101.out 2).trans rfl
                have hcz23_3:wc.cell? ⟨gb101,3,none⟩ = some (.slice A0_3 l0_3.length c0_3):=(blk_cell BK101.out 3).trans rfl
                have hfz23_0 := blk_frozen BK101.out 0
                have hfz23_1 := blk_frozen BK101.out 1
                have hfz23_2 := blk_frozen BK101.out 2
                have hfz23_3 := blk_frozen BK101.out 3
                go_wp2
                repeat (go_quiet (fail); try go_wp2)
                go_meet
                case rel=>exact⟨_,(decide (a0_0 > 60)),(by first|rfl|(simp;done)|(simp[*];done)),H',⟨by have:=HJ4.out;first|omega|exact Nat.le_refl _⟩,⟨by (with_reducible repeat (first|refine blk_drewN ?_ _|refine blk_drew ?_|refine blk_alloc ?_ _));exact BK101.out⟩,⟨by repeat (first|(with_reducible first|exact HB.out|apply below_alloc|apply pw_below_drewN|apply below_drew1|refine below_set ?_ GE101.out)|exact HB.out)⟩⟩
          case rest =>
            clear HC16
            try clear c1
            try clear c2
            try clear c2b0
            try clear c2b1
            try clear p2
            try clear c8
            try clear c8b0
            try clear c10
            try clear c10b0
            try clear c12
            try clear c12b0
            try clear c15
            try clear c17
            try clear c17b0
            try clear c17b1
            try clear c18
            try clear c18b0
            try clear c18b1
            try clear c21
            try clear c21b0
            try clear c23
            try clear hcz11_0
            try clear hcz11_1
            try clear hcz11_2
            try clear hcz11_3
            try clear hcz13_0
            try clear hcz13_1
            try clear hcz13_2
            try clear hcz13_3
            try clear hcz14_0
            try clear hcz14_1
            try clear hcz14_2
            try clear hcz14_3
            try clear hcz19_0
            try clear hcz19_1
            try clear hcz19_2
            try clear hcz19_3
            try clear hcz20_0
            try clear hcz20_1
            try clear hcz20_2
            try clear hcz20_3
            try clear hcz22_0
            try clear hcz22_1
            try clear hcz22_2
            try clear hcz22_3
            try clear hcz23_0
            try clear hcz23_1
            try clear hcz23_2
            try clear hcz23_3
            try clear hcz4_0
            try clear hcz4_1
            try clear hcz4_2
            try clear hcz4_3
            try clear hcz7_0
            try clear hcz7_1
            try clear hcz7_2
            try clear hcz7_3
            try clear hcz9_0
            try clear hcz9_1
            try clear hcz9_2
            try clear hcz9_3
            try clear hfz11_0
            try clear hfz11_1
            try clear hfz11_2
            try clear hfz11_3
            try clear hfz13_0
            try clear hfz13_1
            try clear hfz13_2
            try clear hfz13_3
            try clear hfz14_0
            try clear hfz14_1
            try clear hfz14_2
            try clear hfz14_3
            try clear hfz19_0
            try clear hfz19_1
            try clear hfz19_2
            try clear hfz19_3
            try clear hfz20_0
            try clear hfz20_1
            try clear hfz20_2
            try clear hfz20_3
            try clear hfz22_0
            try clear hfz22_1
            try clear hfz22_2
            try clear hfz22_3
            try clear hfz23_0
            try clear hfz23_1
            try clear hfz23_2
            try clear hfz23_3
            try clear hfz4_0
            try clear hfz4_1
            try clear hfz4_2
            try clear hfz4_3
            try clear hfz7_0
            try clear hfz7_1
            try clear hfz7_2
            try clear hfz7_3
            try clear hfz9_0
            try clear hfz9_1
            try clear hfz9_2
            try clear hfz9_3
            try clear p2
            obtain ⟨kq, x49_15, rfl, HA, HJ15, BK101, HB⟩ := hcut
            cases kq with
            | zero => exact absurd HA.out (by simp [worktime_Valid.j1])
            | succ kj15 =>
              have H := HA.out
              clear HA
              simp only [worktime_Valid.j1] at H
              by_cases c24 : x49_15 = true
              · subst c24
                have H1 : (some 1) = some r := by rw [if_pos rfl] at H; exact H
                clear H
                have H := H1
                clear H1
                obtain rfl := Option.some.inj H
                go_wp2
                repeat (go_quiet (fail); try go_wp2)
                go_ret
                exact⟨by first|rfl|(simp[errW_none,errW_some] <;> rfl)|(simp[*,errW_none,errW_some] <;> rfl),by repeat (first|(with_reducible first|exact HB.out|apply below_alloc|apply pw_below_drewN|apply below_drew1|refine below_set ?_ GE101.out)|exact HB.out)⟩
              · replace c24 := Bool.eq_false_iff.mpr c24
                subst c24
                have H1:(worktime_Valid.l0 kj15 l0_3 (l0_3.length:Int) 0 a0_0 a0_1 a0_2 l0_3) = some r:=by rw[if_neg (show ¬ (false = true) by decide)] at H;exact H
                clear H
                have H := H1
                clear H1
                have H' := Aside0.mk H
                clear H
                have hcz25_0 : wc.cell? ⟨gb101, 0, none⟩ = some (.int .i64 a0_0) := (blk_cell BK101.out 0).trans rfl
                have hcz25_1 : wc.cell? ⟨gb101, 1, none⟩ = some (.int .i64 a0_1) := (blk_cell BK101.out 1).trans rfl
                have hcz25_2 : wc.cell? ⟨gb101, 2, none⟩ = some (.int .i64 a0_2) := (blk_cell BK101.out 2).trans rfl
                have hcz25_3:wc.cell? ⟨gb101,3,none⟩ = some (.slice A0_3 l0_3.length c0_3):=(blk_cell BK101.out 3).trans rfl
                have hfz25_0 := blk_frozen BK101.out 0
                have hfz25_1 := blk_frozen BK101.out 1
                have hfz25_2 := blk_frozen BK101.out 2
                have hfz25_3 := blk_frozen BK101.out 3
                go_wp2
                repeat (go_quiet (fail); try go_wp2)
                go_loopg [53] kj15 (fun kq v53 w'=>∃ (x53_3:Int),v53 = .int .i64 x53_3∧Aside0 (worktime_Valid.l0 kq l0_3 (l0_3.length:Int) x53_3 a0_0 a0_1 a0_2 l0_3 = some r)∧Aside0 (kq≤kj15)∧Aside0 (w'.heap[gb101]? = some (.cells #[.int .i64 a0_0,.int .i64 a0_1,.int .i64 a0_2,(.slice A0_3 l0_3.length c0_3)] 35 (0,0)))∧Aside0 (Below w.heap.size w w'))
                case atStart=>exact⟨(0),(by first|rfl|(simp;done)|(simp[*];done)),H',⟨Nat.le_refl _⟩,⟨by (with_reducible repeat (first|refine blk_drewN ?_ _|refine blk_drew ?_|refine blk_alloc ?_ _));exact BK101.out⟩,⟨by repeat (first|(with_reducible first|exact HB.out|apply below_alloc|apply pw_below_drewN|apply below_drew1|refine below_set ?_ GE101.out)|exact HB.out)⟩⟩
                case round =>
                  clear H'
                  try clear c1
                  try clear c2
                  try clear c2b0
                  try clear c2b1
                  try clear p2
                  try clear c8
                  try clear c8b0
                  try clear c10
                  try clear c10b0
                  try clear c12
                  try clear c12b0
                  try clear c15
                  try clear c17
                  try clear c17b0
                  try clear c17b1
                  try clear c18
                  try clear c18b0
                  try clear c18b1
                  try clear c21
                  try clear c21b0
                  try clear c23
                  try clear c24
                  try clear hcz11_0
                  try clear hcz11_1
                  try clear hcz11_2
                  try clear hcz11_3
                  try clear hcz13_0
                  try clear hcz13_1
                  try clear hcz13_2
                  try clear hcz13_3
                  try clear hcz14_0
                  try clear hcz14_1
                  try clear hcz14_2
                  try clear hcz14_3
                  try clear hcz19_0
                  try clear hcz19_1
                  try clear hcz19_2
                  try clear hcz19_3
                  try clear hcz20_0
                  try clear hcz20_1
                  try clear hcz20_2
                  try clear hcz20_3
                  try clear hcz22_0
                  try clear hcz22_1
                  try clear hcz22_2
                  try clear hcz22_3
                  try clear hcz23_0
                  try clear hcz23_1
                  try clear hcz23_2
                  try clear hcz23_3
                  try clear hcz25_0
                  try clear hcz25_1
                  try clear hcz25_2
                  try clear hcz25_3
                  try clear hcz4_0
                  try clear hcz4_1
                  try clear hcz4_2
                  try clear hcz4_3
                  try clear hcz7_0
                  try clear hcz7_1
                  try clear hcz7_2
                  try clear hcz7_3
                  try clear hcz9_0
                  try clear hcz9_1
                  try clear hcz9_2
                  try clear hcz9_3
                  try clear hfz11_0
                  try clear hfz11_1
                  try clear hfz11_2
                  try clear hfz11_3
                  try clear hfz13_0
                  try clear hfz13_1
                  try clear hfz13_2
                  try clear hfz13_3
                  try clear hfz14_0
                  try clear hfz14_1
                  try clear hfz14_2
                  try clear hfz14_3
                  try clear hfz19_0
                  try clear hfz19_1
                  try clear hfz19_2
                  try clear hfz19_3
                  try clear hfz20_0
                  try clear hfz20_1
                  try clear hfz20_2
                  try clear hfz20_3
                  try clear hfz22_0
                  try clear hfz22_1
                  try clear hfz22_2
                  try clear hfz22_3
                  try clear hfz23_0
                  try clear hfz23_1
                  try clear hfz23_2
                  try clear hfz23_3
                  try clear hfz25_0
                  try clear hfz25_1
                  try clear hfz25_2
                  try clear hfz25_3
                  try clear hfz4_0
                  try clear hfz4_1
                  try clear hfz4_2
                  try clear hfz4_3
                  try clear hfz7_0
                  try clear hfz7_1
                  try clear hfz7_2
                  try clear hfz7_3
                  try clear hfz9_0
                  try clear hfz9_1
                  try clear hfz9_2
                  try clear hfz9_3
                  try clear p2
                  obtain ⟨x53_3, rfl, HA, HK3, BK101, HB⟩ := hrel
                  cases gk with
                  | zero => exact absurd HA.out (by simp [worktime_Valid.l0])
                  | succ k3 =>
                    have H := HA.out
                    clear HA
                    simp only [worktime_Valid.l0] at H
                    by_cases c26 : x53_3 < (l0_3.length : Int)
                    · rw [if_pos c26] at H
                      have c26b0 : decide (x53_3 < (l0_3.length : Int)) = true := decide_eq_true c26
                      clear c26
                      by_cases c27 : 0 ≤ x53_3
                      · rw [if_pos c27] at H
                        have c27b0 : decide (0 ≤ x53_3) = true := decide_eq_true c27
                        clear c27
                        by_cases c28 : x53_3 < (l0_3.length : Int)
                        · rw [if_pos c28] at H
                          have c28b0 : decide (x53_3 < (l0_3.length : Int)) = true := decide_eq_true c28
                          clear c28
                          have HC29 := Aside0.mk H
                          clear H
                          have p102:0≤(x53_3:Int):=of_decide_eq_true (by first|(with_reducible assumption)|assumption)
                          have q102:x53_3 < (l0_3.length:Int):=of_decide_eq_true (by first|(with_reducible assumption)|assumption)
                          obtain ⟨ad102, e102, hx102_0, hx102_1⟩ := at_T60 HR0_3.out x53_3 p102 q102
                          cases e102
                          replace hx102_0 := (HB.out.cell (World.block_lt_of_cell? w _ hx102_0)).trans hx102_0
                          replace hx102_1 := (HB.out.cell (World.block_lt_of_cell? w _ hx102_1)).trans hx102_1
                          replace p102 := eq_true p102
                          replace q102 := eq_true q102
                          go_upto_region 10 with (first|((with_reducible refine gate_dst (N:=4) rfl ?_);refine box_event ?hg (N:=4) ?hd (cs:=#[.int .i64 0,.int .i64 0]) (t:=60) ?hr ?_;(case hd=>rfl);(case hg=>rfl);(case hr=>first|(go_simp;done)|(go_simp;rfl));intro gb103 hg w30 hbox hb;have n0_:=Aside0.mk (blk_below (g:=gb101) (o:=.cells #[.int .i64 a0_0,.int .i64 a0_1,.int .i64 a0_2,.slice (some ad102) l0_3.length c0_3] 35 (0,0)) (by (with_reducible repeat (first|refine blk_drewN ?_ _|refine blk_drew ?_|refine blk_alloc ?_ _));exact BK101.out) hb);have n1_:=Aside0.mk (below_step (by repeat (first|(with_reducible first|exact HB.out|apply below_alloc|apply pw_below_drewN|apply below_drew1|refine below_set ?_ GE101.out)|exact HB.out)) hb);have n2_:=Aside0.mk (hbox);have n3_:=Aside0.mk ((by rw[hg];exact(below_size (by repeat (first|(with_reducible first|exact HB.out|apply below_alloc|apply pw_below_drewN|apply below_drew1|refine below_set ?_ GE101.out)|exact HB.out))):w.heap.size≤gb103));have n4_:=Aside0.mk ((by rw[hg];exact(below_size (by repeat (first|(with_reducible first|exact HB.out|apply below_alloc|apply pw_below_drewN|apply below_drew1|refine below_set ?_ GE101.out)|exact HB.out))):w.heap.size≤gb103));have n5_:=Aside0.mk ((by rw[hg];exact Nat.ne_of_lt (blk_lt (g:=gb101) (o:=.cells #[.int .i64 a0_0,.int .i64 a0_1,.int .i64 a0_2,.slice (some ad102) l0_3.length c0_3] 35 (0,0)) (by (with_reducible repeat (first|refine blk_drewN ?_ _|refine blk_drew ?_|refine blk_alloc ?_ _));exact BK101.out)):gb101≠gb103));have n6_:=Aside0.mk ((by rw[hg];exact Nat.ne_of_gt (blk_lt (g:=gb101) (o:=.cells #[.int .i64 a0_0,.int .i64 a0_1,.int .i64 a0_2,.slice (some ad102) l0_3.length c0_3] 35 (0,0)) (by (with_reducible repeat (first|refine blk_drewN ?_ _|refine blk_drew ?_|refine blk_alloc ?_ _));exact BK101.out)):gb103≠gb101));clear BK101;clear HB;have BK101:=n0_;have HB:=n1_;have BK103:=n2_;have GW103:=n3_;have GE103:=n4_;have NB101_103:=n5_;have NB103_101:=n6_;clear n0_ n1_ n2_ n3_ n4_ n5_ n6_;clear hb hbox hg;have hnb31:=NB103_101.out;have hnc31:=NB101_103.out;have hcz32_0:w30.cell? ⟨gb103,0,none⟩ = some (.int .i64 0):=(blk_cell BK103.out 0).trans rfl;have hcz32_1:w30.cell? ⟨gb103,1,none⟩ = some (.int .i64 0):=(blk_cell BK103.out 1).trans rfl;have hfz32_0:=blk_frozen BK103.out 0;have hfz32_1:=blk_frozen BK103.out 1))
                          repeat (go_quiet (first|((with_reducible refine gate_dst (N:=4) rfl ?_);refine box_event ?hg (N:=4) ?hd (cs:=#[.int .i64 0,.int .i64 0]) (t:=60) ?hr ?_;(case hd=>rfl);(case hg=>rfl);(case hr=>first|(go_simp;done)|(go_simp;rfl));intro gb103 hg w30 hbox hb;have n0_:=Aside0.mk (blk_below (g:=gb101) (o:=.cells #[.int .i64 a0_0,.int .i64 a0_1,.int .i64 a0_2,.slice (some ad102) l0_3.length c0_3] 35 (0,0)) (by (with_reducible repeat (first|refine blk_drewN ?_ _|refine blk_drew ?_|refine blk_alloc ?_ _));exact BK101.out) hb);have n1_:=Aside0.mk (below_step (by repeat (first|(with_reducible first|exact HB.out|apply below_alloc|apply pw_below_drewN|apply below_drew1|refine below_set ?_ GE101.out)|exact HB.out)) hb);have n2_:=Aside0.mk (hbox);have n3_:=Aside0.mk ((by rw[hg];exact(below_size (by repeat (first|(with_reducible first|exact HB.out|apply below_alloc|apply pw_below_drewN|apply below_drew1|refine below_set ?_ GE101.out)|exact HB.out))):w.heap.size≤gb103));have n4_:=Aside0.mk ((by rw[hg];exact(below_size (by repeat (first|(with_reducible first|exact HB.out|apply below_alloc|apply pw_below_drewN|apply below_drew1|refine below_set ?_ GE101.out)|exact HB.out))):w.heap.size≤gb103));have n5_:=Aside0.mk ((by rw[hg];exact Nat.ne_of_lt (blk_lt (g:=gb101) (o:=.cells #[.int .i64 a0_0,.int .i64 a0_1,.int .i64 a0_2,.slice (some ad102) l0_3.length c0_3] 35 (0,0)) (by (with_reducible repeat (first|refine blk_drewN ?_ _|refine blk_drew ?_|refine blk_alloc ?_ _));exact BK101.out)):gb101≠gb103));have n6_:=Aside0.mk ((by rw[hg];exact Nat.ne_of_gt (blk_lt (g:=gb101) (o:=.cells #[.int .i64 a0_0,.int .i64 a0_1,.int .i64 a0_2,.slice (some ad102) l0_3.length c0_3] 35 (0,0)) (by (with_reducible repeat (first|refine blk_drewN ?_ _|refine blk_drew ?_|refine blk_alloc ?_ _));exact BK101.out)):gb103≠gb101));clear BK101;clear HB;have BK101:=n0_;have HB:=n1_;have BK103:=n2_;have GW103:=n3_;have GE103:=n4_;have NB101_103:=n5_;have NB103_101:=n6_;clear n0_ n1_ n2_ n3_ n4_ n5_ n6_;clear hb hbox hg;have hnb31:=NB103_101.out;have hnc31:=NB101_103.out;have hcz32_0:w30.cell? ⟨gb103,0,none⟩ = some (.int .i64 0):=(blk_cell BK103.out 0).trans rfl;have hcz32_1:w30.cell? ⟨gb103,1,none⟩ = some (.int .i64 0):=(blk_cell BK103.out 1).trans rfl;have hfz32_0:=blk_frozen BK103.out 0;have hfz32_1:=blk_frozen BK103.out 1));go_upto_region 10 with (first|((with_reducible refine gate_dst (N:=4) rfl ?_);refine box_event ?hg (N:=4) ?hd (cs:=#[.int .i64 0,.int .i64 0]) (t:=60) ?hr ?_;(case hd=>rfl);(case hg=>rfl);(case hr=>first|(go_simp;done)|(go_simp;rfl));intro gb103 hg w30 hbox hb;have n0_:=Aside0.mk (blk_below (g:=gb101) (o:=.cells #[.int .i64 a0_0,.int .i64 a0_1,.int .i64 a0_2,.slice (some ad102) l0_3.length c0_3] 35 (0,0)) (by (with_reducible repeat (first|refine blk_drewN ?_ _|refine blk_drew ?_|refine blk_alloc ?_ _));exact BK101.out) hb);have n1_:=Aside0.mk (below_step (by repeat (first|(with_reducible first|exact HB.out|apply below_alloc|apply pw_below_drewN|apply below_drew1|refine below_set ?_ GE101.out)|exact HB.out)) hb);have n2_:=Aside0.mk (hbox);have n3_:=Aside0.mk ((by rw[hg];exact(below_size (by repeat (first|(with_reducible first|exact HB.out|apply below_alloc|apply pw_below_drewN|apply below_drew1|refine below_set ?_ GE101.out)|exact HB.out))):w.heap.size≤gb103));have n4_:=Aside0.mk ((by rw[hg];exact(below_size (by repeat (first|(with_reducible first|exact HB.out|apply below_alloc|apply pw_below_drewN|apply below_drew1|refine below_set ?_ GE101.out)|exact HB.out))):w.heap.size≤gb103));have n5_:=Aside0.mk ((by rw[hg];exact Nat.ne_of_lt (blk_lt (g:=gb101) (o:=.cells #[.int .i64 a0_0,.int .i64 a0_1,.int .i64 a0_2,.slice (some ad102) l0_3.length c0_3] 35 (0,0)) (by (with_reducible repeat (first|refine blk_drewN ?_ _|refine blk_drew ?_|refine blk_alloc ?_ _));exact BK101.out)):gb101≠gb103));have n6_:=Aside0.mk ((by rw[hg];exact Nat.ne_of_gt (blk_lt (g:=gb101) (o:=.cells #[.int .i64 a0_0,.int .i64 a0_1,.int .i64 a0_2,.slice (some ad102) l0_3.length c0_3] 35 (0,0)) (by (with_reducible repeat (first|refine blk_drewN ?_ _|refine blk_drew ?_|refine blk_alloc ?_ _));exact BK101.out)):gb103≠gb101));clear BK101;clear HB;have BK101:=n0_;have HB:=n1_;have BK103:=n2_;have GW103:=n3_;have GE103:=n4_;have NB101_103:=n5_;have NB103_101:=n6_;clear n0_ n1_ n2_ n3_ n4_ n5_ n6_;clear hb hbox hg;have hnb31:=NB103_101.out;have hnc31:=NB101_103.out;have hcz32_0:w30.cell? ⟨gb103,0,none⟩ = some (.int .i64 0):=(blk_cell BK103.out 0).trans rfl;have hcz32_1:w30.cell? ⟨gb103,1,none⟩ = some (.int .i64 0):=(blk_cell BK103.out 1).trans rfl;have hfz32_0:=blk_frozen BK103.out 0;have hfz32_1:=blk_frozen BK103.out 1)))
                          (try simp only [Act.put, List.setIfInBounds_toArray, List.set_cons_zero, List.set_cons_succ])
                          go_cut [103] (fun v103 wc=>∃ (kq:Nat) (x103_28:Bool),v103 = .bool x103_28∧Aside0 (worktime_Valid.j3 kq l0_3 (l0_3.length:Int) x53_3 x103_28 a0_0 a0_1 a0_2 l0_3 = some r)∧Aside0 (kq≤k3)∧Aside0 (wc.heap[gb101]? = some (.cells #[.int .i64 a0_0,.int .i64 a0_1,.int .i64 a0_2,(.slice (some ad102) l0_3.length c0_3)] 35 (0,0)))∧Aside0 (wc.heap[gb103]? = some (.cells #[.int .i64 ((rd_T60 l0_3 x53_3).f0),.int .i64 ((rd_T60 l0_3 x53_3).f1)] 60 (0,0)))∧Aside0 (Below w.heap.size w wc))
                          case first =>
                            have H := HC29.out
                            clear HC29
                            by_cases c33 : ((rd_T60 l0_3 x53_3).f0) < 0
                            · rw [if_pos c33] at H
                              have c33b0 : decide (((rd_T60 l0_3 x53_3).f0) < 0) = true := decide_eq_true c33
                              clear c33
                              (first | rw [c33b0] | (simp only [i64_w, i32_w]; rw [c33b0]) | skip)
                              have H' := Aside0.mk H
                              clear H
                              have hnb34 := NB103_101.out
                              have hnc34 := NB101_103.out
                              have hcz35_0:w30.cell? ⟨gb103,0,none⟩ = some (.int .i64 0):=(blk_cell BK103.out 0).trans rfl
                              have hcz35_1:w30.cell? ⟨gb103,1,none⟩ = some (.int .i64 0):=(blk_cell BK103.out 1).trans rfl
                              have hfz35_0 := blk_frozen BK103.out 0
                              have hfz35_1 := blk_frozen BK103.out 1
                              go_wp2
                              repeat (go_quiet (fail); try go_wp2)
                              go_meet
                              case rel=>exact⟨_,(true),(by first|rfl|(simp;done)|(simp[*];done)),H',⟨by have:=HJ4.out;have:=HJ15.out;have:=HK3.out;first|omega|exact Nat.le_refl _⟩,⟨by (with_reducible repeat (first|refine blk_drewN ?_ _|refine blk_drew ?_|refine blk_alloc ?_ _));refine blk_far ?_ NB101_103.out _;(with_reducible repeat (first|refine blk_drewN ?_ _|refine blk_drew ?_|refine blk_alloc ?_ _));refine blk_far ?_ NB101_103.out _;(with_reducible repeat (first|refine blk_drewN ?_ _|refine blk_drew ?_|refine blk_alloc ?_ _));exact BK101.out⟩,⟨by (with_reducible repeat (first|refine blk_drewN ?_ _|refine blk_drew ?_|refine blk_alloc ?_ _));refine blk_put (cs:=#[.int .i64 ((rd_T60 l0_3 x53_3).f0),.int .i64 0]) ?_ 1 _ rfl;(with_reducible repeat (first|refine blk_drewN ?_ _|refine blk_drew ?_|refine blk_alloc ?_ _));refine blk_put (cs:=#[.int .i64 0,.int .i64 0]) ?_ 0 _ rfl;(with_reducible repeat (first|refine blk_drewN ?_ _|refine blk_drew ?_|refine blk_alloc ?_ _));exact BK103.out⟩,⟨by repeat (first|(with_reducible first|exact HB.out|apply below_alloc|apply pw_below_drewN|apply below_drew1|refine below_set ?_ GE101.out|refine below_set ?_ GE103.out)|exact HB.out)⟩⟩
                            · rw [if_neg c33] at H
                              have c33b0 : decide (((rd_T60 l0_3 x53_3).f0) < 0) = false := decide_eq_false c33
                              clear c33
                              (first | rw [c33b0] | (simp only [i64_w, i32_w]; rw [c33b0]) | skip)
                              by_cases c36 : ((rd_T60 l0_3 x53_3).f0) > 1440
                              · rw [if_pos c36] at H
                                have c36b0 : decide (1440 < ((rd_T60 l0_3 x53_3).f0)) = true := decide_eq_true c36
                                clear c36
                                have H' := Aside0.mk H
                                clear H
                                have hnb37 := NB103_101.out
                                have hnc37 := NB101_103.out
                                have hcz38_0:w30.cell? ⟨gb103,0,none⟩ = some (.int .i64 0):=(blk_cell BK103.out 0).trans rfl
                                have hcz38_1:w30.cell? ⟨gb103,1,none⟩ = some (.int .i64 0):=(blk_cell BK103.out 1).trans rfl
                                have hfz38_0 := blk_frozen BK103.out 0
                                have hfz38_1 := blk_frozen BK103.out 1
                                go_wp2
                                repeat (go_quiet (fail); try go_wp2)
                                go_meet
                                case rel=>exact⟨_,(true),(by first|rfl|(simp;done)|(simp[*];done)),H',⟨by have:=HJ4.out;have:=HJ15.out;have:=HK3.out;first|omega|exact Nat.le_refl _⟩,⟨by (with_reducible repeat (first|refine blk_drewN ?_ _|refine blk_drew ?_|refine blk_alloc ?_ _));refine blk_far ?_ NB101_103.out _;(with_reducible repeat (first|refine blk_drewN ?_ _|refine blk_drew ?_|refine blk_alloc ?_ _));refine blk_far ?_ NB101_103.out _;(with_reducible repeat (first|refine blk_drewN ?_ _|refine blk_drew ?_|refine blk_alloc ?_ _));exact BK101.out⟩,⟨by (with_reducible repeat (first|refine blk_drewN ?_ _|refine blk_drew ?_|refine blk_alloc ?_ _));refine blk_put (cs:=#[.int .i64 ((rd_T60 l0_3 x53_3).f0),.int .i64 0]) ?_ 1 _ rfl;(with_reducible repeat (first|refine blk_drewN ?_ _|refine blk_drew ?_|refine blk_alloc ?_ _));refine blk_put (cs:=#[.int .i64 0,.int .i64 0]) ?_ 0 _ rfl;(with_reducible repeat (first|refine blk_drewN ?_ _|refine blk_drew ?_|refine blk_alloc ?_ _));exact BK103.out⟩,⟨by repeat (first|(with_reducible first|exact HB.out|apply below_alloc|apply pw_below_drewN|apply below_drew1|refine below_set ?_ GE101.out|refine below_set ?_ GE103.out)|exact HB.out)⟩⟩
                              · rw [if_neg c36] at H
                                have c36b0 : decide (1440 < ((rd_T60 l0_3 x53_3).f0)) = false := decide_eq_false c36
                                clear c36
                                by_cases c39 : ((rd_T60 l0_3 x53_3).f1) < 1
                                · rw [if_pos c39] at H
                                  have c39b0 : decide (((rd_T60 l0_3 x53_3).f1) < 1) = true := decide_eq_true c39
                                  clear c39
                                  have H' := Aside0.mk H
                                  clear H
                                  have hnb40 := NB103_101.out
                                  have hnc40 := NB101_103.out
                                  have hcz41_0:w30.cell? ⟨gb103,0,none⟩ = some (.int .i64 0):=(blk_cell BK103.out 0).trans rfl
                                  have hcz41_1:w30.cell? ⟨gb103,1,none⟩ = some (.int .i64 0):=(blk_cell BK103.out 1).trans rfl
                                  have hfz41_0 := blk_frozen BK103.out 0
                                  have hfz41_1 := blk_frozen BK103.out 1
                                  go_wp2
                                  repeat (go_quiet (fail); try go_wp2)
                                  go_meet
                                  case rel=>exact⟨_,(true),(by first|rfl|(simp;done)|(simp[*];done)),H',⟨by have:=HJ4.out;have:=HJ15.out;have:=HK3.out;first|omega|exact Nat.le_refl _⟩,⟨by (with_reducible repeat (first|refine blk_drewN ?_ _|refine blk_drew ?_|refine blk_alloc ?_ _));refine blk_far ?_ NB101_103.out _;(with_reducible repeat (first|refine blk_drewN ?_ _|refine blk_drew ?_|refine blk_alloc ?_ _));refine blk_far ?_ NB101_103.out _;(with_reducible repeat (first|refine blk_drewN ?_ _|refine blk_drew ?_|refine blk_alloc ?_ _));exact BK101.out⟩,⟨by (with_reducible repeat (first|refine blk_drewN ?_ _|refine blk_drew ?_|refine blk_alloc ?_ _));refine blk_put (cs:=#[.int .i64 ((rd_T60 l0_3 x53_3).f0),.int .i64 0]) ?_ 1 _ rfl;(with_reducible repeat (first|refine blk_drewN ?_ _|refine blk_drew ?_|refine blk_alloc ?_ _));refine blk_put (cs:=#[.int .i64 0,.int .i64 0]) ?_ 0 _ rfl;(with_reducible repeat (first|refine blk_drewN ?_ _|refine blk_drew ?_|refine blk_alloc ?_ _));exact BK103.out⟩,⟨by repeat (first|(with_reducible first|exact HB.out|apply below_alloc|apply pw_below_drewN|apply below_drew1|refine below_set ?_ GE101.out|refine below_set ?_ GE103.out)|exact HB.out)⟩⟩
                                · rw [if_neg c39] at H
                                  have c39b0 : decide (((rd_T60 l0_3 x53_3).f1) < 1) = false := decide_eq_false c39
                                  clear c39
                                  by_cases c42 : ((rd_T60 l0_3 x53_3).f1) > 1440
                                  · rw [if_pos c42] at H
                                    have c42b0 : decide (1440 < ((rd_T60 l0_3 x53_3).f1)) = true := decide_eq_true c42
                                    clear c42
                                    have H' := Aside0.mk H
                                    clear H
                                    have hnb43 := NB103_101.out
                                    have hnc43 := NB101_103.out
                                    have hcz44_0:w30.cell? ⟨gb103,0,none⟩ = some (.int .i64 0):=(blk_cell BK103.out 0).trans rfl
                                    have hcz44_1:w30.cell? ⟨gb103,1,none⟩ = some (.int .i64 0):=(blk_cell BK103.out 1).trans rfl
                                    have hfz44_0 := blk_frozen BK103.out 0
                                    have hfz44_1 := blk_frozen BK103.out 1
                                    go_wp2
                                    repeat (go_quiet (fail); try go_wp2)
                                    go_meet
                                    case rel=>exact⟨_,(true),(by first|rfl|(simp;done)|(simp[*];done)),H',⟨by have:=HJ4.out;have:=HJ15.out;have:=HK3.out;first|omega|exact Nat.le_refl _⟩,⟨by (with_reducible repeat (first|refine blk_drewN ?_ _|refine blk_drew ?_|refine blk_alloc ?_ _));refine blk_far ?_ NB101_103.out _;(with_reducible repeat (first|refine blk_drewN ?_ _|refine blk_drew ?_|refine blk_alloc ?_ _));refine blk_far ?_ NB101_103.out _;(with_reducible repeat (first|refine blk_drewN ?_ _|refine blk_drew ?_|refine blk_alloc ?_ _));exact BK101.out⟩,⟨by (with_reducible repeat (first|refine blk_drewN ?_ _|refine blk_drew ?_|refine blk_alloc ?_ _));refine blk_put (cs:=#[.int .i64 ((rd_T60 l0_3 x53_3).f0),.int .i64 0]) ?_ 1 _ rfl;(with_reducible repeat (first|refine blk_drewN ?_ _|refine blk_drew ?_|refine blk_alloc ?_ _));refine blk_put (cs:=#[.int .i64 0,.int .i64 0]) ?_ 0 _ rfl;(with_reducible repeat (first|refine blk_drewN ?_ _|refine blk_drew ?_|refine blk_alloc ?_ _));exact BK103.out⟩,⟨by repeat (first|(with_reducible first|exact HB.out|apply below_alloc|apply pw_below_drewN|apply below_drew1|refine below_set ?_ GE101.out|refine below_set ?_ GE103.out)|exact HB.out)⟩⟩
                                  · rw [if_neg c42] at H
                                    have c42b0 : decide (1440 < ((rd_T60 l0_3 x53_3).f1)) = false := decide_eq_false c42
                                    clear c42
                                    by_cases c45 : x53_3 > 0
                                    · rw [if_pos c45] at H
                                      have c45b0 : decide (0 < x53_3) = true := decide_eq_true c45
                                      clear c45
                                      obtain ⟨ji46, hji46⟩ : ∃ j_ : Int, (wrap64 (x53_3 - 1)) = j_ := ⟨_, rfl⟩
                                      replace H:(if 0≤(ji46) then (if (ji46) < (l0_3.length:Int) then (if ((rd_T60 l0_3 x53_3).f0)≤((rd_T60 l0_3 (ji46)).f0) then (worktime_Valid.j3 k3 l0_3 (l0_3.length:Int) x53_3 true a0_0 a0_1 a0_2 l0_3) else (worktime_Valid.j3 k3 l0_3 (l0_3.length:Int) x53_3 (decide (((rd_T60 l0_3 x53_3).f1)≤((rd_T60 l0_3 (ji46)).f1))) a0_0 a0_1 a0_2 l0_3)) else (none)) else (none)) = some r:=by first|(rw[hji46] at H;exact H)|(simp only[hji46] at H ⊢;exact H)
                                      have hji46w : (IntKind.i64.wrap (x53_3 - 1)) = ji46 := (i64_w _).trans hji46
                                      by_cases c47 : 0 ≤ (ji46)
                                      · rw [if_pos c47] at H
                                        have c47b0 : decide (0 ≤ (ji46)) = true := decide_eq_true c47
                                        clear c47
                                        by_cases c48 : (ji46) < (l0_3.length : Int)
                                        · rw [if_pos c48] at H
                                          have c48b0:decide ((ji46) < (l0_3.length:Int)) = true:=decide_eq_true c48
                                          clear c48
                                          by_cases c49 : ((rd_T60 l0_3 x53_3).f0) ≤ ((rd_T60 l0_3 (ji46)).f0)
                                          · rw [if_pos c49] at H
                                            have c49b0:decide (((rd_T60 l0_3 x53_3).f0)≤((rd_T60 l0_3 (ji46)).f0)) = true:=decide_eq_true c49
                                            clear c49
                                            have H' := Aside0.mk H
                                            clear H
                                            have hnb50 := NB103_101.out
                                            have hnc50 := NB101_103.out
                                            have hcz51_0:w30.cell? ⟨gb103,0,none⟩ = some (.int .i64 0):=(blk_cell BK103.out 0).trans rfl
                                            have hcz51_1:w30.cell? ⟨gb103,1,none⟩ = some (.int .i64 0):=(blk_cell BK103.out 1).trans rfl
                                            have hfz51_0 := blk_frozen BK103.out 0
                                            have hfz51_1 := blk_frozen BK103.out 1
                                            have hcz52_0:w30.cell? ⟨gb101,0,none⟩ = some (.int .i64 a0_0):=(blk_cell BK101.out 0).trans rfl
                                            have hcz52_1:w30.cell? ⟨gb101,1,none⟩ = some (.int .i64 a0_1):=(blk_cell BK101.out 1).trans rfl
                                            have hcz52_2:w30.cell? ⟨gb101,2,none⟩ = some (.int .i64 a0_2):=(blk_cell BK101.out 2).trans rfl
                                            have hcz52_3:w30.cell? ⟨gb101,3,none⟩ = some (.slice (some ad102) l0_3.length c0_3):=(blk_cell BK101.out 3).trans rfl
                                            have hfz52_0 := blk_frozen BK101.out 0
                                            have hfz52_1 := blk_frozen BK101.out 1
                                            have hfz52_2 := blk_frozen BK101.out 2
                                            have hfz52_3 := blk_frozen BK101.out 3
                                            have p104:0≤((ji46):Int):=of_decide_eq_true (by first|(with_reducible assumption)|assumption)
                                            have q104:(ji46) < (l0_3.length:Int):=of_decide_eq_true (by first|(with_reducible assumption)|assumption)
                                            obtain ⟨ad104, e104, hx104_0, hx104_1⟩ := at_T60 HR0_3.out (ji46) p104 q104
                                            obtain rfl : ad102 = ad104 := (by injection e104)
                                            have hn104_0:ad102.block≠gb103:=Nat.ne_of_lt (Nat.lt_of_lt_of_le (by have:=World.block_lt_of_cell? _ _ hx104_0;first|rwa [add_block] at this|exact this) GW103.out)
                                            have hn104_1:ad102.block≠gb103:=Nat.ne_of_lt (Nat.lt_of_lt_of_le (by have:=World.block_lt_of_cell? _ _ hx104_0;first|rwa [add_block] at this|exact this) GW103.out)
                                            replace hx104_0:=(HB.out.cell (World.block_lt_of_cell? w _ hx104_0)).trans hx104_0
                                            replace hx104_1:=(HB.out.cell (World.block_lt_of_cell? w _ hx104_1)).trans hx104_1
                                            replace hx104_0:=(cell_far (p:=⟨gb103,0,none⟩) (by first|(rw[add_block];exact hn104_0)|(show (Addr.add _ _).block≠_;rw[add_block];exact hn104_0)|exact hn104_0) (.int .i64 ((rd_T60 l0_3 x53_3).f0))).trans hx104_0
                                            replace hx104_1:=(cell_far (p:=⟨gb103,0,none⟩) (by first|(rw[add_block];exact hn104_0)|(show (Addr.add _ _).block≠_;rw[add_block];exact hn104_0)|exact hn104_0) (.int .i64 ((rd_T60 l0_3 x53_3).f0))).trans hx104_1
                                            replace hx104_0:=(cell_far (p:=⟨gb103,1,none⟩) (by first|(rw[add_block];exact hn104_1)|(show (Addr.add _ _).block≠_;rw[add_block];exact hn104_1)|exact hn104_1) (.int .i64 ((rd_T60 l0_3 x53_3).f1))).trans hx104_0
                                            replace hx104_1:=(cell_far (p:=⟨gb103,1,none⟩) (by first|(rw[add_block];exact hn104_1)|(show (Addr.add _ _).block≠_;rw[add_block];exact hn104_1)|exact hn104_1) (.int .i64 ((rd_T60 l0_3 x53_3).f1))).trans hx104_1
                                            (try have hy104_0:=fun (n_:Nat)=>(show ((((w30.drewN n_).setCell ⟨gb103,0,none⟩ (.int .i64 ((rd_T60 l0_3 x53_3).f0))).setCell ⟨gb103,1,none⟩ (.int .i64 ((rd_T60 l0_3 x53_3).f1)))).cell? _ = some _ from hx104_0))
                                            (try have hy104_1:=fun (n_:Nat)=>(show ((((w30.drewN n_).setCell ⟨gb103,0,none⟩ (.int .i64 ((rd_T60 l0_3 x53_3).f0))).setCell ⟨gb103,1,none⟩ (.int .i64 ((rd_T60 l0_3 x53_3).f1)))).cell? _ = some _ from hx104_1))
                                            clear hn104_0
                                            clear hn104_1
                                            replace p104 := eq_true p104
                                            replace q104 := eq_true q104
                                            go_wp2
                                            repeat (go_quiet (fail); try go_wp2)
                                            go_meet
                                            case rel=>exact⟨_,(true),(by first|rfl|(simp;done)|(simp[*];done)),H',⟨by have:=HJ4.out;have:=HJ15.out;have:=HK3.out;first|omega|exact Nat.le_refl _⟩,⟨by (with_reducible repeat (first|refine blk_drewN ?_ _|refine blk_drew ?_|refine blk_alloc ?_ _));refine blk_far ?_ NB101_103.out _;(with_reducible repeat (first|refine blk_drewN ?_ _|refine blk_drew ?_|refine blk_alloc ?_ _));refine blk_far ?_ NB101_103.out _;(with_reducible repeat (first|refine blk_drewN ?_ _|refine blk_drew ?_|refine blk_alloc ?_ _));exact BK101.out⟩,⟨by (with_reducible repeat (first|refine blk_drewN ?_ _|refine blk_drew ?_|refine blk_alloc ?_ _));refine blk_put (cs:=#[.int .i64 ((rd_T60 l0_3 x53_3).f0),.int .i64 0]) ?_ 1 _ rfl;(with_reducible repeat (first|refine blk_drewN ?_ _|refine blk_drew ?_|refine blk_alloc ?_ _));refine blk_put (cs:=#[.int .i64 0,.int .i64 0]) ?_ 0 _ rfl;(with_reducible repeat (first|refine blk_drewN ?_ _|refine blk_drew ?_|refine blk_alloc ?_ _));exact BK103.out⟩,⟨by repeat (first|(with_reducible first|exact HB.out|apply below_alloc|apply pw_below_drewN|apply below_drew1|refine below_set ?_ GE101.out|refine below_set ?_ GE103.out)|exact HB.out)⟩⟩
                                          · rw [if_neg c49] at H
                                            have c49b0:decide (((rd_T60 l0_3 x53_3).f0)≤((rd_T60 l0_3 (ji46)).f0)) = false:=decide_eq_false c49
                                            clear c49
                                            have H' := Aside0.mk H
                                            clear H
                                            have hnb53 := NB103_101.out
                                            have hnc53 := NB101_103.out
                                            have hcz54_0:w30.cell? ⟨gb103,0,none⟩ = some (.int .i64 0):=(blk_cell BK103.out 0).trans rfl
                                            have hcz54_1:w30.cell? ⟨gb103,1,none⟩ = some (.int .i64 0):=(blk_cell BK103.out 1).trans rfl
                                            have hfz54_0 := blk_frozen BK103.out 0
                                            have hfz54_1 := blk_frozen BK103.out 1
                                            have hcz55_0:w30.cell? ⟨gb101,0,none⟩ = some (.int .i64 a0_0):=(blk_cell BK101.out 0).trans rfl
                                            have hcz55_1:w30.cell? ⟨gb101,1,none⟩ = some (.int .i64 a0_1):=(blk_cell BK101.out 1).trans rfl
                                            have hcz55_2:w30.cell? ⟨gb101,2,none⟩ = some (.int .i64 a0_2):=(blk_cell BK101.out 2).trans rfl
                                            have hcz55_3:w30.cell? ⟨gb101,3,none⟩ = some (.slice (some ad102) l0_3.length c0_3):=(blk_cell BK101.out 3).trans rfl
                                            have hfz55_0 := blk_frozen BK101.out 0
                                            have hfz55_1 := blk_frozen BK101.out 1
                                            have hfz55_2 := blk_frozen BK101.out 2
                                            have hfz55_3 := blk_frozen BK101.out 3
                                            have p104:0≤((ji46):Int):=of_decide_eq_true (by first|(with_reducible assumption)|assumption)
                                            have q104:(ji46) < (l0_3.length:Int):=of_decide_eq_true (by first|(with_reducible assumption)|assumption)
                                            obtain ⟨ad104, e104, hx104_0, hx104_1⟩ := at_T60 HR0_3.out (ji46) p104 q104
                                            obtain rfl : ad102 = ad104 := (by injection e104)
                                            have hn104_0:ad102.block≠gb103:=Nat.ne_of_lt (Nat.lt_of_lt_of_le (by have:=World.block_lt_of_cell? _ _ hx104_0;first|rwa [add_block] at this|exact this) GW103.out)
                                            have hn104_1:ad102.block≠gb103:=Nat.ne_of_lt (Nat.lt_of_lt_of_le (by have:=World.block_lt_of_cell? _ _ hx104_0;first|rwa [add_block] at this|exact this) GW103.out)
                                            replace hx104_0:=(HB.out.cell (World.block_lt_of_cell? w _ hx104_0)).trans hx104_0
                                            replace hx104_1:=(HB.out.cell (World.block_lt_of_cell? w _ hx104_1)).trans hx104_1
                                            replace hx104_0:=(cell_far (p:=⟨gb103,0,none⟩) (by first|(rw[add_block];exact hn104_0)|(show (Addr.add _ _).block≠_;rw[add_block];exact hn104_0)|exact hn104_0) (.int .i64 ((rd_T60 l0_3 x53_3).f0))).trans hx104_0
                                            replace hx104_1:=(cell_far (p:=⟨gb103,0,none⟩) (by first|(rw[add_block];exact hn104_0)|(show (Addr.add _ _).block≠_;rw[add_block];exact hn104_0)|exact hn104_0) (.int .i64 ((rd_T60 l0_3 x53_3).f0))).trans hx104_1
                                            replace hx104_0:=(cell_far (p:=⟨gb103,1,none⟩) (by first|(rw[add_block];exact hn104_1)|(show (Addr.add _ _).block≠_;rw[add_block];exact hn104_1)|exact hn104_1) (.int .i64 ((rd_T60 l0_3 x53_3).f1))).trans hx104_0
                                            replace hx104_1:=(cell_far (p:=⟨gb103,1,none⟩) (by first|(rw[add_block];exact hn104_1)|(show (Addr.add _ _).block≠_;rw[add_block];exact hn104_1)|exact hn104_1) (.int .i64 ((rd_T60 l0_3 x53_3).f1))).trans hx104_1
                                            (try have hy104_0:=fun (n_:Nat)=>(show ((((w30.drewN n_).setCell ⟨gb103,0,none⟩ (.int .i64 ((rd_T60 l0_3 x53_3).f0))).setCell ⟨gb103,1,none⟩ (.int .i64 ((rd_T60 l0_3 x53_3).f1)))).cell? _ = some _ from hx104_0))
                                            (try have hy104_1:=fun (n_:Nat)=>(show ((((w30.drewN n_).setCell ⟨gb103,0,none⟩ (.int .i64 ((rd_T60 l0_3 x53_3).f0))).setCell ⟨gb103,1,none⟩ (.int .i64 ((rd_T60 l0_3 x53_3).f1)))).cell? _ = some _ from hx104_1))
                                            clear hn104_0
                                            clear hn104_1
                                            replace p104 := eq_true p104
                                            replace q104 := eq_true q104
                                            have p105:0≤((ji46):Int):=of_decide_eq_true (by first|(with_reducible assumption)|assumption)
                                            have q105:(ji46) < (l0_3.length:Int):=of_decide_eq_true (by first|(with_reducible assumption)|assumption)
                                            obtain ⟨ad105, e105, hx105_0, hx105_1⟩ := at_T60 HR0_3.out (ji46) p105 q105
                                            obtain rfl : ad102 = ad105 := (by injection e105)
                                            have hn105_0:ad102.block≠gb103:=Nat.ne_of_lt (Nat.lt_of_lt_of_le (by have:=World.block_lt_of_cell? _ _ hx105_0;first|rwa [add_block] at this|exact this) GW103.out)
                                            have hn105_1:ad102.block≠gb103:=Nat.ne_of_lt (Nat.lt_of_lt_of_le (by have:=World.block_lt_of_cell? _ _ hx105_0;first|rwa [add_block] at this|exact this) GW103.out)
                                            replace hx105_0:=(HB.out.cell (World.block_lt_of_cell? w _ hx105_0)).trans hx105_0
                                            replace hx105_1:=(HB.out.cell (World.block_lt_of_cell? w _ hx105_1)).trans hx105_1
                                            replace hx105_0:=(cell_far (p:=⟨gb103,0,none⟩) (by first|(rw[add_block];exact hn105_0)|(show (Addr.add _ _).block≠_;rw[add_block];exact hn105_0)|exact hn105_0) (.int .i64 ((rd_T60 l0_3 x53_3).f0))).trans hx105_0
                                            replace hx105_1:=(cell_far (p:=⟨gb103,0,none⟩) (by first|(rw[add_block];exact hn105_0)|(show (Addr.add _ _).block≠_;rw[add_block];exact hn105_0)|exact hn105_0) (.int .i64 ((rd_T60 l0_3 x53_3).f0))).trans hx105_1
                                            replace hx105_0:=(cell_far (p:=⟨gb103,1,none⟩) (by first|(rw[add_block];exact hn105_1)|(show (Addr.add _ _).block≠_;rw[add_block];exact hn105_1)|exact hn105_1) (.int .i64 ((rd_T60 l0_3 x53_3).f1))).trans hx105_0
                                            replace hx105_1:=(cell_far (p:=⟨gb103,1,none⟩) (by first|(rw[add_block];exact hn105_1)|(show (Addr.add _ _).block≠_;rw[add_block];exact hn105_1)|exact hn105_1) (.int .i64 ((rd_T60 l0_3 x53_3).f1))).trans hx105_1
                                            (try have hy105_0:=fun (n_:Nat)=>(show ((((w30.drewN n_).setCell ⟨gb103,0,none⟩ (.int .i64 ((rd_T60 l0_3 x53_3).f0))).setCell ⟨gb103,1,none⟩ (.int .i64 ((rd_T60 l0_3 x53_3).f1)))).cell? _ = some _ from hx105_0))
                                            (try have hy105_1:=fun (n_:Nat)=>(show ((((w30.drewN n_).setCell ⟨gb103,0,none⟩ (.int .i64 ((rd_T60 l0_3 x53_3).f0))).setCell ⟨gb103,1,none⟩ (.int .i64 ((rd_T60 l0_3 x53_3).f1)))).cell? _ = some _ from hx105_1))
                                            clear hn105_0
                                            clear hn105_1
                                            replace p105 := eq_true p105
                                            replace q105 := eq_true q105
                                            go_wp2
                                            repeat (go_quiet (fail); try go_wp2)
                                            go_meet
                                            case rel=>exact⟨_,(decide (((rd_T60 l0_3 x53_3).f1)≤((rd_T60 l0_3 (ji46)).f1))),(by first|rfl|(simp;done)|(simp only[← hji46] <;> (first|rfl|simp))|(simp[*];done)),H',⟨by have:=HJ4.out;have:=HJ15.out;have:=HK3.out;first|omega|exact Nat.le_refl _⟩,⟨by (with_reducible repeat (first|refine blk_drewN ?_ _|refine blk_drew ?_|refine blk_alloc ?_ _));refine blk_far ?_ NB101_103.out _;(with_reducible repeat (first|refine blk_drewN ?_ _|refine blk_drew ?_|refine blk_alloc ?_ _));refine blk_far ?_ NB101_103.out _;(with_reducible repeat (first|refine blk_drewN ?_ _|refine blk_drew ?_|refine blk_alloc ?_ _));exact BK101.out⟩,⟨by (with_reducible repeat (first|refine blk_drewN ?_ _|refine blk_drew ?_|refine blk_alloc ?_ _));refine blk_put (cs:=#[.int .i64 ((rd_T60 l0_3 x53_3).f0),.int .i64 0]) ?_ 1 _ rfl;(with_reducible repeat (first|refine blk_drewN ?_ _|refine blk_drew ?_|refine blk_alloc ?_ _));refine blk_put (cs:=#[.int .i64 0,.int .i64 0]) ?_ 0 _ rfl;(with_reducible repeat (first|refine blk_drewN ?_ _|refine blk_drew ?_|refine blk_alloc ?_ _));exact BK103.out⟩,⟨by repeat (first|(with_reducible first|exact HB.out|apply below_alloc|apply pw_below_drewN|apply below_drew1|refine below_set ?_ GE101.out|refine below_set ?_ GE103.out)|exact HB.out)⟩⟩
                                        · rw [if_neg c48] at H
                                          exact absurd H (by simp)
                                      · rw [if_neg c47] at H
                                        exact absurd H (by simp)
                                    · rw [if_neg c45] at H
                                      have c45b0 : decide (0 < x53_3) = false := decide_eq_false c45
                                      clear c45
                                      have H' := Aside0.mk H
                                      clear H
                                      have hnb56 := NB103_101.out
                                      have hnc56 := NB101_103.out
                                      have hcz57_0:w30.cell? ⟨gb103,0,none⟩ = some (.int .i64 0):=(blk_cell BK103.out 0).trans rfl
                                      have hcz57_1:w30.cell? ⟨gb103,1,none⟩ = some (.int .i64 0):=(blk_cell BK103.out 1).trans rfl
                                      have hfz57_0 := blk_frozen BK103.out 0
                                      have hfz57_1 := blk_frozen BK103.out 1
                                      go_wp2
                                      repeat (go_quiet (fail); try go_wp2)
                                      go_meet
                                      case rel=>exact⟨_,(false),(by first|rfl|(simp;done)|(simp[*];done)),H',⟨by have:=HJ4.out;have:=HJ15.out;have:=HK3.out;first|omega|exact Nat.le_refl _⟩,⟨by (with_reducible repeat (first|refine blk_drewN ?_ _|refine blk_drew ?_|refine blk_alloc ?_ _));refine blk_far ?_ NB101_103.out _;(with_reducible repeat (first|refine blk_drewN ?_ _|refine blk_drew ?_|refine blk_alloc ?_ _));refine blk_far ?_ NB101_103.out _;(with_reducible repeat (first|refine blk_drewN ?_ _|refine blk_drew ?_|refine blk_alloc ?_ _));exact BK101.out⟩,⟨by (with_reducible repeat (first|refine blk_drewN ?_ _|refine blk_drew ?_|refine blk_alloc ?_ _));refine blk_put (cs:=#[.int .i64 ((rd_T60 l0_3 x53_3).f0),.int .i64 0]) ?_ 1 _ rfl;(with_reducible repeat (first|refine blk_drewN ?_ _|refine blk_drew ?_|refine blk_alloc ?_ _));refine blk_put (cs:=#[.int .i64 0,.int .i64 0]) ?_ 0 _ rfl;(with_reducible repeat (first|refine blk_drewN ?_ _|refine blk_drew ?_|refine blk_alloc ?_ _));exact BK103.out⟩,⟨by repeat (first|(with_reducible first|exact HB.out|apply below_alloc|apply pw_below_drewN|apply below_drew1|refine below_set ?_ GE101.out|refine below_set ?_ GE103.out)|exact HB.out)⟩⟩
                          case rest =>
                            clear HC29
                            try clear c1
                            try clear p1
                            try clear q1
                            try clear hx1
                            try clear c2
                            try clear c2b0
                            try clear c2b1
                            try clear p2
                            try clear c3
                            try clear c4
                            try clear c5
                            try clear p6
                            try clear c8
                            try clear c8b0
                            try clear c10
                            try clear c10b0
                            try clear p10
                            try clear q10
                            try clear hx10
                            try clear c12
                            try clear c12b0
                            try clear c15
                            try clear c17
                            try clear c17b0
                            try clear c17b1
                            try clear c18
                            try clear c18b0
                            try clear c18b1
                            try clear c21
                            try clear c21b0
                            try clear c23
                            try clear c24
                            try clear c26
                            try clear c26b0
                            try clear c27
                            try clear c27b0
                            try clear c28
                            try clear c28b0
                            try clear c31
                            try clear c33
                            try clear c33b0
                            try clear c34
                            try clear c36
                            try clear c36b0
                            try clear c37
                            try clear c39
                            try clear c39b0
                            try clear c40
                            try clear c42
                            try clear c42b0
                            try clear c43
                            try clear c45
                            try clear c45b0
                            try clear c47
                            try clear c47b0
                            try clear c48
                            try clear c48b0
                            try clear c49
                            try clear c49b0
                            try clear c50
                            try clear c53
                            try clear c56
                            try clear hcz11_0
                            try clear hcz11_1
                            try clear hcz11_2
                            try clear hcz11_3
                            try clear hcz13_0
                            try clear hcz13_1
                            try clear hcz13_2
                            try clear hcz13_3
                            try clear hcz14_0
                            try clear hcz14_1
                            try clear hcz14_2
                            try clear hcz14_3
                            try clear hcz19_0
                            try clear hcz19_1
                            try clear hcz19_2
                            try clear hcz19_3
                            try clear hcz20_0
                            try clear hcz20_1
                            try clear hcz20_2
                            try clear hcz20_3
                            try clear hcz22_0
                            try clear hcz22_1
                            try clear hcz22_2
                            try clear hcz22_3
                            try clear hcz23_0
                            try clear hcz23_1
                            try clear hcz23_2
                            try clear hcz23_3
                            try clear hcz25_0
                            try clear hcz25_1
                            try clear hcz25_2
                            try clear hcz25_3
                            try clear hcz32_0
                            try clear hcz32_1
                            try clear hcz35_0
                            try clear hcz35_1
                            try clear hcz38_0
                            try clear hcz38_1
                            try clear hcz41_0
                            try clear hcz41_1
                            try clear hcz44_0
                            try clear hcz44_1
                            try clear hcz4_0
                            try clear hcz4_1
                            try clear hcz4_2
                            try clear hcz4_3
                            try clear hcz51_0
                            try clear hcz51_1
                            try clear hcz52_0
                            try clear hcz52_1
                            try clear hcz52_2
                            try clear hcz52_3
                            try clear hcz54_0
                            try clear hcz54_1
                            try clear hcz55_0
                            try clear hcz55_1
                            try clear hcz55_2
                            try clear hcz55_3
                            try clear hcz57_0
                            try clear hcz57_1
                            try clear hcz7_0
                            try clear hcz7_1
                            try clear hcz7_2
                            try clear hcz7_3
                            try clear hcz9_0
                            try clear hcz9_1
                            try clear hcz9_2
                            try clear hcz9_3
                            try clear hfz11_0
                            try clear hfz11_1
                            try clear hfz11_2
                            try clear hfz11_3
                            try clear hfz13_0
                            try clear hfz13_1
                            try clear hfz13_2
                            try clear hfz13_3
                            try clear hfz14_0
                            try clear hfz14_1
                            try clear hfz14_2
                            try clear hfz14_3
                            try clear hfz19_0
                            try clear hfz19_1
                            try clear hfz19_2
                            try clear hfz19_3
                            try clear hfz20_0
                            try clear hfz20_1
                            try clear hfz20_2
                            try clear hfz20_3
                            try clear hfz22_0
                            try clear hfz22_1
                            try clear hfz22_2
                            try clear hfz22_3
                            try clear hfz23_0
                            try clear hfz23_1
                            try clear hfz23_2
                            try clear hfz23_3
                            try clear hfz25_0
                            try clear hfz25_1
                            try clear hfz25_2
                            try clear hfz25_3
                            try clear hfz32_0
                            try clear hfz32_1
                            try clear hfz35_0
                            try clear hfz35_1
                            try clear hfz38_0
                            try clear hfz38_1
                            try clear hfz41_0
                            try clear hfz41_1
                            try clear hfz44_0
                            try clear hfz44_1
                            try clear hfz4_0
                            try clear hfz4_1
                            try clear hfz4_2
                            try clear hfz4_3
                            try clear hfz51_0
                            try clear hfz51_1
                            try clear hfz52_0
                            try clear hfz52_1
                            try clear hfz52_2
                            try clear hfz52_3
                            try clear hfz54_0
                            try clear hfz54_1
                            try clear hfz55_0
                            try clear hfz55_1
                            try clear hfz55_2
                            try clear hfz55_3
                            try clear hfz57_0
                            try clear hfz57_1
                            try clear hfz7_0
                            try clear hfz7_1
                            try clear hfz7_2
                            try clear hfz7_3
                            try clear hfz9_0
                            try clear hfz9_1
                            try clear hfz9_2
                            try clear hfz9_3
                            try clear hx102_0
                            try clear hx102_1
                            try clear hx104_0
                            try clear hx104_1
                            try clear hx105_0
                            try clear hx105_1
                            try clear p102
                            try clear p104
                            try clear p105
                            try clear p2
                            try clear q102
                            try clear q104
                            try clear q105
                            obtain ⟨kq, x103_28, rfl, HA, HJ28, BK101, BK103, HB⟩ := hcut
                            cases kq with
                            | zero => exact absurd HA.out (by simp [worktime_Valid.j3])
                            | succ kj28 =>
                              have H := HA.out
                              clear HA
                              simp only [worktime_Valid.j3] at H
                              by_cases c58 : x103_28 = true
                              · subst c58
                                have H1 : (some 1) = some r := by rw [if_pos rfl] at H; exact H
                                clear H
                                have H := H1
                                clear H1
                                obtain rfl := Option.some.inj H
                                go_wp2
                                repeat (go_quiet (fail); try go_wp2)
                                go_ret
                                exact⟨by first|rfl|(simp[errW_none,errW_some] <;> rfl)|(simp[*,errW_none,errW_some] <;> rfl),by repeat (first|(with_reducible first|exact HB.out|apply below_alloc|apply pw_below_drewN|apply below_drew1|refine below_set ?_ GE101.out|refine below_set ?_ GE103.out)|exact HB.out)⟩
                              · replace c58 := Bool.eq_false_iff.mpr c58
                                subst c58
                                have H1:(worktime_Valid.l0 kj28 l0_3 (l0_3.length:Int) (wrap64 (x53_3 + 1)) a0_0 a0_1 a0_2 l0_3) = some r:=by rw[if_neg (show ¬ (false = true) by decide)] at H;exact H
                                clear H
                                have H := H1
                                clear H1
                                have H' := Aside0.mk H
                                clear H
                                go_wp2
                                repeat (go_quiet (fail); try go_wp2)
                                go_roundg kj28
                                case measure=>have:=HJ4.out;have:=HJ15.out;have:=HK3.out;have:=HJ28.out;omega
                                case rel=>exact⟨(wrap64 (x53_3 + 1)),(by first|rfl|(simp;done)|(simp[*];done)),H',⟨by have:=HJ4.out;have:=HJ15.out;have:=HK3.out;have:=HJ28.out;omega⟩,⟨by (with_reducible repeat (first|refine blk_drewN ?_ _|refine blk_drew ?_|refine blk_alloc ?_ _));exact BK101.out⟩,⟨by repeat (first|(with_reducible first|exact HB.out|apply below_alloc|apply pw_below_drewN|apply below_drew1|refine below_set ?_ GE101.out|refine below_set ?_ GE103.out)|exact HB.out)⟩⟩
                        · rw [if_neg c28] at H
                          exact absurd H (by simp)
                      · rw [if_neg c27] at H
                        exact absurd H (by simp)
                    · rw [if_neg c26] at H
                      have c26b0 : decide (x53_3 < (l0_3.length : Int)) = false := decide_eq_false c26
                      clear c26
                      obtain rfl := Option.some.inj H
                      go_wp2
                      repeat (go_quiet (fail); try go_wp2)
                      go_ret
                      exact⟨by first|rfl|(simp[errW_none,errW_some] <;> rfl)|(simp[*,errW_none,errW_some] <;> rfl),by repeat (first|(with_reducible first|exact HB.out|apply below_alloc|apply pw_below_drewN|apply below_drew1|refine below_set ?_ GE101.out)|exact HB.out)⟩
end Go.Proofs.Ythdohkabcpdpdaa.M
