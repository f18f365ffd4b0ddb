import Derived.Test.YthdohkabcpdpdaaM0
import Derived.Test.YthdohkabcpdpdaaM1
import Derived.Test.YthdohkabcpdpdaaM8
namespace Go.Proofs.Ythdohkabcpdpdaa.M
open Go.RowKit Go.Proofs.YthdohkabcpdpdaaW.PrintWords Go.Proofs.YthdohkabcpdpdaaW.PrintLast Go.Proofs.YthdohkabcpdpdaaW.PrintMore
attribute [local go_sem] max2_int min2_int max_two min_two max_three min_three max_four min_four   -- for this text's walks alone
set_option linter.unusedVariables false
set_option linter.unusedSimpArgs false
attribute [local go_sem high] eqA41
mutual
def worktime_adjusted.l0 : Nat → List (S41) → Int → List (S48) → Int → Int → Int → Int → Int → List (S60) → Int → Int → Option ((List (S41)))
  | 0, _, _, _, _, _, _, _, _, _, _, _ => none
  | k + 1, x7, x8, x12, x13, x14, x102000, x102001, x102002, x102003, x103000, x103001 => if x14 < x13 then (if 0 ≤ x14 then (if x14 < (x12.length : Int) then ((worktime_moved.f k x102000 x102001 x102002 x102003 ((rd_T48 x12 x14).f0.f0) false).bind fun t105 => ((worktime_moved.f k x102000 x102001 x102002 x102003 ((rd_T48 x12 x14).f0.f1) true).bind fun t106 => (if (!(x103000 == 0) || (!(x103001 == 0))) = true then ((worktime_near.f ((rd_T48 x12 x14).f0.f0) x103000 x102002).bind fun t108 => (if t108 = true then (worktime_adjusted.j1 k x7 x8 x12 x13 x14 x102000 x102001 x102002 x102003 x103000 x103001 ((rd_T48 x12 x14).f0.f0) ((rd_T48 x12 x14).f0.f1) ((rd_T48 x12 x14).f1) x103000 t106) else (worktime_adjusted.j1 k x7 x8 x12 x13 x14 x102000 x102001 x102002 x102003 x103000 x103001 ((rd_T48 x12 x14).f0.f0) ((rd_T48 x12 x14).f0.f1) ((rd_T48 x12 x14).f1) t105 t106))) else (worktime_adjusted.j2 k x7 x8 x12 x13 x14 x102000 x102001 x102002 x102003 x103000 x103001 t105 t106)))) else (none)) else (none)) else (some x7)
def worktime_adjusted.j2 : Nat → List (S41) → Int → List (S48) → Int → Int → Int → Int → Int → List (S60) → Int → Int → Int → Int → Option ((List (S41)))
  | 0, _, _, _, _, _, _, _, _, _, _, _, _, _ => none
  | k + 1, x7, x8, x12, x13, x14, x102000, x102001, x102002, x102003, x103000, x103001, x108000, x108001 => if (mn x108001 120968640) > (mx x108000 x8) then (if x7.length < 8796093022208 then (worktime_adjusted.l0 k (x7 ++ [(⟨mx x108000 x8, mn x108001 120968640⟩ : S41)]) (mx x8 x108001) x12 x13 (wrap64 (x14 + 1)) x102000 x102001 x102002 x102003 x103000 x103001) else (none)) else (worktime_adjusted.l0 k x7 (mx x8 x108001) x12 x13 (wrap64 (x14 + 1)) x102000 x102001 x102002 x102003 x103000 x103001)
def worktime_adjusted.j1 : Nat → List (S41) → Int → List (S48) → Int → Int → Int → Int → Int → List (S60) → Int → Int → Int → Int → List (S41) → Int → Int → Option ((List (S41)))
  | 0, _, _, _, _, _, _, _, _, _, _, _, _, _, _, _, _ => none
  | k + 1, x7, x8, x12, x13, x14, x102000, x102001, x102002, x102003, x103000, x103001, x105000, x105001, x105002, x108000, x108001 => (worktime_near.f x105001 x103001 x102002).bind fun t109 => (if t109 = true then (worktime_adjusted.j2 k x7 x8 x12 x13 x14 x102000 x102001 x102002 x102003 x103000 x103001 x108000 x103001) else (worktime_adjusted.j2 k x7 x8 x12 x13 x14 x102000 x102001 x102002 x102003 x103000 x103001 x108000 x108001))
end
def worktime_adjusted.f (k : Nat) (a0_0 : Int) (a0_1 : Int) (a0_2 : Int) (l0_3 : List (S60)) (a1_0 : Int) (a1_1 : Int) (l2 : List (S48)) : Option ((List (S41))) := worktime_adjusted.l0 k ([] : List (S41)) 0 l2 (l2.length : Int) 0 a0_0 a0_1 a0_2 l0_3 a1_0 a1_1
theorem worktime_adjusted.mono_l : ∀ k, (∀ y0 y1 y2 y3 y4 y5 y6 y7 y8 y9 y10, LeO (worktime_adjusted.l0 k y0 y1 y2 y3 y4 y5 y6 y7 y8 y9 y10) (worktime_adjusted.l0 (k + 1) y0 y1 y2 y3 y4 y5 y6 y7 y8 y9 y10)) ∧ (∀ y0 y1 y2 y3 y4 y5 y6 y7 y8 y9 y10 y11 y12, LeO (worktime_adjusted.j2 k y0 y1 y2 y3 y4 y5 y6 y7 y8 y9 y10 y11 y12) (worktime_adjusted.j2 (k + 1) y0 y1 y2 y3 y4 y5 y6 y7 y8 y9 y10 y11 y12)) ∧ (∀ y0 y1 y2 y3 y4 y5 y6 y7 y8 y9 y10 y11 y12 y13 y14 y15, LeO (worktime_adjusted.j1 k y0 y1 y2 y3 y4 y5 y6 y7 y8 y9 y10 y11 y12 y13 y14 y15) (worktime_adjusted.j1 (k + 1) y0 y1 y2 y3 y4 y5 y6 y7 y8 y9 y10 y11 y12 y13 y14 y15))
  | 0 => ⟨fun _ _ _ _ _ _ _ _ _ _ _ r h => by simp [worktime_adjusted.l0] at h, fun _ _ _ _ _ _ _ _ _ _ _ _ _ r h => by simp [worktime_adjusted.j2] at h, fun _ _ _ _ _ _ _ _ _ _ _ _ _ _ _ _ r h => by simp [worktime_adjusted.j1] at h⟩
  | k + 1 => by
    obtain ⟨ih0, ih1, ih2⟩ := worktime_adjusted.mono_l k
    refine ⟨?_, ?_, ?_⟩
    · intro y0 y1 y2 y3 y4 y5 y6 y7 y8 y9 y10
      unfold worktime_adjusted.l0
      repeat' first
      | (with_reducible exact ih0 _ _ _ _ _ _ _ _ _ _ _)
      | (with_reducible exact ih1 _ _ _ _ _ _ _ _ _ _ _ _ _)
      | (with_reducible exact ih2 _ _ _ _ _ _ _ _ _ _ _ _ _ _ _ _)
      | (with_reducible exact worktime_moved.mono _ _ _ _ _ _ _)
      | (with_reducible exact LeO.refl _)
      | (with_reducible exact LeO.none _)
      | (with_reducible refine LeO.ite ?_ ?_)
      | (with_reducible refine LeO.bind ?_ (fun _ => ?_))
      | exact ih0 _ _ _ _ _ _ _ _ _ _ _
      | exact ih1 _ _ _ _ _ _ _ _ _ _ _ _ _
      | exact ih2 _ _ _ _ _ _ _ _ _ _ _ _ _ _ _ _
      | exact worktime_moved.mono _ _ _ _ _ _ _
      | exact LeO.none _
      | refine LeO.ite ?_ ?_
      | refine LeO.bind ?_ (fun _ => ?_)
    · intro y0 y1 y2 y3 y4 y5 y6 y7 y8 y9 y10 y11 y12
      unfold worktime_adjusted.j2
      repeat' first
      | (with_reducible exact ih0 _ _ _ _ _ _ _ _ _ _ _)
      | (with_reducible exact ih1 _ _ _ _ _ _ _ _ _ _ _ _ _)
      | (with_reducible exact ih2 _ _ _ _ _ _ _ _ _ _ _ _ _ _ _ _)
      | (with_reducible exact worktime_moved.mono _ _ _ _ _ _ _)
      | (with_reducible exact LeO.refl _)
      | (with_reducible exact LeO.none _)
      | (with_reducible refine LeO.ite ?_ ?_)
      | (with_reducible refine LeO.bind ?_ (fun _ => ?_))
      | exact ih0 _ _ _ _ _ _ _ _ _ _ _
      | exact ih1 _ _ _ _ _ _ _ _ _ _ _ _ _
      | exact ih2 _ _ _ _ _ _ _ _ _ _ _ _ _ _ _ _
      | exact worktime_moved.mono _ _ _ _ _ _ _
      | exact LeO.none _
      | refine LeO.ite ?_ ?_
      | refine LeO.bind ?_ (fun _ => ?_)
    · intro y0 y1 y2 y3 y4 y5 y6 y7 y8 y9 y10 y11 y12 y13 y14 y15
      unfold worktime_adjusted.j1
      repeat' first
      | (with_reducible exact ih0 _ _ _ _ _ _ _ _ _ _ _)
      | (with_reducible exact ih1 _ _ _ _ _ _ _ _ _ _ _ _ _)
      | (with_reducible exact ih2 _ _ _ _ _ _ _ _ _ _ _ _ _ _ _ _)
      | (with_reducible exact worktime_moved.mono _ _ _ _ _ _ _)
      | (with_reducible exact LeO.refl _)
      | (with_reducible exact LeO.none _)
      | (with_reducible refine LeO.ite ?_ ?_)
      | (with_reducible refine LeO.bind ?_ (fun _ => ?_))
      | exact ih0 _ _ _ _ _ _ _ _ _ _ _
      | exact ih1 _ _ _ _ _ _ _ _ _ _ _ _ _
      | exact ih2 _ _ _ _ _ _ _ _ _ _ _ _ _ _ _ _
      | exact worktime_moved.mono _ _ _ _ _ _ _
      | exact LeO.none _
      | refine LeO.ite ?_ ?_
      | refine LeO.bind ?_ (fun _ => ?_)
theorem worktime_adjusted.mono : ∀ a0 a1 a2 a3 a4 a5 a6 k, LeO (worktime_adjusted.f k a0 a1 a2 a3 a4 a5 a6) (worktime_adjusted.f (k + 1) a0 a1 a2 a3 a4 a5 a6) := by
  intro a0 a1 a2 a3 a4 a5 a6 k
  obtain ⟨ih0, ih1, ih2⟩ := worktime_adjusted.mono_l k
  unfold worktime_adjusted.f
  repeat' first
      | (with_reducible exact ih0 _ _ _ _ _ _ _ _ _ _ _)
      | (with_reducible exact ih1 _ _ _ _ _ _ _ _ _ _ _ _ _)
      | (with_reducible exact ih2 _ _ _ _ _ _ _ _ _ _ _ _ _ _ _ _)
      | (with_reducible exact worktime_moved.mono _ _ _ _ _ _ _)
      | (with_reducible exact LeO.refl _)
      | (with_reducible exact LeO.none _)
      | (with_reducible refine LeO.ite ?_ ?_)
      | (with_reducible refine LeO.bind ?_ (fun _ => ?_))
      | exact ih0 _ _ _ _ _ _ _ _ _ _ _
      | exact ih1 _ _ _ _ _ _ _ _ _ _ _ _ _
      | exact ih2 _ _ _ _ _ _ _ _ _ _ _ _ _ _ _ _
      | exact worktime_moved.mono _ _ _ _ _ _ _
      | exact LeO.none _
      | refine LeO.ite ?_ ?_
      | refine LeO.bind ?_ (fun _ => ?_)
def worktime_adjusted.T6 : Bool × List (List Nat × List Nat) := (true, [([], []), ([], []), ([1], [1]), ([2], [2]), ([0, 3], [0, 3]), ([], []), ([], []), ([6], [6]), ([7], [7]), ([5, 8, 4], [5, 8]), ([4, 9], [4, 9]), ([], []), ([11, 10, 9, 0, 1, 2, 3, 4, 5, 6, 7, 8, 9, 10, 11], [10, 11])])
def worktime_adjusted.B6 : List Nat := [0, 0, 2, 6, 15, 0, 0, 64, 192, 511, 1023, 0, 4095]
theorem worktime_adjusted.tab6 : rtab .any (opsOf Try.f25 6) = worktime_adjusted.T6 := by kernel_rfl
theorem worktime_adjusted.bits6 : waitsOk worktime_adjusted.T6.2 worktime_adjusted.B6 = true := by kernel_rfl
set_option maxHeartbeats 8000000 in
set_option maxRecDepth 100000 in
theorem worktime_adjusted.calls (k : Nat) (a0_0 : Int) (a0_1 : Int) (a0_2 : Int) (A0_3 : Option Addr) (c0_3 : Nat) (l0_3 : List (S60)) (a1_0 : Int) (a1_1 : Int) (A2 : Option Addr) (c2 : Nat) (l2 : List (S48)) (r : List (S41)) (w : World) (hr0_3 : Kd.C k60 w A0_3 l0_3.length l0_3) (hc0_3 : l0_3.length ≤ c0_3) (hr2 : Kd.C k48 w A2 l2.length l2) (hc2 : l2.length ≤ c2) (h : worktime_adjusted.f k a0_0 a0_1 a0_2 l0_3 a1_0 a1_1 l2 = some r) :
    Calls Try.prog 25 #[.agg #[.int .i64 a0_0, .int .i64 a0_1, .int .i64 a0_2, .slice A0_3 l0_3.length c0_3], .agg #[.int .i64 a1_0, .int .i64 a1_1], .slice A2 l2.length c2] w fun e w' => ∃ v0_ : Value, e = .returned (v0_) ∧ Kd.R k41 41 w' w.heap.size (fun _ => True) v0_ r ∧ Below w.heap.size w w' := by
  have hu35 := Try.underlying35
  have hu41 := Try.underlying41
  have hu48 := Try.underlying48
  have HR0_3 := Aside0.mk hr0_3
  have HC0_3 := Aside0.mk hc0_3
  clear hr0_3 hc0_3
  have HR2 := Aside0.mk hr2
  have HC2 := Aside0.mk hc2
  clear hr2 hc2
  have HB := Aside0.mk (Below.refl w.heap.size w)
  have H:(worktime_adjusted.l0 k ([]:List (S41)) 0 l2 (l2.length:Int) 0 a0_0 a0_1 a0_2 l0_3 a1_0 a1_1) = some r:=h
  clear h
  have H' := Aside0.mk H
  clear H
  go_enter Try.func25, Try.ntmps25
  go_wp2_with (first|((with_reducible refine gate_dst (N:=3) rfl ?_);refine box_event ?hg (N:=3) ?hd (cs:=#[.int .i64 a0_0,.int .i64 a0_1,.int .i64 a0_2,.slice A0_3 l0_3.length c0_3]) (t:=35) ?hr ?_;(case hd=>rfl);(case hg=>rfl);(case hr=>first|(go_simp;done)|(go_simp;rfl));intro gb101 hg w4 hbox hb;have n0_:=Aside0.mk (below_step (by repeat (first|(with_reducible first|exact HB.out|apply below_alloc|apply pw_below_drewN|apply below_drew1)|exact HB.out)) hb);have n1_:=Aside0.mk (hbox);have n2_:=Aside0.mk ((by rw[hg];exact(below_size (by repeat (first|(with_reducible first|exact HB.out|apply below_alloc|apply pw_below_drewN|apply below_drew1)|exact HB.out))):w.heap.size≤gb101));have n3_:=Aside0.mk ((by rw[hg];exact(below_size (by repeat (first|(with_reducible first|exact HB.out|apply below_alloc|apply pw_below_drewN|apply below_drew1)|exact HB.out))):w.heap.size≤gb101));clear HB;have HB:=n0_;have BK101:=n1_;have GW101:=n2_;have GE101:=n3_;clear n0_ n1_ n2_ n3_;clear hb hbox hg)|((with_reducible refine gate_dst (N:=4) rfl ?_);refine box_event ?hg (N:=4) ?hd (cs:=#[.int .i64 a1_0,.int .i64 a1_1]) (t:=41) ?hr ?_;(case hd=>rfl);(case hg=>rfl);(case hr=>first|(go_simp;done)|(go_simp;rfl));intro gb102 hg w5 hbox hb;have n0_:=Aside0.mk (blk_below (g:=gb101) (o:=.cells #[.int .i64 a0_0,.int .i64 a0_1,.int .i64 a0_2,.slice A0_3 l0_3.length c0_3] 35 (0,0)) (by (with_reducible repeat (first|refine blk_drewN ?_ _|refine blk_drew ?_|refine blk_alloc ?_ _));exact BK101.out) hb);have n1_:=Aside0.mk (below_step (by repeat (first|(with_reducible first|exact HB.out|apply below_alloc|apply pw_below_drewN|apply below_drew1|refine below_set ?_ GE101.out)|exact HB.out)) hb);have n2_:=Aside0.mk (hbox);have n3_:=Aside0.mk ((by rw[hg];exact(below_size (by repeat (first|(with_reducible first|exact HB.out|apply below_alloc|apply pw_below_drewN|apply below_drew1|refine below_set ?_ GE101.out)|exact HB.out))):w.heap.size≤gb102));have n4_:=Aside0.mk ((by rw[hg];exact(below_size (by repeat (first|(with_reducible first|exact HB.out|apply below_alloc|apply pw_below_drewN|apply below_drew1|refine below_set ?_ GE101.out)|exact HB.out))):w.heap.size≤gb102));have n5_:=Aside0.mk ((by rw[hg];exact Nat.ne_of_lt (blk_lt (g:=gb101) (o:=.cells #[.int .i64 a0_0,.int .i64 a0_1,.int .i64 a0_2,.slice A0_3 l0_3.length c0_3] 35 (0,0)) (by (with_reducible repeat (first|refine blk_drewN ?_ _|refine blk_drew ?_|refine blk_alloc ?_ _));exact BK101.out)):gb101≠gb102));have n6_:=Aside0.mk ((by rw[hg];exact Nat.ne_of_gt (blk_lt (g:=gb101) (o:=.cells #[.int .i64 a0_0,.int .i64 a0_1,.int .i64 a0_2,.slice A0_3 l0_3.length c0_3] 35 (0,0)) (by (with_reducible repeat (first|refine blk_drewN ?_ _|refine blk_drew ?_|refine blk_alloc ?_ _));exact BK101.out)):gb102≠gb101));clear BK101;clear HB;have BK101:=n0_;have HB:=n1_;have BK102:=n2_;have GW102:=n3_;have GE102:=n4_;have NB101_102:=n5_;have NB102_101:=n6_;clear n0_ n1_ n2_ n3_ n4_ n5_ n6_;clear hb hbox hg))
  go_loopg [7,8,14] k (fun kq v7 v8 v14 w'=>∃ (x7_1:List (S41)) (x8_1:Int) (x14_1:Int),v8 = .int .i64 x8_1∧v14 = .int .i64 x14_1∧Aside0 (worktime_adjusted.l0 kq x7_1 x8_1 l2 (l2.length:Int) x14_1 a0_0 a0_1 a0_2 l0_3 a1_0 a1_1 = some r)∧Aside0 (kq≤k)∧Aside0 (Kd.R k41 41 w' w.heap.size (fun k_=>k_≠gb102) v7 x7_1)∧Aside0 (w'.heap[gb101]? = some (.cells #[.int .i64 a0_0,.int .i64 a0_1,.int .i64 a0_2,(.slice A0_3 l0_3.length c0_3)] 35 (0,0)))∧Aside0 (w'.heap[gb102]? = some (.cells #[.int .i64 a1_0,.int .i64 a1_1] 41 (0,0)))∧Aside0 (Below w.heap.size w w'))
  case atStart=>exact⟨(([]:List (S41))),(0),(0),(by first|rfl|(simp;done)|(simp[*];done)),(by first|rfl|(simp;done)|(simp[*];done)),H',⟨Nat.le_refl _⟩,⟨by first|exact Kd.R_nil _ _ _ _ _|exact Kd.N_nil _ _ _ _ _|exact Kd.V_nil _ _ _ _ _|exact Kd.Q_nil _ _ _ _ _|exact Kd.S_nil _ _ _ _ _⟩,⟨by (with_reducible repeat (first|refine blk_drewN ?_ _|refine blk_drew ?_|refine blk_alloc ?_ _));exact BK101.out⟩,⟨by (with_reducible repeat (first|refine blk_drewN ?_ _|refine blk_drew ?_|refine blk_alloc ?_ _));exact BK102.out⟩,⟨by repeat (first|(with_reducible first|exact HB.out|apply below_alloc|apply pw_below_drewN|apply below_drew1|refine below_set ?_ GE101.out|refine below_set ?_ GE102.out)|exact HB.out)⟩⟩
  case round =>
    clear H'
    try clear c2
    try clear p2
    obtain ⟨x7_1, x8_1, x14_1, rfl, rfl, HA, HK1, HO_7, BK101, BK102, HB⟩ := hrel
    cases gk with
    | zero => exact absurd HA.out (by simp [worktime_adjusted.l0])
    | succ k1 =>
      have H := HA.out
      clear HA
      simp only [worktime_adjusted.l0] at H
      by_cases c6 : x14_1 < (l2.length : Int)
      · rw [if_pos c6] at H
        have c6b0 : decide (x14_1 < (l2.length : Int)) = true := decide_eq_true c6
        clear c6
        by_cases c7 : 0 ≤ x14_1
        · rw [if_pos c7] at H
          have c7b0 : decide (0 ≤ x14_1) = true := decide_eq_true c7
          clear c7
          by_cases c8 : x14_1 < (l2.length : Int)
          · rw [if_pos c8] at H
            have c8b0 : decide (x14_1 < (l2.length : Int)) = true := decide_eq_true c8
            clear c8
            replace H := Option.bind_eq_some_iff.mp H
            obtain ⟨t105, A90, H⟩ := H
            replace H:((worktime_moved.f k1 a0_0 a0_1 a0_2 l0_3 ((rd_T48 l2 x14_1).f0.f1) true).bind fun t106=>(if (!(a1_0 == 0) || (!(a1_1 == 0))) = true then ((worktime_near.f ((rd_T48 l2 x14_1).f0.f0) a1_0 a0_2).bind fun t108=>(if t108 = true then (worktime_adjusted.j1 k1 x7_1 x8_1 l2 (l2.length:Int) x14_1 a0_0 a0_1 a0_2 l0_3 a1_0 a1_1 ((rd_T48 l2 x14_1).f0.f0) ((rd_T48 l2 x14_1).f0.f1) ((rd_T48 l2 x14_1).f1) a1_0 t106) else (worktime_adjusted.j1 k1 x7_1 x8_1 l2 (l2.length:Int) x14_1 a0_0 a0_1 a0_2 l0_3 a1_0 a1_1 ((rd_T48 l2 x14_1).f0.f0) ((rd_T48 l2 x14_1).f0.f1) ((rd_T48 l2 x14_1).f1) t105 t106))) else (worktime_adjusted.j2 k1 x7_1 x8_1 l2 (l2.length:Int) x14_1 a0_0 a0_1 a0_2 l0_3 a1_0 a1_1 t105 t106))) = some r:=H
            have A9 := Aside0.mk A90
            clear A90
            replace H := Option.bind_eq_some_iff.mp H
            obtain ⟨t106, A100, H⟩ := H
            replace H:(if (!(a1_0 == 0) || (!(a1_1 == 0))) = true then ((worktime_near.f ((rd_T48 l2 x14_1).f0.f0) a1_0 a0_2).bind fun t108=>(if t108 = true then (worktime_adjusted.j1 k1 x7_1 x8_1 l2 (l2.length:Int) x14_1 a0_0 a0_1 a0_2 l0_3 a1_0 a1_1 ((rd_T48 l2 x14_1).f0.f0) ((rd_T48 l2 x14_1).f0.f1) ((rd_T48 l2 x14_1).f1) a1_0 t106) else (worktime_adjusted.j1 k1 x7_1 x8_1 l2 (l2.length:Int) x14_1 a0_0 a0_1 a0_2 l0_3 a1_0 a1_1 ((rd_T48 l2 x14_1).f0.f0) ((rd_T48 l2 x14_1).f0.f1) ((rd_T48 l2 x14_1).f1) t105 t106))) else (worktime_adjusted.j2 k1 x7_1 x8_1 l2 (l2.length:Int) x14_1 a0_0 a0_1 a0_2 l0_3 a1_0 a1_1 t105 t106)) = some r:=H
            have A10 := Aside0.mk A100
            clear A100
            have HC11 := Aside0.mk H
            clear H
            have p103 : 0 ≤ (x14_1 : Int) := of_decide_eq_true (by first | (with_reducible assumption) | assumption)
            have q103:x14_1 < (l2.length:Int):=of_decide_eq_true (by first|(with_reducible assumption)|assumption)
            obtain ⟨ad103,A103_2,c103_2,e103,hx103_0,hx103_1,hx103_2,hl103_2,hi103_2⟩:=at_T48 HR2.out x14_1 p103 q103
            cases e103
            replace hx103_0 := (HB.out.cell (World.block_lt_of_cell? w _ hx103_0)).trans hx103_0
            replace hx103_1 := (HB.out.cell (World.block_lt_of_cell? w _ hx103_1)).trans hx103_1
            replace hx103_2 := (HB.out.cell (World.block_lt_of_cell? w _ hx103_2)).trans hx103_2
            have HR103_2 := Aside0.mk hi103_2
            have HC103_2 := Aside0.mk hl103_2
            clear hi103_2 hl103_2
            replace p103 := eq_true p103
            replace q103 := eq_true q103
            try go_wp2_with (first|((with_reducible refine gate_dst (N:=10) rfl ?_);refine box_event ?hg (N:=10) ?hd (cs:=#[.int .i64 0,.int .i64 0,.slice none 0 0]) (t:=48) ?hr ?_;(case hd=>rfl);(case hg=>rfl);(case hr=>first|(go_simp;done)|(go_simp;rfl));intro gb104 hg w12 hbox hb;have n0_:=Aside0.mk (Kd.R_below (by (with_reducible repeat (first|apply Kd.R_alloc|apply Kd.R_drewN|apply Kd.R_drew));exact HO_7.out) hb);have n1_:=Aside0.mk (blk_below (g:=gb101) (o:=.cells #[.int .i64 a0_0,.int .i64 a0_1,.int .i64 a0_2,.slice A0_3 l0_3.length c0_3] 35 (0,0)) (by (with_reducible repeat (first|refine blk_drewN ?_ _|refine blk_drew ?_|refine blk_alloc ?_ _));exact BK101.out) hb);have n2_:=Aside0.mk (blk_below (g:=gb102) (o:=.cells #[.int .i64 a1_0,.int .i64 a1_1] 41 (0,0)) (by (with_reducible repeat (first|refine blk_drewN ?_ _|refine blk_drew ?_|refine blk_alloc ?_ _));exact BK102.out) hb);have n3_:=Aside0.mk (below_step (by repeat (first|(with_reducible first|exact HB.out|apply below_alloc|apply pw_below_drewN|apply below_drew1|refine below_set ?_ GE101.out|refine below_set ?_ GE102.out)|exact HB.out)) hb);have n4_:=Aside0.mk (hbox);have n5_:=Aside0.mk ((by rw[hg];exact(below_size (by repeat (first|(with_reducible first|exact HB.out|apply below_alloc|apply pw_below_drewN|apply below_drew1|refine below_set ?_ GE101.out|refine below_set ?_ GE102.out)|exact HB.out))):w.heap.size≤gb104));have n6_:=Aside0.mk ((by rw[hg];exact(below_size (by repeat (first|(with_reducible first|exact HB.out|apply below_alloc|apply pw_below_drewN|apply below_drew1|refine below_set ?_ GE101.out|refine below_set ?_ GE102.out)|exact HB.out))):w.heap.size≤gb104));have n7_:=Aside0.mk ((by rw[hg];exact Nat.ne_of_lt (blk_lt (g:=gb101) (o:=.cells #[.int .i64 a0_0,.int .i64 a0_1,.int .i64 a0_2,.slice A0_3 l0_3.length c0_3] 35 (0,0)) (by (with_reducible repeat (first|refine blk_drewN ?_ _|refine blk_drew ?_|refine blk_alloc ?_ _));exact BK101.out)):gb101≠gb104));have n8_:=Aside0.mk ((by rw[hg];exact Nat.ne_of_gt (blk_lt (g:=gb101) (o:=.cells #[.int .i64 a0_0,.int .i64 a0_1,.int .i64 a0_2,.slice A0_3 l0_3.length c0_3] 35 (0,0)) (by (with_reducible repeat (first|refine blk_drewN ?_ _|refine blk_drew ?_|refine blk_alloc ?_ _));exact BK101.out)):gb104≠gb101));have n9_:=Aside0.mk ((by rw[hg];exact Nat.ne_of_lt (blk_lt (g:=gb102) (o:=.cells #[.int .i64 a1_0,.int .i64 a1_1] 41 (0,0)) (by (with_reducible repeat (first|refine blk_drewN ?_ _|refine blk_drew ?_|refine blk_alloc ?_ _));exact BK102.out)):gb102≠gb104));have n10_:=Aside0.mk ((by rw[hg];exact Nat.ne_of_gt (blk_lt (g:=gb102) (o:=.cells #[.int .i64 a1_0,.int .i64 a1_1] 41 (0,0)) (by (with_reducible repeat (first|refine blk_drewN ?_ _|refine blk_drew ?_|refine blk_alloc ?_ _));exact BK102.out)):gb104≠gb102));clear HO_7;clear BK101;clear BK102;clear HB;have HO_7:=n0_;have BK101:=n1_;have BK102:=n2_;have HB:=n3_;have BK104:=n4_;have GW104:=n5_;have GE104:=n6_;have NB101_104:=n7_;have NB104_101:=n8_;have NB102_104:=n9_;have NB104_102:=n10_;clear n0_ n1_ n2_ n3_ n4_ n5_ n6_ n7_ n8_ n9_ n10_;clear hb hbox hg;have hnb13:=NB104_101.out;have hnc13:=NB101_104.out;have hnb14:=NB104_102.out;have hnc14:=NB102_104.out;have hcz15_0:w12.cell? ⟨gb104,0,none⟩ = some (.int .i64 0):=(blk_cell BK104.out 0).trans rfl;have hcz15_1:w12.cell? ⟨gb104,1,none⟩ = some (.int .i64 0):=(blk_cell BK104.out 1).trans rfl;have hcz15_2:w12.cell? ⟨gb104,2,none⟩ = some (.slice none 0 0):=(blk_cell BK104.out 2).trans rfl;have hfz15_0:=blk_frozen BK104.out 0;have hfz15_1:=blk_frozen BK104.out 1;have hfz15_2:=blk_frozen BK104.out 2))
            have n0_:Aside0 (Kd.R k41 41 (((w12.setCell ⟨gb104,0,none⟩ (.int .i64 ((rd_T48 l2 x14_1).f0.f0))).setCell ⟨gb104,1,none⟩ (.int .i64 ((rd_T48 l2 x14_1).f0.f1))).setCell ⟨gb104,2,none⟩ (.slice A103_2 ((rd_T48 l2 x14_1).f1).length c103_2)) w.heap.size (fun k_=>k_≠gb102) u7 x7_1):=⟨by (with_reducible repeat (first|apply Kd.R_alloc|apply Kd.R_drewN|apply Kd.R_drew));exact Kd.R_mono (Kd.R_far (p:=⟨gb104,2,none⟩) (Kd.R_far (p:=⟨gb104,1,none⟩) (Kd.R_far (p:=⟨gb104,0,none⟩) (Kd.R_types HO_7.out BK104.out (by decide)) (fun _ hk=>hk.2) (.int .i64 ((rd_T48 l2 x14_1).f0.f0))) (fun _ hk=>hk.2) (.int .i64 ((rd_T48 l2 x14_1).f0.f1))) (fun _ hk=>hk.2) (.slice A103_2 ((rd_T48 l2 x14_1).f1).length c103_2)) (fun _ hk=>hk.1)⟩
            have n1_:Aside0 ((((w12.setCell ⟨gb104,0,none⟩ (.int .i64 ((rd_T48 l2 x14_1).f0.f0))).setCell ⟨gb104,1,none⟩ (.int .i64 ((rd_T48 l2 x14_1).f0.f1))).setCell ⟨gb104,2,none⟩ (.slice A103_2 ((rd_T48 l2 x14_1).f1).length c103_2)).heap[gb101]? = some (.cells #[.int .i64 a0_0,.int .i64 a0_1,.int .i64 a0_2,.slice A0_3 l0_3.length c0_3] 35 (0,0))):=⟨by (with_reducible repeat (first|refine blk_drewN ?_ _|refine blk_drew ?_|refine blk_alloc ?_ _));refine blk_far ?_ NB101_104.out _;(with_reducible repeat (first|refine blk_drewN ?_ _|refine blk_drew ?_|refine blk_alloc ?_ _));refine blk_far ?_ NB101_104.out _;(with_reducible repeat (first|refine blk_drewN ?_ _|refine blk_drew ?_|refine blk_alloc ?_ _));refine blk_far ?_ NB101_104.out _;(with_reducible repeat (first|refine blk_drewN ?_ _|refine blk_drew ?_|refine blk_alloc ?_ _));exact BK101.out⟩
            have n2_:Aside0 ((((w12.setCell ⟨gb104,0,none⟩ (.int .i64 ((rd_T48 l2 x14_1).f0.f0))).setCell ⟨gb104,1,none⟩ (.int .i64 ((rd_T48 l2 x14_1).f0.f1))).setCell ⟨gb104,2,none⟩ (.slice A103_2 ((rd_T48 l2 x14_1).f1).length c103_2)).heap[gb102]? = some (.cells #[.int .i64 a1_0,.int .i64 a1_1] 41 (0,0))):=⟨by (with_reducible repeat (first|refine blk_drewN ?_ _|refine blk_drew ?_|refine blk_alloc ?_ _));refine blk_far ?_ NB102_104.out _;(with_reducible repeat (first|refine blk_drewN ?_ _|refine blk_drew ?_|refine blk_alloc ?_ _));refine blk_far ?_ NB102_104.out _;(with_reducible repeat (first|refine blk_drewN ?_ _|refine blk_drew ?_|refine blk_alloc ?_ _));refine blk_far ?_ NB102_104.out _;(with_reducible repeat (first|refine blk_drewN ?_ _|refine blk_drew ?_|refine blk_alloc ?_ _));exact BK102.out⟩
            have n3_:Aside0 ((((w12.setCell ⟨gb104,0,none⟩ (.int .i64 ((rd_T48 l2 x14_1).f0.f0))).setCell ⟨gb104,1,none⟩ (.int .i64 ((rd_T48 l2 x14_1).f0.f1))).setCell ⟨gb104,2,none⟩ (.slice A103_2 ((rd_T48 l2 x14_1).f1).length c103_2)).heap[gb104]? = some (.cells #[.int .i64 ((rd_T48 l2 x14_1).f0.f0),.int .i64 ((rd_T48 l2 x14_1).f0.f1),.slice A103_2 ((rd_T48 l2 x14_1).f1).length c103_2] 48 (0,0))):=⟨by (with_reducible repeat (first|refine blk_drewN ?_ _|refine blk_drew ?_|refine blk_alloc ?_ _));refine blk_put (cs:=#[.int .i64 ((rd_T48 l2 x14_1).f0.f0),.int .i64 ((rd_T48 l2 x14_1).f0.f1),.slice none 0 0]) ?_ 2 _ rfl;(with_reducible repeat (first|refine blk_drewN ?_ _|refine blk_drew ?_|refine blk_alloc ?_ _));refine blk_put (cs:=#[.int .i64 ((rd_T48 l2 x14_1).f0.f0),.int .i64 0,.slice none 0 0]) ?_ 1 _ rfl;(with_reducible repeat (first|refine blk_drewN ?_ _|refine blk_drew ?_|refine blk_alloc ?_ _));refine blk_put (cs:=#[.int .i64 0,.int .i64 0,.slice none 0 0]) ?_ 0 _ rfl;(with_reducible repeat (first|refine blk_drewN ?_ _|refine blk_drew ?_|refine blk_alloc ?_ _));exact BK104.out⟩
            have n4_:Aside0 (Below w.heap.size w (((w12.setCell ⟨gb104,0,none⟩ (.int .i64 ((rd_T48 l2 x14_1).f0.f0))).setCell ⟨gb104,1,none⟩ (.int .i64 ((rd_T48 l2 x14_1).f0.f1))).setCell ⟨gb104,2,none⟩ (.slice A103_2 ((rd_T48 l2 x14_1).f1).length c103_2))):=⟨by repeat (first|(with_reducible first|exact HB.out|apply below_alloc|apply pw_below_drewN|apply below_drew1|refine below_set ?_ GE101.out|refine below_set ?_ GE102.out|refine below_set ?_ GE104.out)|exact HB.out)⟩
            (try clear HO_7)
            (try clear BK101)
            (try clear BK102)
            (try clear BK104)
            (try clear HB)
            generalize (((w12.setCell ⟨gb104, 0, none⟩ (.int .i64 ((rd_T48 l2 x14_1).f0.f0))).setCell ⟨gb104, 1, none⟩ (.int .i64 ((rd_T48 l2 x14_1).f0.f1))).setCell ⟨gb104, 2, none⟩ (.slice A103_2 ((rd_T48 l2 x14_1).f1).length c103_2)) = w16 at n0_ n1_ n2_ n3_ n4_ ⊢
            have HO_7 := n0_
            have BK101 := n1_
            have BK102 := n2_
            have BK104 := n3_
            have HB := n4_
            clear n0_ n1_ n2_ n3_ n4_
            have n0_ := Aside0.mk (Kd.R_drew HO_7.out)
            have n1_ := Aside0.mk (blk_drew BK101.out)
            have n2_ := Aside0.mk (blk_drew BK102.out)
            have n3_ := Aside0.mk (blk_drew BK104.out)
            have n4_ := Aside0.mk (below_drew1 HB.out)
            clear HO_7
            clear BK101
            clear BK102
            clear BK104
            clear HB
            have HO_7 := n0_
            have BK101 := n1_
            have BK102 := n2_
            have BK104 := n3_
            have HB := n4_
            clear n0_ n1_ n2_ n3_ n4_
            refine start_ (n:=13) (S:=fun w'=>w'.cell? ⟨gb101,0,none⟩ = some (.int .i64 a0_0)∧w'.cell? ⟨gb101,1,none⟩ = some (.int .i64 a0_1)∧w'.cell? ⟨gb101,2,none⟩ = some (.int .i64 a0_2)∧w'.cell? ⟨gb101,3,none⟩ = some (.slice A0_3 l0_3.length c0_3)∧w'.cell? ⟨gb104,0,none⟩ = some (.int .i64 ((rd_T48 l2 x14_1).f0.f0))∧w'.cell? ⟨gb104,1,none⟩ = some (.int .i64 ((rd_T48 l2 x14_1).f0.f1))∧w'.cell? ⟨gb104,2,none⟩ = some (.slice A103_2 ((rd_T48 l2 x14_1).f1).length c103_2)) (ds:=[]) #[false,false,false,false,false,false,false,false,false,false,false,false,false] (by kernel_rfl) rfl rfl ⟨(blk_cell BK101.out 0).trans rfl,(blk_cell BK101.out 1).trans rfl,(blk_cell BK101.out 2).trans rfl,(blk_cell BK101.out 3).trans rfl,(blk_cell BK104.out 0).trans rfl,(blk_cell BK104.out 1).trans rfl,(blk_cell BK104.out 2).trans rfl⟩ (fun hHeld=>?_);refine with_tabW worktime_adjusted.tab6 worktime_adjusted.bits6 (fun HT_ HW_=>?_)
            generalize w16.drew = w17 at HO_7 BK101 BK102 BK104 HB hHeld ⊢
            refine pure_ (i:=1) (N:=some 19) (v:=?_) (a':=?_) #[false,true,false,false,false,false,false,false,false,false,false,false,false] rfl rfl (any_of HT_.out (by kernel_rfl)) (fun _ _ _ h=>h) (Or.inl ⟨by rfl,?_⟩) ?_ ?_
            rotate_left
            · intro w'
              go_simp
              with_reducible rfl
            rotate_left
            · simp only [Act.put, List.setIfInBounds_toArray, List.set_cons_zero, List.set_cons_succ, i64_w, i32_w]
              rfl
            refine pure_ (i:=2) (N:=some 20) (v:=?_) (a':=?_) #[false,true,true,false,false,false,false,false,false,false,false,false,false] rfl rfl (any_of HT_.out (by kernel_rfl)) (fun _ _ _ h=>h) (Or.inl ⟨by rfl,?_⟩) ?_ ?_
            rotate_left
            · intro w'
              go_simp
              with_reducible rfl
            rotate_left
            · simp only [Act.put, List.setIfInBounds_toArray, List.set_cons_zero, List.set_cons_succ, i64_w, i32_w]
              rfl
            refine pure_ (i:=6) (N:=some 24) (v:=?_) (a':=?_) #[false,true,true,false,false,false,true,false,false,false,false,false,false] rfl rfl (any_of HT_.out (by kernel_rfl)) (fun _ _ _ h=>h) (Or.inl ⟨by rfl,?_⟩) ?_ ?_
            rotate_left
            · intro w'
              go_simp
              with_reducible rfl
            rotate_left
            · simp only [Act.put, List.setIfInBounds_toArray, List.set_cons_zero, List.set_cons_succ, i64_w, i32_w]
              rfl
            refine pure_ (i:=7) (N:=some 25) (v:=?_) (a':=?_) #[false,true,true,false,false,false,true,true,false,false,false,false,false] rfl rfl (any_of HT_.out (by kernel_rfl)) (fun _ _ _ h=>h) (Or.inl ⟨by rfl,?_⟩) ?_ ?_
            rotate_left
            · intro w'
              go_simp
              with_reducible rfl
            rotate_left
            · simp only [Act.put, List.setIfInBounds_toArray, List.set_cons_zero, List.set_cons_succ, i64_w, i32_w]
              rfl
            refine take_ (i:=0) (N:=some 18) (v:=?_) (a':=?_) #[true,true,true,false,false,false,true,true,false,false,false,false,false] rfl rfl (take_ofW HT_.out HW_.out (by kernel_rfl)) (fun _ _ _ h=>h) (Or.inl ⟨by rfl,?_⟩) hHeld ?_ ?_
            rotate_left
            · rintro w' ⟨s0, s1, s2, s3, s4, s5, s6⟩
              go_simp
              with_reducible rfl
            rotate_left
            · simp only [Act.put, List.setIfInBounds_toArray, List.set_cons_zero, List.set_cons_succ, i64_w, i32_w]
              rfl
            refine take_ (i:=3) (N:=some 21) (v:=?_) (a':=?_) #[true,true,true,true,false,false,true,true,false,false,false,false,false] rfl rfl (take_ofW HT_.out HW_.out (by kernel_rfl)) (fun _ _ _ h=>h) (Or.inl ⟨by rfl,?_⟩) hHeld ?_ ?_
            rotate_left
            · rintro w' ⟨s0, s1, s2, s3, s4, s5, s6⟩
              go_simp
              with_reducible rfl
            rotate_left
            · simp only [Act.put, List.setIfInBounds_toArray, List.set_cons_zero, List.set_cons_succ, i64_w, i32_w]
              rfl
            refine take_ (i:=5) (N:=some 23) (v:=?_) (a':=?_) #[true,true,true,true,false,true,true,true,false,false,false,false,false] rfl rfl (take_ofW HT_.out HW_.out (by kernel_rfl)) (fun _ _ _ h=>h) (Or.inl ⟨by rfl,?_⟩) hHeld ?_ ?_
            rotate_left
            · rintro w' ⟨s0, s1, s2, s3, s4, s5, s6⟩
              go_simp
              with_reducible rfl
            rotate_left
            · simp only [Act.put, List.setIfInBounds_toArray, List.set_cons_zero, List.set_cons_succ, i64_w, i32_w]
              rfl
            refine take_ (i:=8) (N:=some 26) (v:=?_) (a':=?_) #[true,true,true,true,false,true,true,true,true,false,false,false,false] rfl rfl (take_ofW HT_.out HW_.out (by kernel_rfl)) (fun _ _ _ h=>h) (Or.inl ⟨by rfl,?_⟩) hHeld ?_ ?_
            rotate_left
            · rintro w' ⟨s0, s1, s2, s3, s4, s5, s6⟩
              go_simp
              with_reducible rfl
            rotate_left
            · simp only [Act.put, List.setIfInBounds_toArray, List.set_cons_zero, List.set_cons_succ, i64_w, i32_w]
              rfl
            refine join_ (σ:=Nat) 1 #[true,true,true,true,true,true,true,true,true,true,true,true,false] (fun s_=>[(22,.int .i64 t105),(27,.int .i64 t106),(11,.pointer (some ⟨s_,0,none⟩)),(28,.agg #[.int .i64 t105,.int .i64 t106])]) (fun s_ w'=>(w'.cell? ⟨gb101,0,none⟩ = some (.int .i64 a0_0)∧w'.cell? ⟨gb101,1,none⟩ = some (.int .i64 a0_1)∧w'.cell? ⟨gb101,2,none⟩ = some (.int .i64 a0_2)∧w'.cell? ⟨gb101,3,none⟩ = some (.slice A0_3 l0_3.length c0_3)∧w'.cell? ⟨gb104,0,none⟩ = some (.int .i64 ((rd_T48 l2 x14_1).f0.f0))∧w'.cell? ⟨gb104,1,none⟩ = some (.int .i64 ((rd_T48 l2 x14_1).f0.f1))∧w'.cell? ⟨gb104,2,none⟩ = some (.slice A103_2 ((rd_T48 l2 x14_1).f1).length c103_2))∧(Kd.R k41 41 w' w.heap.size (fun k_=>k_≠gb102∧k_≠s_) u7 x7_1)∧(w'.heap[gb101]? = some (.cells #[.int .i64 a0_0,.int .i64 a0_1,.int .i64 a0_2,.slice A0_3 l0_3.length c0_3] 35 (0,0)))∧(w'.heap[gb102]? = some (.cells #[.int .i64 a1_0,.int .i64 a1_1] 41 (0,0)))∧(w'.heap[gb104]? = some (.cells #[.int .i64 ((rd_T48 l2 x14_1).f0.f0),.int .i64 ((rd_T48 l2 x14_1).f0.f1),.slice A103_2 ((rd_T48 l2 x14_1).f1).length c103_2] 48 (0,0)))∧(w'.heap[s_]? = some (.cells #[.int .i64 0,.int .i64 0] 41 (0,0)))∧(w.heap.size≤s_)∧(w.heap.size≤s_)∧(gb101≠s_)∧(s_≠gb101)∧(gb102≠s_)∧(s_≠gb102)∧(gb104≠s_)∧(s_≠gb104)∧(Below w.heap.size w w')) ?_ ?_
            rotate_left
            · intro hCont
              refine two_ (i:=4) (j:=11) (Ni:=some 22) (Nj:=some 11) #[true,true,true,true,true,true,true,true,true,false,false,false,false] #[true,true,true,true,false,true,true,true,true,false,false,true,false] rfl rfl rfl rfl (two_of HT_.out (by kernel_rfl)) (by decide) (by decide) (fun K hK=>?_) (fun K hK=>?_)
              · skip
                refine goes_ Try.func31 (by kernel_rfl) rfl #[.agg #[.int .i64 a0_0,.int .i64 a0_1,.int .i64 a0_2,.slice A0_3 l0_3.length c0_3],.int .i64 ((rd_T48 l2 x14_1).f0.f0),.bool false] (by rfl) rfl rfl (by (try simp only[List.map_toArray,List.map_cons,List.map_nil]);first|done|rfl|(simp only[List.length_drop,List.length_take];rfl)) ?_
                with_reducible refine (worktime_moved.calls k1 a0_0 a0_1 a0_2 _ _ l0_3 ((rd_T48 l2 x14_1).f0.f0) false t105 _ ?side1 ?side2 A9.out).mono ?_
                (case side1=>repeat (first|exact(Kd.C_below HR0_3.out HB.out)|(with_reducible refine Kd.C_alloc ?_ _)|(with_reducible refine Kd.C_drewN ?_ _)|(with_reducible refine Kd.C_drew ?_)))
                (case side2 => exact HC0_3.out)
                rintro e w18 ⟨rfl, hb⟩
                refine ⟨_, rfl, ?_⟩
                have n0_:=Aside0.mk (Kd.R_below (by (with_reducible repeat (first|apply Kd.R_alloc|apply Kd.R_drewN|apply Kd.R_drew));exact HO_7.out) hb)
                have n1_:=Aside0.mk (blk_below (g:=gb101) (o:=.cells #[.int .i64 a0_0,.int .i64 a0_1,.int .i64 a0_2,.slice A0_3 l0_3.length c0_3] 35 (0,0)) (by (with_reducible repeat (first|refine blk_drewN ?_ _|refine blk_drew ?_|refine blk_alloc ?_ _));exact BK101.out) hb)
                have n2_:=Aside0.mk (blk_below (g:=gb102) (o:=.cells #[.int .i64 a1_0,.int .i64 a1_1] 41 (0,0)) (by (with_reducible repeat (first|refine blk_drewN ?_ _|refine blk_drew ?_|refine blk_alloc ?_ _));exact BK102.out) hb)
                have n3_:=Aside0.mk (blk_below (g:=gb104) (o:=.cells #[.int .i64 ((rd_T48 l2 x14_1).f0.f0),.int .i64 ((rd_T48 l2 x14_1).f0.f1),.slice A103_2 ((rd_T48 l2 x14_1).f1).length c103_2] 48 (0,0)) (by (with_reducible repeat (first|refine blk_drewN ?_ _|refine blk_drew ?_|refine blk_alloc ?_ _));exact BK104.out) hb)
                have n4_:=Aside0.mk (below_step (by repeat (first|(with_reducible first|exact HB.out|apply below_alloc|apply pw_below_drewN|apply below_drew1|refine below_set ?_ GE101.out|refine below_set ?_ GE102.out|refine below_set ?_ GE104.out)|exact HB.out)) hb)
                clear HO_7
                clear BK101
                clear BK102
                clear BK104
                clear HB
                have HO_7 := n0_
                have BK101 := n1_
                have BK102 := n2_
                have BK104 := n3_
                have HB := n4_
                clear n0_ n1_ n2_ n3_ n4_
                (try clear hb)
                (try clear hb2)
                (try clear hk)
                (try clear hi)
                refine hK.out _ _ ⟨(blk_cell BK101.out 0).trans rfl,(blk_cell BK101.out 1).trans rfl,(blk_cell BK101.out 2).trans rfl,(blk_cell BK101.out 3).trans rfl,(blk_cell BK104.out 0).trans rfl,(blk_cell BK104.out 1).trans rfl,(blk_cell BK104.out 2).trans rfl⟩ (fun hHeld=>?_)
                clear hK K
                refine norm_ (a' := ?_) ?_ ?_
                rotate_left
                · show Act.put _ (some 22) _ = _
                  simp only [Act.put, List.setIfInBounds_toArray, List.set_cons_zero, List.set_cons_succ, i64_w, i32_w]
                  rfl
                refine two_ (i:=9) (j:=11) (Ni:=some 27) (Nj:=some 11) #[true,true,true,true,true,true,true,true,true,true,false,false,false] #[true,true,true,true,true,true,true,true,true,false,false,true,false] rfl rfl rfl rfl (two_of HT_.out (by kernel_rfl)) (by decide) (by decide) (fun K hK=>?_) (fun K hK=>?_)
                · skip
                  refine goes_ Try.func31 (by kernel_rfl) rfl #[.agg #[.int .i64 a0_0,.int .i64 a0_1,.int .i64 a0_2,.slice A0_3 l0_3.length c0_3],.int .i64 ((rd_T48 l2 x14_1).f0.f1),.bool true] (by rfl) rfl rfl (by (try simp only[List.map_toArray,List.map_cons,List.map_nil]);first|done|rfl|(simp only[List.length_drop,List.length_take];rfl)) ?_
                  with_reducible refine (worktime_moved.calls k1 a0_0 a0_1 a0_2 _ _ l0_3 ((rd_T48 l2 x14_1).f0.f1) true t106 _ ?side1 ?side2 A10.out).mono ?_
                  (case side1=>repeat (first|exact(Kd.C_below HR0_3.out HB.out)|(with_reducible refine Kd.C_alloc ?_ _)|(with_reducible refine Kd.C_drewN ?_ _)|(with_reducible refine Kd.C_drew ?_)))
                  (case side2 => exact HC0_3.out)
                  rintro e w19 ⟨rfl, hb⟩
                  refine ⟨_, rfl, ?_⟩
                  have n0_:=Aside0.mk (Kd.R_below (by (with_reducible repeat (first|apply Kd.R_alloc|apply Kd.R_drewN|apply Kd.R_drew));exact HO_7.out) hb)
                  have n1_:=Aside0.mk (blk_below (g:=gb101) (o:=.cells #[.int .i64 a0_0,.int .i64 a0_1,.int .i64 a0_2,.slice A0_3 l0_3.length c0_3] 35 (0,0)) (by (with_reducible repeat (first|refine blk_drewN ?_ _|refine blk_drew ?_|refine blk_alloc ?_ _));exact BK101.out) hb)
                  have n2_:=Aside0.mk (blk_below (g:=gb102) (o:=.cells #[.int .i64 a1_0,.int .i64 a1_1] 41 (0,0)) (by (with_reducible repeat (first|refine blk_drewN ?_ _|refine blk_drew ?_|refine blk_alloc ?_ _));exact BK102.out) hb)
                  have n3_:=Aside0.mk (blk_below (g:=gb104) (o:=.cells #[.int .i64 ((rd_T48 l2 x14_1).f0.f0),.int .i64 ((rd_T48 l2 x14_1).f0.f1),.slice A103_2 ((rd_T48 l2 x14_1).f1).length c103_2] 48 (0,0)) (by (with_reducible repeat (first|refine blk_drewN ?_ _|refine blk_drew ?_|refine blk_alloc ?_ _));exact BK104.out) hb)
                  have n4_:=Aside0.mk (below_step (by repeat (first|(with_reducible first|exact HB.out|apply below_alloc|apply pw_below_drewN|apply below_drew1|refine below_set ?_ GE101.out|refine below_set ?_ GE102.out|refine below_set ?_ GE104.out)|exact HB.out)) hb)
                  clear HO_7
                  clear BK101
                  clear BK102
                  clear BK104
                  clear HB
                  have HO_7 := n0_
                  have BK101 := n1_
                  have BK102 := n2_
                  have BK104 := n3_
                  have HB := n4_
                  clear n0_ n1_ n2_ n3_ n4_
                  (try clear hb)
                  (try clear hb2)
                  (try clear hk)
                  (try clear hi)
                  refine hK.out _ _ ⟨(blk_cell BK101.out 0).trans rfl,(blk_cell BK101.out 1).trans rfl,(blk_cell BK101.out 2).trans rfl,(blk_cell BK101.out 3).trans rfl,(blk_cell BK104.out 0).trans rfl,(blk_cell BK104.out 1).trans rfl,(blk_cell BK104.out 2).trans rfl⟩ (fun hHeld=>?_)
                  clear hK K
                  refine norm_ (a' := ?_) ?_ ?_
                  rotate_left
                  · show Act.put _ (some 27) _ = _
                    simp only[Act.put,List.setIfInBounds_toArray,List.set_cons_zero,List.set_cons_succ,i64_w,i32_w]
                    rfl
                  refine pure_ (i:=10) (N:=some 28) (v:=?_) (a':=?_) #[true,true,true,true,true,true,true,true,true,true,true,false,false] rfl rfl (any_of HT_.out (by kernel_rfl)) (fun _ _ _ h=>h) (Or.inl ⟨by rfl,?_⟩) ?_ ?_
                  rotate_left
                  · intro w'
                    go_simp
                    with_reducible rfl
                  rotate_left
                  · simp only [Act.put, List.setIfInBounds_toArray, List.set_cons_zero, List.set_cons_succ, i64_w, i32_w]
                    rfl
                  refine one_ (i:=11) (N:=some 11) #[true,true,true,true,true,true,true,true,true,true,true,true,false] rfl rfl (one_of HT_.out (by kernel_rfl)) (by decide) (fun K hK=>?_)
                  refine box_step ?hg (N:=11) ?hd (cs:=#[.int .i64 0,.int .i64 0]) (t:=41) ?hr ?_;(case hd=>rfl);(case hg=>rfl);(case hr=>first|(go_simp;done)|(go_simp;rfl))
                  intro gb107 hg w20 hbox hb
                  have n0_:=Aside0.mk (Kd.R_below (Kd.R_elderB (by (with_reducible repeat (first|apply Kd.R_alloc|apply Kd.R_drewN|apply Kd.R_drew));exact HO_7.out) gb107 (Nat.le_of_eq hg.symm)) hb)
                  have n1_:=Aside0.mk (blk_below (g:=gb101) (o:=.cells #[.int .i64 a0_0,.int .i64 a0_1,.int .i64 a0_2,.slice A0_3 l0_3.length c0_3] 35 (0,0)) (by (with_reducible repeat (first|refine blk_drewN ?_ _|refine blk_drew ?_|refine blk_alloc ?_ _));exact BK101.out) hb)
                  have n2_:=Aside0.mk (blk_below (g:=gb102) (o:=.cells #[.int .i64 a1_0,.int .i64 a1_1] 41 (0,0)) (by (with_reducible repeat (first|refine blk_drewN ?_ _|refine blk_drew ?_|refine blk_alloc ?_ _));exact BK102.out) hb)
                  have n3_:=Aside0.mk (blk_below (g:=gb104) (o:=.cells #[.int .i64 ((rd_T48 l2 x14_1).f0.f0),.int .i64 ((rd_T48 l2 x14_1).f0.f1),.slice A103_2 ((rd_T48 l2 x14_1).f1).length c103_2] 48 (0,0)) (by (with_reducible repeat (first|refine blk_drewN ?_ _|refine blk_drew ?_|refine blk_alloc ?_ _));exact BK104.out) hb)
                  have n4_:=Aside0.mk (below_step (by repeat (first|(with_reducible first|exact HB.out|apply below_alloc|apply pw_below_drewN|apply below_drew1|refine below_set ?_ GE101.out|refine below_set ?_ GE102.out|refine below_set ?_ GE104.out)|exact HB.out)) hb)
                  have n5_ := Aside0.mk (hbox)
                  have n6_:=Aside0.mk ((by rw[hg];exact(below_size (by repeat (first|(with_reducible first|exact HB.out|apply below_alloc|apply pw_below_drewN|apply below_drew1|refine below_set ?_ GE101.out|refine below_set ?_ GE102.out|refine below_set ?_ GE104.out)|exact HB.out))):w.heap.size≤gb107))
                  have n7_:=Aside0.mk ((by rw[hg];exact(below_size (by repeat (first|(with_reducible first|exact HB.out|apply below_alloc|apply pw_below_drewN|apply below_drew1|refine below_set ?_ GE101.out|refine below_set ?_ GE102.out|refine below_set ?_ GE104.out)|exact HB.out))):w.heap.size≤gb107))
                  have n8_:=Aside0.mk ((by rw[hg];exact Nat.ne_of_lt (blk_lt (g:=gb101) (o:=.cells #[.int .i64 a0_0,.int .i64 a0_1,.int .i64 a0_2,.slice A0_3 l0_3.length c0_3] 35 (0,0)) (by (with_reducible repeat (first|refine blk_drewN ?_ _|refine blk_drew ?_|refine blk_alloc ?_ _));exact BK101.out)):gb101≠gb107))
                  have n9_:=Aside0.mk ((by rw[hg];exact Nat.ne_of_gt (blk_lt (g:=gb101) (o:=.cells #[.int .i64 a0_0,.int .i64 a0_1,.int .i64 a0_2,.slice A0_3 l0_3.length c0_3] 35 (0,0)) (by (with_reducible repeat (first|refine blk_drewN ?_ _|refine blk_drew ?_|refine blk_alloc ?_ _));exact BK101.out)):gb107≠gb101))
                  have n10_:=Aside0.mk ((by rw[hg];exact Nat.ne_of_lt (blk_lt (g:=gb102) (o:=.cells #[.int .i64 a1_0,.int .i64 a1_1] 41 (0,0)) (by (with_reducible repeat (first|refine blk_drewN ?_ _|refine blk_drew ?_|refine blk_alloc ?_ _));exact BK102.out)):gb102≠gb107))
                  have n11_:=Aside0.mk ((by rw[hg];exact Nat.ne_of_gt (blk_lt (g:=gb102) (o:=.cells #[.int .i64 a1_0,.int .i64 a1_1] 41 (0,0)) (by (with_reducible repeat (first|refine blk_drewN ?_ _|refine blk_drew ?_|refine blk_alloc ?_ _));exact BK102.out)):gb107≠gb102))
                  have n12_:=Aside0.mk ((by rw[hg];exact Nat.ne_of_lt (blk_lt (g:=gb104) (o:=.cells #[.int .i64 ((rd_T48 l2 x14_1).f0.f0),.int .i64 ((rd_T48 l2 x14_1).f0.f1),.slice A103_2 ((rd_T48 l2 x14_1).f1).length c103_2] 48 (0,0)) (by (with_reducible repeat (first|refine blk_drewN ?_ _|refine blk_drew ?_|refine blk_alloc ?_ _));exact BK104.out)):gb104≠gb107))
                  have n13_:=Aside0.mk ((by rw[hg];exact Nat.ne_of_gt (blk_lt (g:=gb104) (o:=.cells #[.int .i64 ((rd_T48 l2 x14_1).f0.f0),.int .i64 ((rd_T48 l2 x14_1).f0.f1),.slice A103_2 ((rd_T48 l2 x14_1).f1).length c103_2] 48 (0,0)) (by (with_reducible repeat (first|refine blk_drewN ?_ _|refine blk_drew ?_|refine blk_alloc ?_ _));exact BK104.out)):gb107≠gb104))
                  clear HO_7
                  clear BK101
                  clear BK102
                  clear BK104
                  clear HB
                  have HO_7 := n0_
                  have BK101 := n1_
                  have BK102 := n2_
                  have BK104 := n3_
                  have HB := n4_
                  have BK107 := n5_
                  have GW107 := n6_
                  have GE107 := n7_
                  have NB101_107 := n8_
                  have NB107_101 := n9_
                  have NB102_107 := n10_
                  have NB107_102 := n11_
                  have NB104_107 := n12_
                  have NB107_104 := n13_
                  clear n0_ n1_ n2_ n3_ n4_ n5_ n6_ n7_ n8_ n9_ n10_ n11_ n12_ n13_
                  clear hb hbox hg
                  refine hK.out _ _ ⟨(blk_cell BK101.out 0).trans rfl,(blk_cell BK101.out 1).trans rfl,(blk_cell BK101.out 2).trans rfl,(blk_cell BK101.out 3).trans rfl,(blk_cell BK104.out 0).trans rfl,(blk_cell BK104.out 1).trans rfl,(blk_cell BK104.out 2).trans rfl⟩ (fun hHeld=>?_)
                  clear hK K
                  refine norm_ (a' := ?_) ?_ ?_
                  rotate_left
                  · show Act.put _ (some 11) _ = _
                    simp only[Act.put,List.setIfInBounds_toArray,List.set_cons_zero,List.set_cons_succ,i64_w,i32_w]
                    rfl
                  exact norm_ (by simp only[putAll,Act.put,List.setIfInBounds_toArray,List.set_cons_zero,List.set_cons_succ]) (hCont (gb107) _ ⟨hHeld,(by (with_reducible repeat (first|apply Kd.R_alloc|apply Kd.R_drewN|apply Kd.R_drew));exact HO_7.out),(by (with_reducible repeat (first|refine blk_drewN ?_ _|refine blk_drew ?_|refine blk_alloc ?_ _));exact BK101.out),(by (with_reducible repeat (first|refine blk_drewN ?_ _|refine blk_drew ?_|refine blk_alloc ?_ _));exact BK102.out),(by (with_reducible repeat (first|refine blk_drewN ?_ _|refine blk_drew ?_|refine blk_alloc ?_ _));exact BK104.out),(by (with_reducible repeat (first|refine blk_drewN ?_ _|refine blk_drew ?_|refine blk_alloc ?_ _));exact BK107.out),GW107.out,GE107.out,NB101_107.out,NB107_101.out,NB102_107.out,NB107_102.out,NB104_107.out,NB107_104.out,(by repeat (first|(with_reducible first|exact HB.out|apply below_alloc|apply pw_below_drewN|apply below_drew1|refine below_set ?_ GE101.out|refine below_set ?_ GE102.out|refine below_set ?_ GE104.out|refine below_set ?_ GE107.out)|exact HB.out))⟩)
                · skip
                  refine box_step ?hg (N:=11) ?hd (cs:=#[.int .i64 0,.int .i64 0]) (t:=41) ?hr ?_;(case hd=>rfl);(case hg=>rfl);(case hr=>first|(go_simp;done)|(go_simp;rfl))
                  intro gb107 hg w19 hbox hb
                  have n0_:=Aside0.mk (Kd.R_below (Kd.R_elderB (by (with_reducible repeat (first|apply Kd.R_alloc|apply Kd.R_drewN|apply Kd.R_drew));exact HO_7.out) gb107 (Nat.le_of_eq hg.symm)) hb)
                  have n1_:=Aside0.mk (blk_below (g:=gb101) (o:=.cells #[.int .i64 a0_0,.int .i64 a0_1,.int .i64 a0_2,.slice A0_3 l0_3.length c0_3] 35 (0,0)) (by (with_reducible repeat (first|refine blk_drewN ?_ _|refine blk_drew ?_|refine blk_alloc ?_ _));exact BK101.out) hb)
                  have n2_:=Aside0.mk (blk_below (g:=gb102) (o:=.cells #[.int .i64 a1_0,.int .i64 a1_1] 41 (0,0)) (by (with_reducible repeat (first|refine blk_drewN ?_ _|refine blk_drew ?_|refine blk_alloc ?_ _));exact BK102.out) hb)
                  have n3_:=Aside0.mk (blk_below (g:=gb104) (o:=.cells #[.int .i64 ((rd_T48 l2 x14_1).f0.f0),.int .i64 ((rd_T48 l2 x14_1).f0.f1),.slice A103_2 ((rd_T48 l2 x14_1).f1).length c103_2] 48 (0,0)) (by (with_reducible repeat (first|refine blk_drewN ?_ _|refine blk_drew ?_|refine blk_alloc ?_ _));exact BK104.out) hb)
                  have n4_:=Aside0.mk (below_step (by repeat (first|(with_reducible first|exact HB.out|apply below_alloc|apply pw_below_drewN|apply below_drew1|refine below_set ?_ GE101.out|refine below_set ?_ GE102.out|refine below_set ?_ GE104.out)|exact HB.out)) hb)
                  have n5_ := Aside0.mk (hbox)
                  have n6_:=Aside0.mk ((by rw[hg];exact(below_size (by repeat (first|(with_reducible first|exact HB.out|apply below_alloc|apply pw_below_drewN|apply below_drew1|refine below_set ?_ GE101.out|refine below_set ?_ GE102.out|refine below_set ?_ GE104.out)|exact HB.out))):w.heap.size≤gb107))
                  have n7_:=Aside0.mk ((by rw[hg];exact(below_size (by repeat (first|(with_reducible first|exact HB.out|apply below_alloc|apply pw_below_drewN|apply below_drew1|refine below_set ?_ GE101.out|refine below_set ?_ GE102.out|refine below_set ?_ GE104.out)|exact HB.out))):w.heap.size≤gb107))
                  have n8_:=Aside0.mk ((by rw[hg];exact Nat.ne_of_lt (blk_lt (g:=gb101) (o:=.cells #[.int .i64 a0_0,.int .i64 a0_1,.int .i64 a0_2,.slice A0_3 l0_3.length c0_3] 35 (0,0)) (by (with_reducible repeat (first|refine blk_drewN ?_ _|refine blk_drew ?_|refine blk_alloc ?_ _));exact BK101.out)):gb101≠gb107))
                  have n9_:=Aside0.mk ((by rw[hg];exact Nat.ne_of_gt (blk_lt (g:=gb101) (o:=.cells #[.int .i64 a0_0,.int .i64 a0_1,.int .i64 a0_2,.slice A0_3 l0_3.length c0_3] 35 (0,0)) (by (with_reducible repeat (first|refine blk_drewN ?_ _|refine blk_drew ?_|refine blk_alloc ?_ _));exact BK101.out)):gb107≠gb101))
                  have n10_:=Aside0.mk ((by rw[hg];exact Nat.ne_of_lt (blk_lt (g:=gb102) (o:=.cells #[.int .i64 a1_0,.int .i64 a1_1] 41 (0,0)) (by (with_reducible repeat (first|refine blk_drewN ?_ _|refine blk_drew ?_|refine blk_alloc ?_ _));exact BK102.out)):gb102≠gb107))
                  have n11_:=Aside0.mk ((by rw[hg];exact Nat.ne_of_gt (blk_lt (g:=gb102) (o:=.cells #[.int .i64 a1_0,.int .i64 a1_1] 41 (0,0)) (by (with_reducible repeat (first|refine blk_drewN ?_ _|refine blk_drew ?_|refine blk_alloc ?_ _));exact BK102.out)):gb107≠gb102))
                  have n12_:=Aside0.mk ((by rw[hg];exact Nat.ne_of_lt (blk_lt (g:=gb104) (o:=.cells #[.int .i64 ((rd_T48 l2 x14_1).f0.f0),.int .i64 ((rd_T48 l2 x14_1).f0.f1),.slice A103_2 ((rd_T48 l2 x14_1).f1).length c103_2] 48 (0,0)) (by (with_reducible repeat (first|refine blk_drewN ?_ _|refine blk_drew ?_|refine blk_alloc ?_ _));exact BK104.out)):gb104≠gb107))
                  have n13_:=Aside0.mk ((by rw[hg];exact Nat.ne_of_gt (blk_lt (g:=gb104) (o:=.cells #[.int .i64 ((rd_T48 l2 x14_1).f0.f0),.int .i64 ((rd_T48 l2 x14_1).f0.f1),.slice A103_2 ((rd_T48 l2 x14_1).f1).length c103_2] 48 (0,0)) (by (with_reducible repeat (first|refine blk_drewN ?_ _|refine blk_drew ?_|refine blk_alloc ?_ _));exact BK104.out)):gb107≠gb104))
                  clear HO_7
                  clear BK101
                  clear BK102
                  clear BK104
                  clear HB
                  have HO_7 := n0_
                  have BK101 := n1_
                  have BK102 := n2_
                  have BK104 := n3_
                  have HB := n4_
                  have BK107 := n5_
                  have GW107 := n6_
                  have GE107 := n7_
                  have NB101_107 := n8_
                  have NB107_101 := n9_
                  have NB102_107 := n10_
                  have NB107_102 := n11_
                  have NB104_107 := n12_
                  have NB107_104 := n13_
                  clear n0_ n1_ n2_ n3_ n4_ n5_ n6_ n7_ n8_ n9_ n10_ n11_ n12_ n13_
                  clear hb hbox hg
                  refine hK.out _ _ ⟨(blk_cell BK101.out 0).trans rfl,(blk_cell BK101.out 1).trans rfl,(blk_cell BK101.out 2).trans rfl,(blk_cell BK101.out 3).trans rfl,(blk_cell BK104.out 0).trans rfl,(blk_cell BK104.out 1).trans rfl,(blk_cell BK104.out 2).trans rfl⟩ (fun hHeld=>?_)
                  clear hK K
                  refine norm_ (a' := ?_) ?_ ?_
                  rotate_left
                  · show Act.put _ (some 11) _ = _
                    simp only[Act.put,List.setIfInBounds_toArray,List.set_cons_zero,List.set_cons_succ,i64_w,i32_w]
                    rfl
                  refine one_ (i:=9) (N:=some 27) #[true,true,true,true,true,true,true,true,true,true,false,true,false] rfl rfl (one_of HT_.out (by kernel_rfl)) (by decide) (fun K hK=>?_)
                  refine goes_ Try.func31 (by kernel_rfl) rfl #[.agg #[.int .i64 a0_0,.int .i64 a0_1,.int .i64 a0_2,.slice A0_3 l0_3.length c0_3],.int .i64 ((rd_T48 l2 x14_1).f0.f1),.bool true] (by rfl) rfl rfl (by (try simp only[List.map_toArray,List.map_cons,List.map_nil]);first|done|rfl|(simp only[List.length_drop,List.length_take];rfl)) ?_
                  with_reducible refine (worktime_moved.calls k1 a0_0 a0_1 a0_2 _ _ l0_3 ((rd_T48 l2 x14_1).f0.f1) true t106 _ ?side1 ?side2 A10.out).mono ?_
                  (case side1=>repeat (first|exact(Kd.C_below HR0_3.out HB.out)|(with_reducible refine Kd.C_alloc ?_ _)|(with_reducible refine Kd.C_drewN ?_ _)|(with_reducible refine Kd.C_drew ?_)))
                  (case side2 => exact HC0_3.out)
                  rintro e w20 ⟨rfl, hb⟩
                  refine ⟨_, rfl, ?_⟩
                  have n0_:=Aside0.mk (Kd.R_below (by (with_reducible repeat (first|apply Kd.R_alloc|apply Kd.R_drewN|apply Kd.R_drew));exact HO_7.out) hb)
                  have n1_:=Aside0.mk (blk_below (g:=gb101) (o:=.cells #[.int .i64 a0_0,.int .i64 a0_1,.int .i64 a0_2,.slice A0_3 l0_3.length c0_3] 35 (0,0)) (by (with_reducible repeat (first|refine blk_drewN ?_ _|refine blk_drew ?_|refine blk_alloc ?_ _));exact BK101.out) hb)
                  have n2_:=Aside0.mk (blk_below (g:=gb102) (o:=.cells #[.int .i64 a1_0,.int .i64 a1_1] 41 (0,0)) (by (with_reducible repeat (first|refine blk_drewN ?_ _|refine blk_drew ?_|refine blk_alloc ?_ _));exact BK102.out) hb)
                  have n3_:=Aside0.mk (blk_below (g:=gb104) (o:=.cells #[.int .i64 ((rd_T48 l2 x14_1).f0.f0),.int .i64 ((rd_T48 l2 x14_1).f0.f1),.slice A103_2 ((rd_T48 l2 x14_1).f1).length c103_2] 48 (0,0)) (by (with_reducible repeat (first|refine blk_drewN ?_ _|refine blk_drew ?_|refine blk_alloc ?_ _));exact BK104.out) hb)
                  have n4_:=Aside0.mk (blk_below (g:=gb107) (o:=.cells #[.int .i64 0,.int .i64 0] 41 (0,0)) (by (with_reducible repeat (first|refine blk_drewN ?_ _|refine blk_drew ?_|refine blk_alloc ?_ _));exact BK107.out) hb)
                  have n5_:=Aside0.mk (below_step (by repeat (first|(with_reducible first|exact HB.out|apply below_alloc|apply pw_below_drewN|apply below_drew1|refine below_set ?_ GE101.out|refine below_set ?_ GE102.out|refine below_set ?_ GE104.out|refine below_set ?_ GE107.out)|exact HB.out)) hb)
                  clear HO_7
                  clear BK101
                  clear BK102
                  clear BK104
                  clear BK107
                  clear HB
                  have HO_7 := n0_
                  have BK101 := n1_
                  have BK102 := n2_
                  have BK104 := n3_
                  have BK107 := n4_
                  have HB := n5_
                  clear n0_ n1_ n2_ n3_ n4_ n5_
                  (try clear hb)
                  (try clear hb2)
                  (try clear hk)
                  (try clear hi)
                  refine hK.out _ _ ⟨(blk_cell BK101.out 0).trans rfl,(blk_cell BK101.out 1).trans rfl,(blk_cell BK101.out 2).trans rfl,(blk_cell BK101.out 3).trans rfl,(blk_cell BK104.out 0).trans rfl,(blk_cell BK104.out 1).trans rfl,(blk_cell BK104.out 2).trans rfl⟩ (fun hHeld=>?_)
                  clear hK K
                  refine norm_ (a' := ?_) ?_ ?_
                  rotate_left
                  · show Act.put _ (some 27) _ = _
                    simp only[Act.put,List.setIfInBounds_toArray,List.set_cons_zero,List.set_cons_succ,i64_w,i32_w]
                    rfl
                  refine pure_ (i:=10) (N:=some 28) (v:=?_) (a':=?_) #[true,true,true,true,true,true,true,true,true,true,true,true,false] rfl rfl (any_of HT_.out (by kernel_rfl)) (fun _ _ _ h=>h) (Or.inl ⟨by rfl,?_⟩) ?_ ?_
                  rotate_left
                  · intro w'
                    go_simp
                    with_reducible rfl
                  rotate_left
                  · simp only [Act.put, List.setIfInBounds_toArray, List.set_cons_zero, List.set_cons_succ, i64_w, i32_w]
                    rfl
                  exact norm_ (by simp only[putAll,Act.put,List.setIfInBounds_toArray,List.set_cons_zero,List.set_cons_succ]) (hCont (gb107) _ ⟨hHeld,(by (with_reducible repeat (first|apply Kd.R_alloc|apply Kd.R_drewN|apply Kd.R_drew));exact HO_7.out),(by (with_reducible repeat (first|refine blk_drewN ?_ _|refine blk_drew ?_|refine blk_alloc ?_ _));exact BK101.out),(by (with_reducible repeat (first|refine blk_drewN ?_ _|refine blk_drew ?_|refine blk_alloc ?_ _));exact BK102.out),(by (with_reducible repeat (first|refine blk_drewN ?_ _|refine blk_drew ?_|refine blk_alloc ?_ _));exact BK104.out),(by (with_reducible repeat (first|refine blk_drewN ?_ _|refine blk_drew ?_|refine blk_alloc ?_ _));exact BK107.out),GW107.out,GE107.out,NB101_107.out,NB107_101.out,NB102_107.out,NB107_102.out,NB104_107.out,NB107_104.out,(by repeat (first|(with_reducible first|exact HB.out|apply below_alloc|apply pw_below_drewN|apply below_drew1|refine below_set ?_ GE101.out|refine below_set ?_ GE102.out|refine below_set ?_ GE104.out|refine below_set ?_ GE107.out)|exact HB.out))⟩)
              · skip
                refine box_step ?hg (N:=11) ?hd (cs:=#[.int .i64 0,.int .i64 0]) (t:=41) ?hr ?_;(case hd=>rfl);(case hg=>rfl);(case hr=>first|(go_simp;done)|(go_simp;rfl))
                intro gb107 hg w18 hbox hb
                have n0_:=Aside0.mk (Kd.R_below (Kd.R_elderB (by (with_reducible repeat (first|apply Kd.R_alloc|apply Kd.R_drewN|apply Kd.R_drew));exact HO_7.out) gb107 (Nat.le_of_eq hg.symm)) hb)
                have n1_:=Aside0.mk (blk_below (g:=gb101) (o:=.cells #[.int .i64 a0_0,.int .i64 a0_1,.int .i64 a0_2,.slice A0_3 l0_3.length c0_3] 35 (0,0)) (by (with_reducible repeat (first|refine blk_drewN ?_ _|refine blk_drew ?_|refine blk_alloc ?_ _));exact BK101.out) hb)
                have n2_:=Aside0.mk (blk_below (g:=gb102) (o:=.cells #[.int .i64 a1_0,.int .i64 a1_1] 41 (0,0)) (by (with_reducible repeat (first|refine blk_drewN ?_ _|refine blk_drew ?_|refine blk_alloc ?_ _));exact BK102.out) hb)
                have n3_:=Aside0.mk (blk_below (g:=gb104) (o:=.cells #[.int .i64 ((rd_T48 l2 x14_1).f0.f0),.int .i64 ((rd_T48 l2 x14_1).f0.f1),.slice A103_2 ((rd_T48 l2 x14_1).f1).length c103_2] 48 (0,0)) (by (with_reducible repeat (first|refine blk_drewN ?_ _|refine blk_drew ?_|refine blk_alloc ?_ _));exact BK104.out) hb)
                have n4_:=Aside0.mk (below_step (by repeat (first|(with_reducible first|exact HB.out|apply below_alloc|apply pw_below_drewN|apply below_drew1|refine below_set ?_ GE101.out|refine below_set ?_ GE102.out|refine below_set ?_ GE104.out)|exact HB.out)) hb)
                have n5_ := Aside0.mk (hbox)
                have n6_:=Aside0.mk ((by rw[hg];exact(below_size (by repeat (first|(with_reducible first|exact HB.out|apply below_alloc|apply pw_below_drewN|apply below_drew1|refine below_set ?_ GE101.out|refine below_set ?_ GE102.out|refine below_set ?_ GE104.out)|exact HB.out))):w.heap.size≤gb107))
                have n7_:=Aside0.mk ((by rw[hg];exact(below_size (by repeat (first|(with_reducible first|exact HB.out|apply below_alloc|apply pw_below_drewN|apply below_drew1|refine below_set ?_ GE101.out|refine below_set ?_ GE102.out|refine below_set ?_ GE104.out)|exact HB.out))):w.heap.size≤gb107))
                have n8_:=Aside0.mk ((by rw[hg];exact Nat.ne_of_lt (blk_lt (g:=gb101) (o:=.cells #[.int .i64 a0_0,.int .i64 a0_1,.int .i64 a0_2,.slice A0_3 l0_3.length c0_3] 35 (0,0)) (by (with_reducible repeat (first|refine blk_drewN ?_ _|refine blk_drew ?_|refine blk_alloc ?_ _));exact BK101.out)):gb101≠gb107))
                have n9_:=Aside0.mk ((by rw[hg];exact Nat.ne_of_gt (blk_lt (g:=gb101) (o:=.cells #[.int .i64 a0_0,.int .i64 a0_1,.int .i64 a0_2,.slice A0_3 l0_3.length c0_3] 35 (0,0)) (by (with_reducible repeat (first|refine blk_drewN ?_ _|refine blk_drew ?_|refine blk_alloc ?_ _));exact BK101.out)):gb107≠gb101))
                have n10_:=Aside0.mk ((by rw[hg];exact Nat.ne_of_lt (blk_lt (g:=gb102) (o:=.cells #[.int .i64 a1_0,.int .i64 a1_1] 41 (0,0)) (by (with_reducible repeat (first|refine blk_drewN ?_ _|refine blk_drew ?_|refine blk_alloc ?_ _));exact BK102.out)):gb102≠gb107))
                have n11_:=Aside0.mk ((by rw[hg];exact Nat.ne_of_gt (blk_lt (g:=gb102) (o:=.cells #[.int .i64 a1_0,.int .i64 a1_1] 41 (0,0)) (by (with_reducible repeat (first|refine blk_drewN ?_ _|refine blk_drew ?_|refine blk_alloc ?_ _));exact BK102.out)):gb107≠gb102))
                have n12_:=Aside0.mk ((by rw[hg];exact Nat.ne_of_lt (blk_lt (g:=gb104) (o:=.cells #[.int .i64 ((rd_T48 l2 x14_1).f0.f0),.int .i64 ((rd_T48 l2 x14_1).f0.f1),.slice A103_2 ((rd_T48 l2 x14_1).f1).length c103_2] 48 (0,0)) (by (with_reducible repeat (first|refine blk_drewN ?_ _|refine blk_drew ?_|refine blk_alloc ?_ _));exact BK104.out)):gb104≠gb107))
                have n13_:=Aside0.mk ((by rw[hg];exact Nat.ne_of_gt (blk_lt (g:=gb104) (o:=.cells #[.int .i64 ((rd_T48 l2 x14_1).f0.f0),.int .i64 ((rd_T48 l2 x14_1).f0.f1),.slice A103_2 ((rd_T48 l2 x14_1).f1).length c103_2] 48 (0,0)) (by (with_reducible repeat (first|refine blk_drewN ?_ _|refine blk_drew ?_|refine blk_alloc ?_ _));exact BK104.out)):gb107≠gb104))
                clear HO_7
                clear BK101
                clear BK102
                clear BK104
                clear HB
                have HO_7 := n0_
                have BK101 := n1_
                have BK102 := n2_
                have BK104 := n3_
                have HB := n4_
                have BK107 := n5_
                have GW107 := n6_
                have GE107 := n7_
                have NB101_107 := n8_
                have NB107_101 := n9_
                have NB102_107 := n10_
                have NB107_102 := n11_
                have NB104_107 := n12_
                have NB107_104 := n13_
                clear n0_ n1_ n2_ n3_ n4_ n5_ n6_ n7_ n8_ n9_ n10_ n11_ n12_ n13_
                clear hb hbox hg
                refine hK.out _ _ ⟨(blk_cell BK101.out 0).trans rfl,(blk_cell BK101.out 1).trans rfl,(blk_cell BK101.out 2).trans rfl,(blk_cell BK101.out 3).trans rfl,(blk_cell BK104.out 0).trans rfl,(blk_cell BK104.out 1).trans rfl,(blk_cell BK104.out 2).trans rfl⟩ (fun hHeld=>?_)
                clear hK K
                refine norm_ (a' := ?_) ?_ ?_
                rotate_left
                · show Act.put _ (some 11) _ = _
                  simp only [Act.put, List.setIfInBounds_toArray, List.set_cons_zero, List.set_cons_succ, i64_w, i32_w]
                  rfl
                refine one_ (i:=4) (N:=some 22) #[true,true,true,true,true,true,true,true,true,false,false,true,false] rfl rfl (one_of HT_.out (by kernel_rfl)) (by decide) (fun K hK=>?_)
                refine goes_ Try.func31 (by kernel_rfl) rfl #[.agg #[.int .i64 a0_0,.int .i64 a0_1,.int .i64 a0_2,.slice A0_3 l0_3.length c0_3],.int .i64 ((rd_T48 l2 x14_1).f0.f0),.bool false] (by rfl) rfl rfl (by (try simp only[List.map_toArray,List.map_cons,List.map_nil]);first|done|rfl|(simp only[List.length_drop,List.length_take];rfl)) ?_
                with_reducible refine (worktime_moved.calls k1 a0_0 a0_1 a0_2 _ _ l0_3 ((rd_T48 l2 x14_1).f0.f0) false t105 _ ?side1 ?side2 A9.out).mono ?_
                (case side1=>repeat (first|exact(Kd.C_below HR0_3.out HB.out)|(with_reducible refine Kd.C_alloc ?_ _)|(with_reducible refine Kd.C_drewN ?_ _)|(with_reducible refine Kd.C_drew ?_)))
                (case side2 => exact HC0_3.out)
                rintro e w19 ⟨rfl, hb⟩
                refine ⟨_, rfl, ?_⟩
                have n0_:=Aside0.mk (Kd.R_below (by (with_reducible repeat (first|apply Kd.R_alloc|apply Kd.R_drewN|apply Kd.R_drew));exact HO_7.out) hb)
                have n1_:=Aside0.mk (blk_below (g:=gb101) (o:=.cells #[.int .i64 a0_0,.int .i64 a0_1,.int .i64 a0_2,.slice A0_3 l0_3.length c0_3] 35 (0,0)) (by (with_reducible repeat (first|refine blk_drewN ?_ _|refine blk_drew ?_|refine blk_alloc ?_ _));exact BK101.out) hb)
                have n2_:=Aside0.mk (blk_below (g:=gb102) (o:=.cells #[.int .i64 a1_0,.int .i64 a1_1] 41 (0,0)) (by (with_reducible repeat (first|refine blk_drewN ?_ _|refine blk_drew ?_|refine blk_alloc ?_ _));exact BK102.out) hb)
                have n3_:=Aside0.mk (blk_below (g:=gb104) (o:=.cells #[.int .i64 ((rd_T48 l2 x14_1).f0.f0),.int .i64 ((rd_T48 l2 x14_1).f0.f1),.slice A103_2 ((rd_T48 l2 x14_1).f1).length c103_2] 48 (0,0)) (by (with_reducible repeat (first|refine blk_drewN ?_ _|refine blk_drew ?_|refine blk_alloc ?_ _));exact BK104.out) hb)
                have n4_:=Aside0.mk (blk_below (g:=gb107) (o:=.cells #[.int .i64 0,.int .i64 0] 41 (0,0)) (by (with_reducible repeat (first|refine blk_drewN ?_ _|refine blk_drew ?_|refine blk_alloc ?_ _));exact BK107.out) hb)
                have n5_:=Aside0.mk (below_step (by repeat (first|(with_reducible first|exact HB.out|apply below_alloc|apply pw_below_drewN|apply below_drew1|refine below_set ?_ GE101.out|refine below_set ?_ GE102.out|refine below_set ?_ GE104.out|refine below_set ?_ GE107.out)|exact HB.out)) hb)
                clear HO_7
                clear BK101
                clear BK102
                clear BK104
                clear BK107
                clear HB
                have HO_7 := n0_
                have BK101 := n1_
                have BK102 := n2_
                have BK104 := n3_
                have BK107 := n4_
                have HB := n5_
                clear n0_ n1_ n2_ n3_ n4_ n5_
                (try clear hb)
                (try clear hb2)
                (try clear hk)
                (try clear hi)
                refine hK.out _ _ ⟨(blk_cell BK101.out 0).trans rfl,(blk_cell BK101.out 1).trans rfl,(blk_cell BK101.out 2).trans rfl,(blk_cell BK101.out 3).trans rfl,(blk_cell BK104.out 0).trans rfl,(blk_cell BK104.out 1).trans rfl,(blk_cell BK104.out 2).trans rfl⟩ (fun hHeld=>?_)
                clear hK K
                refine norm_ (a' := ?_) ?_ ?_
                rotate_left
                · show Act.put _ (some 22) _ = _
                  simp only [Act.put, List.setIfInBounds_toArray, List.set_cons_zero, List.set_cons_succ, i64_w, i32_w]
                  rfl
                refine one_ (i:=9) (N:=some 27) #[true,true,true,true,true,true,true,true,true,true,false,true,false] rfl rfl (one_of HT_.out (by kernel_rfl)) (by decide) (fun K hK=>?_)
                refine goes_ Try.func31 (by kernel_rfl) rfl #[.agg #[.int .i64 a0_0,.int .i64 a0_1,.int .i64 a0_2,.slice A0_3 l0_3.length c0_3],.int .i64 ((rd_T48 l2 x14_1).f0.f1),.bool true] (by rfl) rfl rfl (by (try simp only[List.map_toArray,List.map_cons,List.map_nil]);first|done|rfl|(simp only[List.length_drop,List.length_take];rfl)) ?_
                with_reducible refine (worktime_moved.calls k1 a0_0 a0_1 a0_2 _ _ l0_3 ((rd_T48 l2 x14_1).f0.f1) true t106 _ ?side1 ?side2 A10.out).mono ?_
                (case side1=>repeat (first|exact(Kd.C_below HR0_3.out HB.out)|(with_reducible refine Kd.C_alloc ?_ _)|(with_reducible refine Kd.C_drewN ?_ _)|(with_reducible refine Kd.C_drew ?_)))
                (case side2 => exact HC0_3.out)
                rintro e w20 ⟨rfl, hb⟩
                refine ⟨_, rfl, ?_⟩
                have n0_:=Aside0.mk (Kd.R_below (by (with_reducible repeat (first|apply Kd.R_alloc|apply Kd.R_drewN|apply Kd.R_drew));exact HO_7.out) hb)
                have n1_:=Aside0.mk (blk_below (g:=gb101) (o:=.cells #[.int .i64 a0_0,.int .i64 a0_1,.int .i64 a0_2,.slice A0_3 l0_3.length c0_3] 35 (0,0)) (by (with_reducible repeat (first|refine blk_drewN ?_ _|refine blk_drew ?_|refine blk_alloc ?_ _));exact BK101.out) hb)
                have n2_:=Aside0.mk (blk_below (g:=gb102) (o:=.cells #[.int .i64 a1_0,.int .i64 a1_1] 41 (0,0)) (by (with_reducible repeat (first|refine blk_drewN ?_ _|refine blk_drew ?_|refine blk_alloc ?_ _));exact BK102.out) hb)
                have n3_:=Aside0.mk (blk_below (g:=gb104) (o:=.cells #[.int .i64 ((rd_T48 l2 x14_1).f0.f0),.int .i64 ((rd_T48 l2 x14_1).f0.f1),.slice A103_2 ((rd_T48 l2 x14_1).f1).length c103_2] 48 (0,0)) (by (with_reducible repeat (first|refine blk_drewN ?_ _|refine blk_drew ?_|refine blk_alloc ?_ _));exact BK104.out) hb)
                have n4_:=Aside0.mk (blk_below (g:=gb107) (o:=.cells #[.int .i64 0,.int .i64 0] 41 (0,0)) (by (with_reducible repeat (first|refine blk_drewN ?_ _|refine blk_drew ?_|refine blk_alloc ?_ _));exact BK107.out) hb)
                have n5_:=Aside0.mk (below_step (by repeat (first|(with_reducible first|exact HB.out|apply below_alloc|apply pw_below_drewN|apply below_drew1|refine below_set ?_ GE101.out|refine below_set ?_ GE102.out|refine below_set ?_ GE104.out|refine below_set ?_ GE107.out)|exact HB.out)) hb)
                clear HO_7
                clear BK101
                clear BK102
                clear BK104
                clear BK107
                clear HB
                have HO_7 := n0_
                have BK101 := n1_
                have BK102 := n2_
                have BK104 := n3_
                have BK107 := n4_
                have HB := n5_
                clear n0_ n1_ n2_ n3_ n4_ n5_
                (try clear hb)
                (try clear hb2)
                (try clear hk)
                (try clear hi)
                refine hK.out _ _ ⟨(blk_cell BK101.out 0).trans rfl,(blk_cell BK101.out 1).trans rfl,(blk_cell BK101.out 2).trans rfl,(blk_cell BK101.out 3).trans rfl,(blk_cell BK104.out 0).trans rfl,(blk_cell BK104.out 1).trans rfl,(blk_cell BK104.out 2).trans rfl⟩ (fun hHeld=>?_)
                clear hK K
                refine norm_ (a' := ?_) ?_ ?_
                rotate_left
                · show Act.put _ (some 27) _ = _
                  simp only [Act.put, List.setIfInBounds_toArray, List.set_cons_zero, List.set_cons_succ, i64_w, i32_w]
                  rfl
                refine pure_ (i:=10) (N:=some 28) (v:=?_) (a':=?_) #[true,true,true,true,true,true,true,true,true,true,true,true,false] rfl rfl (any_of HT_.out (by kernel_rfl)) (fun _ _ _ h=>h) (Or.inl ⟨by rfl,?_⟩) ?_ ?_
                rotate_left
                · intro w'
                  go_simp
                  with_reducible rfl
                rotate_left
                · simp only [Act.put, List.setIfInBounds_toArray, List.set_cons_zero, List.set_cons_succ, i64_w, i32_w]
                  rfl
                exact norm_ (by simp only[putAll,Act.put,List.setIfInBounds_toArray,List.set_cons_zero,List.set_cons_succ]) (hCont (gb107) _ ⟨hHeld,(by (with_reducible repeat (first|apply Kd.R_alloc|apply Kd.R_drewN|apply Kd.R_drew));exact HO_7.out),(by (with_reducible repeat (first|refine blk_drewN ?_ _|refine blk_drew ?_|refine blk_alloc ?_ _));exact BK101.out),(by (with_reducible repeat (first|refine blk_drewN ?_ _|refine blk_drew ?_|refine blk_alloc ?_ _));exact BK102.out),(by (with_reducible repeat (first|refine blk_drewN ?_ _|refine blk_drew ?_|refine blk_alloc ?_ _));exact BK104.out),(by (with_reducible repeat (first|refine blk_drewN ?_ _|refine blk_drew ?_|refine blk_alloc ?_ _));exact BK107.out),GW107.out,GE107.out,NB101_107.out,NB107_101.out,NB102_107.out,NB107_102.out,NB104_107.out,NB107_104.out,(by repeat (first|(with_reducible first|exact HB.out|apply below_alloc|apply pw_below_drewN|apply below_drew1|refine below_set ?_ GE101.out|refine below_set ?_ GE102.out|refine below_set ?_ GE104.out|refine below_set ?_ GE107.out)|exact HB.out))⟩)
            rintro gb107 w21 ⟨hS_, h0_, h1_, h2_, h3_, h4_, h5_, h6_, h7_, h8_, h9_, h10_, h11_, h12_, h13_⟩
            have n0_ : Aside0 (Kd.R k41 41 w21 w.heap.size (fun k_ => k_ ≠ gb102 ∧ k_ ≠ gb107) u7 x7_1) := ⟨h0_⟩
            have n1_:Aside0 (w21.heap[gb101]? = some (.cells #[.int .i64 a0_0,.int .i64 a0_1,.int .i64 a0_2,.slice A0_3 l0_3.length c0_3] 35 (0,0))):=⟨h1_⟩
            have n2_ : Aside0 (w21.heap[gb102]? = some (.cells #[.int .i64 a1_0, .int .i64 a1_1] 41 (0, 0))) := ⟨h2_⟩
            have n3_:Aside0 (w21.heap[gb104]? = some (.cells #[.int .i64 ((rd_T48 l2 x14_1).f0.f0),.int .i64 ((rd_T48 l2 x14_1).f0.f1),.slice A103_2 ((rd_T48 l2 x14_1).f1).length c103_2] 48 (0,0))):=⟨h3_⟩
            have n4_ : Aside0 (w21.heap[gb107]? = some (.cells #[.int .i64 0, .int .i64 0] 41 (0, 0))) := ⟨h4_⟩
            have n5_ : Aside0 (w.heap.size ≤ gb107) := ⟨h5_⟩
            have n6_ : Aside0 (w.heap.size ≤ gb107) := ⟨h6_⟩
            have n7_ : Aside0 (gb101 ≠ gb107) := ⟨h7_⟩
            have n8_ : Aside0 (gb107 ≠ gb101) := ⟨h8_⟩
            have n9_ : Aside0 (gb102 ≠ gb107) := ⟨h9_⟩
            have n10_ : Aside0 (gb107 ≠ gb102) := ⟨h10_⟩
            have n11_ : Aside0 (gb104 ≠ gb107) := ⟨h11_⟩
            have n12_ : Aside0 (gb107 ≠ gb104) := ⟨h12_⟩
            have n13_ : Aside0 (Below w.heap.size w w21) := ⟨h13_⟩
            clear HO_7
            clear BK101
            clear BK102
            clear BK104
            clear HB
            clear h0_ h1_ h2_ h3_ h4_ h5_ h6_ h7_ h8_ h9_ h10_ h11_ h12_ h13_
            have HO_7 := n0_
            have BK101 := n1_
            have BK102 := n2_
            have BK104 := n3_
            have BK107 := n4_
            have GW107 := n5_
            have GE107 := n6_
            have NB101_107 := n7_
            have NB107_101 := n8_
            have NB102_107 := n9_
            have NB107_102 := n10_
            have NB104_107 := n11_
            have NB107_104 := n12_
            have HB := n13_
            clear n0_ n1_ n2_ n3_ n4_ n5_ n6_ n7_ n8_ n9_ n10_ n11_ n12_ n13_
            have hHeld:w21.cell? ⟨gb101,0,none⟩ = some (.int .i64 a0_0)∧w21.cell? ⟨gb101,1,none⟩ = some (.int .i64 a0_1)∧w21.cell? ⟨gb101,2,none⟩ = some (.int .i64 a0_2)∧w21.cell? ⟨gb101,3,none⟩ = some (.slice A0_3 l0_3.length c0_3)∧w21.cell? ⟨gb104,0,none⟩ = some (.int .i64 ((rd_T48 l2 x14_1).f0.f0))∧w21.cell? ⟨gb104,1,none⟩ = some (.int .i64 ((rd_T48 l2 x14_1).f0.f1))∧w21.cell? ⟨gb104,2,none⟩ = some (.slice A103_2 ((rd_T48 l2 x14_1).f1).length c103_2):=hS_
            refine norm_ (a' := ?_) ?_ ?_
            rotate_left
            · simp only [putAll, Act.put, List.setIfInBounds_toArray, List.set_cons_zero, List.set_cons_succ]
              rfl
            refine one_ (i:=12) (N:=none) #[true,true,true,true,true,true,true,true,true,true,true,true,true] rfl rfl (one_of HT_.out (by kernel_rfl)) (by decide) (fun K hK=>?_)
            have hs22 : w21.cell? ⟨gb107, 0, none⟩ = some (.int .i64 0) := (blk_cell BK107.out 0).trans rfl
            have hfs22 := blk_frozen BK107.out 0
            have hns22_0 := NB101_107.out
            have hns22_1 := NB102_107.out
            have hns22_2 := NB104_107.out
            have hms22_0 := NB107_101.out
            have hms22_1 := NB107_102.out
            have hms22_2 := NB107_104.out
            have hs23 : w21.cell? ⟨gb107, 1, none⟩ = some (.int .i64 0) := (blk_cell BK107.out 1).trans rfl
            have hfs23 := blk_frozen BK107.out 1
            have hns23_0 := NB101_107.out
            have hns23_1 := NB102_107.out
            have hns23_2 := NB104_107.out
            have hms23_0 := NB107_101.out
            have hms23_1 := NB107_102.out
            have hms23_2 := NB107_104.out
            refine skip_ (w1 := ?_) (by rfl) rfl ?_ ?_
            rotate_left
            · go_simp
              rfl
            refine hK.out _ _ ⟨((cell_far (p:=⟨gb107,_,none⟩) NB101_107.out _).trans (((cell_far (p:=⟨gb107,_,none⟩) NB101_107.out _).trans (hHeld.1)))),((cell_far (p:=⟨gb107,_,none⟩) NB101_107.out _).trans (((cell_far (p:=⟨gb107,_,none⟩) NB101_107.out _).trans (hHeld.2.1)))),((cell_far (p:=⟨gb107,_,none⟩) NB101_107.out _).trans (((cell_far (p:=⟨gb107,_,none⟩) NB101_107.out _).trans (hHeld.2.2.1)))),((cell_far (p:=⟨gb107,_,none⟩) NB101_107.out _).trans (((cell_far (p:=⟨gb107,_,none⟩) NB101_107.out _).trans (hHeld.2.2.2.1)))),((cell_far (p:=⟨gb107,_,none⟩) NB104_107.out _).trans (((cell_far (p:=⟨gb107,_,none⟩) NB104_107.out _).trans (hHeld.2.2.2.2.1)))),((cell_far (p:=⟨gb107,_,none⟩) NB104_107.out _).trans (((cell_far (p:=⟨gb107,_,none⟩) NB104_107.out _).trans (hHeld.2.2.2.2.2.1)))),((cell_far (p:=⟨gb107,_,none⟩) NB104_107.out _).trans (((cell_far (p:=⟨gb107,_,none⟩) NB104_107.out _).trans (hHeld.2.2.2.2.2.2))))⟩ (fun hHeld=>?_)
            clear hK K
            refine done_ (done_of HT_.out (by kernel_rfl)) ?_
            have hnb24 := NB102_101.out
            have hnc24 := NB101_102.out
            have hnb25 := NB102_107.out
            have hnc25 := NB107_102.out
            have hcz26_0 : w21.cell? ⟨gb102, 0, none⟩ = some (.int .i64 a1_0) := (blk_cell BK102.out 0).trans rfl
            have hcz26_1 : w21.cell? ⟨gb102, 1, none⟩ = some (.int .i64 a1_1) := (blk_cell BK102.out 1).trans rfl
            have hfz26_0 := blk_frozen BK102.out 0
            have hfz26_1 := blk_frozen BK102.out 1
            go_upto_if 31 with (fail)
            go_cut [] (fun wc=>∃ (kq:Nat) (x108000_10:Int) (x108001_10:Int),Aside0 (worktime_adjusted.j2 kq x7_1 x8_1 l2 (l2.length:Int) x14_1 a0_0 a0_1 a0_2 l0_3 a1_0 a1_1 x108000_10 x108001_10 = some r)∧Aside0 (kq≤k1)∧Aside0 (Kd.R k41 41 wc w.heap.size (fun k_=>k_≠gb102∧k_≠gb107) u7 x7_1)∧Aside0 (wc.heap[gb101]? = some (.cells #[.int .i64 a0_0,.int .i64 a0_1,.int .i64 a0_2,(.slice A0_3 l0_3.length c0_3)] 35 (0,0)))∧Aside0 (wc.heap[gb102]? = some (.cells #[.int .i64 a1_0,.int .i64 a1_1] 41 (0,0)))∧Aside0 (wc.heap[gb107]? = some (.cells #[.int .i64 x108000_10,.int .i64 x108001_10] 41 (0,0)))∧Aside0 (Below w.heap.size w wc))
            case first =>
              have H := HC11.out
              clear HC11
              by_cases c27 : (!(a1_0 == 0) || (!(a1_1 == 0))) = true
              · rw [if_pos c27] at H
                have c27b0 : (!(a1_0 == 0) || (!(a1_1 == 0))) = true := c27
                clear c27
                (first | rw [c27b0] | (simp only [i64_w, i32_w]; rw [c27b0]) | skip)
                replace H := Option.bind_eq_some_iff.mp H
                obtain ⟨t108, A280, H⟩ := H
                replace H:(if t108 = true then (worktime_adjusted.j1 k1 x7_1 x8_1 l2 (l2.length:Int) x14_1 a0_0 a0_1 a0_2 l0_3 a1_0 a1_1 ((rd_T48 l2 x14_1).f0.f0) ((rd_T48 l2 x14_1).f0.f1) ((rd_T48 l2 x14_1).f1) a1_0 t106) else (worktime_adjusted.j1 k1 x7_1 x8_1 l2 (l2.length:Int) x14_1 a0_0 a0_1 a0_2 l0_3 a1_0 a1_1 ((rd_T48 l2 x14_1).f0.f0) ((rd_T48 l2 x14_1).f0.f1) ((rd_T48 l2 x14_1).f1) t105 t106)) = some r:=H
                have A28 := Aside0.mk A280
                clear A280
                have HC29 := Aside0.mk H
                clear H
                have hnb30 := NB104_101.out
                have hnc30 := NB101_104.out
                have hnb31 := NB104_102.out
                have hnc31 := NB102_104.out
                have hnb32 := NB104_107.out
                have hnc32 := NB107_104.out
                have hcz33_0:w21.cell? ⟨gb104,0,none⟩ = some (.int .i64 ((rd_T48 l2 x14_1).f0.f0)):=(blk_cell BK104.out 0).trans rfl
                have hcz33_1:w21.cell? ⟨gb104,1,none⟩ = some (.int .i64 ((rd_T48 l2 x14_1).f0.f1)):=(blk_cell BK104.out 1).trans rfl
                have hcz33_2:w21.cell? ⟨gb104,2,none⟩ = some (.slice A103_2 ((rd_T48 l2 x14_1).f1).length c103_2):=(blk_cell BK104.out 2).trans rfl
                have hfz33_0 := blk_frozen BK104.out 0
                have hfz33_1 := blk_frozen BK104.out 1
                have hfz33_2 := blk_frozen BK104.out 2
                have hnb34 := NB102_101.out
                have hnc34 := NB101_102.out
                have hnb35 := NB102_107.out
                have hnc35 := NB107_102.out
                have hcz36_0 : w21.cell? ⟨gb102, 0, none⟩ = some (.int .i64 a1_0) := (blk_cell BK102.out 0).trans rfl
                have hcz36_1 : w21.cell? ⟨gb102, 1, none⟩ = some (.int .i64 a1_1) := (blk_cell BK102.out 1).trans rfl
                have hfz36_0 := blk_frozen BK102.out 0
                have hfz36_1 := blk_frozen BK102.out 1
                have hnb37 := NB101_107.out
                have hnc37 := NB107_101.out
                have hcz38_0 : w21.cell? ⟨gb101, 0, none⟩ = some (.int .i64 a0_0) := (blk_cell BK101.out 0).trans rfl
                have hcz38_1 : w21.cell? ⟨gb101, 1, none⟩ = some (.int .i64 a0_1) := (blk_cell BK101.out 1).trans rfl
                have hcz38_2 : w21.cell? ⟨gb101, 2, none⟩ = some (.int .i64 a0_2) := (blk_cell BK101.out 2).trans rfl
                have hcz38_3:w21.cell? ⟨gb101,3,none⟩ = some (.slice A0_3 l0_3.length c0_3):=(blk_cell BK101.out 3).trans rfl
                have hfz38_0 := blk_frozen BK101.out 0
                have hfz38_1 := blk_frozen BK101.out 1
                have hfz38_2 := blk_frozen BK101.out 2
                have hfz38_3 := blk_frozen BK101.out 3
                go_upto_if 39 with (first|((with_reducible refine gate_callee (f:=32) rfl ?_);refine goesL_ (some 39) rfl rfl Try.func32 (by kernel_rfl) rfl #[.int .i64 ((rd_T48 l2 x14_1).f0.f0),.int .i64 a1_0,.int .i64 a0_2] rfl (by (try simp only[List.map_toArray,List.map_cons,List.map_nil]);first|done|rfl|(simp only[List.length_drop,List.length_take];rfl)) ?_;(with_reducible refine(worktime_near.calls ((rd_T48 l2 x14_1).f0.f0) a1_0 a0_2 t108 _ A28.out).mono ?_);rintro e w39 ⟨rfl,hb⟩;refine⟨_,rfl,?_⟩;have n0_:=Aside0.mk (Kd.R_below (by (with_reducible repeat (first|apply Kd.R_alloc|apply Kd.R_drewN|apply Kd.R_drew));exact(Kd.R_mono (Kd.R_far (p:=⟨gb107,1,none⟩) (Kd.R_far (p:=⟨gb107,0,none⟩) (Kd.R_mono HO_7.out (fun k_ hk=>(⟨hk,hk.2⟩:_∧k_≠gb107))) (fun _ hk=>hk.2) (.int .i64 t105)) (fun _ hk=>hk.2) (.int .i64 t106)) (fun _ h_=>h_.1))) hb);have n1_:=Aside0.mk (blk_below (g:=gb101) (o:=.cells #[.int .i64 a0_0,.int .i64 a0_1,.int .i64 a0_2,.slice A0_3 l0_3.length c0_3] 35 (0,0)) (by (with_reducible repeat (first|refine blk_drewN ?_ _|refine blk_drew ?_|refine blk_alloc ?_ _));refine blk_far ?_ NB101_107.out _;(with_reducible repeat (first|refine blk_drewN ?_ _|refine blk_drew ?_|refine blk_alloc ?_ _));refine blk_far ?_ NB101_107.out _;(with_reducible repeat (first|refine blk_drewN ?_ _|refine blk_drew ?_|refine blk_alloc ?_ _));exact BK101.out) hb);have n2_:=Aside0.mk (blk_below (g:=gb102) (o:=.cells #[.int .i64 a1_0,.int .i64 a1_1] 41 (0,0)) (by (with_reducible repeat (first|refine blk_drewN ?_ _|refine blk_drew ?_|refine blk_alloc ?_ _));refine blk_far ?_ NB102_107.out _;(with_reducible repeat (first|refine blk_drewN ?_ _|refine blk_drew ?_|refine blk_alloc ?_ _));refine blk_far ?_ NB102_107.out _;(with_reducible repeat (first|refine blk_drewN ?_ _|refine blk_drew ?_|refine blk_alloc ?_ _));exact BK102.out) hb);have n3_:=Aside0.mk (blk_below (g:=gb104) (o:=.cells #[.int .i64 ((rd_T48 l2 x14_1).f0.f0),.int .i64 ((rd_T48 l2 x14_1).f0.f1),.slice A103_2 ((rd_T48 l2 x14_1).f1).length c103_2] 48 (0,0)) (by (with_reducible repeat (first|refine blk_drewN ?_ _|refine blk_drew ?_|refine blk_alloc ?_ _));refine blk_far ?_ NB104_107.out _;(with_reducible repeat (first|refine blk_drewN ?_ _|refine blk_drew ?_|refine blk_alloc ?_ _));refine blk_far ?_ NB104_107.out _;(with_reducible repeat (first|refine blk_drewN ?_ _|refine blk_drew ?_|refine blk_alloc ?_ _));exact BK104.out) hb);have n4_:=Aside0.mk (blk_below (g:=gb107) (o:=.cells #[.int .i64 t105,.int .i64 t106] 41 (0,0)) (by (with_reducible repeat (first|refine blk_drewN ?_ _|refine blk_drew ?_|refine blk_alloc ?_ _));refine blk_put (cs:=#[.int .i64 t105,.int .i64 0]) ?_ 1 _ rfl;(with_reducible repeat (first|refine blk_drewN ?_ _|refine blk_drew ?_|refine blk_alloc ?_ _));refine blk_put (cs:=#[.int .i64 0,.int .i64 0]) ?_ 0 _ rfl;(with_reducible repeat (first|refine blk_drewN ?_ _|refine blk_drew ?_|refine blk_alloc ?_ _));exact BK107.out) hb);have n5_:=Aside0.mk (below_step (by repeat (first|(with_reducible first|exact HB.out|apply below_alloc|apply pw_below_drewN|apply below_drew1|refine below_set ?_ GE101.out|refine below_set ?_ GE102.out|refine below_set ?_ GE104.out|refine below_set ?_ GE107.out)|exact HB.out)) hb);clear HO_7;clear BK101;clear BK102;clear BK104;clear BK107;clear HB;have HO_7:=n0_;have BK101:=n1_;have BK102:=n2_;have BK104:=n3_;have BK107:=n4_;have HB:=n5_;clear n0_ n1_ n2_ n3_ n4_ n5_;(try clear hb);(try clear hb2);(try clear hk);(try clear hi)))
                (try simp only [Act.put, List.setIfInBounds_toArray, List.set_cons_zero, List.set_cons_succ])
                go_cut [] (fun wc=>∃ (kq:Nat) (x108000_28:Int),Aside0 (worktime_adjusted.j1 kq x7_1 x8_1 l2 (l2.length:Int) x14_1 a0_0 a0_1 a0_2 l0_3 a1_0 a1_1 ((rd_T48 l2 x14_1).f0.f0) ((rd_T48 l2 x14_1).f0.f1) ((rd_T48 l2 x14_1).f1) x108000_28 t106 = some r)∧Aside0 (kq≤k1)∧Aside0 (Kd.R k41 41 wc w.heap.size (fun k_=>k_≠gb102∧k_≠gb107) u7 x7_1)∧Aside0 (wc.heap[gb101]? = some (.cells #[.int .i64 a0_0,.int .i64 a0_1,.int .i64 a0_2,(.slice A0_3 l0_3.length c0_3)] 35 (0,0)))∧Aside0 (wc.heap[gb102]? = some (.cells #[.int .i64 a1_0,.int .i64 a1_1] 41 (0,0)))∧Aside0 (wc.heap[gb104]? = some (.cells #[.int .i64 ((rd_T48 l2 x14_1).f0.f0),.int .i64 ((rd_T48 l2 x14_1).f0.f1),(.slice A103_2 ((rd_T48 l2 x14_1).f1).length c103_2)] 48 (0,0)))∧Aside0 (wc.heap[gb107]? = some (.cells #[.int .i64 x108000_28,.int .i64 t106] 41 (0,0)))∧Aside0 (Below w.heap.size w wc))
                case first =>
                  have H := HC29.out
                  clear HC29
                  by_cases c40 : t108 = true
                  · subst c40
                    have H1:(worktime_adjusted.j1 k1 x7_1 x8_1 l2 (l2.length:Int) x14_1 a0_0 a0_1 a0_2 l0_3 a1_0 a1_1 ((rd_T48 l2 x14_1).f0.f0) ((rd_T48 l2 x14_1).f0.f1) ((rd_T48 l2 x14_1).f1) a1_0 t106) = some r:=by rw[if_pos rfl] at H;exact H
                    clear H
                    have H := H1
                    clear H1
                    have H' := Aside0.mk H
                    clear H
                    have hnb41 := NB102_101.out
                    have hnc41 := NB101_102.out
                    have hnb42 := NB102_104.out
                    have hnc42 := NB104_102.out
                    have hnb43 := NB102_107.out
                    have hnc43 := NB107_102.out
                    have hcz44_0:w39.cell? ⟨gb102,0,none⟩ = some (.int .i64 a1_0):=(blk_cell BK102.out 0).trans rfl
                    have hcz44_1:w39.cell? ⟨gb102,1,none⟩ = some (.int .i64 a1_1):=(blk_cell BK102.out 1).trans rfl
                    have hfz44_0 := blk_frozen BK102.out 0
                    have hfz44_1 := blk_frozen BK102.out 1
                    have hnb45 := NB107_101.out
                    have hnc45 := NB101_107.out
                    have hnb46 := NB107_104.out
                    have hnc46 := NB104_107.out
                    have hcz47_0:w39.cell? ⟨gb107,0,none⟩ = some (.int .i64 t105):=(blk_cell BK107.out 0).trans rfl
                    have hcz47_1:w39.cell? ⟨gb107,1,none⟩ = some (.int .i64 t106):=(blk_cell BK107.out 1).trans rfl
                    have hfz47_0 := blk_frozen BK107.out 0
                    have hfz47_1 := blk_frozen BK107.out 1
                    go_wp2
                    go_meet
                    case rel=>exact⟨_,(a1_0),H',⟨by have:=HK1.out;first|omega|exact Nat.le_refl _⟩,⟨by (with_reducible repeat (first|apply Kd.R_alloc|apply Kd.R_drewN|apply Kd.R_drew));exact Kd.R_mono (Kd.R_far (p:=⟨gb107,0,none⟩) (Kd.R_mono HO_7.out (fun k_ hk=>(⟨hk,hk.2⟩:_∧k_≠gb107))) (fun _ hk=>hk.2) (.int .i64 a1_0)) (fun _ hk=>⟨hk.1.1,hk.1.2⟩)⟩,⟨by (with_reducible repeat (first|refine blk_drewN ?_ _|refine blk_drew ?_|refine blk_alloc ?_ _));refine blk_far ?_ NB101_107.out _;(with_reducible repeat (first|refine blk_drewN ?_ _|refine blk_drew ?_|refine blk_alloc ?_ _));exact BK101.out⟩,⟨by (with_reducible repeat (first|refine blk_drewN ?_ _|refine blk_drew ?_|refine blk_alloc ?_ _));refine blk_far ?_ NB102_107.out _;(with_reducible repeat (first|refine blk_drewN ?_ _|refine blk_drew ?_|refine blk_alloc ?_ _));exact BK102.out⟩,⟨by (with_reducible repeat (first|refine blk_drewN ?_ _|refine blk_drew ?_|refine blk_alloc ?_ _));refine blk_far ?_ NB104_107.out _;(with_reducible repeat (first|refine blk_drewN ?_ _|refine blk_drew ?_|refine blk_alloc ?_ _));exact BK104.out⟩,⟨by (with_reducible repeat (first|refine blk_drewN ?_ _|refine blk_drew ?_|refine blk_alloc ?_ _));refine blk_put (cs:=#[.int .i64 t105,.int .i64 t106]) ?_ 0 _ rfl;(with_reducible repeat (first|refine blk_drewN ?_ _|refine blk_drew ?_|refine blk_alloc ?_ _));exact BK107.out⟩,⟨by repeat (first|(with_reducible first|exact HB.out|apply below_alloc|apply pw_below_drewN|apply below_drew1|refine below_set ?_ GE101.out|refine below_set ?_ GE102.out|refine below_set ?_ GE104.out|refine below_set ?_ GE107.out)|exact HB.out)⟩⟩
                  · replace c40 := Bool.eq_false_iff.mpr c40
                    subst c40
                    have H1:(worktime_adjusted.j1 k1 x7_1 x8_1 l2 (l2.length:Int) x14_1 a0_0 a0_1 a0_2 l0_3 a1_0 a1_1 ((rd_T48 l2 x14_1).f0.f0) ((rd_T48 l2 x14_1).f0.f1) ((rd_T48 l2 x14_1).f1) t105 t106) = some r:=by rw[if_neg (show ¬ (false = true) by decide)] at H;exact H
                    clear H
                    have H := H1
                    clear H1
                    have H' := Aside0.mk H
                    clear H
                    go_wp2
                    go_meet
                    case rel=>exact⟨_,(t105),H',⟨by have:=HK1.out;first|omega|exact Nat.le_refl _⟩,⟨by (with_reducible repeat (first|apply Kd.R_alloc|apply Kd.R_drewN|apply Kd.R_drew));exact HO_7.out⟩,⟨by (with_reducible repeat (first|refine blk_drewN ?_ _|refine blk_drew ?_|refine blk_alloc ?_ _));exact BK101.out⟩,⟨by (with_reducible repeat (first|refine blk_drewN ?_ _|refine blk_drew ?_|refine blk_alloc ?_ _));exact BK102.out⟩,⟨by (with_reducible repeat (first|refine blk_drewN ?_ _|refine blk_drew ?_|refine blk_alloc ?_ _));exact BK104.out⟩,⟨by (with_reducible repeat (first|refine blk_drewN ?_ _|refine blk_drew ?_|refine blk_alloc ?_ _));exact BK107.out⟩,⟨by repeat (first|(with_reducible first|exact HB.out|apply below_alloc|apply pw_below_drewN|apply below_drew1|refine below_set ?_ GE101.out|refine below_set ?_ GE102.out|refine below_set ?_ GE104.out|refine below_set ?_ GE107.out)|exact HB.out)⟩⟩
                case rest =>
                  clear HC29
                  try clear c1
                  try clear c2
                  try clear p2
                  try clear c3
                  try clear c4
                  try clear c10
                  try clear c24
                  try clear c25
                  try clear c27
                  try clear c27b0
                  try clear c30
                  try clear c31
                  try clear c32
                  try clear c34
                  try clear c35
                  try clear c37
                  try clear c40
                  try clear c41
                  try clear c42
                  try clear c43
                  try clear c45
                  try clear c46
                  try clear hcz26_0
                  try clear hcz26_1
                  try clear hcz33_0
                  try clear hcz33_1
                  try clear hcz33_2
                  try clear hcz36_0
                  try clear hcz36_1
                  try clear hcz38_0
                  try clear hcz38_1
                  try clear hcz38_2
                  try clear hcz38_3
                  try clear hcz44_0
                  try clear hcz44_1
                  try clear hcz47_0
                  try clear hcz47_1
                  try clear hfz26_0
                  try clear hfz26_1
                  try clear hfz33_0
                  try clear hfz33_1
                  try clear hfz33_2
                  try clear hfz36_0
                  try clear hfz36_1
                  try clear hfz38_0
                  try clear hfz38_1
                  try clear hfz38_2
                  try clear hfz38_3
                  try clear hfz44_0
                  try clear hfz44_1
                  try clear hfz47_0
                  try clear hfz47_1
                  obtain ⟨kq, x108000_28, HA, HJ28, HO_7, BK101, BK102, BK104, BK107, HB⟩ := hcut
                  cases kq with
                  | zero => exact absurd HA.out (by simp [worktime_adjusted.j1])
                  | succ kj28 =>
                    have H := HA.out
                    clear HA
                    simp only [worktime_adjusted.j1] at H
                    replace H := Option.bind_eq_some_iff.mp H
                    obtain ⟨t109, A480, H⟩ := H
                    replace H:(if t109 = true then (worktime_adjusted.j2 kj28 x7_1 x8_1 l2 (l2.length:Int) x14_1 a0_0 a0_1 a0_2 l0_3 a1_0 a1_1 x108000_28 a1_1) else (worktime_adjusted.j2 kj28 x7_1 x8_1 l2 (l2.length:Int) x14_1 a0_0 a0_1 a0_2 l0_3 a1_0 a1_1 x108000_28 t106)) = some r:=H
                    have A48 := Aside0.mk A480
                    clear A480
                    by_cases c49 : t109 = true
                    · subst c49
                      have H1:(worktime_adjusted.j2 kj28 x7_1 x8_1 l2 (l2.length:Int) x14_1 a0_0 a0_1 a0_2 l0_3 a1_0 a1_1 x108000_28 a1_1) = some r:=by rw[if_pos rfl] at H;exact H
                      clear H
                      have H := H1
                      clear H1
                      have H' := Aside0.mk H
                      clear H
                      have hnb50 := NB104_101.out
                      have hnc50 := NB101_104.out
                      have hnb51 := NB104_102.out
                      have hnc51 := NB102_104.out
                      have hnb52 := NB104_107.out
                      have hnc52 := NB107_104.out
                      have hcz53_0:wc.cell? ⟨gb104,0,none⟩ = some (.int .i64 ((rd_T48 l2 x14_1).f0.f0)):=(blk_cell BK104.out 0).trans rfl
                      have hcz53_1:wc.cell? ⟨gb104,1,none⟩ = some (.int .i64 ((rd_T48 l2 x14_1).f0.f1)):=(blk_cell BK104.out 1).trans rfl
                      have hcz53_2:wc.cell? ⟨gb104,2,none⟩ = some (.slice A103_2 ((rd_T48 l2 x14_1).f1).length c103_2):=(blk_cell BK104.out 2).trans rfl
                      have hfz53_0 := blk_frozen BK104.out 0
                      have hfz53_1 := blk_frozen BK104.out 1
                      have hfz53_2 := blk_frozen BK104.out 2
                      have hnb54 := NB102_101.out
                      have hnc54 := NB101_102.out
                      have hnb55 := NB102_107.out
                      have hnc55 := NB107_102.out
                      have hcz56_0:wc.cell? ⟨gb102,0,none⟩ = some (.int .i64 a1_0):=(blk_cell BK102.out 0).trans rfl
                      have hcz56_1:wc.cell? ⟨gb102,1,none⟩ = some (.int .i64 a1_1):=(blk_cell BK102.out 1).trans rfl
                      have hfz56_0 := blk_frozen BK102.out 0
                      have hfz56_1 := blk_frozen BK102.out 1
                      have hnb57 := NB101_107.out
                      have hnc57 := NB107_101.out
                      have hcz58_0:wc.cell? ⟨gb101,0,none⟩ = some (.int .i64 a0_0):=(blk_cell BK101.out 0).trans rfl
                      have hcz58_1:wc.cell? ⟨gb101,1,none⟩ = some (.int .i64 a0_1):=(blk_cell BK101.out 1).trans rfl
                      have hcz58_2:wc.cell? ⟨gb101,2,none⟩ = some (.int .i64 a0_2):=(blk_cell BK101.out 2).trans rfl
                      have hcz58_3:wc.cell? ⟨gb101,3,none⟩ = some (.slice A0_3 l0_3.length c0_3):=(blk_cell BK101.out 3).trans rfl
                      have hfz58_0 := blk_frozen BK101.out 0
                      have hfz58_1 := blk_frozen BK101.out 1
                      have hfz58_2 := blk_frozen BK101.out 2
                      have hfz58_3 := blk_frozen BK101.out 3
                      go_wp2_with (first|((with_reducible refine gate_callee (f:=32) rfl ?_);refine goesL_ (some 50) rfl rfl Try.func32 (by kernel_rfl) rfl #[.int .i64 ((rd_T48 l2 x14_1).f0.f1),.int .i64 a1_1,.int .i64 a0_2] rfl (by (try simp only[List.map_toArray,List.map_cons,List.map_nil]);first|done|rfl|(simp only[List.length_drop,List.length_take];rfl)) ?_;(with_reducible refine(worktime_near.calls ((rd_T48 l2 x14_1).f0.f1) a1_1 a0_2 true _ A48.out).mono ?_);rintro e w59 ⟨rfl,hb⟩;refine⟨_,rfl,?_⟩;have n0_:=Aside0.mk (Kd.R_below (by (with_reducible repeat (first|apply Kd.R_alloc|apply Kd.R_drewN|apply Kd.R_drew));exact HO_7.out) hb);have n1_:=Aside0.mk (blk_below (g:=gb101) (o:=.cells #[.int .i64 a0_0,.int .i64 a0_1,.int .i64 a0_2,.slice A0_3 l0_3.length c0_3] 35 (0,0)) (by (with_reducible repeat (first|refine blk_drewN ?_ _|refine blk_drew ?_|refine blk_alloc ?_ _));exact BK101.out) hb);have n2_:=Aside0.mk (blk_below (g:=gb102) (o:=.cells #[.int .i64 a1_0,.int .i64 a1_1] 41 (0,0)) (by (with_reducible repeat (first|refine blk_drewN ?_ _|refine blk_drew ?_|refine blk_alloc ?_ _));exact BK102.out) hb);have n3_:=Aside0.mk (blk_below (g:=gb104) (o:=.cells #[.int .i64 ((rd_T48 l2 x14_1).f0.f0),.int .i64 ((rd_T48 l2 x14_1).f0.f1),.slice A103_2 ((rd_T48 l2 x14_1).f1).length c103_2] 48 (0,0)) (by (with_reducible repeat (first|refine blk_drewN ?_ _|refine blk_drew ?_|refine blk_alloc ?_ _));exact BK104.out) hb);have n4_:=Aside0.mk (blk_below (g:=gb107) (o:=.cells #[.int .i64 x108000_28,.int .i64 t106] 41 (0,0)) (by (with_reducible repeat (first|refine blk_drewN ?_ _|refine blk_drew ?_|refine blk_alloc ?_ _));exact BK107.out) hb);have n5_:=Aside0.mk (below_step (by repeat (first|(with_reducible first|exact HB.out|apply below_alloc|apply pw_below_drewN|apply below_drew1|refine below_set ?_ GE101.out|refine below_set ?_ GE102.out|refine below_set ?_ GE104.out|refine below_set ?_ GE107.out)|exact HB.out)) hb);clear HO_7;clear BK101;clear BK102;clear BK104;clear BK107;clear HB;have HO_7:=n0_;have BK101:=n1_;have BK102:=n2_;have BK104:=n3_;have BK107:=n4_;have HB:=n5_;clear n0_ n1_ n2_ n3_ n4_ n5_;(try clear hb);(try clear hb2);(try clear hk);(try clear hi);have hcz60_0:w59.cell? ⟨gb102,0,none⟩ = some (.int .i64 a1_0):=(blk_cell BK102.out 0).trans rfl;have hcz60_1:w59.cell? ⟨gb102,1,none⟩ = some (.int .i64 a1_1):=(blk_cell BK102.out 1).trans rfl;have hfz60_0:=blk_frozen BK102.out 0;have hfz60_1:=blk_frozen BK102.out 1;have hcz61_0:w59.cell? ⟨gb107,0,none⟩ = some (.int .i64 x108000_28):=(blk_cell BK107.out 0).trans rfl;have hcz61_1:w59.cell? ⟨gb107,1,none⟩ = some (.int .i64 t106):=(blk_cell BK107.out 1).trans rfl;have hfz61_0:=blk_frozen BK107.out 0;have hfz61_1:=blk_frozen BK107.out 1))
                      go_meet
                      case rel=>exact⟨_,(x108000_28),(a1_1),H',⟨by have:=HK1.out;have:=HJ28.out;first|omega|exact Nat.le_refl _⟩,⟨by (with_reducible repeat (first|apply Kd.R_alloc|apply Kd.R_drewN|apply Kd.R_drew));exact Kd.R_mono (Kd.R_far (p:=⟨gb107,1,none⟩) (Kd.R_mono HO_7.out (fun k_ hk=>(⟨hk,hk.2⟩:_∧k_≠gb107))) (fun _ hk=>hk.2) (.int .i64 a1_1)) (fun _ hk=>⟨hk.1.1,hk.1.2⟩)⟩,⟨by (with_reducible repeat (first|refine blk_drewN ?_ _|refine blk_drew ?_|refine blk_alloc ?_ _));refine blk_far ?_ NB101_107.out _;(with_reducible repeat (first|refine blk_drewN ?_ _|refine blk_drew ?_|refine blk_alloc ?_ _));exact BK101.out⟩,⟨by (with_reducible repeat (first|refine blk_drewN ?_ _|refine blk_drew ?_|refine blk_alloc ?_ _));refine blk_far ?_ NB102_107.out _;(with_reducible repeat (first|refine blk_drewN ?_ _|refine blk_drew ?_|refine blk_alloc ?_ _));exact BK102.out⟩,⟨by (with_reducible repeat (first|refine blk_drewN ?_ _|refine blk_drew ?_|refine blk_alloc ?_ _));refine blk_put (cs:=#[.int .i64 x108000_28,.int .i64 t106]) ?_ 1 _ rfl;(with_reducible repeat (first|refine blk_drewN ?_ _|refine blk_drew ?_|refine blk_alloc ?_ _));exact BK107.out⟩,⟨by repeat (first|(with_reducible first|exact HB.out|apply below_alloc|apply pw_below_drewN|apply below_drew1|refine below_set ?_ GE101.out|refine below_set ?_ GE102.out|refine below_set ?_ GE104.out|refine below_set ?_ GE107.out)|exact HB.out)⟩⟩
                    · replace c49 := Bool.eq_false_iff.mpr c49
                      subst c49
                      have H1:(worktime_adjusted.j2 kj28 x7_1 x8_1 l2 (l2.length:Int) x14_1 a0_0 a0_1 a0_2 l0_3 a1_0 a1_1 x108000_28 t106) = some r:=by rw[if_neg (show ¬ (false = true) by decide)] at H;exact H
                      clear H
                      have H := H1
                      clear H1
                      have H' := Aside0.mk H
                      clear H
                      have hnb62 := NB104_101.out
                      have hnc62 := NB101_104.out
                      have hnb63 := NB104_102.out
                      have hnc63 := NB102_104.out
                      have hnb64 := NB104_107.out
                      have hnc64 := NB107_104.out
                      have hcz65_0:wc.cell? ⟨gb104,0,none⟩ = some (.int .i64 ((rd_T48 l2 x14_1).f0.f0)):=(blk_cell BK104.out 0).trans rfl
                      have hcz65_1:wc.cell? ⟨gb104,1,none⟩ = some (.int .i64 ((rd_T48 l2 x14_1).f0.f1)):=(blk_cell BK104.out 1).trans rfl
                      have hcz65_2:wc.cell? ⟨gb104,2,none⟩ = some (.slice A103_2 ((rd_T48 l2 x14_1).f1).length c103_2):=(blk_cell BK104.out 2).trans rfl
                      have hfz65_0 := blk_frozen BK104.out 0
                      have hfz65_1 := blk_frozen BK104.out 1
                      have hfz65_2 := blk_frozen BK104.out 2
                      have hnb66 := NB102_101.out
                      have hnc66 := NB101_102.out
                      have hnb67 := NB102_107.out
                      have hnc67 := NB107_102.out
                      have hcz68_0:wc.cell? ⟨gb102,0,none⟩ = some (.int .i64 a1_0):=(blk_cell BK102.out 0).trans rfl
                      have hcz68_1:wc.cell? ⟨gb102,1,none⟩ = some (.int .i64 a1_1):=(blk_cell BK102.out 1).trans rfl
                      have hfz68_0 := blk_frozen BK102.out 0
                      have hfz68_1 := blk_frozen BK102.out 1
                      have hnb69 := NB101_107.out
                      have hnc69 := NB107_101.out
                      have hcz70_0:wc.cell? ⟨gb101,0,none⟩ = some (.int .i64 a0_0):=(blk_cell BK101.out 0).trans rfl
                      have hcz70_1:wc.cell? ⟨gb101,1,none⟩ = some (.int .i64 a0_1):=(blk_cell BK101.out 1).trans rfl
                      have hcz70_2:wc.cell? ⟨gb101,2,none⟩ = some (.int .i64 a0_2):=(blk_cell BK101.out 2).trans rfl
                      have hcz70_3:wc.cell? ⟨gb101,3,none⟩ = some (.slice A0_3 l0_3.length c0_3):=(blk_cell BK101.out 3).trans rfl
                      have hfz70_0 := blk_frozen BK101.out 0
                      have hfz70_1 := blk_frozen BK101.out 1
                      have hfz70_2 := blk_frozen BK101.out 2
                      have hfz70_3 := blk_frozen BK101.out 3
                      go_wp2_with (first|((with_reducible refine gate_callee (f:=32) rfl ?_);refine goesL_ (some 50) rfl rfl Try.func32 (by kernel_rfl) rfl #[.int .i64 ((rd_T48 l2 x14_1).f0.f1),.int .i64 a1_1,.int .i64 a0_2] rfl (by (try simp only[List.map_toArray,List.map_cons,List.map_nil]);first|done|rfl|(simp only[List.length_drop,List.length_take];rfl)) ?_;(with_reducible refine(worktime_near.calls ((rd_T48 l2 x14_1).f0.f1) a1_1 a0_2 false _ A48.out).mono ?_);rintro e w71 ⟨rfl,hb⟩;refine⟨_,rfl,?_⟩;have n0_:=Aside0.mk (Kd.R_below (by (with_reducible repeat (first|apply Kd.R_alloc|apply Kd.R_drewN|apply Kd.R_drew));exact HO_7.out) hb);have n1_:=Aside0.mk (blk_below (g:=gb101) (o:=.cells #[.int .i64 a0_0,.int .i64 a0_1,.int .i64 a0_2,.slice A0_3 l0_3.length c0_3] 35 (0,0)) (by (with_reducible repeat (first|refine blk_drewN ?_ _|refine blk_drew ?_|refine blk_alloc ?_ _));exact BK101.out) hb);have n2_:=Aside0.mk (blk_below (g:=gb102) (o:=.cells #[.int .i64 a1_0,.int .i64 a1_1] 41 (0,0)) (by (with_reducible repeat (first|refine blk_drewN ?_ _|refine blk_drew ?_|refine blk_alloc ?_ _));exact BK102.out) hb);have n3_:=Aside0.mk (blk_below (g:=gb104) (o:=.cells #[.int .i64 ((rd_T48 l2 x14_1).f0.f0),.int .i64 ((rd_T48 l2 x14_1).f0.f1),.slice A103_2 ((rd_T48 l2 x14_1).f1).length c103_2] 48 (0,0)) (by (with_reducible repeat (first|refine blk_drewN ?_ _|refine blk_drew ?_|refine blk_alloc ?_ _));exact BK104.out) hb);have n4_:=Aside0.mk (blk_below (g:=gb107) (o:=.cells #[.int .i64 x108000_28,.int .i64 t106] 41 (0,0)) (by (with_reducible repeat (first|refine blk_drewN ?_ _|refine blk_drew ?_|refine blk_alloc ?_ _));exact BK107.out) hb);have n5_:=Aside0.mk (below_step (by repeat (first|(with_reducible first|exact HB.out|apply below_alloc|apply pw_below_drewN|apply below_drew1|refine below_set ?_ GE101.out|refine below_set ?_ GE102.out|refine below_set ?_ GE104.out|refine below_set ?_ GE107.out)|exact HB.out)) hb);clear HO_7;clear BK101;clear BK102;clear BK104;clear BK107;clear HB;have HO_7:=n0_;have BK101:=n1_;have BK102:=n2_;have BK104:=n3_;have BK107:=n4_;have HB:=n5_;clear n0_ n1_ n2_ n3_ n4_ n5_;(try clear hb);(try clear hb2);(try clear hk);(try clear hi)))
                      go_meet
                      case rel=>exact⟨_,(x108000_28),(t106),H',⟨by have:=HK1.out;have:=HJ28.out;first|omega|exact Nat.le_refl _⟩,⟨by (with_reducible repeat (first|apply Kd.R_alloc|apply Kd.R_drewN|apply Kd.R_drew));exact HO_7.out⟩,⟨by (with_reducible repeat (first|refine blk_drewN ?_ _|refine blk_drew ?_|refine blk_alloc ?_ _));exact BK101.out⟩,⟨by (with_reducible repeat (first|refine blk_drewN ?_ _|refine blk_drew ?_|refine blk_alloc ?_ _));exact BK102.out⟩,⟨by (with_reducible repeat (first|refine blk_drewN ?_ _|refine blk_drew ?_|refine blk_alloc ?_ _));exact BK107.out⟩,⟨by repeat (first|(with_reducible first|exact HB.out|apply below_alloc|apply pw_below_drewN|apply below_drew1|refine below_set ?_ GE101.out|refine below_set ?_ GE102.out|refine below_set ?_ GE104.out|refine below_set ?_ GE107.out)|exact HB.out)⟩⟩
              · rw [if_neg c27] at H
                have c27b0 : (!(a1_0 == 0) || (!(a1_1 == 0))) = false := by simpa using c27
                clear c27
                (first | rw [c27b0] | (simp only [i64_w, i32_w]; rw [c27b0]) | skip)
                have H' := Aside0.mk H
                clear H
                go_wp2
                go_meet
                case rel=>exact⟨_,(t105),(t106),H',⟨by have:=HK1.out;first|omega|exact Nat.le_refl _⟩,⟨by (with_reducible repeat (first|apply Kd.R_alloc|apply Kd.R_drewN|apply Kd.R_drew));exact Kd.R_mono (Kd.R_far (p:=⟨gb107,1,none⟩) (Kd.R_far (p:=⟨gb107,0,none⟩) (Kd.R_mono HO_7.out (fun k_ hk=>(⟨hk,hk.2⟩:_∧k_≠gb107))) (fun _ hk=>hk.2) (.int .i64 t105)) (fun _ hk=>hk.2) (.int .i64 t106)) (fun _ hk=>⟨hk.1.1,hk.1.2⟩)⟩,⟨by (with_reducible repeat (first|refine blk_drewN ?_ _|refine blk_drew ?_|refine blk_alloc ?_ _));refine blk_far ?_ NB101_107.out _;(with_reducible repeat (first|refine blk_drewN ?_ _|refine blk_drew ?_|refine blk_alloc ?_ _));refine blk_far ?_ NB101_107.out _;(with_reducible repeat (first|refine blk_drewN ?_ _|refine blk_drew ?_|refine blk_alloc ?_ _));exact BK101.out⟩,⟨by (with_reducible repeat (first|refine blk_drewN ?_ _|refine blk_drew ?_|refine blk_alloc ?_ _));refine blk_far ?_ NB102_107.out _;(with_reducible repeat (first|refine blk_drewN ?_ _|refine blk_drew ?_|refine blk_alloc ?_ _));refine blk_far ?_ NB102_107.out _;(with_reducible repeat (first|refine blk_drewN ?_ _|refine blk_drew ?_|refine blk_alloc ?_ _));exact BK102.out⟩,⟨by (with_reducible repeat (first|refine blk_drewN ?_ _|refine blk_drew ?_|refine blk_alloc ?_ _));refine blk_put (cs:=#[.int .i64 t105,.int .i64 0]) ?_ 1 _ rfl;(with_reducible repeat (first|refine blk_drewN ?_ _|refine blk_drew ?_|refine blk_alloc ?_ _));refine blk_put (cs:=#[.int .i64 0,.int .i64 0]) ?_ 0 _ rfl;(with_reducible repeat (first|refine blk_drewN ?_ _|refine blk_drew ?_|refine blk_alloc ?_ _));exact BK107.out⟩,⟨by repeat (first|(with_reducible first|exact HB.out|apply below_alloc|apply pw_below_drewN|apply below_drew1|refine below_set ?_ GE101.out|refine below_set ?_ GE102.out|refine below_set ?_ GE104.out|refine below_set ?_ GE107.out)|exact HB.out)⟩⟩
            case rest =>
              clear HC11
              try clear c1
              try clear c2
              try clear p2
              try clear c3
              try clear c4
              try clear c5
              try clear c6
              try clear c10
              try clear c24
              try clear c25
              try clear c27
              try clear c27b0
              try clear c30
              try clear c31
              try clear c32
              try clear c34
              try clear c35
              try clear c37
              try clear c40
              try clear c41
              try clear c42
              try clear c43
              try clear c45
              try clear c46
              try clear c49
              try clear c50
              try clear c51
              try clear c52
              try clear c54
              try clear c55
              try clear c57
              try clear c62
              try clear c63
              try clear c64
              try clear c66
              try clear c67
              try clear c69
              try clear hcz26_0
              try clear hcz26_1
              try clear hcz33_0
              try clear hcz33_1
              try clear hcz33_2
              try clear hcz36_0
              try clear hcz36_1
              try clear hcz38_0
              try clear hcz38_1
              try clear hcz38_2
              try clear hcz38_3
              try clear hcz44_0
              try clear hcz44_1
              try clear hcz47_0
              try clear hcz47_1
              try clear hcz53_0
              try clear hcz53_1
              try clear hcz53_2
              try clear hcz56_0
              try clear hcz56_1
              try clear hcz58_0
              try clear hcz58_1
              try clear hcz58_2
              try clear hcz58_3
              try clear hcz60_0
              try clear hcz60_1
              try clear hcz61_0
              try clear hcz61_1
              try clear hcz65_0
              try clear hcz65_1
              try clear hcz65_2
              try clear hcz68_0
              try clear hcz68_1
              try clear hcz70_0
              try clear hcz70_1
              try clear hcz70_2
              try clear hcz70_3
              try clear hfz26_0
              try clear hfz26_1
              try clear hfz33_0
              try clear hfz33_1
              try clear hfz33_2
              try clear hfz36_0
              try clear hfz36_1
              try clear hfz38_0
              try clear hfz38_1
              try clear hfz38_2
              try clear hfz38_3
              try clear hfz44_0
              try clear hfz44_1
              try clear hfz47_0
              try clear hfz47_1
              try clear hfz53_0
              try clear hfz53_1
              try clear hfz53_2
              try clear hfz56_0
              try clear hfz56_1
              try clear hfz58_0
              try clear hfz58_1
              try clear hfz58_2
              try clear hfz58_3
              try clear hfz60_0
              try clear hfz60_1
              try clear hfz61_0
              try clear hfz61_1
              try clear hfz65_0
              try clear hfz65_1
              try clear hfz65_2
              try clear hfz68_0
              try clear hfz68_1
              try clear hfz70_0
              try clear hfz70_1
              try clear hfz70_2
              try clear hfz70_3
              try clear p2
              obtain ⟨kq, x108000_10, x108001_10, HA, HJ10, HO_7, BK101, BK102, BK107, HB⟩ := hcut
              cases kq with
              | zero => exact absurd HA.out (by simp [worktime_adjusted.j2])
              | succ kj10 =>
                have H := HA.out
                clear HA
                simp only [worktime_adjusted.j2] at H
                obtain ⟨ji72, hji72⟩ : ∃ j_ : Int, (mx x108000_10 x8_1) = j_ := ⟨_, rfl⟩
                replace H:(if (mn x108001_10 120968640) > (ji72) then (if x7_1.length < 8796093022208 then (worktime_adjusted.l0 kj10 (x7_1 ++ [(⟨ji72,mn x108001_10 120968640⟩:S41)]) (mx x8_1 x108001_10) l2 (l2.length:Int) (wrap64 (x14_1 + 1)) a0_0 a0_1 a0_2 l0_3 a1_0 a1_1) else (none)) else (worktime_adjusted.l0 kj10 x7_1 (mx x8_1 x108001_10) l2 (l2.length:Int) (wrap64 (x14_1 + 1)) a0_0 a0_1 a0_2 l0_3 a1_0 a1_1)) = some r:=by first|(rw[hji72] at H;exact H)|(simp only[hji72] at H ⊢;exact H)
                have hji72_ : (if x108000_10 < x8_1 then x8_1 else x108000_10) = ji72 := hji72
                obtain ⟨ji73, hji73⟩ : ∃ j_ : Int, (mx x8_1 x108001_10) = j_ := ⟨_, rfl⟩
                replace H:(if (mn x108001_10 120968640) > (ji72) then (if x7_1.length < 8796093022208 then (worktime_adjusted.l0 kj10 (x7_1 ++ [(⟨ji72,mn x108001_10 120968640⟩:S41)]) ji73 l2 (l2.length:Int) (wrap64 (x14_1 + 1)) a0_0 a0_1 a0_2 l0_3 a1_0 a1_1) else (none)) else (worktime_adjusted.l0 kj10 x7_1 ji73 l2 (l2.length:Int) (wrap64 (x14_1 + 1)) a0_0 a0_1 a0_2 l0_3 a1_0 a1_1)) = some r:=by first|(rw[hji73] at H;exact H)|(simp only[hji73] at H ⊢;exact H)
                have hji73_ : (if x8_1 < x108001_10 then x108001_10 else x8_1) = ji73 := hji73
                obtain ⟨ji74, hji74⟩ : ∃ j_ : Int, (mn x108001_10 120968640) = j_ := ⟨_, rfl⟩
                replace H:(if (ji74) > (ji72) then (if x7_1.length < 8796093022208 then (worktime_adjusted.l0 kj10 (x7_1 ++ [(⟨ji72,ji74⟩:S41)]) ji73 l2 (l2.length:Int) (wrap64 (x14_1 + 1)) a0_0 a0_1 a0_2 l0_3 a1_0 a1_1) else (none)) else (worktime_adjusted.l0 kj10 x7_1 ji73 l2 (l2.length:Int) (wrap64 (x14_1 + 1)) a0_0 a0_1 a0_2 l0_3 a1_0 a1_1)) = some r:=by first|(rw[hji74] at H;exact H)|(simp only[hji74] at H ⊢;exact H)
                have hji74_ : (if 120968640 < x108001_10 then 120968640 else x108001_10) = ji74 := hji74
                by_cases c75 : (ji74) > (ji72)
                · rw [if_pos c75] at H
                  have c75b0 : decide ((ji72) < (ji74)) = true := decide_eq_true c75
                  clear c75
                  by_cases c76 : x7_1.length < 8796093022208
                  · rw [if_pos c76] at H
                    have LMc76 := Aside0.mk c76
                    clear c76
                    obtain ⟨y110, hy110⟩ : ∃ y_ : List (S41), y_ = (x7_1 ++ [(⟨ji72, ji74⟩ : S41)]) := ⟨_, rfl⟩
                    replace H:(worktime_adjusted.l0 kj10 y110 ji73 l2 (l2.length:Int) (wrap64 (x14_1 + 1)) a0_0 a0_1 a0_2 l0_3 a1_0 a1_1) = some r:=by first|(rw[hy110];with_reducible exact H)|(have H2_:=(Option.bind_some _ _).symm.trans H;rw[hy110];with_reducible exact H2_)|(have H2_:=(Option.bind_some _ _).symm.trans H;with_reducible exact H2_)|with_reducible exact H|(rw[hy110];exact H)|exact H
                    have Ny110 := Aside0.mk hy110
                    clear hy110
                    have H' := Aside0.mk H
                    clear H
                    have hnb77 := NB107_101.out
                    have hnc77 := NB101_107.out
                    have hnb78 := NB107_102.out
                    have hnc78 := NB102_107.out
                    have hcz79_0:wc.cell? ⟨gb107,0,none⟩ = some (.int .i64 x108000_10):=(blk_cell BK107.out 0).trans rfl
                    have hcz79_1:wc.cell? ⟨gb107,1,none⟩ = some (.int .i64 x108001_10):=(blk_cell BK107.out 1).trans rfl
                    have hfz79_0 := blk_frozen BK107.out 0
                    have hfz79_1 := blk_frozen BK107.out 1
                    go_wp2_with (first|((with_reducible refine gate_builtin (b:=.append) (xs:=#[.tmp 72,.tmp 74]) rfl ?_);at_builtin;refine Kd.R_append k41 (w0:=w) w.heap.size rfl (.tmp 72) (.tmp 74) 23 41 (.agg #[(.int .i64 0),(.int .i64 0)]) 16 rfl Try.underlying23 info41 rfl (by decide) (by omega) u7 x7_1 (⟨ji72,ji74⟩:S41) [.int .i64 ji72,.int .i64 ji74] (fun k_=>k_≠gb102∧k_≠gb107) (fun _=>False) rfl (by first|(go_simp;done)|(go_simp;rfl)) ?aP (fun _ hk=>hk.elim) ?aF ?aO ?aB ?aS ?aL ?_;(case aP=>exact k41_mkM _ _ _ (⟨ji72,ji74⟩:S41));(case aB=>exact(by repeat (first|(with_reducible first|exact HB.out|apply below_alloc|apply pw_below_drewN|apply below_drew1|refine below_set ?_ GE101.out|refine below_set ?_ GE102.out|refine below_set ?_ GE107.out)|exact HB.out)));(case aF=>exact(fun k_ hk=>⟨Kd.freshB (g:=gb102) (o:=.cells #[.int .i64 a1_0,.int .i64 a1_1] 41 (0,0)) (by (with_reducible repeat (first|refine blk_drewN ?_ _|refine blk_drew ?_|refine blk_alloc ?_ _));refine blk_far ?_ NB102_107.out _;(with_reducible repeat (first|refine blk_drewN ?_ _|refine blk_drew ?_|refine blk_alloc ?_ _));refine blk_far ?_ NB102_107.out _;(with_reducible repeat (first|refine blk_drewN ?_ _|refine blk_drew ?_|refine blk_alloc ?_ _));exact BK102.out) k_ hk,Kd.freshB (g:=gb107) (o:=.cells #[.int .i64 ji72,.int .i64 ji74] 41 (0,0)) (by (with_reducible repeat (first|refine blk_drewN ?_ _|refine blk_drew ?_|refine blk_alloc ?_ _));refine blk_put (cs:=#[.int .i64 ji72,.int .i64 x108001_10]) ?_ 1 _ rfl;(with_reducible repeat (first|refine blk_drewN ?_ _|refine blk_drew ?_|refine blk_alloc ?_ _));refine blk_put (cs:=#[.int .i64 x108000_10,.int .i64 x108001_10]) ?_ 0 _ rfl;(with_reducible repeat (first|refine blk_drewN ?_ _|refine blk_drew ?_|refine blk_alloc ?_ _));exact BK107.out) k_ hk⟩));(case aO=>exact(by (with_reducible repeat (first|apply Kd.R_alloc|apply Kd.R_drewN|apply Kd.R_drew));exact Kd.R_mono (Kd.R_far (p:=⟨gb107,1,none⟩) (Kd.R_far (p:=⟨gb107,0,none⟩) (Kd.R_mono HO_7.out (fun k_ hk=>(⟨hk,hk.2⟩:_∧k_≠gb107))) (fun _ hk=>hk.2) (.int .i64 ji72)) (fun _ hk=>hk.2) (.int .i64 ji74)) (fun _ hk=>⟨hk.1.1,hk.1.2⟩)));(case aS=>exact(below_size (by repeat (first|(with_reducible first|exact HB.out|apply below_alloc|apply pw_below_drewN|apply below_drew1|refine below_set ?_ GE101.out|refine below_set ?_ GE102.out|refine below_set ?_ GE107.out)|exact HB.out))));(case aL=>have:=LMc76.out;omega);intro v111 w80 ho hb hg hat;rw[← Ny110.out] at ho;have n0_:=Aside0.mk (blk_grown (g:=gb101) (o:=.cells #[.int .i64 a0_0,.int .i64 a0_1,.int .i64 a0_2,.slice A0_3 l0_3.length c0_3] 35 (0,0)) (by (with_reducible repeat (first|refine blk_drewN ?_ _|refine blk_drew ?_|refine blk_alloc ?_ _));refine blk_far ?_ NB101_107.out _;(with_reducible repeat (first|refine blk_drewN ?_ _|refine blk_drew ?_|refine blk_alloc ?_ _));refine blk_far ?_ NB101_107.out _;(with_reducible repeat (first|refine blk_drewN ?_ _|refine blk_drew ?_|refine blk_alloc ?_ _));exact BK101.out) hg (Kd.R_ne HO_7.out BK101.out (by decide)));have n1_:=Aside0.mk (blk_grown (g:=gb102) (o:=.cells #[.int .i64 a1_0,.int .i64 a1_1] 41 (0,0)) (by (with_reducible repeat (first|refine blk_drewN ?_ _|refine blk_drew ?_|refine blk_alloc ?_ _));refine blk_far ?_ NB102_107.out _;(with_reducible repeat (first|refine blk_drewN ?_ _|refine blk_drew ?_|refine blk_alloc ?_ _));refine blk_far ?_ NB102_107.out _;(with_reducible repeat (first|refine blk_drewN ?_ _|refine blk_drew ?_|refine blk_alloc ?_ _));exact BK102.out) hg (Kd.R_away HO_7.out (fun _ hk=>hk.1)));have n2_:=Aside0.mk (blk_grown (g:=gb107) (o:=.cells #[.int .i64 ji72,.int .i64 ji74] 41 (0,0)) (by (with_reducible repeat (first|refine blk_drewN ?_ _|refine blk_drew ?_|refine blk_alloc ?_ _));refine blk_put (cs:=#[.int .i64 ji72,.int .i64 x108001_10]) ?_ 1 _ rfl;(with_reducible repeat (first|refine blk_drewN ?_ _|refine blk_drew ?_|refine blk_alloc ?_ _));refine blk_put (cs:=#[.int .i64 x108000_10,.int .i64 x108001_10]) ?_ 0 _ rfl;(with_reducible repeat (first|refine blk_drewN ?_ _|refine blk_drew ?_|refine blk_alloc ?_ _));exact BK107.out) hg (Kd.R_away HO_7.out (fun _ hk=>hk.2)));have n3_:=Aside0.mk (hb);have n4_:=Aside0.mk (ho);clear BK101;clear BK102;clear BK107;clear HB;clear HO_7;have BK101:=n0_;have BK102:=n1_;have BK107:=n2_;have HB:=n3_;have HO112:=n4_;clear n0_ n1_ n2_ n3_ n4_;clear ho hb hg hat))
                    go_roundg kj10
                    case measure => have := HK1.out; have := HJ10.out; omega
                    case rel=>exact⟨(y110),(ji73),(wrap64 (x14_1 + 1)),(by first|rfl|(simp;done)|(simp only[← hji73] <;> (first|rfl|simp))|(simp[*];done)),(by first|rfl|(simp;done)|(simp[*];done)),H',⟨by have:=HK1.out;have:=HJ10.out;omega⟩,⟨by (with_reducible repeat (first|apply Kd.R_alloc|apply Kd.R_drewN|apply Kd.R_drew));exact Kd.R_mono HO112.out (fun _ hk=>hk.1)⟩,⟨by (with_reducible repeat (first|refine blk_drewN ?_ _|refine blk_drew ?_|refine blk_alloc ?_ _));exact BK101.out⟩,⟨by (with_reducible repeat (first|refine blk_drewN ?_ _|refine blk_drew ?_|refine blk_alloc ?_ _));exact BK102.out⟩,⟨by repeat (first|(with_reducible first|exact HB.out|apply below_alloc|apply pw_below_drewN|apply below_drew1|refine below_set ?_ GE101.out|refine below_set ?_ GE102.out|refine below_set ?_ GE107.out)|exact HB.out)⟩⟩
                  · rw [if_neg c76] at H
                    exact absurd H (by simp)
                · rw [if_neg c75] at H
                  have c75b0 : decide ((ji72) < (ji74)) = false := decide_eq_false c75
                  clear c75
                  have H' := Aside0.mk H
                  clear H
                  have hnb81 := NB107_101.out
                  have hnc81 := NB101_107.out
                  have hnb82 := NB107_102.out
                  have hnc82 := NB102_107.out
                  have hcz83_0:wc.cell? ⟨gb107,0,none⟩ = some (.int .i64 x108000_10):=(blk_cell BK107.out 0).trans rfl
                  have hcz83_1:wc.cell? ⟨gb107,1,none⟩ = some (.int .i64 x108001_10):=(blk_cell BK107.out 1).trans rfl
                  have hfz83_0 := blk_frozen BK107.out 0
                  have hfz83_1 := blk_frozen BK107.out 1
                  go_wp2
                  go_roundg kj10
                  case measure => have := HK1.out; have := HJ10.out; omega
                  case rel=>exact⟨(x7_1),(ji73),(wrap64 (x14_1 + 1)),(by first|rfl|(simp;done)|(simp only[← hji73] <;> (first|rfl|simp))|(simp[*];done)),(by first|rfl|(simp;done)|(simp[*];done)),H',⟨by have:=HK1.out;have:=HJ10.out;omega⟩,⟨by (with_reducible repeat (first|apply Kd.R_alloc|apply Kd.R_drewN|apply Kd.R_drew));exact Kd.R_mono (Kd.R_far (p:=⟨gb107,1,none⟩) (Kd.R_far (p:=⟨gb107,0,none⟩) (Kd.R_mono HO_7.out (fun k_ hk=>(⟨hk,hk.2⟩:_∧k_≠gb107))) (fun _ hk=>hk.2) (.int .i64 ji72)) (fun _ hk=>hk.2) (.int .i64 ji74)) (fun _ hk=>hk.1.1)⟩,⟨by (with_reducible repeat (first|refine blk_drewN ?_ _|refine blk_drew ?_|refine blk_alloc ?_ _));refine blk_far ?_ NB101_107.out _;(with_reducible repeat (first|refine blk_drewN ?_ _|refine blk_drew ?_|refine blk_alloc ?_ _));refine blk_far ?_ NB101_107.out _;(with_reducible repeat (first|refine blk_drewN ?_ _|refine blk_drew ?_|refine blk_alloc ?_ _));exact BK101.out⟩,⟨by (with_reducible repeat (first|refine blk_drewN ?_ _|refine blk_drew ?_|refine blk_alloc ?_ _));refine blk_far ?_ NB102_107.out _;(with_reducible repeat (first|refine blk_drewN ?_ _|refine blk_drew ?_|refine blk_alloc ?_ _));refine blk_far ?_ NB102_107.out _;(with_reducible repeat (first|refine blk_drewN ?_ _|refine blk_drew ?_|refine blk_alloc ?_ _));exact BK102.out⟩,⟨by repeat (first|(with_reducible first|exact HB.out|apply below_alloc|apply pw_below_drewN|apply below_drew1|refine below_set ?_ GE101.out|refine below_set ?_ GE102.out|refine below_set ?_ GE107.out)|exact HB.out)⟩⟩
          · rw [if_neg c8] at H
            exact absurd H (by simp)
        · rw [if_neg c7] at H
          exact absurd H (by simp)
      · rw [if_neg c6] at H
        have c6b0 : decide (x14_1 < (l2.length : Int)) = false := decide_eq_false c6
        clear c6
        obtain rfl := Option.some.inj H
        go_wp2
        go_ret
        exact⟨_,by first|rfl|(simp[errW_none,errW_some] <;> rfl)|(simp[*,errW_none,errW_some] <;> rfl),by (with_reducible repeat (first|apply Kd.R_alloc|apply Kd.R_drewN|apply Kd.R_drew));exact Kd.R_mono HO_7.out (fun _ hk=>trivial),by repeat (first|(with_reducible first|exact HB.out|apply below_alloc|apply pw_below_drewN|apply below_drew1|refine below_set ?_ GE101.out|refine below_set ?_ GE102.out)|exact HB.out)⟩
end Go.Proofs.Ythdohkabcpdpdaa.M
