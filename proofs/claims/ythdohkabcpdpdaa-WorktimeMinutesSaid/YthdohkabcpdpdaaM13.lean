import Derived.Test.YthdohkabcpdpdaaM0
import Derived.Test.YthdohkabcpdpdaaM1
import Derived.Test.YthdohkabcpdpdaaM5
import Derived.Test.YthdohkabcpdpdaaM7
import Derived.Test.YthdohkabcpdpdaaM8
import Derived.Test.YthdohkabcpdpdaaM9
import Derived.Test.YthdohkabcpdpdaaM10
import Derived.Test.YthdohkabcpdpdaaM11
import Derived.Test.YthdohkabcpdpdaaM12
namespace Go.Proofs.Ythdohkabcpdpdaa.M
open Go.RowKit Go.Proofs.YthdohkabcpdpdaaW.PrintWords Go.Proofs.YthdohkabcpdpdaaW.PrintLast Go.Proofs.YthdohkabcpdpdaaW.PrintMore
attribute [local go_sem] max2_int min2_int max_two min_two max_three min_three max_four min_four   -- for this text's walks alone
set_option linter.unusedVariables false
set_option linter.unusedSimpArgs false
attribute [local go_sem high] eqA41
mutual
def worktime_Adjust.j0 : Nat → Bool → Int → Int → Int → List (S60) → Int → Int → Int → Int → List (S48) → Option (Int × (List (S41)) × Int)
  | 0, _, _, _, _, _, _, _, _, _, _ => none
  | k + 1, x33, x102000, x102001, x102002, x102003, x103000, x103001, x104000, x104001, x104002 => if x33 = true then (some (0, ([] : List (S41)), 1)) else ((presence_Valid.f k x104002).bind fun t107 => (if t107 = 0 then ((worktime_adjusted.f k x102000 x102001 x102002 x102003 x103000 x103001 x104002).bind fun t108 => ((worktime_total.f k t108).bind fun t111 => (if t111 > 100000 then (some (0, ([] : List (S41)), 3)) else (worktime_Adjust.l0 k t108 ([] : List (S41)) x104002 (x104002.length : Int) 0 x102000 x102001 x102002 x102003 x104000 x104001 x104002)))) else (some (0, ([] : List (S41)), t107))))
def worktime_Adjust.l0 : Nat → List (S41) → List (S41) → List (S48) → Int → Int → Int → Int → Int → List (S60) → Int → Int → List (S48) → Option (Int × (List (S41)) × Int)
  | 0, _, _, _, _, _, _, _, _, _, _, _, _ => none
  | k + 1, x10, x11, x52, x53, x54, x102000, x102001, x102002, x102003, x104000, x104001, x104002 => if x54 < x53 then (if 0 ≤ x54 then (if x54 < (x52.length : Int) then (if x11.length + ((rd_T48 x52 x54).f1).length < 8796093022208 then (worktime_Adjust.l0 k x10 (x11 ++ ((rd_T48 x52 x54).f1)) x52 x53 (wrap64 (x54 + 1)) x102000 x102001 x102002 x102003 x104000 x104001 x104002) else (none)) else (none)) else (none)) else ((worktime_without.f x10 x11).bind fun t117 => (if (t117.length : Int) > 0 then (if 0 ≤ (wrap64 ((t117.length : Int) - 1)) then (if (wrap64 ((t117.length : Int) - 1)) < (t117.length : Int) then (if 0 < (t117.length : Int) then ((worktime_total.f k t117).bind fun t122 => (worktime_Adjust.j2 k t117 (wrap64 ((wrap64 (((rd_T41 t117 (wrap64 ((t117.length : Int) - 1))).f1) - ((rd_T41 t117 0).f0))) - t122)) x102000 x102001 x102002 x102003 x104000 x104001 x104002)) else (none)) else (none)) else (none)) else (worktime_Adjust.j2 k t117 0 x102000 x102001 x102002 x102003 x104000 x104001 x104002)))
def worktime_Adjust.j2 : Nat → List (S41) → Int → Int → Int → Int → List (S60) → Int → Int → List (S48) → Option (Int × (List (S41)) × Int)
  | 0, _, _, _, _, _, _, _, _, _ => none
  | k + 1, x14, x15, x102000, x102001, x102002, x102003, x104000, x104001, x104002 => worktime_Adjust.l1 k x14 x15 x102003 (x102003.length : Int) 0 x104000 x104001 x104002
def worktime_Adjust.l1 : Nat → List (S41) → Int → List (S60) → Int → Int → Int → Int → List (S48) → Option (Int × (List (S41)) × Int)
  | 0, _, _, _, _, _, _, _, _ => none
  | k + 1, x14, x15, x85, x86, x87, x104000, x104001, x104002 => if x87 < x86 then (if 0 ≤ x87 then (if x87 < (x85.length : Int) then ((worktime_total.f k x14).bind fun t125 => (if t125 > ((rd_T60 x85 x87).f0) then (if x15 < ((rd_T60 x85 x87).f1) then ((worktime_cut.f k x14 ((rd_T60 x85 x87).f0) (mn (wrap64 (((rd_T60 x85 x87).f1) - x15)) (wrap64 (t125 - ((rd_T60 x85 x87).f0))))).bind fun t126 => (worktime_Adjust.l1 k t126 (wrap64 (x15 + (mn (wrap64 (((rd_T60 x85 x87).f1) - x15)) (wrap64 (t125 - ((rd_T60 x85 x87).f0)))))) x85 x86 (wrap64 (x87 + 1)) x104000 x104001 x104002)) else (worktime_Adjust.l1 k x14 x15 x85 x86 (wrap64 (x87 + 1)) x104000 x104001 x104002)) else (worktime_Adjust.l1 k x14 x15 x85 x86 (wrap64 (x87 + 1)) x104000 x104001 x104002))) else (none)) else (none)) else (some (x104001, x14, 0))
end
def worktime_Adjust.f (k : Nat) (a0_0 : Int) (a0_1 : Int) (a0_2 : Int) (l0_3 : List (S60)) (a1_0 : Int) (a1_1 : Int) (a2_0 : Int) (a2_1 : Int) (l2_2 : List (S48)) : Option (Int × (List (S41)) × Int) := (worktime_Valid.f k a0_0 a0_1 a0_2 l0_3).bind fun t105 => (if t105 = 0 then (if (!(a1_0 == 0) || (!(a1_1 == 0))) = true then ((worktime_valid.f a1_0 a1_1).bind fun t106 => (worktime_Adjust.j0 k (!t106) a0_0 a0_1 a0_2 l0_3 a1_0 a1_1 a2_0 a2_1 l2_2)) else (worktime_Adjust.j0 k false a0_0 a0_1 a0_2 l0_3 a1_0 a1_1 a2_0 a2_1 l2_2)) else (some (0, ([] : List (S41)), t105)))
theorem worktime_Adjust.mono_l : ∀ k, (∀ y0 y1 y2 y3 y4 y5 y6 y7 y8 y9, LeO (worktime_Adjust.j0 k y0 y1 y2 y3 y4 y5 y6 y7 y8 y9) (worktime_Adjust.j0 (k + 1) y0 y1 y2 y3 y4 y5 y6 y7 y8 y9)) ∧ (∀ y0 y1 y2 y3 y4 y5 y6 y7 y8 y9 y10 y11, LeO (worktime_Adjust.l0 k y0 y1 y2 y3 y4 y5 y6 y7 y8 y9 y10 y11) (worktime_Adjust.l0 (k + 1) y0 y1 y2 y3 y4 y5 y6 y7 y8 y9 y10 y11)) ∧ (∀ y0 y1 y2 y3 y4 y5 y6 y7 y8, LeO (worktime_Adjust.j2 k y0 y1 y2 y3 y4 y5 y6 y7 y8) (worktime_Adjust.j2 (k + 1) y0 y1 y2 y3 y4 y5 y6 y7 y8)) ∧ (∀ y0 y1 y2 y3 y4 y5 y6 y7, LeO (worktime_Adjust.l1 k y0 y1 y2 y3 y4 y5 y6 y7) (worktime_Adjust.l1 (k + 1) y0 y1 y2 y3 y4 y5 y6 y7))
  | 0 => ⟨fun _ _ _ _ _ _ _ _ _ _ r h => by simp [worktime_Adjust.j0] at h, fun _ _ _ _ _ _ _ _ _ _ _ _ r h => by simp [worktime_Adjust.l0] at h, fun _ _ _ _ _ _ _ _ _ r h => by simp [worktime_Adjust.j2] at h, fun _ _ _ _ _ _ _ _ r h => by simp [worktime_Adjust.l1] at h⟩
  | k + 1 => by
    obtain ⟨ih0, ih1, ih2, ih3⟩ := worktime_Adjust.mono_l k
    refine ⟨?_, ?_, ?_, ?_⟩
    · intro y0 y1 y2 y3 y4 y5 y6 y7 y8 y9
      unfold worktime_Adjust.j0
      repeat' first
      | (with_reducible exact ih0 _ _ _ _ _ _ _ _ _ _)
      | (with_reducible exact ih1 _ _ _ _ _ _ _ _ _ _ _ _)
      | (with_reducible exact ih2 _ _ _ _ _ _ _ _ _)
      | (with_reducible exact ih3 _ _ _ _ _ _ _ _)
      | (with_reducible exact presence_Valid.mono _ _)
      | (with_reducible exact worktime_Valid.mono _ _ _ _ _)
      | (with_reducible exact worktime_adjusted.mono _ _ _ _ _ _ _ _)
      | (with_reducible exact worktime_cut.mono _ _ _ _)
      | (with_reducible exact worktime_total.mono _ _)
      | (with_reducible exact LeO.refl _)
      | (with_reducible exact LeO.none _)
      | (with_reducible refine LeO.ite ?_ ?_)
      | (with_reducible refine LeO.bind ?_ (fun _ => ?_))
      | exact ih0 _ _ _ _ _ _ _ _ _ _
      | exact ih1 _ _ _ _ _ _ _ _ _ _ _ _
      | exact ih2 _ _ _ _ _ _ _ _ _
      | exact ih3 _ _ _ _ _ _ _ _
      | exact presence_Valid.mono _ _
      | exact worktime_Valid.mono _ _ _ _ _
      | exact worktime_adjusted.mono _ _ _ _ _ _ _ _
      | exact worktime_cut.mono _ _ _ _
      | exact worktime_total.mono _ _
      | exact LeO.none _
      | refine LeO.ite ?_ ?_
      | refine LeO.bind ?_ (fun _ => ?_)
    · intro y0 y1 y2 y3 y4 y5 y6 y7 y8 y9 y10 y11
      unfold worktime_Adjust.l0
      repeat' first
      | (with_reducible exact ih0 _ _ _ _ _ _ _ _ _ _)
      | (with_reducible exact ih1 _ _ _ _ _ _ _ _ _ _ _ _)
      | (with_reducible exact ih2 _ _ _ _ _ _ _ _ _)
      | (with_reducible exact ih3 _ _ _ _ _ _ _ _)
      | (with_reducible exact presence_Valid.mono _ _)
      | (with_reducible exact worktime_Valid.mono _ _ _ _ _)
      | (with_reducible exact worktime_adjusted.mono _ _ _ _ _ _ _ _)
      | (with_reducible exact worktime_cut.mono _ _ _ _)
      | (with_reducible exact worktime_total.mono _ _)
      | (with_reducible exact LeO.refl _)
      | (with_reducible exact LeO.none _)
      | (with_reducible refine LeO.ite ?_ ?_)
      | (with_reducible refine LeO.bind ?_ (fun _ => ?_))
      | exact ih0 _ _ _ _ _ _ _ _ _ _
      | exact ih1 _ _ _ _ _ _ _ _ _ _ _ _
      | exact ih2 _ _ _ _ _ _ _ _ _
      | exact ih3 _ _ _ _ _ _ _ _
      | exact presence_Valid.mono _ _
      | exact worktime_Valid.mono _ _ _ _ _
      | exact worktime_adjusted.mono _ _ _ _ _ _ _ _
      | exact worktime_cut.mono _ _ _ _
      | exact worktime_total.mono _ _
      | exact LeO.none _
      | refine LeO.ite ?_ ?_
      | refine LeO.bind ?_ (fun _ => ?_)
    · intro y0 y1 y2 y3 y4 y5 y6 y7 y8
      unfold worktime_Adjust.j2
      repeat' first
      | (with_reducible exact ih0 _ _ _ _ _ _ _ _ _ _)
      | (with_reducible exact ih1 _ _ _ _ _ _ _ _ _ _ _ _)
      | (with_reducible exact ih2 _ _ _ _ _ _ _ _ _)
      | (with_reducible exact ih3 _ _ _ _ _ _ _ _)
      | (with_reducible exact presence_Valid.mono _ _)
      | (with_reducible exact worktime_Valid.mono _ _ _ _ _)
      | (with_reducible exact worktime_adjusted.mono _ _ _ _ _ _ _ _)
      | (with_reducible exact worktime_cut.mono _ _ _ _)
      | (with_reducible exact worktime_total.mono _ _)
      | (with_reducible exact LeO.refl _)
      | (with_reducible exact LeO.none _)
      | (with_reducible refine LeO.ite ?_ ?_)
      | (with_reducible refine LeO.bind ?_ (fun _ => ?_))
      | exact ih0 _ _ _ _ _ _ _ _ _ _
      | exact ih1 _ _ _ _ _ _ _ _ _ _ _ _
      | exact ih2 _ _ _ _ _ _ _ _ _
      | exact ih3 _ _ _ _ _ _ _ _
      | exact presence_Valid.mono _ _
      | exact worktime_Valid.mono _ _ _ _ _
      | exact worktime_adjusted.mono _ _ _ _ _ _ _ _
      | exact worktime_cut.mono _ _ _ _
      | exact worktime_total.mono _ _
      | exact LeO.none _
      | refine LeO.ite ?_ ?_
      | refine LeO.bind ?_ (fun _ => ?_)
    · intro y0 y1 y2 y3 y4 y5 y6 y7
      unfold worktime_Adjust.l1
      repeat' first
      | (with_reducible exact ih0 _ _ _ _ _ _ _ _ _ _)
      | (with_reducible exact ih1 _ _ _ _ _ _ _ _ _ _ _ _)
      | (with_reducible exact ih2 _ _ _ _ _ _ _ _ _)
      | (with_reducible exact ih3 _ _ _ _ _ _ _ _)
      | (with_reducible exact presence_Valid.mono _ _)
      | (with_reducible exact worktime_Valid.mono _ _ _ _ _)
      | (with_reducible exact worktime_adjusted.mono _ _ _ _ _ _ _ _)
      | (with_reducible exact worktime_cut.mono _ _ _ _)
      | (with_reducible exact worktime_total.mono _ _)
      | (with_reducible exact LeO.refl _)
      | (with_reducible exact LeO.none _)
      | (with_reducible refine LeO.ite ?_ ?_)
      | (with_reducible refine LeO.bind ?_ (fun _ => ?_))
      | exact ih0 _ _ _ _ _ _ _ _ _ _
      | exact ih1 _ _ _ _ _ _ _ _ _ _ _ _
      | exact ih2 _ _ _ _ _ _ _ _ _
      | exact ih3 _ _ _ _ _ _ _ _
      | exact presence_Valid.mono _ _
      | exact worktime_Valid.mono _ _ _ _ _
      | exact worktime_adjusted.mono _ _ _ _ _ _ _ _
      | exact worktime_cut.mono _ _ _ _
      | exact worktime_total.mono _ _
      | exact LeO.none _
      | refine LeO.ite ?_ ?_
      | refine LeO.bind ?_ (fun _ => ?_)
theorem worktime_Adjust.mono : ∀ a0 a1 a2 a3 a4 a5 a6 a7 a8 k, LeO (worktime_Adjust.f k a0 a1 a2 a3 a4 a5 a6 a7 a8) (worktime_Adjust.f (k + 1) a0 a1 a2 a3 a4 a5 a6 a7 a8) := by
  intro a0 a1 a2 a3 a4 a5 a6 a7 a8 k
  obtain ⟨ih0, ih1, ih2, ih3⟩ := worktime_Adjust.mono_l k
  unfold worktime_Adjust.f
  repeat' first
      | (with_reducible exact ih0 _ _ _ _ _ _ _ _ _ _)
      | (with_reducible exact ih1 _ _ _ _ _ _ _ _ _ _ _ _)
      | (with_reducible exact ih2 _ _ _ _ _ _ _ _ _)
      | (with_reducible exact ih3 _ _ _ _ _ _ _ _)
      | (with_reducible exact presence_Valid.mono _ _)
      | (with_reducible exact worktime_Valid.mono _ _ _ _ _)
      | (with_reducible exact worktime_adjusted.mono _ _ _ _ _ _ _ _)
      | (with_reducible exact worktime_cut.mono _ _ _ _)
      | (with_reducible exact worktime_total.mono _ _)
      | (with_reducible exact LeO.refl _)
      | (with_reducible exact LeO.none _)
      | (with_reducible refine LeO.ite ?_ ?_)
      | (with_reducible refine LeO.bind ?_ (fun _ => ?_))
      | exact ih0 _ _ _ _ _ _ _ _ _ _
      | exact ih1 _ _ _ _ _ _ _ _ _ _ _ _
      | exact ih2 _ _ _ _ _ _ _ _ _
      | exact ih3 _ _ _ _ _ _ _ _
      | exact presence_Valid.mono _ _
      | exact worktime_Valid.mono _ _ _ _ _
      | exact worktime_adjusted.mono _ _ _ _ _ _ _ _
      | exact worktime_cut.mono _ _ _ _
      | exact worktime_total.mono _ _
      | exact LeO.none _
      | refine LeO.ite ?_ ?_
      | refine LeO.bind ?_ (fun _ => ?_)
def worktime_Adjust.T21 : Bool × List (List Nat × List Nat) := (true, [([], []), ([], []), ([1], [1]), ([2], [2]), ([0, 3], [0, 3]), ([4], [4]), ([5], [5]), ([], []), ([7], [7]), ([8], [8]), ([9], [9]), ([6, 10], [6, 10]), ([], []), ([12], [12]), ([11, 13], [11, 13]), ([14, 13, 0, 1, 2, 3, 4, 5, 6, 7, 8, 9, 10, 11, 12, 13, 14], [14])])
def worktime_Adjust.B21 : List Nat := [0, 0, 2, 6, 15, 31, 63, 0, 128, 384, 896, 2047, 0, 4096, 16383, 32767]
theorem worktime_Adjust.tab21 : rtab .any (opsOf Try.f14 21) = worktime_Adjust.T21 := by kernel_rfl
theorem worktime_Adjust.bits21 : waitsOk worktime_Adjust.T21.2 worktime_Adjust.B21 = true := by kernel_rfl
set_option maxHeartbeats 8000000 in
set_option maxRecDepth 100000 in
theorem worktime_Adjust.calls (k : Nat) (a0_0 : Int) (a0_1 : Int) (a0_2 : Int) (A0_3 : Option Addr) (c0_3 : Nat) (l0_3 : List (S60)) (a1_0 : Int) (a1_1 : Int) (a2_0 : Int) (a2_1 : Int) (A2_2 : Option Addr) (c2_2 : Nat) (l2_2 : List (S48)) (r1 : Int) (r2 : List (S41)) (r3 : Int) (w : World) (hr0_3 : Kd.C k60 w A0_3 l0_3.length l0_3) (hc0_3 : l0_3.length ≤ c0_3) (hr2_2 : Kd.C k48 w A2_2 l2_2.length l2_2) (hc2_2 : l2_2.length ≤ c2_2) (h : worktime_Adjust.f k a0_0 a0_1 a0_2 l0_3 a1_0 a1_1 a2_0 a2_1 l2_2 = some (r1, r2, r3)) :
    Calls Try.prog 14 #[.agg #[.int .i64 a0_0, .int .i64 a0_1, .int .i64 a0_2, .slice A0_3 l0_3.length c0_3], .agg #[.int .i64 a1_0, .int .i64 a1_1], .agg #[.int .i64 a2_0, .int .i64 a2_1, .slice A2_2 l2_2.length c2_2]] w fun e w' => ∃ v1_ : Value, e = .returned (.tuple #[.agg #[.int .i64 r1, v1_], .int .i64 r3]) ∧ Kd.R k41 41 w' w.heap.size (fun _ => True) v1_ r2 ∧ Below w.heap.size w w' := by
  have hu35 := Try.underlying35
  have hu41 := Try.underlying41
  have hu39 := Try.underlying39
  have hu30 := Try.underlying30
  have hu48 := Try.underlying48
  have hu60 := Try.underlying60
  have HR0_3 := Aside0.mk hr0_3
  have HC0_3 := Aside0.mk hc0_3
  clear hr0_3 hc0_3
  have HR2_2 := Aside0.mk hr2_2
  have HC2_2 := Aside0.mk hc2_2
  clear hr2_2 hc2_2
  have HB := Aside0.mk (Below.refl w.heap.size w)
  have H:((worktime_Valid.f k a0_0 a0_1 a0_2 l0_3).bind fun t105=>(if t105 = 0 then (if (!(a1_0 == 0) || (!(a1_1 == 0))) = true then ((worktime_valid.f a1_0 a1_1).bind fun t106=>(worktime_Adjust.j0 k (!t106) a0_0 a0_1 a0_2 l0_3 a1_0 a1_1 a2_0 a2_1 l2_2)) else (worktime_Adjust.j0 k false a0_0 a0_1 a0_2 l0_3 a1_0 a1_1 a2_0 a2_1 l2_2)) else (some (0,([]:List (S41)),t105)))) = some (r1,r2,r3):=h
  clear h
  replace H := Option.bind_eq_some_iff.mp H
  obtain ⟨t105, A40, H⟩ := H
  replace H:(if t105 = 0 then (if (!(a1_0 == 0) || (!(a1_1 == 0))) = true then ((worktime_valid.f a1_0 a1_1).bind fun t106=>(worktime_Adjust.j0 k (!t106) a0_0 a0_1 a0_2 l0_3 a1_0 a1_1 a2_0 a2_1 l2_2)) else (worktime_Adjust.j0 k false a0_0 a0_1 a0_2 l0_3 a1_0 a1_1 a2_0 a2_1 l2_2)) else (some (0,([]:List (S41)),t105))) = some (r1,r2,r3):=H
  have A4 := Aside0.mk A40
  clear A40
  by_cases c5 : t105 = 0
  · rw [if_pos c5] at H
    have c5b0 : (t105 == 0) = true := beq_iff_eq.mpr c5
    have c5b1 : (t105 != 0) = false := bne_eq_false_iff_eq.mpr c5
    clear c5
    have HC6 := Aside0.mk H
    clear H
    go_enter Try.func14, Try.ntmps14
    go_upto_region 4 with (first|((with_reducible refine gate_dst (N:=3) rfl ?_);refine box_event ?hg (N:=3) ?hd (cs:=#[.int .i64 a0_0,.int .i64 a0_1,.int .i64 a0_2,.slice A0_3 l0_3.length c0_3]) (t:=35) ?hr ?_;(case hd=>rfl);(case hg=>rfl);(case hr=>first|(go_simp;done)|(go_simp;rfl));intro gb101 hg w7 hbox hb;have n0_:=Aside0.mk (below_step (by repeat (first|(with_reducible first|exact HB.out|apply below_alloc|apply pw_below_drewN|apply below_drew1)|exact HB.out)) hb);have n1_:=Aside0.mk (hbox);have n2_:=Aside0.mk ((by rw[hg];exact(below_size (by repeat (first|(with_reducible first|exact HB.out|apply below_alloc|apply pw_below_drewN|apply below_drew1)|exact HB.out))):w.heap.size≤gb101));have n3_:=Aside0.mk ((by rw[hg];exact(below_size (by repeat (first|(with_reducible first|exact HB.out|apply below_alloc|apply pw_below_drewN|apply below_drew1)|exact HB.out))):w.heap.size≤gb101));clear HB;have HB:=n0_;have BK101:=n1_;have GW101:=n2_;have GE101:=n3_;clear n0_ n1_ n2_ n3_;clear hb hbox hg)|((with_reducible refine gate_dst (N:=4) rfl ?_);refine box_event ?hg (N:=4) ?hd (cs:=#[.int .i64 a1_0,.int .i64 a1_1]) (t:=41) ?hr ?_;(case hd=>rfl);(case hg=>rfl);(case hr=>first|(go_simp;done)|(go_simp;rfl));intro gb102 hg w8 hbox hb;have n0_:=Aside0.mk (blk_below (g:=gb101) (o:=.cells #[.int .i64 a0_0,.int .i64 a0_1,.int .i64 a0_2,.slice A0_3 l0_3.length c0_3] 35 (0,0)) (by (with_reducible repeat (first|refine blk_drewN ?_ _|refine blk_drew ?_|refine blk_alloc ?_ _));exact BK101.out) hb);have n1_:=Aside0.mk (below_step (by repeat (first|(with_reducible first|exact HB.out|apply below_alloc|apply pw_below_drewN|apply below_drew1|refine below_set ?_ GE101.out)|exact HB.out)) hb);have n2_:=Aside0.mk (hbox);have n3_:=Aside0.mk ((by rw[hg];exact(below_size (by repeat (first|(with_reducible first|exact HB.out|apply below_alloc|apply pw_below_drewN|apply below_drew1|refine below_set ?_ GE101.out)|exact HB.out))):w.heap.size≤gb102));have n4_:=Aside0.mk ((by rw[hg];exact(below_size (by repeat (first|(with_reducible first|exact HB.out|apply below_alloc|apply pw_below_drewN|apply below_drew1|refine below_set ?_ GE101.out)|exact HB.out))):w.heap.size≤gb102));have n5_:=Aside0.mk ((by rw[hg];exact Nat.ne_of_lt (blk_lt (g:=gb101) (o:=.cells #[.int .i64 a0_0,.int .i64 a0_1,.int .i64 a0_2,.slice A0_3 l0_3.length c0_3] 35 (0,0)) (by (with_reducible repeat (first|refine blk_drewN ?_ _|refine blk_drew ?_|refine blk_alloc ?_ _));exact BK101.out)):gb101≠gb102));have n6_:=Aside0.mk ((by rw[hg];exact Nat.ne_of_gt (blk_lt (g:=gb101) (o:=.cells #[.int .i64 a0_0,.int .i64 a0_1,.int .i64 a0_2,.slice A0_3 l0_3.length c0_3] 35 (0,0)) (by (with_reducible repeat (first|refine blk_drewN ?_ _|refine blk_drew ?_|refine blk_alloc ?_ _));exact BK101.out)):gb102≠gb101));clear BK101;clear HB;have BK101:=n0_;have HB:=n1_;have BK102:=n2_;have GW102:=n3_;have GE102:=n4_;have NB101_102:=n5_;have NB102_101:=n6_;clear n0_ n1_ n2_ n3_ n4_ n5_ n6_;clear hb hbox hg)|((with_reducible refine gate_dst (N:=5) rfl ?_);refine box_event ?hg (N:=5) ?hd (cs:=#[.int .i64 a2_0,.int .i64 a2_1,.slice A2_2 l2_2.length c2_2]) (t:=39) ?hr ?_;(case hd=>rfl);(case hg=>rfl);(case hr=>first|(go_simp;done)|(go_simp;rfl));intro gb103 hg w9 hbox hb;have n0_:=Aside0.mk (blk_below (g:=gb101) (o:=.cells #[.int .i64 a0_0,.int .i64 a0_1,.int .i64 a0_2,.slice A0_3 l0_3.length c0_3] 35 (0,0)) (by (with_reducible repeat (first|refine blk_drewN ?_ _|refine blk_drew ?_|refine blk_alloc ?_ _));exact BK101.out) hb);have n1_:=Aside0.mk (blk_below (g:=gb102) (o:=.cells #[.int .i64 a1_0,.int .i64 a1_1] 41 (0,0)) (by (with_reducible repeat (first|refine blk_drewN ?_ _|refine blk_drew ?_|refine blk_alloc ?_ _));exact BK102.out) hb);have n2_:=Aside0.mk (below_step (by repeat (first|(with_reducible first|exact HB.out|apply below_alloc|apply pw_below_drewN|apply below_drew1|refine below_set ?_ GE101.out|refine below_set ?_ GE102.out)|exact HB.out)) hb);have n3_:=Aside0.mk (hbox);have n4_:=Aside0.mk ((by rw[hg];exact(below_size (by repeat (first|(with_reducible first|exact HB.out|apply below_alloc|apply pw_below_drewN|apply below_drew1|refine below_set ?_ GE101.out|refine below_set ?_ GE102.out)|exact HB.out))):w.heap.size≤gb103));have n5_:=Aside0.mk ((by rw[hg];exact(below_size (by repeat (first|(with_reducible first|exact HB.out|apply below_alloc|apply pw_below_drewN|apply below_drew1|refine below_set ?_ GE101.out|refine below_set ?_ GE102.out)|exact HB.out))):w.heap.size≤gb103));have n6_:=Aside0.mk ((by rw[hg];exact Nat.ne_of_lt (blk_lt (g:=gb101) (o:=.cells #[.int .i64 a0_0,.int .i64 a0_1,.int .i64 a0_2,.slice A0_3 l0_3.length c0_3] 35 (0,0)) (by (with_reducible repeat (first|refine blk_drewN ?_ _|refine blk_drew ?_|refine blk_alloc ?_ _));exact BK101.out)):gb101≠gb103));have n7_:=Aside0.mk ((by rw[hg];exact Nat.ne_of_gt (blk_lt (g:=gb101) (o:=.cells #[.int .i64 a0_0,.int .i64 a0_1,.int .i64 a0_2,.slice A0_3 l0_3.length c0_3] 35 (0,0)) (by (with_reducible repeat (first|refine blk_drewN ?_ _|refine blk_drew ?_|refine blk_alloc ?_ _));exact BK101.out)):gb103≠gb101));have n8_:=Aside0.mk ((by rw[hg];exact Nat.ne_of_lt (blk_lt (g:=gb102) (o:=.cells #[.int .i64 a1_0,.int .i64 a1_1] 41 (0,0)) (by (with_reducible repeat (first|refine blk_drewN ?_ _|refine blk_drew ?_|refine blk_alloc ?_ _));exact BK102.out)):gb102≠gb103));have n9_:=Aside0.mk ((by rw[hg];exact Nat.ne_of_gt (blk_lt (g:=gb102) (o:=.cells #[.int .i64 a1_0,.int .i64 a1_1] 41 (0,0)) (by (with_reducible repeat (first|refine blk_drewN ?_ _|refine blk_drew ?_|refine blk_alloc ?_ _));exact BK102.out)):gb103≠gb102));clear BK101;clear BK102;clear HB;have BK101:=n0_;have BK102:=n1_;have HB:=n2_;have BK103:=n3_;have GW103:=n4_;have GE103:=n5_;have NB101_103:=n6_;have NB103_101:=n7_;have NB102_103:=n8_;have NB103_102:=n9_;clear n0_ n1_ n2_ n3_ n4_ n5_ n6_ n7_ n8_ n9_;clear hb hbox hg)|((with_reducible refine gate_dst (N:=6) rfl ?_);refine box_event ?hg (N:=6) ?hd (cs:=#[.int .i64 0,.slice none 0 0]) (t:=30) ?hr ?_;(case hd=>rfl);(case hg=>rfl);(case hr=>first|(go_simp;done)|(go_simp;rfl));intro gb104 hg w10 hbox hb;have n0_:=Aside0.mk (blk_below (g:=gb101) (o:=.cells #[.int .i64 a0_0,.int .i64 a0_1,.int .i64 a0_2,.slice A0_3 l0_3.length c0_3] 35 (0,0)) (by (with_reducible repeat (first|refine blk_drewN ?_ _|refine blk_drew ?_|refine blk_alloc ?_ _));exact BK101.out) hb);have n1_:=Aside0.mk (blk_below (g:=gb102) (o:=.cells #[.int .i64 a1_0,.int .i64 a1_1] 41 (0,0)) (by (with_reducible repeat (first|refine blk_drewN ?_ _|refine blk_drew ?_|refine blk_alloc ?_ _));exact BK102.out) hb);have n2_:=Aside0.mk (blk_below (g:=gb103) (o:=.cells #[.int .i64 a2_0,.int .i64 a2_1,.slice A2_2 l2_2.length c2_2] 39 (0,0)) (by (with_reducible repeat (first|refine blk_drewN ?_ _|refine blk_drew ?_|refine blk_alloc ?_ _));exact BK103.out) hb);have n3_:=Aside0.mk (below_step (by repeat (first|(with_reducible first|exact HB.out|apply below_alloc|apply pw_below_drewN|apply below_drew1|refine below_set ?_ GE101.out|refine below_set ?_ GE102.out|refine below_set ?_ GE103.out)|exact HB.out)) hb);have n4_:=Aside0.mk (hbox);have n5_:=Aside0.mk ((by rw[hg];exact(below_size (by repeat (first|(with_reducible first|exact HB.out|apply below_alloc|apply pw_below_drewN|apply below_drew1|refine below_set ?_ GE101.out|refine below_set ?_ GE102.out|refine below_set ?_ GE103.out)|exact HB.out))):w.heap.size≤gb104));have n6_:=Aside0.mk ((by rw[hg];exact(below_size (by repeat (first|(with_reducible first|exact HB.out|apply below_alloc|apply pw_below_drewN|apply below_drew1|refine below_set ?_ GE101.out|refine below_set ?_ GE102.out|refine below_set ?_ GE103.out)|exact HB.out))):w.heap.size≤gb104));have n7_:=Aside0.mk ((by rw[hg];exact Nat.ne_of_lt (blk_lt (g:=gb101) (o:=.cells #[.int .i64 a0_0,.int .i64 a0_1,.int .i64 a0_2,.slice A0_3 l0_3.length c0_3] 35 (0,0)) (by (with_reducible repeat (first|refine blk_drewN ?_ _|refine blk_drew ?_|refine blk_alloc ?_ _));exact BK101.out)):gb101≠gb104));have n8_:=Aside0.mk ((by rw[hg];exact Nat.ne_of_gt (blk_lt (g:=gb101) (o:=.cells #[.int .i64 a0_0,.int .i64 a0_1,.int .i64 a0_2,.slice A0_3 l0_3.length c0_3] 35 (0,0)) (by (with_reducible repeat (first|refine blk_drewN ?_ _|refine blk_drew ?_|refine blk_alloc ?_ _));exact BK101.out)):gb104≠gb101));have n9_:=Aside0.mk ((by rw[hg];exact Nat.ne_of_lt (blk_lt (g:=gb102) (o:=.cells #[.int .i64 a1_0,.int .i64 a1_1] 41 (0,0)) (by (with_reducible repeat (first|refine blk_drewN ?_ _|refine blk_drew ?_|refine blk_alloc ?_ _));exact BK102.out)):gb102≠gb104));have n10_:=Aside0.mk ((by rw[hg];exact Nat.ne_of_gt (blk_lt (g:=gb102) (o:=.cells #[.int .i64 a1_0,.int .i64 a1_1] 41 (0,0)) (by (with_reducible repeat (first|refine blk_drewN ?_ _|refine blk_drew ?_|refine blk_alloc ?_ _));exact BK102.out)):gb104≠gb102));have n11_:=Aside0.mk ((by rw[hg];exact Nat.ne_of_lt (blk_lt (g:=gb103) (o:=.cells #[.int .i64 a2_0,.int .i64 a2_1,.slice A2_2 l2_2.length c2_2] 39 (0,0)) (by (with_reducible repeat (first|refine blk_drewN ?_ _|refine blk_drew ?_|refine blk_alloc ?_ _));exact BK103.out)):gb103≠gb104));have n12_:=Aside0.mk ((by rw[hg];exact Nat.ne_of_gt (blk_lt (g:=gb103) (o:=.cells #[.int .i64 a2_0,.int .i64 a2_1,.slice A2_2 l2_2.length c2_2] 39 (0,0)) (by (with_reducible repeat (first|refine blk_drewN ?_ _|refine blk_drew ?_|refine blk_alloc ?_ _));exact BK103.out)):gb104≠gb103));clear BK101;clear BK102;clear BK103;clear HB;have BK101:=n0_;have BK102:=n1_;have BK103:=n2_;have HB:=n3_;have BK104:=n4_;have GW104:=n5_;have GE104:=n6_;have NB101_104:=n7_;have NB104_101:=n8_;have NB102_104:=n9_;have NB104_102:=n10_;have NB103_104:=n11_;have NB104_103:=n12_;clear n0_ n1_ n2_ n3_ n4_ n5_ n6_ n7_ n8_ n9_ n10_ n11_ n12_;clear hb hbox hg;have hnb11:=NB101_102.out;have hnc11:=NB102_101.out;have hnb12:=NB101_103.out;have hnc12:=NB103_101.out;have hnb13:=NB101_104.out;have hnc13:=NB104_101.out;have hcz14_0:w10.cell? ⟨gb101,0,none⟩ = some (.int .i64 a0_0):=(blk_cell BK101.out 0).trans rfl;have hcz14_1:w10.cell? ⟨gb101,1,none⟩ = some (.int .i64 a0_1):=(blk_cell BK101.out 1).trans rfl;have hcz14_2:w10.cell? ⟨gb101,2,none⟩ = some (.int .i64 a0_2):=(blk_cell BK101.out 2).trans rfl;have hcz14_3:w10.cell? ⟨gb101,3,none⟩ = some (.slice A0_3 l0_3.length c0_3):=(blk_cell BK101.out 3).trans rfl;have hfz14_0:=blk_frozen BK101.out 0;have hfz14_1:=blk_frozen BK101.out 1;have hfz14_2:=blk_frozen BK101.out 2;have hfz14_3:=blk_frozen BK101.out 3)|((with_reducible refine gate_callee (f:=23) rfl ?_);refine goesL_ (some 21) rfl rfl Try.func23 (by kernel_rfl) rfl #[.agg #[.int .i64 a0_0,.int .i64 a0_1,.int .i64 a0_2,.slice A0_3 l0_3.length c0_3]] rfl (by (try simp only[List.map_toArray,List.map_cons,List.map_nil]);first|done|rfl|(simp only[List.length_drop,List.length_take];rfl)) ?_;(with_reducible refine(worktime_Valid.calls k a0_0 a0_1 a0_2 _ _ l0_3 t105 _ ?side1 ?side2 A4.out).mono ?_);(case side1=>repeat (first|exact(Kd.C_below HR0_3.out HB.out)|(with_reducible refine Kd.C_alloc ?_ _)|(with_reducible refine Kd.C_drewN ?_ _)|(with_reducible refine Kd.C_drew ?_)));(case side2=>exact HC0_3.out);rintro e w15 ⟨rfl,hb⟩;refine⟨_,rfl,?_⟩;have n0_:=Aside0.mk (blk_below (g:=gb101) (o:=.cells #[.int .i64 a0_0,.int .i64 a0_1,.int .i64 a0_2,.slice A0_3 l0_3.length c0_3] 35 (0,0)) (by (with_reducible repeat (first|refine blk_drewN ?_ _|refine blk_drew ?_|refine blk_alloc ?_ _));exact BK101.out) hb);have n1_:=Aside0.mk (blk_below (g:=gb102) (o:=.cells #[.int .i64 a1_0,.int .i64 a1_1] 41 (0,0)) (by (with_reducible repeat (first|refine blk_drewN ?_ _|refine blk_drew ?_|refine blk_alloc ?_ _));exact BK102.out) hb);have n2_:=Aside0.mk (blk_below (g:=gb103) (o:=.cells #[.int .i64 a2_0,.int .i64 a2_1,.slice A2_2 l2_2.length c2_2] 39 (0,0)) (by (with_reducible repeat (first|refine blk_drewN ?_ _|refine blk_drew ?_|refine blk_alloc ?_ _));exact BK103.out) hb);have n3_:=Aside0.mk (blk_below (g:=gb104) (o:=.cells #[.int .i64 0,.slice none 0 0] 30 (0,0)) (by (with_reducible repeat (first|refine blk_drewN ?_ _|refine blk_drew ?_|refine blk_alloc ?_ _));exact BK104.out) hb);have n4_:=Aside0.mk (below_step (by repeat (first|(with_reducible first|exact HB.out|apply below_alloc|apply pw_below_drewN|apply below_drew1|refine below_set ?_ GE101.out|refine below_set ?_ GE102.out|refine below_set ?_ GE103.out|refine below_set ?_ GE104.out)|exact HB.out)) hb);clear BK101;clear BK102;clear BK103;clear BK104;clear HB;have BK101:=n0_;have BK102:=n1_;have BK103:=n2_;have BK104:=n3_;have HB:=n4_;clear n0_ n1_ n2_ n3_ n4_;(try clear hb);(try clear hb2);(try clear hk);(try clear hi)))
    (try simp only [Act.put, List.setIfInBounds_toArray, List.set_cons_zero, List.set_cons_succ])
    go_cut [33] (fun v33 wc=>∃ (kq:Nat) (x33_5:Bool),v33 = .bool x33_5∧Aside0 (worktime_Adjust.j0 kq x33_5 a0_0 a0_1 a0_2 l0_3 a1_0 a1_1 a2_0 a2_1 l2_2 = some (r1,r2,r3))∧Aside0 (kq≤k)∧Aside0 (wc.heap[gb101]? = some (.cells #[.int .i64 a0_0,.int .i64 a0_1,.int .i64 a0_2,(.slice A0_3 l0_3.length c0_3)] 35 (0,0)))∧Aside0 (wc.heap[gb102]? = some (.cells #[.int .i64 a1_0,.int .i64 a1_1] 41 (0,0)))∧Aside0 (wc.heap[gb103]? = some (.cells #[.int .i64 a2_0,.int .i64 a2_1,(.slice A2_2 l2_2.length c2_2)] 39 (0,0)))∧Aside0 (wc.heap[gb104]? = some (.cells #[.int .i64 0,(.slice none 0 0)] 30 (0,0)))∧Aside0 (Below w.heap.size w wc))
    case first =>
      have H := HC6.out
      clear HC6
      by_cases c16 : (!(a1_0 == 0) || (!(a1_1 == 0))) = true
      · rw [if_pos c16] at H
        have c16b0 : (!(a1_0 == 0) || (!(a1_1 == 0))) = true := c16
        clear c16
        (first|rw[c16b0]|(simp only[i64_w,i32_w];rw[c16b0])|rw[c16b1]|(simp only[i64_w,i32_w];rw[c16b1])|(simp only[c16b1])|skip)
        replace H := Option.bind_eq_some_iff.mp H
        obtain ⟨t106, A170, H⟩ := H
        replace H : (worktime_Adjust.j0 k (!t106) a0_0 a0_1 a0_2 l0_3 a1_0 a1_1 a2_0 a2_1 l2_2) = some (r1, r2, r3) := H
        have A17 := Aside0.mk A170
        clear A170
        have H' := Aside0.mk H
        clear H
        have hnb18 := NB102_101.out
        have hnc18 := NB101_102.out
        have hnb19 := NB102_103.out
        have hnc19 := NB103_102.out
        have hnb20 := NB102_104.out
        have hnc20 := NB104_102.out
        have hcz21_0 : w15.cell? ⟨gb102, 0, none⟩ = some (.int .i64 a1_0) := (blk_cell BK102.out 0).trans rfl
        have hcz21_1 : w15.cell? ⟨gb102, 1, none⟩ = some (.int .i64 a1_1) := (blk_cell BK102.out 1).trans rfl
        have hfz21_0 := blk_frozen BK102.out 0
        have hfz21_1 := blk_frozen BK102.out 1
        go_wp2_with (first|(go_at_call 19;(with_reducible refine(worktime_valid.calls a1_0 a1_1 t106 _ A17.out).mono ?_);rintro e w22 ⟨rfl,hb⟩;have n0_:=Aside0.mk (blk_below (g:=gb101) (o:=.cells #[.int .i64 a0_0,.int .i64 a0_1,.int .i64 a0_2,.slice A0_3 l0_3.length c0_3] 35 (0,0)) (by (with_reducible repeat (first|refine blk_drewN ?_ _|refine blk_drew ?_|refine blk_alloc ?_ _));exact BK101.out) hb);have n1_:=Aside0.mk (blk_below (g:=gb102) (o:=.cells #[.int .i64 a1_0,.int .i64 a1_1] 41 (0,0)) (by (with_reducible repeat (first|refine blk_drewN ?_ _|refine blk_drew ?_|refine blk_alloc ?_ _));exact BK102.out) hb);have n2_:=Aside0.mk (blk_below (g:=gb103) (o:=.cells #[.int .i64 a2_0,.int .i64 a2_1,.slice A2_2 l2_2.length c2_2] 39 (0,0)) (by (with_reducible repeat (first|refine blk_drewN ?_ _|refine blk_drew ?_|refine blk_alloc ?_ _));exact BK103.out) hb);have n3_:=Aside0.mk (blk_below (g:=gb104) (o:=.cells #[.int .i64 0,.slice none 0 0] 30 (0,0)) (by (with_reducible repeat (first|refine blk_drewN ?_ _|refine blk_drew ?_|refine blk_alloc ?_ _));exact BK104.out) hb);have n4_:=Aside0.mk (below_step (by repeat (first|(with_reducible first|exact HB.out|apply below_alloc|apply pw_below_drewN|apply below_drew1|refine below_set ?_ GE101.out|refine below_set ?_ GE102.out|refine below_set ?_ GE103.out|refine below_set ?_ GE104.out)|exact HB.out)) hb);clear BK101;clear BK102;clear BK103;clear BK104;clear HB;have BK101:=n0_;have BK102:=n1_;have BK103:=n2_;have BK104:=n3_;have HB:=n4_;clear n0_ n1_ n2_ n3_ n4_;(try clear hb);(try clear hb2);(try clear hk);(try clear hi)))
        go_meet
        case rel=>exact⟨_,(!t106),(by first|rfl|(simp;done)|(simp[*];done)),H',⟨by first|omega|exact Nat.le_refl _⟩,⟨by (with_reducible repeat (first|refine blk_drewN ?_ _|refine blk_drew ?_|refine blk_alloc ?_ _));exact BK101.out⟩,⟨by (with_reducible repeat (first|refine blk_drewN ?_ _|refine blk_drew ?_|refine blk_alloc ?_ _));exact BK102.out⟩,⟨by (with_reducible repeat (first|refine blk_drewN ?_ _|refine blk_drew ?_|refine blk_alloc ?_ _));exact BK103.out⟩,⟨by (with_reducible repeat (first|refine blk_drewN ?_ _|refine blk_drew ?_|refine blk_alloc ?_ _));exact BK104.out⟩,⟨by repeat (first|(with_reducible first|exact HB.out|apply below_alloc|apply pw_below_drewN|apply below_drew1|refine below_set ?_ GE101.out|refine below_set ?_ GE102.out|refine below_set ?_ GE103.out|refine below_set ?_ GE104.out)|exact HB.out)⟩⟩
      · rw [if_neg c16] at H
        have c16b0 : (!(a1_0 == 0) || (!(a1_1 == 0))) = false := by simpa using c16
        clear c16
        (first|rw[c16b0]|(simp only[i64_w,i32_w];rw[c16b0])|rw[c16b1]|(simp only[i64_w,i32_w];rw[c16b1])|(simp only[c16b1])|skip)
        have H' := Aside0.mk H
        clear H
        have hnb23 := NB102_101.out
        have hnc23 := NB101_102.out
        have hnb24 := NB102_103.out
        have hnc24 := NB103_102.out
        have hnb25 := NB102_104.out
        have hnc25 := NB104_102.out
        have hcz26_0 : w15.cell? ⟨gb102, 0, none⟩ = some (.int .i64 a1_0) := (blk_cell BK102.out 0).trans rfl
        have hcz26_1 : w15.cell? ⟨gb102, 1, none⟩ = some (.int .i64 a1_1) := (blk_cell BK102.out 1).trans rfl
        have hfz26_0 := blk_frozen BK102.out 0
        have hfz26_1 := blk_frozen BK102.out 1
        go_wp2
        go_meet
        case rel=>exact⟨_,(false),(by first|rfl|(simp;done)|(simp[*];done)),H',⟨by first|omega|exact Nat.le_refl _⟩,⟨by (with_reducible repeat (first|refine blk_drewN ?_ _|refine blk_drew ?_|refine blk_alloc ?_ _));exact BK101.out⟩,⟨by (with_reducible repeat (first|refine blk_drewN ?_ _|refine blk_drew ?_|refine blk_alloc ?_ _));exact BK102.out⟩,⟨by (with_reducible repeat (first|refine blk_drewN ?_ _|refine blk_drew ?_|refine blk_alloc ?_ _));exact BK103.out⟩,⟨by (with_reducible repeat (first|refine blk_drewN ?_ _|refine blk_drew ?_|refine blk_alloc ?_ _));exact BK104.out⟩,⟨by repeat (first|(with_reducible first|exact HB.out|apply below_alloc|apply pw_below_drewN|apply below_drew1|refine below_set ?_ GE101.out|refine below_set ?_ GE102.out|refine below_set ?_ GE103.out|refine below_set ?_ GE104.out)|exact HB.out)⟩⟩
    case rest =>
      clear HC6
      try clear c1
      try clear c2
      try clear p2
      try clear c5
      try clear c5b0
      try clear c5b1
      try clear c11
      try clear c12
      try clear c13
      try clear c14
      try clear c16
      try clear c16b0
      try clear c18
      try clear c19
      try clear c20
      try clear c23
      try clear c24
      try clear c25
      try clear hcz14_0
      try clear hcz14_1
      try clear hcz14_2
      try clear hcz14_3
      try clear hcz21_0
      try clear hcz21_1
      try clear hcz26_0
      try clear hcz26_1
      try clear hfz14_0
      try clear hfz14_1
      try clear hfz14_2
      try clear hfz14_3
      try clear hfz21_0
      try clear hfz21_1
      try clear hfz26_0
      try clear hfz26_1
      obtain ⟨kq, x33_5, rfl, HA, HJ5, BK101, BK102, BK103, BK104, HB⟩ := hcut
      cases kq with
      | zero => exact absurd HA.out (by simp [worktime_Adjust.j0])
      | succ kj5 =>
        have H := HA.out
        clear HA
        simp only [worktime_Adjust.j0] at H
        by_cases c27 : x33_5 = true
        · subst c27
          have H1 : (some (0, ([] : List (S41)), 1)) = some (r1, r2, r3) := by rw [if_pos rfl] at H; exact H
          clear H
          have H := H1
          clear H1
          simp only [Option.some.injEq, Prod.mk.injEq] at H
          obtain ⟨rfl, rfl, rfl⟩ := H
          have hnb28 := NB104_101.out
          have hnc28 := NB101_104.out
          have hnb29 := NB104_102.out
          have hnc29 := NB102_104.out
          have hnb30 := NB104_103.out
          have hnc30 := NB103_104.out
          have hcz31_0 : wc.cell? ⟨gb104, 0, none⟩ = some (.int .i64 0) := (blk_cell BK104.out 0).trans rfl
          have hcz31_1 : wc.cell? ⟨gb104, 1, none⟩ = some (.slice none 0 0) := (blk_cell BK104.out 1).trans rfl
          have hfz31_0 := blk_frozen BK104.out 0
          have hfz31_1 := blk_frozen BK104.out 1
          go_wp2
          refine bodyPost_ret (results_ct rfl _ _ gb104 30 #[.int .i64 0,.slice none 0 0] (0,0) _ rfl (by (with_reducible repeat (first|refine blk_drewN ?_ _|refine blk_drew ?_|refine blk_alloc ?_ _));refine blk_put (cs:=#[.int .i64 0,.slice none 0 0]) ?_ 1 _ rfl;(with_reducible repeat (first|refine blk_drewN ?_ _|refine blk_drew ?_|refine blk_alloc ?_ _));refine blk_put (cs:=#[.int .i64 0,.slice none 0 0]) ?_ 0 _ rfl;(with_reducible repeat (first|refine blk_drewN ?_ _|refine blk_drew ?_|refine blk_alloc ?_ _));exact BK104.out) Try.underlying30 rfl (by kernel_rfl)) rfl ?_
          exact⟨_,by first|rfl|(simp[errW_none,errW_some] <;> rfl)|(simp[*,errW_none,errW_some] <;> rfl),by first|exact Kd.R_nil _ _ _ _ _|exact Kd.N_nil _ _ _ _ _|exact Kd.V_nil _ _ _ _ _|exact Kd.Q_nil _ _ _ _ _|exact Kd.S_nil _ _ _ _ _,by repeat (first|(with_reducible first|exact HB.out|apply below_alloc|apply pw_below_drewN|apply below_drew1|refine below_set ?_ GE101.out|refine below_set ?_ GE102.out|refine below_set ?_ GE103.out|refine below_set ?_ GE104.out)|exact HB.out)⟩
        · replace c27 := Bool.eq_false_iff.mpr c27
          subst c27
          have H1:((presence_Valid.f kj5 l2_2).bind fun t107=>(if t107 = 0 then ((worktime_adjusted.f kj5 a0_0 a0_1 a0_2 l0_3 a1_0 a1_1 l2_2).bind fun t108=>((worktime_total.f kj5 t108).bind fun t111=>(if t111 > 100000 then (some (0,([]:List (S41)),3)) else (worktime_Adjust.l0 kj5 t108 ([]:List (S41)) l2_2 (l2_2.length:Int) 0 a0_0 a0_1 a0_2 l0_3 a2_0 a2_1 l2_2)))) else (some (0,([]:List (S41)),t107)))) = some (r1,r2,r3):=by rw[if_neg (show ¬ (false = true) by decide)] at H;exact H
          clear H
          have H := H1
          clear H1
          replace H := Option.bind_eq_some_iff.mp H
          obtain ⟨t107, A320, H⟩ := H
          replace H:(if t107 = 0 then ((worktime_adjusted.f kj5 a0_0 a0_1 a0_2 l0_3 a1_0 a1_1 l2_2).bind fun t108=>((worktime_total.f kj5 t108).bind fun t111=>(if t111 > 100000 then (some (0,([]:List (S41)),3)) else (worktime_Adjust.l0 kj5 t108 ([]:List (S41)) l2_2 (l2_2.length:Int) 0 a0_0 a0_1 a0_2 l0_3 a2_0 a2_1 l2_2)))) else (some (0,([]:List (S41)),t107))) = some (r1,r2,r3):=H
          have A32 := Aside0.mk A320
          clear A320
          by_cases c33 : t107 = 0
          · rw [if_pos c33] at H
            have c33b0 : (t107 == 0) = true := beq_iff_eq.mpr c33
            have c33b1 : (t107 != 0) = false := bne_eq_false_iff_eq.mpr c33
            clear c33
            replace H := Option.bind_eq_some_iff.mp H
            obtain ⟨t108, A340, H⟩ := H
            replace H:((worktime_total.f kj5 t108).bind fun t111=>(if t111 > 100000 then (some (0,([]:List (S41)),3)) else (worktime_Adjust.l0 kj5 t108 ([]:List (S41)) l2_2 (l2_2.length:Int) 0 a0_0 a0_1 a0_2 l0_3 a2_0 a2_1 l2_2))) = some (r1,r2,r3):=H
            have A34 := Aside0.mk A340
            clear A340
            replace H := Option.bind_eq_some_iff.mp H
            obtain ⟨t111, A350, H⟩ := H
            replace H:(if t111 > 100000 then (some (0,([]:List (S41)),3)) else (worktime_Adjust.l0 kj5 t108 ([]:List (S41)) l2_2 (l2_2.length:Int) 0 a0_0 a0_1 a0_2 l0_3 a2_0 a2_1 l2_2)) = some (r1,r2,r3):=H
            have A35 := Aside0.mk A350
            clear A350
            by_cases c36 : t111 > 100000
            · rw [if_pos c36] at H
              have c36b0 : decide (100000 < t111) = true := decide_eq_true c36
              clear c36
              simp only [Option.some.injEq, Prod.mk.injEq] at H
              obtain ⟨rfl, rfl, rfl⟩ := H
              have hnb37 := NB103_101.out
              have hnc37 := NB101_103.out
              have hnb38 := NB103_102.out
              have hnc38 := NB102_103.out
              have hnb39 := NB103_104.out
              have hnc39 := NB104_103.out
              have hcz40_0 : wc.cell? ⟨gb103, 0, none⟩ = some (.int .i64 a2_0) := (blk_cell BK103.out 0).trans rfl
              have hcz40_1 : wc.cell? ⟨gb103, 1, none⟩ = some (.int .i64 a2_1) := (blk_cell BK103.out 1).trans rfl
              have hcz40_2:wc.cell? ⟨gb103,2,none⟩ = some (.slice A2_2 l2_2.length c2_2):=(blk_cell BK103.out 2).trans rfl
              have hfz40_0 := blk_frozen BK103.out 0
              have hfz40_1 := blk_frozen BK103.out 1
              have hfz40_2 := blk_frozen BK103.out 2
              go_wp2_with (first|((with_reducible refine gate_callee (f:=24) rfl ?_);refine goesL_ (some 37) rfl rfl Try.func24 (by kernel_rfl) rfl #[.slice A2_2 l2_2.length c2_2] rfl (by (try simp only[List.map_toArray,List.map_cons,List.map_nil]);first|done|rfl|(simp only[List.length_drop,List.length_take];rfl)) ?_;(with_reducible refine(presence_Valid.calls kj5 _ _ l2_2 t107 _ ?side1 ?side2 A32.out).mono ?_);(case side1=>repeat (first|exact(Kd.C_below HR2_2.out HB.out)|(with_reducible refine Kd.C_alloc ?_ _)|(with_reducible refine Kd.C_drewN ?_ _)|(with_reducible refine Kd.C_drew ?_)));(case side2=>exact HC2_2.out);rintro e w41 ⟨rfl,hb⟩;refine⟨_,rfl,?_⟩;have n0_:=Aside0.mk (blk_below (g:=gb101) (o:=.cells #[.int .i64 a0_0,.int .i64 a0_1,.int .i64 a0_2,.slice A0_3 l0_3.length c0_3] 35 (0,0)) (by (with_reducible repeat (first|refine blk_drewN ?_ _|refine blk_drew ?_|refine blk_alloc ?_ _));exact BK101.out) hb);have n1_:=Aside0.mk (blk_below (g:=gb102) (o:=.cells #[.int .i64 a1_0,.int .i64 a1_1] 41 (0,0)) (by (with_reducible repeat (first|refine blk_drewN ?_ _|refine blk_drew ?_|refine blk_alloc ?_ _));exact BK102.out) hb);have n2_:=Aside0.mk (blk_below (g:=gb103) (o:=.cells #[.int .i64 a2_0,.int .i64 a2_1,.slice A2_2 l2_2.length c2_2] 39 (0,0)) (by (with_reducible repeat (first|refine blk_drewN ?_ _|refine blk_drew ?_|refine blk_alloc ?_ _));exact BK103.out) hb);have n3_:=Aside0.mk (blk_below (g:=gb104) (o:=.cells #[.int .i64 0,.slice none 0 0] 30 (0,0)) (by (with_reducible repeat (first|refine blk_drewN ?_ _|refine blk_drew ?_|refine blk_alloc ?_ _));exact BK104.out) hb);have n4_:=Aside0.mk (below_step (by repeat (first|(with_reducible first|exact HB.out|apply below_alloc|apply pw_below_drewN|apply below_drew1|refine below_set ?_ GE101.out|refine below_set ?_ GE102.out|refine below_set ?_ GE103.out|refine below_set ?_ GE104.out)|exact HB.out)) hb);clear BK101;clear BK102;clear BK103;clear BK104;clear HB;have BK101:=n0_;have BK102:=n1_;have BK103:=n2_;have BK104:=n3_;have HB:=n4_;clear n0_ n1_ n2_ n3_ n4_;(try clear hb);(try clear hb2);(try clear hk);(try clear hi);have hnb42:=NB101_102.out;have hnc42:=NB102_101.out;have hnb43:=NB101_104.out;have hnc43:=NB104_101.out;have hcz44_0:w41.cell? ⟨gb101,0,none⟩ = some (.int .i64 a0_0):=(blk_cell BK101.out 0).trans rfl;have hcz44_1:w41.cell? ⟨gb101,1,none⟩ = some (.int .i64 a0_1):=(blk_cell BK101.out 1).trans rfl;have hcz44_2:w41.cell? ⟨gb101,2,none⟩ = some (.int .i64 a0_2):=(blk_cell BK101.out 2).trans rfl;have hcz44_3:w41.cell? ⟨gb101,3,none⟩ = some (.slice A0_3 l0_3.length c0_3):=(blk_cell BK101.out 3).trans rfl;have hfz44_0:=blk_frozen BK101.out 0;have hfz44_1:=blk_frozen BK101.out 1;have hfz44_2:=blk_frozen BK101.out 2;have hfz44_3:=blk_frozen BK101.out 3;have hnb45:=NB102_104.out;have hnc45:=NB104_102.out;have hcz46_0:w41.cell? ⟨gb102,0,none⟩ = some (.int .i64 a1_0):=(blk_cell BK102.out 0).trans rfl;have hcz46_1:w41.cell? ⟨gb102,1,none⟩ = some (.int .i64 a1_1):=(blk_cell BK102.out 1).trans rfl;have hfz46_0:=blk_frozen BK102.out 0;have hfz46_1:=blk_frozen BK102.out 1;have hcz47_0:w41.cell? ⟨gb103,0,none⟩ = some (.int .i64 a2_0):=(blk_cell BK103.out 0).trans rfl;have hcz47_1:w41.cell? ⟨gb103,1,none⟩ = some (.int .i64 a2_1):=(blk_cell BK103.out 1).trans rfl;have hcz47_2:w41.cell? ⟨gb103,2,none⟩ = some (.slice A2_2 l2_2.length c2_2):=(blk_cell BK103.out 2).trans rfl;have hfz47_0:=blk_frozen BK103.out 0;have hfz47_1:=blk_frozen BK103.out 1;have hfz47_2:=blk_frozen BK103.out 2)|((with_reducible refine gate_callee (f:=25) rfl ?_);refine goesL_ (some 46) rfl rfl Try.func25 (by kernel_rfl) rfl #[.agg #[.int .i64 a0_0,.int .i64 a0_1,.int .i64 a0_2,.slice A0_3 l0_3.length c0_3],.agg #[.int .i64 a1_0,.int .i64 a1_1],.slice A2_2 l2_2.length c2_2] rfl (by (try simp only[List.map_toArray,List.map_cons,List.map_nil]);first|done|rfl|(simp only[List.length_drop,List.length_take];rfl)) ?_;(with_reducible refine(worktime_adjusted.calls kj5 a0_0 a0_1 a0_2 _ _ l0_3 a1_0 a1_1 _ _ l2_2 t108 _ ?side1 ?side2 ?side3 ?side4 A34.out).mono ?_);(case side1=>repeat (first|exact(Kd.C_below HR0_3.out HB.out)|(with_reducible refine Kd.C_alloc ?_ _)|(with_reducible refine Kd.C_drewN ?_ _)|(with_reducible refine Kd.C_drew ?_)));(case side2=>exact HC0_3.out);(case side3=>repeat (first|exact(Kd.C_below HR2_2.out HB.out)|(with_reducible refine Kd.C_alloc ?_ _)|(with_reducible refine Kd.C_drewN ?_ _)|(with_reducible refine Kd.C_drew ?_)));(case side4=>exact HC2_2.out);rintro e w48 ⟨v109,rfl,ho0,hb⟩;refine⟨_,rfl,?_⟩;have n0_:=Aside0.mk (Kd.R_lower (Kd.R_newB ho0 (g:=gb102) (o:=.cells #[.int .i64 a1_0,.int .i64 a1_1] 41 (0,0)) (by (with_reducible repeat (first|refine blk_drewN ?_ _|refine blk_drew ?_|refine blk_alloc ?_ _));exact BK102.out)) (below_size (by repeat (first|(with_reducible first|exact HB.out|apply below_alloc|apply pw_below_drewN|apply below_drew1|refine below_set ?_ GE101.out|refine below_set ?_ GE102.out|refine below_set ?_ GE103.out|refine below_set ?_ GE104.out)|exact HB.out))));have n1_:=Aside0.mk (blk_below (g:=gb101) (o:=.cells #[.int .i64 a0_0,.int .i64 a0_1,.int .i64 a0_2,.slice A0_3 l0_3.length c0_3] 35 (0,0)) (by (with_reducible repeat (first|refine blk_drewN ?_ _|refine blk_drew ?_|refine blk_alloc ?_ _));exact BK101.out) hb);have n2_:=Aside0.mk (blk_below (g:=gb102) (o:=.cells #[.int .i64 a1_0,.int .i64 a1_1] 41 (0,0)) (by (with_reducible repeat (first|refine blk_drewN ?_ _|refine blk_drew ?_|refine blk_alloc ?_ _));exact BK102.out) hb);have n3_:=Aside0.mk (blk_below (g:=gb103) (o:=.cells #[.int .i64 a2_0,.int .i64 a2_1,.slice A2_2 l2_2.length c2_2] 39 (0,0)) (by (with_reducible repeat (first|refine blk_drewN ?_ _|refine blk_drew ?_|refine blk_alloc ?_ _));exact BK103.out) hb);have n4_:=Aside0.mk (blk_below (g:=gb104) (o:=.cells #[.int .i64 0,.slice none 0 0] 30 (0,0)) (by (with_reducible repeat (first|refine blk_drewN ?_ _|refine blk_drew ?_|refine blk_alloc ?_ _));exact BK104.out) hb);have n5_:=Aside0.mk (below_step (by repeat (first|(with_reducible first|exact HB.out|apply below_alloc|apply pw_below_drewN|apply below_drew1|refine below_set ?_ GE101.out|refine below_set ?_ GE102.out|refine below_set ?_ GE103.out|refine below_set ?_ GE104.out)|exact HB.out)) hb);clear BK101;clear BK102;clear BK103;clear BK104;clear HB;have HO110:=n0_;have BK101:=n1_;have BK102:=n2_;have BK103:=n3_;have BK104:=n4_;have HB:=n5_;clear n0_ n1_ n2_ n3_ n4_ n5_;(try clear hb);(try clear hb2);(try clear hk);(try clear hi);(try clear ho0);obtain ⟨Ao49,co49,eo49⟩:=Kd.R_slice HO110.out;subst eo49)|((with_reducible refine gate_callee (f:=26) rfl ?_);refine goesL_ (some 48) rfl rfl Try.func26 (by kernel_rfl) rfl #[.slice Ao49 t108.length co49] rfl (by (try simp only[List.map_toArray,List.map_cons,List.map_nil]);first|done|rfl|(simp only[List.length_drop,List.length_take];rfl)) ?_;(with_reducible refine(worktime_total.calls kj5 _ _ t108 t111 _ ?side1 ?side2 A35.out).mono ?_);(case side1=>repeat (first|exact(Kd.R_reads' HO110.out).2.2|(with_reducible refine Kd.C_alloc ?_ _)|(with_reducible refine Kd.C_drewN ?_ _)|(with_reducible refine Kd.C_drew ?_)));(case side2=>exact(Kd.R_reads' HO110.out).2.1);rintro e w50 ⟨rfl,hb⟩;refine⟨_,rfl,?_⟩;have n0_:=Aside0.mk (Kd.R_below (by (with_reducible repeat (first|apply Kd.R_alloc|apply Kd.R_drewN|apply Kd.R_drew));exact HO110.out) hb);have n1_:=Aside0.mk (blk_below (g:=gb101) (o:=.cells #[.int .i64 a0_0,.int .i64 a0_1,.int .i64 a0_2,.slice A0_3 l0_3.length c0_3] 35 (0,0)) (by (with_reducible repeat (first|refine blk_drewN ?_ _|refine blk_drew ?_|refine blk_alloc ?_ _));exact BK101.out) hb);have n2_:=Aside0.mk (blk_below (g:=gb102) (o:=.cells #[.int .i64 a1_0,.int .i64 a1_1] 41 (0,0)) (by (with_reducible repeat (first|refine blk_drewN ?_ _|refine blk_drew ?_|refine blk_alloc ?_ _));exact BK102.out) hb);have n3_:=Aside0.mk (blk_below (g:=gb103) (o:=.cells #[.int .i64 a2_0,.int .i64 a2_1,.slice A2_2 l2_2.length c2_2] 39 (0,0)) (by (with_reducible repeat (first|refine blk_drewN ?_ _|refine blk_drew ?_|refine blk_alloc ?_ _));exact BK103.out) hb);have n4_:=Aside0.mk (blk_below (g:=gb104) (o:=.cells #[.int .i64 0,.slice none 0 0] 30 (0,0)) (by (with_reducible repeat (first|refine blk_drewN ?_ _|refine blk_drew ?_|refine blk_alloc ?_ _));exact BK104.out) hb);have n5_:=Aside0.mk (below_step (by repeat (first|(with_reducible first|exact HB.out|apply below_alloc|apply pw_below_drewN|apply below_drew1|refine below_set ?_ GE101.out|refine below_set ?_ GE102.out|refine below_set ?_ GE103.out|refine below_set ?_ GE104.out)|exact HB.out)) hb);clear HO110;clear BK101;clear BK102;clear BK103;clear BK104;clear HB;have HO110:=n0_;have BK101:=n1_;have BK102:=n2_;have BK103:=n3_;have BK104:=n4_;have HB:=n5_;clear n0_ n1_ n2_ n3_ n4_ n5_;(try clear hb);(try clear hb2);(try clear hk);(try clear hi);have hcz51_0:w50.cell? ⟨gb104,0,none⟩ = some (.int .i64 0):=(blk_cell BK104.out 0).trans rfl;have hcz51_1:w50.cell? ⟨gb104,1,none⟩ = some (.slice none 0 0):=(blk_cell BK104.out 1).trans rfl;have hfz51_0:=blk_frozen BK104.out 0;have hfz51_1:=blk_frozen BK104.out 1))
              refine bodyPost_ret (results_ct rfl _ _ gb104 30 #[.int .i64 0,.slice none 0 0] (0,0) _ rfl (by (with_reducible repeat (first|refine blk_drewN ?_ _|refine blk_drew ?_|refine blk_alloc ?_ _));refine blk_put (cs:=#[.int .i64 0,.slice none 0 0]) ?_ 1 _ rfl;(with_reducible repeat (first|refine blk_drewN ?_ _|refine blk_drew ?_|refine blk_alloc ?_ _));refine blk_put (cs:=#[.int .i64 0,.slice none 0 0]) ?_ 0 _ rfl;(with_reducible repeat (first|refine blk_drewN ?_ _|refine blk_drew ?_|refine blk_alloc ?_ _));exact BK104.out) Try.underlying30 rfl (by kernel_rfl)) rfl ?_
              exact⟨_,by first|rfl|(simp[errW_none,errW_some] <;> rfl)|(simp[*,errW_none,errW_some] <;> rfl),by first|exact Kd.R_nil _ _ _ _ _|exact Kd.N_nil _ _ _ _ _|exact Kd.V_nil _ _ _ _ _|exact Kd.Q_nil _ _ _ _ _|exact Kd.S_nil _ _ _ _ _,by repeat (first|(with_reducible first|exact HB.out|apply below_alloc|apply pw_below_drewN|apply below_drew1|refine below_set ?_ GE101.out|refine below_set ?_ GE102.out|refine below_set ?_ GE103.out|refine below_set ?_ GE104.out)|exact HB.out)⟩
            · rw [if_neg c36] at H
              have c36b0 : decide (100000 < t111) = false := decide_eq_false c36
              clear c36
              have H' := Aside0.mk H
              clear H
              have hnb52 := NB103_101.out
              have hnc52 := NB101_103.out
              have hnb53 := NB103_102.out
              have hnc53 := NB102_103.out
              have hnb54 := NB103_104.out
              have hnc54 := NB104_103.out
              have hcz55_0 : wc.cell? ⟨gb103, 0, none⟩ = some (.int .i64 a2_0) := (blk_cell BK103.out 0).trans rfl
              have hcz55_1 : wc.cell? ⟨gb103, 1, none⟩ = some (.int .i64 a2_1) := (blk_cell BK103.out 1).trans rfl
              have hcz55_2:wc.cell? ⟨gb103,2,none⟩ = some (.slice A2_2 l2_2.length c2_2):=(blk_cell BK103.out 2).trans rfl
              have hfz55_0 := blk_frozen BK103.out 0
              have hfz55_1 := blk_frozen BK103.out 1
              have hfz55_2 := blk_frozen BK103.out 2
              go_wp2_with (first|((with_reducible refine gate_callee (f:=24) rfl ?_);refine goesL_ (some 37) rfl rfl Try.func24 (by kernel_rfl) rfl #[.slice A2_2 l2_2.length c2_2] rfl (by (try simp only[List.map_toArray,List.map_cons,List.map_nil]);first|done|rfl|(simp only[List.length_drop,List.length_take];rfl)) ?_;(with_reducible refine(presence_Valid.calls kj5 _ _ l2_2 t107 _ ?side1 ?side2 A32.out).mono ?_);(case side1=>repeat (first|exact(Kd.C_below HR2_2.out HB.out)|(with_reducible refine Kd.C_alloc ?_ _)|(with_reducible refine Kd.C_drewN ?_ _)|(with_reducible refine Kd.C_drew ?_)));(case side2=>exact HC2_2.out);rintro e w56 ⟨rfl,hb⟩;refine⟨_,rfl,?_⟩;have n0_:=Aside0.mk (blk_below (g:=gb101) (o:=.cells #[.int .i64 a0_0,.int .i64 a0_1,.int .i64 a0_2,.slice A0_3 l0_3.length c0_3] 35 (0,0)) (by (with_reducible repeat (first|refine blk_drewN ?_ _|refine blk_drew ?_|refine blk_alloc ?_ _));exact BK101.out) hb);have n1_:=Aside0.mk (blk_below (g:=gb102) (o:=.cells #[.int .i64 a1_0,.int .i64 a1_1] 41 (0,0)) (by (with_reducible repeat (first|refine blk_drewN ?_ _|refine blk_drew ?_|refine blk_alloc ?_ _));exact BK102.out) hb);have n2_:=Aside0.mk (blk_below (g:=gb103) (o:=.cells #[.int .i64 a2_0,.int .i64 a2_1,.slice A2_2 l2_2.length c2_2] 39 (0,0)) (by (with_reducible repeat (first|refine blk_drewN ?_ _|refine blk_drew ?_|refine blk_alloc ?_ _));exact BK103.out) hb);have n3_:=Aside0.mk (blk_below (g:=gb104) (o:=.cells #[.int .i64 0,.slice none 0 0] 30 (0,0)) (by (with_reducible repeat (first|refine blk_drewN ?_ _|refine blk_drew ?_|refine blk_alloc ?_ _));exact BK104.out) hb);have n4_:=Aside0.mk (below_step (by repeat (first|(with_reducible first|exact HB.out|apply below_alloc|apply pw_below_drewN|apply below_drew1|refine below_set ?_ GE101.out|refine below_set ?_ GE102.out|refine below_set ?_ GE103.out|refine below_set ?_ GE104.out)|exact HB.out)) hb);clear BK101;clear BK102;clear BK103;clear BK104;clear HB;have BK101:=n0_;have BK102:=n1_;have BK103:=n2_;have BK104:=n3_;have HB:=n4_;clear n0_ n1_ n2_ n3_ n4_;(try clear hb);(try clear hb2);(try clear hk);(try clear hi);have hnb57:=NB101_102.out;have hnc57:=NB102_101.out;have hnb58:=NB101_104.out;have hnc58:=NB104_101.out;have hcz59_0:w56.cell? ⟨gb101,0,none⟩ = some (.int .i64 a0_0):=(blk_cell BK101.out 0).trans rfl;have hcz59_1:w56.cell? ⟨gb101,1,none⟩ = some (.int .i64 a0_1):=(blk_cell BK101.out 1).trans rfl;have hcz59_2:w56.cell? ⟨gb101,2,none⟩ = some (.int .i64 a0_2):=(blk_cell BK101.out 2).trans rfl;have hcz59_3:w56.cell? ⟨gb101,3,none⟩ = some (.slice A0_3 l0_3.length c0_3):=(blk_cell BK101.out 3).trans rfl;have hfz59_0:=blk_frozen BK101.out 0;have hfz59_1:=blk_frozen BK101.out 1;have hfz59_2:=blk_frozen BK101.out 2;have hfz59_3:=blk_frozen BK101.out 3;have hnb60:=NB102_104.out;have hnc60:=NB104_102.out;have hcz61_0:w56.cell? ⟨gb102,0,none⟩ = some (.int .i64 a1_0):=(blk_cell BK102.out 0).trans rfl;have hcz61_1:w56.cell? ⟨gb102,1,none⟩ = some (.int .i64 a1_1):=(blk_cell BK102.out 1).trans rfl;have hfz61_0:=blk_frozen BK102.out 0;have hfz61_1:=blk_frozen BK102.out 1;have hcz62_0:w56.cell? ⟨gb103,0,none⟩ = some (.int .i64 a2_0):=(blk_cell BK103.out 0).trans rfl;have hcz62_1:w56.cell? ⟨gb103,1,none⟩ = some (.int .i64 a2_1):=(blk_cell BK103.out 1).trans rfl;have hcz62_2:w56.cell? ⟨gb103,2,none⟩ = some (.slice A2_2 l2_2.length c2_2):=(blk_cell BK103.out 2).trans rfl;have hfz62_0:=blk_frozen BK103.out 0;have hfz62_1:=blk_frozen BK103.out 1;have hfz62_2:=blk_frozen BK103.out 2)|((with_reducible refine gate_callee (f:=25) rfl ?_);refine goesL_ (some 46) rfl rfl Try.func25 (by kernel_rfl) rfl #[.agg #[.int .i64 a0_0,.int .i64 a0_1,.int .i64 a0_2,.slice A0_3 l0_3.length c0_3],.agg #[.int .i64 a1_0,.int .i64 a1_1],.slice A2_2 l2_2.length c2_2] rfl (by (try simp only[List.map_toArray,List.map_cons,List.map_nil]);first|done|rfl|(simp only[List.length_drop,List.length_take];rfl)) ?_;(with_reducible refine(worktime_adjusted.calls kj5 a0_0 a0_1 a0_2 _ _ l0_3 a1_0 a1_1 _ _ l2_2 t108 _ ?side1 ?side2 ?side3 ?side4 A34.out).mono ?_);(case side1=>repeat (first|exact(Kd.C_below HR0_3.out HB.out)|(with_reducible refine Kd.C_alloc ?_ _)|(with_reducible refine Kd.C_drewN ?_ _)|(with_reducible refine Kd.C_drew ?_)));(case side2=>exact HC0_3.out);(case side3=>repeat (first|exact(Kd.C_below HR2_2.out HB.out)|(with_reducible refine Kd.C_alloc ?_ _)|(with_reducible refine Kd.C_drewN ?_ _)|(with_reducible refine Kd.C_drew ?_)));(case side4=>exact HC2_2.out);rintro e w63 ⟨v109,rfl,ho0,hb⟩;refine⟨_,rfl,?_⟩;have n0_:=Aside0.mk (Kd.R_lower (Kd.R_newB ho0 (g:=gb102) (o:=.cells #[.int .i64 a1_0,.int .i64 a1_1] 41 (0,0)) (by (with_reducible repeat (first|refine blk_drewN ?_ _|refine blk_drew ?_|refine blk_alloc ?_ _));exact BK102.out)) (below_size (by repeat (first|(with_reducible first|exact HB.out|apply below_alloc|apply pw_below_drewN|apply below_drew1|refine below_set ?_ GE101.out|refine below_set ?_ GE102.out|refine below_set ?_ GE103.out|refine below_set ?_ GE104.out)|exact HB.out))));have n1_:=Aside0.mk (blk_below (g:=gb101) (o:=.cells #[.int .i64 a0_0,.int .i64 a0_1,.int .i64 a0_2,.slice A0_3 l0_3.length c0_3] 35 (0,0)) (by (with_reducible repeat (first|refine blk_drewN ?_ _|refine blk_drew ?_|refine blk_alloc ?_ _));exact BK101.out) hb);have n2_:=Aside0.mk (blk_below (g:=gb102) (o:=.cells #[.int .i64 a1_0,.int .i64 a1_1] 41 (0,0)) (by (with_reducible repeat (first|refine blk_drewN ?_ _|refine blk_drew ?_|refine blk_alloc ?_ _));exact BK102.out) hb);have n3_:=Aside0.mk (blk_below (g:=gb103) (o:=.cells #[.int .i64 a2_0,.int .i64 a2_1,.slice A2_2 l2_2.length c2_2] 39 (0,0)) (by (with_reducible repeat (first|refine blk_drewN ?_ _|refine blk_drew ?_|refine blk_alloc ?_ _));exact BK103.out) hb);have n4_:=Aside0.mk (blk_below (g:=gb104) (o:=.cells #[.int .i64 0,.slice none 0 0] 30 (0,0)) (by (with_reducible repeat (first|refine blk_drewN ?_ _|refine blk_drew ?_|refine blk_alloc ?_ _));exact BK104.out) hb);have n5_:=Aside0.mk (below_step (by repeat (first|(with_reducible first|exact HB.out|apply below_alloc|apply pw_below_drewN|apply below_drew1|refine below_set ?_ GE101.out|refine below_set ?_ GE102.out|refine below_set ?_ GE103.out|refine below_set ?_ GE104.out)|exact HB.out)) hb);clear BK101;clear BK102;clear BK103;clear BK104;clear HB;have HO110:=n0_;have BK101:=n1_;have BK102:=n2_;have BK103:=n3_;have BK104:=n4_;have HB:=n5_;clear n0_ n1_ n2_ n3_ n4_ n5_;(try clear hb);(try clear hb2);(try clear hk);(try clear hi);(try clear ho0);obtain ⟨Ao64,co64,eo64⟩:=Kd.R_slice HO110.out;subst eo64)|((with_reducible refine gate_callee (f:=26) rfl ?_);refine goesL_ (some 48) rfl rfl Try.func26 (by kernel_rfl) rfl #[.slice Ao64 t108.length co64] rfl (by (try simp only[List.map_toArray,List.map_cons,List.map_nil]);first|done|rfl|(simp only[List.length_drop,List.length_take];rfl)) ?_;(with_reducible refine(worktime_total.calls kj5 _ _ t108 t111 _ ?side1 ?side2 A35.out).mono ?_);(case side1=>repeat (first|exact(Kd.R_reads' HO110.out).2.2|(with_reducible refine Kd.C_alloc ?_ _)|(with_reducible refine Kd.C_drewN ?_ _)|(with_reducible refine Kd.C_drew ?_)));(case side2=>exact(Kd.R_reads' HO110.out).2.1);rintro e w65 ⟨rfl,hb⟩;refine⟨_,rfl,?_⟩;have n0_:=Aside0.mk (Kd.R_below (by (with_reducible repeat (first|apply Kd.R_alloc|apply Kd.R_drewN|apply Kd.R_drew));exact HO110.out) hb);have n1_:=Aside0.mk (blk_below (g:=gb101) (o:=.cells #[.int .i64 a0_0,.int .i64 a0_1,.int .i64 a0_2,.slice A0_3 l0_3.length c0_3] 35 (0,0)) (by (with_reducible repeat (first|refine blk_drewN ?_ _|refine blk_drew ?_|refine blk_alloc ?_ _));exact BK101.out) hb);have n2_:=Aside0.mk (blk_below (g:=gb102) (o:=.cells #[.int .i64 a1_0,.int .i64 a1_1] 41 (0,0)) (by (with_reducible repeat (first|refine blk_drewN ?_ _|refine blk_drew ?_|refine blk_alloc ?_ _));exact BK102.out) hb);have n3_:=Aside0.mk (blk_below (g:=gb103) (o:=.cells #[.int .i64 a2_0,.int .i64 a2_1,.slice A2_2 l2_2.length c2_2] 39 (0,0)) (by (with_reducible repeat (first|refine blk_drewN ?_ _|refine blk_drew ?_|refine blk_alloc ?_ _));exact BK103.out) hb);have n4_:=Aside0.mk (blk_below (g:=gb104) (o:=.cells #[.int .i64 0,.slice none 0 0] 30 (0,0)) (by (with_reducible repeat (first|refine blk_drewN ?_ _|refine blk_drew ?_|refine blk_alloc ?_ _));exact BK104.out) hb);have n5_:=Aside0.mk (below_step (by repeat (first|(with_reducible first|exact HB.out|apply below_alloc|apply pw_below_drewN|apply below_drew1|refine below_set ?_ GE101.out|refine below_set ?_ GE102.out|refine below_set ?_ GE103.out|refine below_set ?_ GE104.out)|exact HB.out)) hb);clear HO110;clear BK101;clear BK102;clear BK103;clear BK104;clear HB;have HO110:=n0_;have BK101:=n1_;have BK102:=n2_;have BK103:=n3_;have BK104:=n4_;have HB:=n5_;clear n0_ n1_ n2_ n3_ n4_ n5_;(try clear hb);(try clear hb2);(try clear hk);(try clear hi);have hcz66_0:w65.cell? ⟨gb103,0,none⟩ = some (.int .i64 a2_0):=(blk_cell BK103.out 0).trans rfl;have hcz66_1:w65.cell? ⟨gb103,1,none⟩ = some (.int .i64 a2_1):=(blk_cell BK103.out 1).trans rfl;have hcz66_2:w65.cell? ⟨gb103,2,none⟩ = some (.slice A2_2 l2_2.length c2_2):=(blk_cell BK103.out 2).trans rfl;have hfz66_0:=blk_frozen BK103.out 0;have hfz66_1:=blk_frozen BK103.out 1;have hfz66_2:=blk_frozen BK103.out 2))
              go_loopg [11,54] kj5 (fun kq v11 v54 w'=>∃ (x11_2:List (S41)) (x54_2:Int),v54 = .int .i64 x54_2∧Aside0 (worktime_Adjust.l0 kq t108 x11_2 l2_2 (l2_2.length:Int) x54_2 a0_0 a0_1 a0_2 l0_3 a2_0 a2_1 l2_2 = some (r1,r2,r3))∧Aside0 (kq≤kj5)∧Aside0 (Kd.R k41 41 w' w.heap.size (fun k_=>some k_≠(v11:Value).ownBlock∧k_≠gb102) (.slice Ao64 t108.length co64) t108)∧Aside0 (Kd.R k41 41 w' w.heap.size (fun k_=>some k_≠((.slice Ao64 t108.length co64):Value).ownBlock∧k_≠gb102) v11 x11_2)∧Aside0 (w'.heap[gb101]? = some (.cells #[.int .i64 a0_0,.int .i64 a0_1,.int .i64 a0_2,(.slice A0_3 l0_3.length c0_3)] 35 (0,0)))∧Aside0 (w'.heap[gb102]? = some (.cells #[.int .i64 a1_0,.int .i64 a1_1] 41 (0,0)))∧Aside0 (w'.heap[gb103]? = some (.cells #[.int .i64 a2_0,.int .i64 a2_1,(.slice A2_2 l2_2.length c2_2)] 39 (0,0)))∧Aside0 (w'.heap[gb104]? = some (.cells #[.int .i64 0,(.slice none 0 0)] 30 (0,0)))∧Aside0 (Below w.heap.size w w'))
              case atStart=>exact⟨(([]:List (S41))),(0),(by first|rfl|(simp;done)|(simp[*];done)),H',⟨Nat.le_refl _⟩,⟨by (with_reducible repeat (first|apply Kd.R_alloc|apply Kd.R_drewN|apply Kd.R_drew));exact Kd.R_mono HO110.out (fun _ hk=>⟨(by simp[Value.ownBlock]),hk.2⟩)⟩,⟨by first|exact Kd.R_nil _ _ _ _ _|exact Kd.N_nil _ _ _ _ _|exact Kd.V_nil _ _ _ _ _|exact Kd.Q_nil _ _ _ _ _|exact Kd.S_nil _ _ _ _ _⟩,⟨by (with_reducible repeat (first|refine blk_drewN ?_ _|refine blk_drew ?_|refine blk_alloc ?_ _));exact BK101.out⟩,⟨by (with_reducible repeat (first|refine blk_drewN ?_ _|refine blk_drew ?_|refine blk_alloc ?_ _));exact BK102.out⟩,⟨by (with_reducible repeat (first|refine blk_drewN ?_ _|refine blk_drew ?_|refine blk_alloc ?_ _));exact BK103.out⟩,⟨by (with_reducible repeat (first|refine blk_drewN ?_ _|refine blk_drew ?_|refine blk_alloc ?_ _));exact BK104.out⟩,⟨by repeat (first|(with_reducible first|exact HB.out|apply below_alloc|apply pw_below_drewN|apply below_drew1|refine below_set ?_ GE101.out|refine below_set ?_ GE102.out|refine below_set ?_ GE103.out|refine below_set ?_ GE104.out)|exact HB.out)⟩⟩
              case round =>
                clear H'
                try clear c1
                try clear c2
                try clear p2
                try clear c3
                try clear c4
                try clear c5
                try clear c5b0
                try clear c5b1
                try clear c6
                try clear c11
                try clear c12
                try clear c13
                try clear c14
                try clear c16
                try clear c16b0
                try clear c18
                try clear c19
                try clear c20
                try clear c23
                try clear c24
                try clear c25
                try clear c26
                try clear c27
                try clear c28
                try clear c29
                try clear c30
                try clear c33
                try clear c33b0
                try clear c33b1
                try clear c36
                try clear c36b0
                try clear c37
                try clear c38
                try clear c39
                try clear c42
                try clear c43
                try clear c45
                try clear c52
                try clear c53
                try clear c54
                try clear c57
                try clear c58
                try clear c60
                try clear hcz14_0
                try clear hcz14_1
                try clear hcz14_2
                try clear hcz14_3
                try clear hcz21_0
                try clear hcz21_1
                try clear hcz26_0
                try clear hcz26_1
                try clear hcz31_0
                try clear hcz31_1
                try clear hcz40_0
                try clear hcz40_1
                try clear hcz40_2
                try clear hcz44_0
                try clear hcz44_1
                try clear hcz44_2
                try clear hcz44_3
                try clear hcz46_0
                try clear hcz46_1
                try clear hcz47_0
                try clear hcz47_1
                try clear hcz47_2
                try clear hcz51_0
                try clear hcz51_1
                try clear hcz55_0
                try clear hcz55_1
                try clear hcz55_2
                try clear hcz59_0
                try clear hcz59_1
                try clear hcz59_2
                try clear hcz59_3
                try clear hcz61_0
                try clear hcz61_1
                try clear hcz62_0
                try clear hcz62_1
                try clear hcz62_2
                try clear hcz66_0
                try clear hcz66_1
                try clear hcz66_2
                try clear hfz14_0
                try clear hfz14_1
                try clear hfz14_2
                try clear hfz14_3
                try clear hfz21_0
                try clear hfz21_1
                try clear hfz26_0
                try clear hfz26_1
                try clear hfz31_0
                try clear hfz31_1
                try clear hfz40_0
                try clear hfz40_1
                try clear hfz40_2
                try clear hfz44_0
                try clear hfz44_1
                try clear hfz44_2
                try clear hfz44_3
                try clear hfz46_0
                try clear hfz46_1
                try clear hfz47_0
                try clear hfz47_1
                try clear hfz47_2
                try clear hfz51_0
                try clear hfz51_1
                try clear hfz55_0
                try clear hfz55_1
                try clear hfz55_2
                try clear hfz59_0
                try clear hfz59_1
                try clear hfz59_2
                try clear hfz59_3
                try clear hfz61_0
                try clear hfz61_1
                try clear hfz62_0
                try clear hfz62_1
                try clear hfz62_2
                try clear hfz66_0
                try clear hfz66_1
                try clear hfz66_2
                try clear p2
                obtain ⟨x11_2, x54_2, rfl, HA, HK2, HO_10, HO_11, BK101, BK102, BK103, BK104, HB⟩ := hrel
                cases gk with
                | zero => exact absurd HA.out (by simp [worktime_Adjust.l0])
                | succ k2 =>
                  have H := HA.out
                  clear HA
                  simp only [worktime_Adjust.l0] at H
                  by_cases c67 : x54_2 < (l2_2.length : Int)
                  · rw [if_pos c67] at H
                    have c67b0 : decide (x54_2 < (l2_2.length : Int)) = true := decide_eq_true c67
                    clear c67
                    by_cases c68 : 0 ≤ x54_2
                    · rw [if_pos c68] at H
                      have c68b0 : decide (0 ≤ x54_2) = true := decide_eq_true c68
                      clear c68
                      by_cases c69 : x54_2 < (l2_2.length : Int)
                      · rw [if_pos c69] at H
                        have c69b0 : decide (x54_2 < (l2_2.length : Int)) = true := decide_eq_true c69
                        clear c69
                        by_cases c70 : x11_2.length + ((rd_T48 l2_2 x54_2).f1).length < 8796093022208
                        · rw [if_pos c70] at H
                          have LMc70 := Aside0.mk c70
                          clear c70
                          obtain ⟨y114, hy114⟩ : ∃ y_ : List (S41), y_ = (x11_2 ++ ((rd_T48 l2_2 x54_2).f1)) := ⟨_, rfl⟩
                          replace H:(worktime_Adjust.l0 k2 t108 y114 l2_2 (l2_2.length:Int) (wrap64 (x54_2 + 1)) a0_0 a0_1 a0_2 l0_3 a2_0 a2_1 l2_2) = some (r1,r2,r3):=by first|(rw[hy114];with_reducible exact H)|(have H2_:=(Option.bind_some _ _).symm.trans H;rw[hy114];with_reducible exact H2_)|(have H2_:=(Option.bind_some _ _).symm.trans H;with_reducible exact H2_)|with_reducible exact H|(rw[hy114];exact H)|exact H
                          have Ny114 := Aside0.mk hy114
                          clear hy114
                          have H' := Aside0.mk H
                          clear H
                          have p112:0≤(x54_2:Int):=of_decide_eq_true (by first|(with_reducible assumption)|assumption)
                          have q112:x54_2 < (l2_2.length:Int):=of_decide_eq_true (by first|(with_reducible assumption)|assumption)
                          obtain ⟨ad112,A112_2,c112_2,e112,hx112_0,hx112_1,hx112_2,hl112_2,hi112_2⟩:=at_T48 HR2_2.out x54_2 p112 q112
                          cases e112
                          replace hx112_0 := (HB.out.cell (World.block_lt_of_cell? w _ hx112_0)).trans hx112_0
                          replace hx112_1 := (HB.out.cell (World.block_lt_of_cell? w _ hx112_1)).trans hx112_1
                          replace hx112_2 := (HB.out.cell (World.block_lt_of_cell? w _ hx112_2)).trans hx112_2
                          have HR112_2 := Aside0.mk hi112_2
                          have HC112_2 := Aside0.mk hl112_2
                          clear hi112_2 hl112_2
                          replace p112 := eq_true p112
                          replace q112 := eq_true q112
                          go_wp2_with (first|((with_reducible refine gate_dst (N:=13) rfl ?_);refine box_event ?hg (N:=13) ?hd (cs:=#[.int .i64 0,.int .i64 0,.slice none 0 0]) (t:=48) ?hr ?_;(case hd=>rfl);(case hg=>rfl);(case hr=>first|(go_simp;done)|(go_simp;rfl));intro gb113 hg w71 hbox hb;have n0_:=Aside0.mk (Kd.R_below (by (with_reducible repeat (first|apply Kd.R_alloc|apply Kd.R_drewN|apply Kd.R_drew));exact HO_10.out) hb);have n1_:=Aside0.mk (Kd.R_below (by (with_reducible repeat (first|apply Kd.R_alloc|apply Kd.R_drewN|apply Kd.R_drew));exact HO_11.out) hb);have n2_:=Aside0.mk (blk_below (g:=gb101) (o:=.cells #[.int .i64 a0_0,.int .i64 a0_1,.int .i64 a0_2,.slice A0_3 l0_3.length c0_3] 35 (0,0)) (by (with_reducible repeat (first|refine blk_drewN ?_ _|refine blk_drew ?_|refine blk_alloc ?_ _));exact BK101.out) hb);have n3_:=Aside0.mk (blk_below (g:=gb102) (o:=.cells #[.int .i64 a1_0,.int .i64 a1_1] 41 (0,0)) (by (with_reducible repeat (first|refine blk_drewN ?_ _|refine blk_drew ?_|refine blk_alloc ?_ _));exact BK102.out) hb);have n4_:=Aside0.mk (blk_below (g:=gb103) (o:=.cells #[.int .i64 a2_0,.int .i64 a2_1,.slice (some ad112) l2_2.length c2_2] 39 (0,0)) (by (with_reducible repeat (first|refine blk_drewN ?_ _|refine blk_drew ?_|refine blk_alloc ?_ _));exact BK103.out) hb);have n5_:=Aside0.mk (blk_below (g:=gb104) (o:=.cells #[.int .i64 0,.slice none 0 0] 30 (0,0)) (by (with_reducible repeat (first|refine blk_drewN ?_ _|refine blk_drew ?_|refine blk_alloc ?_ _));exact BK104.out) hb);have n6_:=Aside0.mk (below_step (by repeat (first|(with_reducible first|exact HB.out|apply below_alloc|apply pw_below_drewN|apply below_drew1|refine below_set ?_ GE101.out|refine below_set ?_ GE102.out|refine below_set ?_ GE103.out|refine below_set ?_ GE104.out)|exact HB.out)) hb);have n7_:=Aside0.mk (hbox);have n8_:=Aside0.mk ((by rw[hg];exact(below_size (by repeat (first|(with_reducible first|exact HB.out|apply below_alloc|apply pw_below_drewN|apply below_drew1|refine below_set ?_ GE101.out|refine below_set ?_ GE102.out|refine below_set ?_ GE103.out|refine below_set ?_ GE104.out)|exact HB.out))):w.heap.size≤gb113));have n9_:=Aside0.mk ((by rw[hg];exact(below_size (by repeat (first|(with_reducible first|exact HB.out|apply below_alloc|apply pw_below_drewN|apply below_drew1|refine below_set ?_ GE101.out|refine below_set ?_ GE102.out|refine below_set ?_ GE103.out|refine below_set ?_ GE104.out)|exact HB.out))):w.heap.size≤gb113));have n10_:=Aside0.mk ((by rw[hg];exact Nat.ne_of_lt (blk_lt (g:=gb101) (o:=.cells #[.int .i64 a0_0,.int .i64 a0_1,.int .i64 a0_2,.slice A0_3 l0_3.length c0_3] 35 (0,0)) (by (with_reducible repeat (first|refine blk_drewN ?_ _|refine blk_drew ?_|refine blk_alloc ?_ _));exact BK101.out)):gb101≠gb113));have n11_:=Aside0.mk ((by rw[hg];exact Nat.ne_of_gt (blk_lt (g:=gb101) (o:=.cells #[.int .i64 a0_0,.int .i64 a0_1,.int .i64 a0_2,.slice A0_3 l0_3.length c0_3] 35 (0,0)) (by (with_reducible repeat (first|refine blk_drewN ?_ _|refine blk_drew ?_|refine blk_alloc ?_ _));exact BK101.out)):gb113≠gb101));have n12_:=Aside0.mk ((by rw[hg];exact Nat.ne_of_lt (blk_lt (g:=gb102) (o:=.cells #[.int .i64 a1_0,.int .i64 a1_1] 41 (0,0)) (by (with_reducible repeat (first|refine blk_drewN ?_ _|refine blk_drew ?_|refine blk_alloc ?_ _));exact BK102.out)):gb102≠gb113));have n13_:=Aside0.mk ((by rw[hg];exact Nat.ne_of_gt (blk_lt (g:=gb102) (o:=.cells #[.int .i64 a1_0,.int .i64 a1_1] 41 (0,0)) (by (with_reducible repeat (first|refine blk_drewN ?_ _|refine blk_drew ?_|refine blk_alloc ?_ _));exact BK102.out)):gb113≠gb102));have n14_:=Aside0.mk ((by rw[hg];exact Nat.ne_of_lt (blk_lt (g:=gb103) (o:=.cells #[.int .i64 a2_0,.int .i64 a2_1,.slice (some ad112) l2_2.length c2_2] 39 (0,0)) (by (with_reducible repeat (first|refine blk_drewN ?_ _|refine blk_drew ?_|refine blk_alloc ?_ _));exact BK103.out)):gb103≠gb113));have n15_:=Aside0.mk ((by rw[hg];exact Nat.ne_of_gt (blk_lt (g:=gb103) (o:=.cells #[.int .i64 a2_0,.int .i64 a2_1,.slice (some ad112) l2_2.length c2_2] 39 (0,0)) (by (with_reducible repeat (first|refine blk_drewN ?_ _|refine blk_drew ?_|refine blk_alloc ?_ _));exact BK103.out)):gb113≠gb103));have n16_:=Aside0.mk ((by rw[hg];exact Nat.ne_of_lt (blk_lt (g:=gb104) (o:=.cells #[.int .i64 0,.slice none 0 0] 30 (0,0)) (by (with_reducible repeat (first|refine blk_drewN ?_ _|refine blk_drew ?_|refine blk_alloc ?_ _));exact BK104.out)):gb104≠gb113));have n17_:=Aside0.mk ((by rw[hg];exact Nat.ne_of_gt (blk_lt (g:=gb104) (o:=.cells #[.int .i64 0,.slice none 0 0] 30 (0,0)) (by (with_reducible repeat (first|refine blk_drewN ?_ _|refine blk_drew ?_|refine blk_alloc ?_ _));exact BK104.out)):gb113≠gb104));clear HO_10;clear HO_11;clear BK101;clear BK102;clear BK103;clear BK104;clear HB;have HO_10:=n0_;have HO_11:=n1_;have BK101:=n2_;have BK102:=n3_;have BK103:=n4_;have BK104:=n5_;have HB:=n6_;have BK113:=n7_;have GW113:=n8_;have GE113:=n9_;have NB101_113:=n10_;have NB113_101:=n11_;have NB102_113:=n12_;have NB113_102:=n13_;have NB103_113:=n14_;have NB113_103:=n15_;have NB104_113:=n16_;have NB113_104:=n17_;clear n0_ n1_ n2_ n3_ n4_ n5_ n6_ n7_ n8_ n9_ n10_ n11_ n12_ n13_ n14_ n15_ n16_ n17_;clear hb hbox hg;have hnb72:=NB113_101.out;have hnc72:=NB101_113.out;have hnb73:=NB113_102.out;have hnc73:=NB102_113.out;have hnb74:=NB113_103.out;have hnc74:=NB103_113.out;have hnb75:=NB113_104.out;have hnc75:=NB104_113.out;have hcz76_0:w71.cell? ⟨gb113,0,none⟩ = some (.int .i64 0):=(blk_cell BK113.out 0).trans rfl;have hcz76_1:w71.cell? ⟨gb113,1,none⟩ = some (.int .i64 0):=(blk_cell BK113.out 1).trans rfl;have hcz76_2:w71.cell? ⟨gb113,2,none⟩ = some (.slice none 0 0):=(blk_cell BK113.out 2).trans rfl;have hfz76_0:=blk_frozen BK113.out 0;have hfz76_1:=blk_frozen BK113.out 1;have hfz76_2:=blk_frozen BK113.out 2)|((with_reducible refine gate_builtin (b:=.append) (xs:=#[.tmp 58,.tmp 60]) rfl ?_);at_builtin;refine Kd.R_append_rows k41 (w0:=w) w.heap.size rfl (.tmp 58) (.tmp 60) 23 41 (.agg #[(.int .i64 0),(.int .i64 0)]) 16 rfl Try.underlying23 info41 rfl (by decide) (by omega) u11 x11_2 ((rd_T48 l2_2 x54_2).f1) _ _ _ (fun k_=>some k_≠(.slice Ao64 t108.length co64:Value).ownBlock∧k_≠gb102) (fun _=>False) rfl rfl ?aO ?aR (fun _ _ h=>h) (fun _ h=>h.elim) ?aF ?aB ?aS ?aL ?_;(case aR=>exact Kd.C_below HR112_2.out (by repeat (first|(with_reducible first|exact HB.out|apply below_alloc|apply pw_below_drewN|apply below_drew1|refine below_set ?_ GE101.out|refine below_set ?_ GE102.out|refine below_set ?_ GE103.out|refine below_set ?_ GE104.out|refine below_set ?_ GE113.out)|exact HB.out)));(case aB=>exact(by repeat (first|(with_reducible first|exact HB.out|apply below_alloc|apply pw_below_drewN|apply below_drew1|refine below_set ?_ GE101.out|refine below_set ?_ GE102.out|refine below_set ?_ GE103.out|refine below_set ?_ GE104.out|refine below_set ?_ GE113.out)|exact HB.out)));(case aF=>exact(fun k_ hk=>⟨Kd.fresh' (Kd.R_lt (by (with_reducible repeat (first|apply Kd.R_alloc|apply Kd.R_drewN|apply Kd.R_drew));exact(Kd.R_mono (Kd.R_far (p:=⟨gb113,2,none⟩) (Kd.R_far (p:=⟨gb113,1,none⟩) (Kd.R_far (p:=⟨gb113,0,none⟩) (Kd.R_types HO_10.out BK113.out (by decide)) (fun _ hk=>hk.2) (.int .i64 ((rd_T48 l2_2 x54_2).f0.f0))) (fun _ hk=>hk.2) (.int .i64 ((rd_T48 l2_2 x54_2).f0.f1))) (fun _ hk=>hk.2) (.slice A112_2 ((rd_T48 l2_2 x54_2).f1).length c112_2)) (fun _ h_=>h_.1)))) k_ hk,Kd.freshB (g:=gb102) (o:=.cells #[.int .i64 a1_0,.int .i64 a1_1] 41 (0,0)) (by (with_reducible repeat (first|refine blk_drewN ?_ _|refine blk_drew ?_|refine blk_alloc ?_ _));refine blk_far ?_ NB102_113.out _;(with_reducible repeat (first|refine blk_drewN ?_ _|refine blk_drew ?_|refine blk_alloc ?_ _));refine blk_far ?_ NB102_113.out _;(with_reducible repeat (first|refine blk_drewN ?_ _|refine blk_drew ?_|refine blk_alloc ?_ _));refine blk_far ?_ NB102_113.out _;(with_reducible repeat (first|refine blk_drewN ?_ _|refine blk_drew ?_|refine blk_alloc ?_ _));exact BK102.out) k_ hk⟩));(case aO=>exact(by (with_reducible repeat (first|apply Kd.R_alloc|apply Kd.R_drewN|apply Kd.R_drew));exact Kd.R_mono (Kd.R_far (p:=⟨gb113,2,none⟩) (Kd.R_far (p:=⟨gb113,1,none⟩) (Kd.R_far (p:=⟨gb113,0,none⟩) (Kd.R_types HO_11.out BK113.out (by decide)) (fun _ hk=>hk.2) (.int .i64 ((rd_T48 l2_2 x54_2).f0.f0))) (fun _ hk=>hk.2) (.int .i64 ((rd_T48 l2_2 x54_2).f0.f1))) (fun _ hk=>hk.2) (.slice A112_2 ((rd_T48 l2_2 x54_2).f1).length c112_2)) (fun _ hk=>⟨hk.1.1,hk.1.2⟩)));(case aS=>exact(below_size (by repeat (first|(with_reducible first|exact HB.out|apply below_alloc|apply pw_below_drewN|apply below_drew1|refine below_set ?_ GE101.out|refine below_set ?_ GE102.out|refine below_set ?_ GE103.out|refine below_set ?_ GE104.out|refine below_set ?_ GE113.out)|exact HB.out))));(case aL=>have:=LMc70.out;omega);intro v115 w77 ho hb hg hat;rw[← Ny114.out] at ho;have n0_:=Aside0.mk (Kd.R_after (ok:=(fun k_=>k_≠gb102)) (by (with_reducible repeat (first|apply Kd.R_alloc|apply Kd.R_drewN|apply Kd.R_drew));exact Kd.R_mono (Kd.R_far (p:=⟨gb113,2,none⟩) (Kd.R_far (p:=⟨gb113,1,none⟩) (Kd.R_far (p:=⟨gb113,0,none⟩) (Kd.R_types HO_10.out BK113.out (by decide)) (fun _ hk=>hk.2) (.int .i64 ((rd_T48 l2_2 x54_2).f0.f0))) (fun _ hk=>hk.2) (.int .i64 ((rd_T48 l2_2 x54_2).f0.f1))) (fun _ hk=>hk.2) (.slice A112_2 ((rd_T48 l2_2 x54_2).f1).length c112_2)) (fun _ hk=>⟨hk.1.2,hk.1.1⟩)) hg hat);have n1_:=Aside0.mk (blk_grown (g:=gb101) (o:=.cells #[.int .i64 a0_0,.int .i64 a0_1,.int .i64 a0_2,.slice A0_3 l0_3.length c0_3] 35 (0,0)) (by (with_reducible repeat (first|refine blk_drewN ?_ _|refine blk_drew ?_|refine blk_alloc ?_ _));refine blk_far ?_ NB101_113.out _;(with_reducible repeat (first|refine blk_drewN ?_ _|refine blk_drew ?_|refine blk_alloc ?_ _));refine blk_far ?_ NB101_113.out _;(with_reducible repeat (first|refine blk_drewN ?_ _|refine blk_drew ?_|refine blk_alloc ?_ _));refine blk_far ?_ NB101_113.out _;(with_reducible repeat (first|refine blk_drewN ?_ _|refine blk_drew ?_|refine blk_alloc ?_ _));exact BK101.out) hg (Kd.R_ne HO_11.out BK101.out (by decide)));have n2_:=Aside0.mk (blk_grown (g:=gb102) (o:=.cells #[.int .i64 a1_0,.int .i64 a1_1] 41 (0,0)) (by (with_reducible repeat (first|refine blk_drewN ?_ _|refine blk_drew ?_|refine blk_alloc ?_ _));refine blk_far ?_ NB102_113.out _;(with_reducible repeat (first|refine blk_drewN ?_ _|refine blk_drew ?_|refine blk_alloc ?_ _));refine blk_far ?_ NB102_113.out _;(with_reducible repeat (first|refine blk_drewN ?_ _|refine blk_drew ?_|refine blk_alloc ?_ _));refine blk_far ?_ NB102_113.out _;(with_reducible repeat (first|refine blk_drewN ?_ _|refine blk_drew ?_|refine blk_alloc ?_ _));exact BK102.out) hg (Kd.R_away HO_11.out (fun _ hk=>hk.2)));have n3_:=Aside0.mk (blk_grown (g:=gb103) (o:=.cells #[.int .i64 a2_0,.int .i64 a2_1,.slice (some ad112) l2_2.length c2_2] 39 (0,0)) (by (with_reducible repeat (first|refine blk_drewN ?_ _|refine blk_drew ?_|refine blk_alloc ?_ _));refine blk_far ?_ NB103_113.out _;(with_reducible repeat (first|refine blk_drewN ?_ _|refine blk_drew ?_|refine blk_alloc ?_ _));refine blk_far ?_ NB103_113.out _;(with_reducible repeat (first|refine blk_drewN ?_ _|refine blk_drew ?_|refine blk_alloc ?_ _));refine blk_far ?_ NB103_113.out _;(with_reducible repeat (first|refine blk_drewN ?_ _|refine blk_drew ?_|refine blk_alloc ?_ _));exact BK103.out) hg (Kd.R_ne HO_11.out BK103.out (by decide)));have n4_:=Aside0.mk (blk_grown (g:=gb104) (o:=.cells #[.int .i64 0,.slice none 0 0] 30 (0,0)) (by (with_reducible repeat (first|refine blk_drewN ?_ _|refine blk_drew ?_|refine blk_alloc ?_ _));refine blk_far ?_ NB104_113.out _;(with_reducible repeat (first|refine blk_drewN ?_ _|refine blk_drew ?_|refine blk_alloc ?_ _));refine blk_far ?_ NB104_113.out _;(with_reducible repeat (first|refine blk_drewN ?_ _|refine blk_drew ?_|refine blk_alloc ?_ _));refine blk_far ?_ NB104_113.out _;(with_reducible repeat (first|refine blk_drewN ?_ _|refine blk_drew ?_|refine blk_alloc ?_ _));exact BK104.out) hg (Kd.R_ne HO_11.out BK104.out (by decide)));have n5_:=Aside0.mk (blk_grown (g:=gb113) (o:=.cells #[.int .i64 ((rd_T48 l2_2 x54_2).f0.f0),.int .i64 ((rd_T48 l2_2 x54_2).f0.f1),.slice A112_2 ((rd_T48 l2_2 x54_2).f1).length c112_2] 48 (0,0)) (by (with_reducible repeat (first|refine blk_drewN ?_ _|refine blk_drew ?_|refine blk_alloc ?_ _));refine blk_put (cs:=#[.int .i64 ((rd_T48 l2_2 x54_2).f0.f0),.int .i64 ((rd_T48 l2_2 x54_2).f0.f1),.slice none 0 0]) ?_ 2 _ rfl;(with_reducible repeat (first|refine blk_drewN ?_ _|refine blk_drew ?_|refine blk_alloc ?_ _));refine blk_put (cs:=#[.int .i64 ((rd_T48 l2_2 x54_2).f0.f0),.int .i64 0,.slice none 0 0]) ?_ 1 _ rfl;(with_reducible repeat (first|refine blk_drewN ?_ _|refine blk_drew ?_|refine blk_alloc ?_ _));refine blk_put (cs:=#[.int .i64 0,.int .i64 0,.slice none 0 0]) ?_ 0 _ rfl;(with_reducible repeat (first|refine blk_drewN ?_ _|refine blk_drew ?_|refine blk_alloc ?_ _));exact BK113.out) hg (Kd.R_ne HO_11.out BK113.out (by decide)));have n6_:=Aside0.mk (hb);have n7_:=Aside0.mk (ho);clear HO_10;clear BK101;clear BK102;clear BK103;clear BK104;clear BK113;clear HB;clear HO_11;have HO_10:=n0_;have BK101:=n1_;have BK102:=n2_;have BK103:=n3_;have BK104:=n4_;have BK113:=n5_;have HB:=n6_;have HO116:=n7_;clear n0_ n1_ n2_ n3_ n4_ n5_ n6_ n7_;clear ho hb hg hat))
                          go_roundg k2
                          case measure => have := HJ5.out; have := HK2.out; omega
                          case rel=>exact⟨(y114),(wrap64 (x54_2 + 1)),(by first|rfl|(simp;done)|(simp[*];done)),H',⟨by have:=HJ5.out;have:=HK2.out;omega⟩,⟨by (with_reducible repeat (first|apply Kd.R_alloc|apply Kd.R_drewN|apply Kd.R_drew));exact Kd.R_mono HO_10.out (fun _ hk=>⟨hk.2,hk.1⟩)⟩,⟨by (with_reducible repeat (first|apply Kd.R_alloc|apply Kd.R_drewN|apply Kd.R_drew));exact HO116.out⟩,⟨by (with_reducible repeat (first|refine blk_drewN ?_ _|refine blk_drew ?_|refine blk_alloc ?_ _));exact BK101.out⟩,⟨by (with_reducible repeat (first|refine blk_drewN ?_ _|refine blk_drew ?_|refine blk_alloc ?_ _));exact BK102.out⟩,⟨by (with_reducible repeat (first|refine blk_drewN ?_ _|refine blk_drew ?_|refine blk_alloc ?_ _));exact BK103.out⟩,⟨by (with_reducible repeat (first|refine blk_drewN ?_ _|refine blk_drew ?_|refine blk_alloc ?_ _));exact BK104.out⟩,⟨by repeat (first|(with_reducible first|exact HB.out|apply below_alloc|apply pw_below_drewN|apply below_drew1|refine below_set ?_ GE101.out|refine below_set ?_ GE102.out|refine below_set ?_ GE103.out|refine below_set ?_ GE104.out|refine below_set ?_ GE113.out)|exact HB.out)⟩⟩
                        · rw [if_neg c70] at H
                          exact absurd H (by simp)
                      · rw [if_neg c69] at H
                        exact absurd H (by simp)
                    · rw [if_neg c68] at H
                      exact absurd H (by simp)
                  · rw [if_neg c67] at H
                    have c67b0 : decide (x54_2 < (l2_2.length : Int)) = false := decide_eq_false c67
                    clear c67
                    replace H := Option.bind_eq_some_iff.mp H
                    obtain ⟨t117, A780, H⟩ := H
                    replace H:(if (t117.length:Int) > 0 then (if 0≤(wrap64 ((t117.length:Int) - 1)) then (if (wrap64 ((t117.length:Int) - 1)) < (t117.length:Int) then (if 0 < (t117.length:Int) then ((worktime_total.f k2 t117).bind fun t122=>(worktime_Adjust.j2 k2 t117 (wrap64 ((wrap64 (((rd_T41 t117 (wrap64 ((t117.length:Int) - 1))).f1) - ((rd_T41 t117 0).f0))) - t122)) a0_0 a0_1 a0_2 l0_3 a2_0 a2_1 l2_2)) else (none)) else (none)) else (none)) else (worktime_Adjust.j2 k2 t117 0 a0_0 a0_1 a0_2 l0_3 a2_0 a2_1 l2_2)) = some (r1,r2,r3):=H
                    have A78 := Aside0.mk A780
                    clear A780
                    have HC79 := Aside0.mk H
                    clear H
                    obtain ⟨Ao80, co80, eo80⟩ := Kd.R_slice HO_11.out
                    subst eo80
                    go_upto_if 68 with (first|((with_reducible refine gate_callee (f:=27) rfl ?_);refine goesL_ (some 65) rfl rfl Try.func27 (by kernel_rfl) rfl #[.slice Ao64 t108.length co64,.slice Ao80 x11_2.length co80] rfl (by (try simp only[List.map_toArray,List.map_cons,List.map_nil]);first|done|rfl|(simp only[List.length_drop,List.length_take];rfl)) ?_;(with_reducible refine(worktime_without.calls _ _ t108 _ _ x11_2 t117 _ ?side1 ?side2 ?side3 ?side4 A78.out).mono ?_);(case side1=>repeat (first|exact(Kd.R_reads' HO_10.out).2.2|(with_reducible refine Kd.C_alloc ?_ _)|(with_reducible refine Kd.C_drewN ?_ _)|(with_reducible refine Kd.C_drew ?_)));(case side2=>exact(Kd.R_reads' HO_10.out).2.1);(case side3=>repeat (first|exact(Kd.R_reads' HO_11.out).2.2|(with_reducible refine Kd.C_alloc ?_ _)|(with_reducible refine Kd.C_drewN ?_ _)|(with_reducible refine Kd.C_drew ?_)));(case side4=>exact(Kd.R_reads' HO_11.out).2.1);rintro e w81 ⟨v118,rfl,ho0,hb⟩;refine⟨_,rfl,?_⟩;have n0_:=Aside0.mk (Kd.R_elder' (by (with_reducible repeat (first|apply Kd.R_alloc|apply Kd.R_drewN|apply Kd.R_drew));exact HO_10.out) (Kd.R_base ho0) hb);have n1_:=Aside0.mk (Kd.R_elder' (by (with_reducible repeat (first|apply Kd.R_alloc|apply Kd.R_drewN|apply Kd.R_drew));exact HO_11.out) (Kd.R_base ho0) hb);have n2_:=Aside0.mk (Kd.R_lower (Kd.R_newB (Kd.R_new' (Kd.R_new' ho0 (Kd.R_lt (by (with_reducible repeat (first|apply Kd.R_alloc|apply Kd.R_drewN|apply Kd.R_drew));exact HO_10.out))) (Kd.R_lt (by (with_reducible repeat (first|apply Kd.R_alloc|apply Kd.R_drewN|apply Kd.R_drew));exact HO_11.out))) (g:=gb102) (o:=.cells #[.int .i64 a1_0,.int .i64 a1_1] 41 (0,0)) (by (with_reducible repeat (first|refine blk_drewN ?_ _|refine blk_drew ?_|refine blk_alloc ?_ _));exact BK102.out)) (below_size (by repeat (first|(with_reducible first|exact HB.out|apply below_alloc|apply pw_below_drewN|apply below_drew1|refine below_set ?_ GE101.out|refine below_set ?_ GE102.out|refine below_set ?_ GE103.out|refine below_set ?_ GE104.out)|exact HB.out))));have n3_:=Aside0.mk (blk_below (g:=gb101) (o:=.cells #[.int .i64 a0_0,.int .i64 a0_1,.int .i64 a0_2,.slice A0_3 l0_3.length c0_3] 35 (0,0)) (by (with_reducible repeat (first|refine blk_drewN ?_ _|refine blk_drew ?_|refine blk_alloc ?_ _));exact BK101.out) hb);have n4_:=Aside0.mk (blk_below (g:=gb102) (o:=.cells #[.int .i64 a1_0,.int .i64 a1_1] 41 (0,0)) (by (with_reducible repeat (first|refine blk_drewN ?_ _|refine blk_drew ?_|refine blk_alloc ?_ _));exact BK102.out) hb);have n5_:=Aside0.mk (blk_below (g:=gb103) (o:=.cells #[.int .i64 a2_0,.int .i64 a2_1,.slice A2_2 l2_2.length c2_2] 39 (0,0)) (by (with_reducible repeat (first|refine blk_drewN ?_ _|refine blk_drew ?_|refine blk_alloc ?_ _));exact BK103.out) hb);have n6_:=Aside0.mk (blk_below (g:=gb104) (o:=.cells #[.int .i64 0,.slice none 0 0] 30 (0,0)) (by (with_reducible repeat (first|refine blk_drewN ?_ _|refine blk_drew ?_|refine blk_alloc ?_ _));exact BK104.out) hb);have n7_:=Aside0.mk (below_step (by repeat (first|(with_reducible first|exact HB.out|apply below_alloc|apply pw_below_drewN|apply below_drew1|refine below_set ?_ GE101.out|refine below_set ?_ GE102.out|refine below_set ?_ GE103.out|refine below_set ?_ GE104.out)|exact HB.out)) hb);clear HO_10;clear HO_11;clear BK101;clear BK102;clear BK103;clear BK104;clear HB;have HO_10:=n0_;have HO_11:=n1_;have HO119:=n2_;have BK101:=n3_;have BK102:=n4_;have BK103:=n5_;have BK104:=n6_;have HB:=n7_;clear n0_ n1_ n2_ n3_ n4_ n5_ n6_ n7_;(try clear hb);(try clear hb2);(try clear hk);(try clear hi);(try clear ho0);obtain ⟨Ao82,co82,eo82⟩:=Kd.R_slice HO119.out;subst eo82))
                    (try simp only [Act.put, List.setIfInBounds_toArray, List.set_cons_zero, List.set_cons_succ])
                    go_cut [15] (fun v15 wc=>∃ (kq:Nat) (x15_78:Int),v15 = .int .i64 x15_78∧Aside0 (worktime_Adjust.j2 kq t117 x15_78 a0_0 a0_1 a0_2 l0_3 a2_0 a2_1 l2_2 = some (r1,r2,r3))∧Aside0 (kq≤k2)∧Aside0 (Kd.R k41 41 wc w.heap.size (fun k_=>k_≠gb102) (.slice Ao82 t117.length co82) t117)∧Aside0 (wc.heap[gb101]? = some (.cells #[.int .i64 a0_0,.int .i64 a0_1,.int .i64 a0_2,(.slice A0_3 l0_3.length c0_3)] 35 (0,0)))∧Aside0 (wc.heap[gb102]? = some (.cells #[.int .i64 a1_0,.int .i64 a1_1] 41 (0,0)))∧Aside0 (wc.heap[gb103]? = some (.cells #[.int .i64 a2_0,.int .i64 a2_1,(.slice A2_2 l2_2.length c2_2)] 39 (0,0)))∧Aside0 (wc.heap[gb104]? = some (.cells #[.int .i64 0,(.slice none 0 0)] 30 (0,0)))∧Aside0 (Below w.heap.size w wc))
                    case first =>
                      have H := HC79.out
                      clear HC79
                      by_cases c83 : (t117.length : Int) > 0
                      · rw [if_pos c83] at H
                        have c83b0 : decide (0 < (t117.length : Int)) = true := decide_eq_true c83
                        have c83b1 : decide (0 < t117.length) = true := decide_eq_true (by omega)
                        clear c83
                        (first|rw[c83b0]|(simp only[i64_w,i32_w];rw[c83b0])|rw[c83b1]|(simp only[i64_w,i32_w];rw[c83b1])|(simp only[c83b1])|skip)
                        obtain ⟨ji84, hji84⟩ : ∃ j_ : Int, (wrap64 ((t117.length : Int) - 1)) = j_ := ⟨_, rfl⟩
                        replace H:(if 0≤(ji84) then (if (ji84) < (t117.length:Int) then (if 0 < (t117.length:Int) then ((worktime_total.f k2 t117).bind fun t122=>(worktime_Adjust.j2 k2 t117 (wrap64 ((wrap64 (((rd_T41 t117 (ji84)).f1) - ((rd_T41 t117 0).f0))) - t122)) a0_0 a0_1 a0_2 l0_3 a2_0 a2_1 l2_2)) else (none)) else (none)) else (none)) = some (r1,r2,r3):=by first|(rw[hji84] at H;exact H)|(simp only[hji84] at H ⊢;exact H)
                        have hji84w : (IntKind.i64.wrap ((t117.length : Int) - 1)) = ji84 := (i64_w _).trans hji84
                        by_cases c85 : 0 ≤ (ji84)
                        · rw [if_pos c85] at H
                          have c85b0 : decide (0 ≤ (ji84)) = true := decide_eq_true c85
                          clear c85
                          by_cases c86 : (ji84) < (t117.length : Int)
                          · rw [if_pos c86] at H
                            have c86b0 : decide ((ji84) < (t117.length : Int)) = true := decide_eq_true c86
                            clear c86
                            by_cases c87 : 0 < (t117.length : Int)
                            · rw [if_pos c87] at H
                              have c87b0 : decide (0 < (t117.length : Int)) = true := decide_eq_true c87
                              have c87b1 : decide (0 < t117.length) = true := decide_eq_true (by omega)
                              clear c87
                              replace H := Option.bind_eq_some_iff.mp H
                              obtain ⟨t122, A880, H⟩ := H
                              replace H:(worktime_Adjust.j2 k2 t117 (wrap64 ((wrap64 (((rd_T41 t117 (ji84)).f1) - ((rd_T41 t117 0).f0))) - t122)) a0_0 a0_1 a0_2 l0_3 a2_0 a2_1 l2_2) = some (r1,r2,r3):=H
                              have A88 := Aside0.mk A880
                              clear A880
                              have H' := Aside0.mk H
                              clear H
                              try go_wp2
                              have n0_ := Aside0.mk (Kd.R_drew HO_10.out)
                              have n1_ := Aside0.mk (Kd.R_drew HO_11.out)
                              have n2_ := Aside0.mk (Kd.R_drew HO119.out)
                              have n3_ := Aside0.mk (blk_drew BK101.out)
                              have n4_ := Aside0.mk (blk_drew BK102.out)
                              have n5_ := Aside0.mk (blk_drew BK103.out)
                              have n6_ := Aside0.mk (blk_drew BK104.out)
                              have n7_ := Aside0.mk (below_drew1 HB.out)
                              clear HO_10
                              clear HO_11
                              clear HO119
                              clear BK101
                              clear BK102
                              clear BK103
                              clear BK104
                              clear HB
                              have HO_10 := n0_
                              have HO_11 := n1_
                              have HO119 := n2_
                              have BK101 := n3_
                              have BK102 := n4_
                              have BK103 := n5_
                              have BK104 := n6_
                              have HB := n7_
                              clear n0_ n1_ n2_ n3_ n4_ n5_ n6_ n7_
                              have p120:0≤((ji84):Int):=of_decide_eq_true (by first|(with_reducible assumption)|assumption)
                              have q120:(ji84) < (t117.length:Int):=of_decide_eq_true (by first|(with_reducible assumption)|assumption)
                              obtain ⟨ad120,e120,hx120_0,hx120_1⟩:=at_T41 (Kd.R_reads' HO119.out).2.2 (ji84) p120 q120
                              cases e120
                              replace p120 := eq_true p120
                              replace q120 := eq_true q120
                              have p121 : 0 ≤ (0 : Int) := (by omega)
                              have q121:0 < (t117.length:Int):=of_decide_eq_true (by first|(with_reducible assumption)|assumption)
                              obtain ⟨ad121, e121, hx121_0, hx121_1⟩ := at_T41 (Kd.R_reads' HO119.out).2.2 0 p121 q121
                              obtain rfl : ad120 = ad121 := (by injection e121)
                              have qi121 : (0 < t117.length) = True := eq_true (by omega)
                              (try rw [show ((0 : Int)).toNat = 0 from rfl] at hx121_0)
                              (try rw [show 0 * 2 = 0 from rfl] at hx121_0)
                              (try rw [Addr.add_zero'] at hx121_0)
                              (try rw [show ((0 : Int)).toNat = 0 from rfl] at hx121_1)
                              (try rw [show 0 * 2 = 0 from rfl] at hx121_1)
                              (try rw [Addr.add_zero'] at hx121_1)
                              replace p121 := eq_true p121
                              replace q121 := eq_true q121
                              refine start_ (n:=16) (S:=fun w'=>w'.cell? (ad120.add (((ji84)).toNat * 2)) = some (.int .i64 ((rd_T41 t117 (ji84)).f0))∧w'.cell? ⟨(ad120.add (((ji84)).toNat * 2)).block,(ad120.add (((ji84)).toNat * 2)).off + 1,none⟩ = some (.int .i64 ((rd_T41 t117 (ji84)).f1))∧w'.cell? ad120 = some (.int .i64 ((rd_T41 t117 0).f0))∧w'.cell? ⟨ad120.block,ad120.off + 1,none⟩ = some (.int .i64 ((rd_T41 t117 0).f1))) (ds:=[]) #[false,false,false,false,false,false,false,false,false,false,false,false,false,false,false,false] (by kernel_rfl) rfl rfl ⟨hx120_0,hx120_1,hx121_0,hx121_1⟩ (fun hHeld=>?_);refine with_tabW worktime_Adjust.tab21 worktime_Adjust.bits21 (fun HT_ HW_=>?_)
                              generalize w81.drew = w89 at HO_10 HO_11 HO119 BK101 BK102 BK103 BK104 HB hx120_0 hx120_1 hx121_0 hx121_1 hHeld ⊢
                              refine pure_ (i:=0) (N:=some 69) (v:=?_) (a':=?_) #[true,false,false,false,false,false,false,false,false,false,false,false,false,false,false,false] rfl rfl (any_of HT_.out (by kernel_rfl)) (fun _ _ _ h=>h) (Or.inl ⟨by rfl,?_⟩) ?_ ?_
                              rotate_left
                              · intro w'
                                go_simp
                                with_reducible rfl
                              rotate_left
                              · simp only [Act.put, List.setIfInBounds_toArray, List.set_cons_zero, List.set_cons_succ, i64_w, i32_w]
                                rfl
                              refine pure_ (i:=1) (N:=some 70) (v:=?_) (a':=?_) #[true,true,false,false,false,false,false,false,false,false,false,false,false,false,false,false] rfl rfl (any_of HT_.out (by kernel_rfl)) (fun _ _ _ h=>h) (Or.inl ⟨by rfl,?_⟩) ?_ ?_
                              rotate_left
                              · intro w'
                                go_simp
                                with_reducible rfl
                              rotate_left
                              · simp only [Act.put, List.setIfInBounds_toArray, List.set_cons_zero, List.set_cons_succ, i64_w, i32_w]
                                rfl
                              refine pure_ (i:=2) (N:=some 71) (v:=?_) (a':=?_) #[true,true,true,false,false,false,false,false,false,false,false,false,false,false,false,false] rfl rfl (any_of HT_.out (by kernel_rfl)) (fun _ _ _ h=>h) (Or.inl ⟨by rfl,?_⟩) ?_ ?_
                              rotate_left
                              · intro w'
                                go_simp
                                with_reducible rfl
                              rotate_left
                              · simp only [Act.put, List.setIfInBounds_toArray, List.set_cons_zero, List.set_cons_succ, i64_w, i32_w]
                                rfl
                              refine pure_ (i:=3) (N:=some 72) (v:=?_) (a':=?_) #[true,true,true,true,false,false,false,false,false,false,false,false,false,false,false,false] rfl rfl (any_of HT_.out (by kernel_rfl)) (fun _ _ _ h=>h) (Or.inl ⟨by rfl,?_⟩) ?_ ?_
                              rotate_left
                              · intro w'
                                go_simp
                                with_reducible rfl
                              rotate_left
                              · simp only [Act.put, List.setIfInBounds_toArray, List.set_cons_zero, List.set_cons_succ, i64_w, i32_w]
                                rfl
                              refine pure_ (i:=4) (N:=some 73) (v:=?_) (a':=?_) #[true,true,true,true,true,false,false,false,false,false,false,false,false,false,false,false] rfl rfl (any_of HT_.out (by kernel_rfl)) (fun _ _ _ h=>h) (Or.inl ⟨by rfl,?_⟩) ?_ ?_
                              rotate_left
                              · intro w'
                                go_simp
                                with_reducible rfl
                              rotate_left
                              · simp only [Act.put, List.setIfInBounds_toArray, List.set_cons_zero, List.set_cons_succ, i64_w, i32_w]
                                rfl
                              refine pure_ (i:=5) (N:=some 74) (v:=?_) (a':=?_) #[true,true,true,true,true,true,false,false,false,false,false,false,false,false,false,false] rfl rfl (any_of HT_.out (by kernel_rfl)) (fun _ _ _ h=>h) (Or.inl ⟨by rfl,?_⟩) ?_ ?_
                              rotate_left
                              · intro w'
                                go_simp
                                with_reducible rfl
                              rotate_left
                              · simp only [Act.put, List.setIfInBounds_toArray, List.set_cons_zero, List.set_cons_succ, i64_w, i32_w]
                                rfl
                              refine pure_ (i:=7) (N:=some 76) (v:=?_) (a':=?_) #[true,true,true,true,true,true,false,true,false,false,false,false,false,false,false,false] rfl rfl (any_of HT_.out (by kernel_rfl)) (fun _ _ _ h=>h) (Or.inl ⟨by rfl,?_⟩) ?_ ?_
                              rotate_left
                              · intro w'
                                go_simp
                                with_reducible rfl
                              rotate_left
                              · simp only [Act.put, List.setIfInBounds_toArray, List.set_cons_zero, List.set_cons_succ, i64_w, i32_w]
                                rfl
                              refine pure_ (i:=8) (N:=some 77) (v:=?_) (a':=?_) #[true,true,true,true,true,true,false,true,true,false,false,false,false,false,false,false] rfl rfl (any_of HT_.out (by kernel_rfl)) (fun _ _ _ h=>h) (Or.inl ⟨by rfl,?_⟩) ?_ ?_
                              rotate_left
                              · intro w'
                                go_simp
                                with_reducible rfl
                              rotate_left
                              · simp only [Act.put, List.setIfInBounds_toArray, List.set_cons_zero, List.set_cons_succ, i64_w, i32_w]
                                rfl
                              refine pure_ (i:=9) (N:=some 78) (v:=?_) (a':=?_) #[true,true,true,true,true,true,false,true,true,true,false,false,false,false,false,false] rfl rfl (any_of HT_.out (by kernel_rfl)) (fun _ _ _ h=>h) (Or.inl ⟨by rfl,?_⟩) ?_ ?_
                              rotate_left
                              · intro w'
                                go_simp
                                with_reducible rfl
                              rotate_left
                              · simp only [Act.put, List.setIfInBounds_toArray, List.set_cons_zero, List.set_cons_succ, i64_w, i32_w]
                                rfl
                              refine pure_ (i:=12) (N:=some 81) (v:=?_) (a':=?_) #[true,true,true,true,true,true,false,true,true,true,false,false,true,false,false,false] rfl rfl (any_of HT_.out (by kernel_rfl)) (fun _ _ _ h=>h) (Or.inl ⟨by rfl,?_⟩) ?_ ?_
                              rotate_left
                              · intro w'
                                go_simp
                                with_reducible rfl
                              rotate_left
                              · simp only [Act.put, List.setIfInBounds_toArray, List.set_cons_zero, List.set_cons_succ, i64_w, i32_w]
                                rfl
                              refine take_ (i:=6) (N:=some 75) (v:=?_) (a':=?_) #[true,true,true,true,true,true,true,true,true,true,false,false,true,false,false,false] rfl rfl (take_ofW HT_.out HW_.out (by kernel_rfl)) (fun _ _ _ h=>h) (Or.inl ⟨by rfl,?_⟩) hHeld ?_ ?_
                              rotate_left
                              · rintro w' ⟨s0, s1, s2, s3⟩
                                go_simp
                                with_reducible rfl
                              rotate_left
                              · simp only [Act.put, List.setIfInBounds_toArray, List.set_cons_zero, List.set_cons_succ, i64_w, i32_w]
                                rfl
                              refine take_ (i:=10) (N:=some 79) (v:=?_) (a':=?_) #[true,true,true,true,true,true,true,true,true,true,true,false,true,false,false,false] rfl rfl (take_ofW HT_.out HW_.out (by kernel_rfl)) (fun _ _ _ h=>h) (Or.inl ⟨by rfl,?_⟩) hHeld ?_ ?_
                              rotate_left
                              · rintro w' ⟨s0, s1, s2, s3⟩
                                go_simp
                                with_reducible rfl
                              rotate_left
                              · simp only [Act.put, List.setIfInBounds_toArray, List.set_cons_zero, List.set_cons_succ, i64_w, i32_w]
                                rfl
                              refine pure_ (i:=11) (N:=some 80) (v:=?_) (a':=?_) #[true,true,true,true,true,true,true,true,true,true,true,true,true,false,false,false] rfl rfl (any_of HT_.out (by kernel_rfl)) (fun _ _ _ h=>h) (Or.inl ⟨by rfl,?_⟩) ?_ ?_
                              rotate_left
                              · intro w'
                                go_simp
                                with_reducible rfl
                              rotate_left
                              · simp only [Act.put, List.setIfInBounds_toArray, List.set_cons_zero, List.set_cons_succ, i64_w, i32_w]
                                rfl
                              refine one_ (i:=13) (N:=some 82) #[true,true,true,true,true,true,true,true,true,true,true,true,true,true,false,false] rfl rfl (one_of HT_.out (by kernel_rfl)) (by decide) (fun K hK=>?_)
                              refine goes_ Try.func26 (by kernel_rfl) rfl #[.slice (some ad120) t117.length co82] (by rfl) rfl rfl (by (try simp only[List.map_toArray,List.map_cons,List.map_nil]);first|done|rfl|(simp only[List.length_drop,List.length_take];rfl)) ?_
                              with_reducible refine (worktime_total.calls k2 _ _ t117 t122 _ ?side1 ?side2 A88.out).mono ?_
                              (case side1=>repeat (first|exact(Kd.R_reads' HO119.out).2.2|(with_reducible refine Kd.C_alloc ?_ _)|(with_reducible refine Kd.C_drewN ?_ _)|(with_reducible refine Kd.C_drew ?_)))
                              (case side2 => exact (Kd.R_reads' HO119.out).2.1)
                              rintro e w90 ⟨rfl, hb⟩
                              have HS0_ := (hb.cell (World.block_lt_of_cell? _ _ (hHeld.1))).trans (hHeld.1)
                              have HS1_ := (hb.cell (World.block_lt_of_cell? _ _ (hHeld.2.1))).trans (hHeld.2.1)
                              have HS2_ := (hb.cell (World.block_lt_of_cell? _ _ (hHeld.2.2.1))).trans (hHeld.2.2.1)
                              have HS3_ := (hb.cell (World.block_lt_of_cell? _ _ (hHeld.2.2.2))).trans (hHeld.2.2.2)
                              refine ⟨_, rfl, ?_⟩
                              have n0_:=Aside0.mk (Kd.R_below (by (with_reducible repeat (first|apply Kd.R_alloc|apply Kd.R_drewN|apply Kd.R_drew));exact HO_10.out) hb)
                              have n1_:=Aside0.mk (Kd.R_below (by (with_reducible repeat (first|apply Kd.R_alloc|apply Kd.R_drewN|apply Kd.R_drew));exact HO_11.out) hb)
                              have n2_:=Aside0.mk (Kd.R_below (by (with_reducible repeat (first|apply Kd.R_alloc|apply Kd.R_drewN|apply Kd.R_drew));exact HO119.out) hb)
                              have n3_:=Aside0.mk (blk_below (g:=gb101) (o:=.cells #[.int .i64 a0_0,.int .i64 a0_1,.int .i64 a0_2,.slice A0_3 l0_3.length c0_3] 35 (0,0)) (by (with_reducible repeat (first|refine blk_drewN ?_ _|refine blk_drew ?_|refine blk_alloc ?_ _));exact BK101.out) hb)
                              have n4_:=Aside0.mk (blk_below (g:=gb102) (o:=.cells #[.int .i64 a1_0,.int .i64 a1_1] 41 (0,0)) (by (with_reducible repeat (first|refine blk_drewN ?_ _|refine blk_drew ?_|refine blk_alloc ?_ _));exact BK102.out) hb)
                              have n5_:=Aside0.mk (blk_below (g:=gb103) (o:=.cells #[.int .i64 a2_0,.int .i64 a2_1,.slice A2_2 l2_2.length c2_2] 39 (0,0)) (by (with_reducible repeat (first|refine blk_drewN ?_ _|refine blk_drew ?_|refine blk_alloc ?_ _));exact BK103.out) hb)
                              have n6_:=Aside0.mk (blk_below (g:=gb104) (o:=.cells #[.int .i64 0,.slice none 0 0] 30 (0,0)) (by (with_reducible repeat (first|refine blk_drewN ?_ _|refine blk_drew ?_|refine blk_alloc ?_ _));exact BK104.out) hb)
                              have n7_:=Aside0.mk (below_step (by repeat (first|(with_reducible first|exact HB.out|apply below_alloc|apply pw_below_drewN|apply below_drew1|refine below_set ?_ GE101.out|refine below_set ?_ GE102.out|refine below_set ?_ GE103.out|refine below_set ?_ GE104.out)|exact HB.out)) hb)
                              clear HO_10
                              clear HO_11
                              clear HO119
                              clear BK101
                              clear BK102
                              clear BK103
                              clear BK104
                              clear HB
                              have HO_10 := n0_
                              have HO_11 := n1_
                              have HO119 := n2_
                              have BK101 := n3_
                              have BK102 := n4_
                              have BK103 := n5_
                              have BK104 := n6_
                              have HB := n7_
                              clear n0_ n1_ n2_ n3_ n4_ n5_ n6_ n7_
                              (try clear hb)
                              (try clear hb2)
                              (try clear hk)
                              (try clear hi)
                              refine hK.out _ _ ⟨HS0_, HS1_, HS2_, HS3_⟩ (fun hHeld => ?_)
                              clear hK K
                              refine norm_ (a' := ?_) ?_ ?_
                              rotate_left
                              · show Act.put _ (some 82) _ = _
                                simp only[Act.put,List.setIfInBounds_toArray,List.set_cons_zero,List.set_cons_succ,i64_w,i32_w]
                                rfl
                              refine pure_ (i:=14) (N:=some 83) (v:=?_) (a':=?_) #[true,true,true,true,true,true,true,true,true,true,true,true,true,true,true,false] rfl rfl (any_of HT_.out (by kernel_rfl)) (fun _ _ _ h=>h) (Or.inl ⟨by rfl,?_⟩) ?_ ?_
                              rotate_left
                              · intro w'
                                go_simp
                                with_reducible rfl
                              rotate_left
                              · simp only [Act.put, List.setIfInBounds_toArray, List.set_cons_zero, List.set_cons_succ, i64_w, i32_w]
                                rfl
                              refine pure_ (i:=15) (N:=some 15) (v:=?_) (a':=?_) #[true,true,true,true,true,true,true,true,true,true,true,true,true,true,true,true] rfl rfl (any_of HT_.out (by kernel_rfl)) (fun _ _ _ h=>h) (Or.inl ⟨by rfl,?_⟩) ?_ ?_
                              rotate_left
                              · intro w'
                                go_simp
                                with_reducible rfl
                              rotate_left
                              · simp only [Act.put, List.setIfInBounds_toArray, List.set_cons_zero, List.set_cons_succ, i64_w, i32_w]
                                rfl
                              refine done_ (done_of HT_.out (by kernel_rfl)) ?_
                              try go_wp2
                              go_meet
                              case rel=>exact⟨_,(wrap64 ((wrap64 (((rd_T41 t117 (ji84)).f1) - ((rd_T41 t117 0).f0))) - t122)),(by first|rfl|(simp;done)|(simp only[← hji84] <;> (first|rfl|simp))|(simp[*];done)),H',⟨by have:=HJ5.out;have:=HK2.out;first|omega|exact Nat.le_refl _⟩,⟨by (with_reducible repeat (first|apply Kd.R_alloc|apply Kd.R_drewN|apply Kd.R_drew));exact Kd.R_mono HO119.out (fun _ hk=>hk.2)⟩,⟨by (with_reducible repeat (first|refine blk_drewN ?_ _|refine blk_drew ?_|refine blk_alloc ?_ _));exact BK101.out⟩,⟨by (with_reducible repeat (first|refine blk_drewN ?_ _|refine blk_drew ?_|refine blk_alloc ?_ _));exact BK102.out⟩,⟨by (with_reducible repeat (first|refine blk_drewN ?_ _|refine blk_drew ?_|refine blk_alloc ?_ _));exact BK103.out⟩,⟨by (with_reducible repeat (first|refine blk_drewN ?_ _|refine blk_drew ?_|refine blk_alloc ?_ _));exact BK104.out⟩,⟨by repeat (first|(with_reducible first|exact HB.out|apply below_alloc|apply pw_below_drewN|apply below_drew1|refine below_set ?_ GE101.out|refine below_set ?_ GE102.out|refine below_set ?_ GE103.out|refine below_set ?_ GE104.out)|exact HB.out)⟩⟩
                            · rw [if_neg c87] at H
                              exact absurd H (by simp)
                          · rw [if_neg c86] at H
                            exact absurd H (by simp)
                        · rw [if_neg c85] at H
                          exact absurd H (by simp)
                      · rw [if_neg c83] at H
                        have c83b0 : decide (0 < (t117.length : Int)) = false := decide_eq_false c83
                        have c83b1 : decide (0 < t117.length) = false := decide_eq_false (by omega)
                        clear c83
                        (first|rw[c83b0]|(simp only[i64_w,i32_w];rw[c83b0])|rw[c83b1]|(simp only[i64_w,i32_w];rw[c83b1])|(simp only[c83b1])|skip)
                        have H' := Aside0.mk H
                        clear H
                        go_wp2
                        go_meet
                        case rel=>exact⟨_,(0),(by first|rfl|(simp;done)|(simp[*];done)),H',⟨by have:=HJ5.out;have:=HK2.out;first|omega|exact Nat.le_refl _⟩,⟨by (with_reducible repeat (first|apply Kd.R_alloc|apply Kd.R_drewN|apply Kd.R_drew));exact Kd.R_mono HO119.out (fun _ hk=>hk.2)⟩,⟨by (with_reducible repeat (first|refine blk_drewN ?_ _|refine blk_drew ?_|refine blk_alloc ?_ _));exact BK101.out⟩,⟨by (with_reducible repeat (first|refine blk_drewN ?_ _|refine blk_drew ?_|refine blk_alloc ?_ _));exact BK102.out⟩,⟨by (with_reducible repeat (first|refine blk_drewN ?_ _|refine blk_drew ?_|refine blk_alloc ?_ _));exact BK103.out⟩,⟨by (with_reducible repeat (first|refine blk_drewN ?_ _|refine blk_drew ?_|refine blk_alloc ?_ _));exact BK104.out⟩,⟨by repeat (first|(with_reducible first|exact HB.out|apply below_alloc|apply pw_below_drewN|apply below_drew1|refine below_set ?_ GE101.out|refine below_set ?_ GE102.out|refine below_set ?_ GE103.out|refine below_set ?_ GE104.out)|exact HB.out)⟩⟩
                    case rest =>
                      clear HC79
                      try clear c1
                      try clear p1
                      try clear q1
                      try clear hx1
                      try clear qi1
                      try clear c2
                      try clear p2
                      try clear c3
                      try clear c4
                      try clear c5
                      try clear c5b0
                      try clear c5b1
                      try clear c6
                      try clear p6
                      try clear c7
                      try clear c8
                      try clear c11
                      try clear p11
                      try clear q11
                      try clear hx11
                      try clear c12
                      try clear p12
                      try clear q12
                      try clear hx12
                      try clear qi12
                      try clear c13
                      try clear c14
                      try clear c16
                      try clear c16b0
                      try clear c18
                      try clear c19
                      try clear c20
                      try clear c23
                      try clear c24
                      try clear c25
                      try clear c26
                      try clear c27
                      try clear c28
                      try clear c29
                      try clear c30
                      try clear c33
                      try clear c33b0
                      try clear c33b1
                      try clear c36
                      try clear c36b0
                      try clear c37
                      try clear c38
                      try clear c39
                      try clear c42
                      try clear c43
                      try clear c45
                      try clear c52
                      try clear c53
                      try clear c54
                      try clear c57
                      try clear c58
                      try clear c60
                      try clear p64
                      try clear c67
                      try clear c67b0
                      try clear c68
                      try clear c68b0
                      try clear c69
                      try clear c69b0
                      try clear c70
                      try clear c72
                      try clear c73
                      try clear c74
                      try clear c75
                      try clear c83
                      try clear c83b0
                      try clear c83b1
                      try clear c85
                      try clear c85b0
                      try clear c86
                      try clear c86b0
                      try clear c87
                      try clear c87b0
                      try clear c87b1
                      try clear hcz14_0
                      try clear hcz14_1
                      try clear hcz14_2
                      try clear hcz14_3
                      try clear hcz21_0
                      try clear hcz21_1
                      try clear hcz26_0
                      try clear hcz26_1
                      try clear hcz31_0
                      try clear hcz31_1
                      try clear hcz40_0
                      try clear hcz40_1
                      try clear hcz40_2
                      try clear hcz44_0
                      try clear hcz44_1
                      try clear hcz44_2
                      try clear hcz44_3
                      try clear hcz46_0
                      try clear hcz46_1
                      try clear hcz47_0
                      try clear hcz47_1
                      try clear hcz47_2
                      try clear hcz51_0
                      try clear hcz51_1
                      try clear hcz55_0
                      try clear hcz55_1
                      try clear hcz55_2
                      try clear hcz59_0
                      try clear hcz59_1
                      try clear hcz59_2
                      try clear hcz59_3
                      try clear hcz61_0
                      try clear hcz61_1
                      try clear hcz62_0
                      try clear hcz62_1
                      try clear hcz62_2
                      try clear hcz66_0
                      try clear hcz66_1
                      try clear hcz66_2
                      try clear hcz76_0
                      try clear hcz76_1
                      try clear hcz76_2
                      try clear hfz14_0
                      try clear hfz14_1
                      try clear hfz14_2
                      try clear hfz14_3
                      try clear hfz21_0
                      try clear hfz21_1
                      try clear hfz26_0
                      try clear hfz26_1
                      try clear hfz31_0
                      try clear hfz31_1
                      try clear hfz40_0
                      try clear hfz40_1
                      try clear hfz40_2
                      try clear hfz44_0
                      try clear hfz44_1
                      try clear hfz44_2
                      try clear hfz44_3
                      try clear hfz46_0
                      try clear hfz46_1
                      try clear hfz47_0
                      try clear hfz47_1
                      try clear hfz47_2
                      try clear hfz51_0
                      try clear hfz51_1
                      try clear hfz55_0
                      try clear hfz55_1
                      try clear hfz55_2
                      try clear hfz59_0
                      try clear hfz59_1
                      try clear hfz59_2
                      try clear hfz59_3
                      try clear hfz61_0
                      try clear hfz61_1
                      try clear hfz62_0
                      try clear hfz62_1
                      try clear hfz62_2
                      try clear hfz66_0
                      try clear hfz66_1
                      try clear hfz66_2
                      try clear hfz76_0
                      try clear hfz76_1
                      try clear hfz76_2
                      try clear hx112_0
                      try clear hx112_1
                      try clear hx112_2
                      try clear hx120_0
                      try clear hx120_1
                      try clear hx121_0
                      try clear hx121_1
                      try clear p112
                      try clear p120
                      try clear p121
                      try clear p2
                      try clear q112
                      try clear q120
                      try clear q121
                      obtain ⟨kq, x15_78, rfl, HA, HJ78, HO_14, BK101, BK102, BK103, BK104, HB⟩ := hcut
                      cases kq with
                      | zero => exact absurd HA.out (by simp [worktime_Adjust.j2])
                      | succ kj78 =>
                        have H := HA.out
                        clear HA
                        simp only [worktime_Adjust.j2] at H
                        have H' := Aside0.mk H
                        clear H
                        have hnb91 := NB101_102.out
                        have hnc91 := NB102_101.out
                        have hnb92 := NB101_103.out
                        have hnc92 := NB103_101.out
                        have hnb93 := NB101_104.out
                        have hnc93 := NB104_101.out
                        have hcz94_0:wc.cell? ⟨gb101,0,none⟩ = some (.int .i64 a0_0):=(blk_cell BK101.out 0).trans rfl
                        have hcz94_1:wc.cell? ⟨gb101,1,none⟩ = some (.int .i64 a0_1):=(blk_cell BK101.out 1).trans rfl
                        have hcz94_2:wc.cell? ⟨gb101,2,none⟩ = some (.int .i64 a0_2):=(blk_cell BK101.out 2).trans rfl
                        have hcz94_3:wc.cell? ⟨gb101,3,none⟩ = some (.slice A0_3 l0_3.length c0_3):=(blk_cell BK101.out 3).trans rfl
                        have hfz94_0 := blk_frozen BK101.out 0
                        have hfz94_1 := blk_frozen BK101.out 1
                        have hfz94_2 := blk_frozen BK101.out 2
                        have hfz94_3 := blk_frozen BK101.out 3
                        go_wp2
                        go_loopg [14,15,87] kj78 (fun kq v14 v15 v87 w'=>∃ (x14_4:List (S41)) (x15_4:Int) (x87_4:Int),v15 = .int .i64 x15_4∧v87 = .int .i64 x87_4∧Aside0 (worktime_Adjust.l1 kq x14_4 x15_4 l0_3 (l0_3.length:Int) x87_4 a2_0 a2_1 l2_2 = some (r1,r2,r3))∧Aside0 (kq≤kj78)∧Aside0 (Kd.R k41 41 w' w.heap.size (fun k_=>k_≠gb102) v14 x14_4)∧Aside0 (w'.heap[gb101]? = some (.cells #[.int .i64 a0_0,.int .i64 a0_1,.int .i64 a0_2,(.slice A0_3 l0_3.length c0_3)] 35 (0,0)))∧Aside0 (w'.heap[gb102]? = some (.cells #[.int .i64 a1_0,.int .i64 a1_1] 41 (0,0)))∧Aside0 (w'.heap[gb103]? = some (.cells #[.int .i64 a2_0,.int .i64 a2_1,(.slice A2_2 l2_2.length c2_2)] 39 (0,0)))∧Aside0 (w'.heap[gb104]? = some (.cells #[.int .i64 0,(.slice none 0 0)] 30 (0,0)))∧Aside0 (Below w.heap.size w w'))
                        case atStart=>exact⟨(t117),(x15_78),(0),(by first|rfl|(simp;done)|(simp[*];done)),(by first|rfl|(simp;done)|(simp[*];done)),H',⟨Nat.le_refl _⟩,⟨by (with_reducible repeat (first|apply Kd.R_alloc|apply Kd.R_drewN|apply Kd.R_drew));exact HO_14.out⟩,⟨by (with_reducible repeat (first|refine blk_drewN ?_ _|refine blk_drew ?_|refine blk_alloc ?_ _));exact BK101.out⟩,⟨by (with_reducible repeat (first|refine blk_drewN ?_ _|refine blk_drew ?_|refine blk_alloc ?_ _));exact BK102.out⟩,⟨by (with_reducible repeat (first|refine blk_drewN ?_ _|refine blk_drew ?_|refine blk_alloc ?_ _));exact BK103.out⟩,⟨by (with_reducible repeat (first|refine blk_drewN ?_ _|refine blk_drew ?_|refine blk_alloc ?_ _));exact BK104.out⟩,⟨by repeat (first|(with_reducible first|exact HB.out|apply below_alloc|apply pw_below_drewN|apply below_drew1|refine below_set ?_ GE101.out|refine below_set ?_ GE102.out|refine below_set ?_ GE103.out|refine below_set ?_ GE104.out)|exact HB.out)⟩⟩
                        case round =>
                          clear H'
                          try clear c1
                          try clear p1
                          try clear q1
                          try clear hx1
                          try clear qi1
                          try clear c2
                          try clear p2
                          try clear c3
                          try clear c4
                          try clear c5
                          try clear c5b0
                          try clear c5b1
                          try clear c6
                          try clear p6
                          try clear c7
                          try clear c8
                          try clear c9
                          try clear c11
                          try clear p11
                          try clear q11
                          try clear hx11
                          try clear c12
                          try clear p12
                          try clear q12
                          try clear hx12
                          try clear qi12
                          try clear c13
                          try clear c14
                          try clear c16
                          try clear c16b0
                          try clear c18
                          try clear c19
                          try clear c20
                          try clear c23
                          try clear c24
                          try clear c25
                          try clear c26
                          try clear c27
                          try clear c28
                          try clear c29
                          try clear c30
                          try clear c33
                          try clear c33b0
                          try clear c33b1
                          try clear c36
                          try clear c36b0
                          try clear c37
                          try clear c38
                          try clear c39
                          try clear c42
                          try clear c43
                          try clear c45
                          try clear c52
                          try clear c53
                          try clear c54
                          try clear c57
                          try clear c58
                          try clear c60
                          try clear p64
                          try clear c67
                          try clear c67b0
                          try clear c68
                          try clear c68b0
                          try clear c69
                          try clear c69b0
                          try clear c70
                          try clear c72
                          try clear c73
                          try clear c74
                          try clear c75
                          try clear c83
                          try clear c83b0
                          try clear c83b1
                          try clear c85
                          try clear c85b0
                          try clear c86
                          try clear c86b0
                          try clear c87
                          try clear c87b0
                          try clear c87b1
                          try clear c91
                          try clear c92
                          try clear c93
                          try clear hcz14_0
                          try clear hcz14_1
                          try clear hcz14_2
                          try clear hcz14_3
                          try clear hcz21_0
                          try clear hcz21_1
                          try clear hcz26_0
                          try clear hcz26_1
                          try clear hcz31_0
                          try clear hcz31_1
                          try clear hcz40_0
                          try clear hcz40_1
                          try clear hcz40_2
                          try clear hcz44_0
                          try clear hcz44_1
                          try clear hcz44_2
                          try clear hcz44_3
                          try clear hcz46_0
                          try clear hcz46_1
                          try clear hcz47_0
                          try clear hcz47_1
                          try clear hcz47_2
                          try clear hcz51_0
                          try clear hcz51_1
                          try clear hcz55_0
                          try clear hcz55_1
                          try clear hcz55_2
                          try clear hcz59_0
                          try clear hcz59_1
                          try clear hcz59_2
                          try clear hcz59_3
                          try clear hcz61_0
                          try clear hcz61_1
                          try clear hcz62_0
                          try clear hcz62_1
                          try clear hcz62_2
                          try clear hcz66_0
                          try clear hcz66_1
                          try clear hcz66_2
                          try clear hcz76_0
                          try clear hcz76_1
                          try clear hcz76_2
                          try clear hcz94_0
                          try clear hcz94_1
                          try clear hcz94_2
                          try clear hcz94_3
                          try clear hfz14_0
                          try clear hfz14_1
                          try clear hfz14_2
                          try clear hfz14_3
                          try clear hfz21_0
                          try clear hfz21_1
                          try clear hfz26_0
                          try clear hfz26_1
                          try clear hfz31_0
                          try clear hfz31_1
                          try clear hfz40_0
                          try clear hfz40_1
                          try clear hfz40_2
                          try clear hfz44_0
                          try clear hfz44_1
                          try clear hfz44_2
                          try clear hfz44_3
                          try clear hfz46_0
                          try clear hfz46_1
                          try clear hfz47_0
                          try clear hfz47_1
                          try clear hfz47_2
                          try clear hfz51_0
                          try clear hfz51_1
                          try clear hfz55_0
                          try clear hfz55_1
                          try clear hfz55_2
                          try clear hfz59_0
                          try clear hfz59_1
                          try clear hfz59_2
                          try clear hfz59_3
                          try clear hfz61_0
                          try clear hfz61_1
                          try clear hfz62_0
                          try clear hfz62_1
                          try clear hfz62_2
                          try clear hfz66_0
                          try clear hfz66_1
                          try clear hfz66_2
                          try clear hfz76_0
                          try clear hfz76_1
                          try clear hfz76_2
                          try clear hfz94_0
                          try clear hfz94_1
                          try clear hfz94_2
                          try clear hfz94_3
                          try clear hx112_0
                          try clear hx112_1
                          try clear hx112_2
                          try clear hx120_0
                          try clear hx120_1
                          try clear hx121_0
                          try clear hx121_1
                          try clear p1
                          try clear p11
                          try clear p112
                          try clear p12
                          try clear p120
                          try clear p121
                          try clear p2
                          try clear p6
                          try clear p64
                          try clear q1
                          try clear q11
                          try clear q112
                          try clear q12
                          try clear q120
                          try clear q121
                          obtain ⟨x14_4, x15_4, x87_4, rfl, rfl, HA, HK4, HO_14, BK101, BK102, BK103, BK104, HB⟩ := hrel
                          cases gk with
                          | zero => exact absurd HA.out (by simp [worktime_Adjust.l1])
                          | succ k4 =>
                            have H := HA.out
                            clear HA
                            simp only [worktime_Adjust.l1] at H
                            by_cases c95 : x87_4 < (l0_3.length : Int)
                            · rw [if_pos c95] at H
                              have c95b0 : decide (x87_4 < (l0_3.length : Int)) = true := decide_eq_true c95
                              clear c95
                              by_cases c96 : 0 ≤ x87_4
                              · rw [if_pos c96] at H
                                have c96b0 : decide (0 ≤ x87_4) = true := decide_eq_true c96
                                clear c96
                                by_cases c97 : x87_4 < (l0_3.length : Int)
                                · rw [if_pos c97] at H
                                  have c97b0 : decide (x87_4 < (l0_3.length : Int)) = true := decide_eq_true c97
                                  clear c97
                                  replace H := Option.bind_eq_some_iff.mp H
                                  obtain ⟨t125, A980, H⟩ := H
                                  replace H:(if t125 > ((rd_T60 l0_3 x87_4).f0) then (if x15_4 < ((rd_T60 l0_3 x87_4).f1) then ((worktime_cut.f k4 x14_4 ((rd_T60 l0_3 x87_4).f0) (mn (wrap64 (((rd_T60 l0_3 x87_4).f1) - x15_4)) (wrap64 (t125 - ((rd_T60 l0_3 x87_4).f0))))).bind fun t126=>(worktime_Adjust.l1 k4 t126 (wrap64 (x15_4 + (mn (wrap64 (((rd_T60 l0_3 x87_4).f1) - x15_4)) (wrap64 (t125 - ((rd_T60 l0_3 x87_4).f0)))))) l0_3 (l0_3.length:Int) (wrap64 (x87_4 + 1)) a2_0 a2_1 l2_2)) else (worktime_Adjust.l1 k4 x14_4 x15_4 l0_3 (l0_3.length:Int) (wrap64 (x87_4 + 1)) a2_0 a2_1 l2_2)) else (worktime_Adjust.l1 k4 x14_4 x15_4 l0_3 (l0_3.length:Int) (wrap64 (x87_4 + 1)) a2_0 a2_1 l2_2)) = some (r1,r2,r3):=H
                                  have A98 := Aside0.mk A980
                                  clear A980
                                  by_cases c99 : t125 > ((rd_T60 l0_3 x87_4).f0)
                                  · rw [if_pos c99] at H
                                    have c99b0 : decide (((rd_T60 l0_3 x87_4).f0) < t125) = true := decide_eq_true c99
                                    clear c99
                                    by_cases c100 : x15_4 < ((rd_T60 l0_3 x87_4).f1)
                                    · rw [if_pos c100] at H
                                      have c100b0:decide (x15_4 < ((rd_T60 l0_3 x87_4).f1)) = true:=decide_eq_true c100
                                      clear c100
                                      obtain ⟨ji101,hji101⟩:∃ j_:Int,(mn (wrap64 (((rd_T60 l0_3 x87_4).f1) - x15_4)) (wrap64 (t125 - ((rd_T60 l0_3 x87_4).f0)))) = j_:=⟨_,rfl⟩
                                      replace H:((worktime_cut.f k4 x14_4 ((rd_T60 l0_3 x87_4).f0) (ji101)).bind fun t126=>(worktime_Adjust.l1 k4 t126 (wrap64 (x15_4 + (ji101))) l0_3 (l0_3.length:Int) (wrap64 (x87_4 + 1)) a2_0 a2_1 l2_2)) = some (r1,r2,r3):=by first|(rw[hji101] at H;exact H)|(simp only[hji101] at H ⊢;exact H)
                                      (try rw [hji101] at A98)
                                      have hji101_:(if (wrap64 (t125 - ((rd_T60 l0_3 x87_4).f0))) < (wrap64 (((rd_T60 l0_3 x87_4).f1) - x15_4)) then (wrap64 (t125 - ((rd_T60 l0_3 x87_4).f0))) else (wrap64 (((rd_T60 l0_3 x87_4).f1) - x15_4))) = ji101:=hji101
                                      replace H := Option.bind_eq_some_iff.mp H
                                      obtain ⟨t126, A1020, H⟩ := H
                                      replace H:(worktime_Adjust.l1 k4 t126 (wrap64 (x15_4 + (ji101))) l0_3 (l0_3.length:Int) (wrap64 (x87_4 + 1)) a2_0 a2_1 l2_2) = some (r1,r2,r3):=H
                                      have A102 := Aside0.mk A1020
                                      clear A1020
                                      have H' := Aside0.mk H
                                      clear H
                                      have p123:0≤(x87_4:Int):=of_decide_eq_true (by first|(with_reducible assumption)|assumption)
                                      have q123:x87_4 < (l0_3.length:Int):=of_decide_eq_true (by first|(with_reducible assumption)|assumption)
                                      obtain ⟨ad123, e123, hx123_0, hx123_1⟩ := at_T60 HR0_3.out x87_4 p123 q123
                                      cases e123
                                      replace hx123_0:=(HB.out.cell (World.block_lt_of_cell? w _ hx123_0)).trans hx123_0
                                      replace hx123_1:=(HB.out.cell (World.block_lt_of_cell? w _ hx123_1)).trans hx123_1
                                      replace p123 := eq_true p123
                                      replace q123 := eq_true q123
                                      go_wp2_with (first|((with_reducible refine gate_dst (N:=17) rfl ?_);refine box_event ?hg (N:=17) ?hd (cs:=#[.int .i64 0,.int .i64 0]) (t:=60) ?hr ?_;(case hd=>rfl);(case hg=>rfl);(case hr=>first|(go_simp;done)|(go_simp;rfl));intro gb124 hg w103 hbox hb;have n0_:=Aside0.mk (Kd.R_below (by (with_reducible repeat (first|apply Kd.R_alloc|apply Kd.R_drewN|apply Kd.R_drew));exact HO_14.out) hb);have n1_:=Aside0.mk (blk_below (g:=gb101) (o:=.cells #[.int .i64 a0_0,.int .i64 a0_1,.int .i64 a0_2,.slice (some ad123) l0_3.length c0_3] 35 (0,0)) (by (with_reducible repeat (first|refine blk_drewN ?_ _|refine blk_drew ?_|refine blk_alloc ?_ _));exact BK101.out) hb);have n2_:=Aside0.mk (blk_below (g:=gb102) (o:=.cells #[.int .i64 a1_0,.int .i64 a1_1] 41 (0,0)) (by (with_reducible repeat (first|refine blk_drewN ?_ _|refine blk_drew ?_|refine blk_alloc ?_ _));exact BK102.out) hb);have n3_:=Aside0.mk (blk_below (g:=gb103) (o:=.cells #[.int .i64 a2_0,.int .i64 a2_1,.slice A2_2 l2_2.length c2_2] 39 (0,0)) (by (with_reducible repeat (first|refine blk_drewN ?_ _|refine blk_drew ?_|refine blk_alloc ?_ _));exact BK103.out) hb);have n4_:=Aside0.mk (blk_below (g:=gb104) (o:=.cells #[.int .i64 0,.slice none 0 0] 30 (0,0)) (by (with_reducible repeat (first|refine blk_drewN ?_ _|refine blk_drew ?_|refine blk_alloc ?_ _));exact BK104.out) hb);have n5_:=Aside0.mk (below_step (by repeat (first|(with_reducible first|exact HB.out|apply below_alloc|apply pw_below_drewN|apply below_drew1|refine below_set ?_ GE101.out|refine below_set ?_ GE102.out|refine below_set ?_ GE103.out|refine below_set ?_ GE104.out)|exact HB.out)) hb);have n6_:=Aside0.mk (hbox);have n7_:=Aside0.mk ((by rw[hg];exact(below_size (by repeat (first|(with_reducible first|exact HB.out|apply below_alloc|apply pw_below_drewN|apply below_drew1|refine below_set ?_ GE101.out|refine below_set ?_ GE102.out|refine below_set ?_ GE103.out|refine below_set ?_ GE104.out)|exact HB.out))):w.heap.size≤gb124));have n8_:=Aside0.mk ((by rw[hg];exact(below_size (by repeat (first|(with_reducible first|exact HB.out|apply below_alloc|apply pw_below_drewN|apply below_drew1|refine below_set ?_ GE101.out|refine below_set ?_ GE102.out|refine below_set ?_ GE103.out|refine below_set ?_ GE104.out)|exact HB.out))):w.heap.size≤gb124));have n9_:=Aside0.mk ((by rw[hg];exact Nat.ne_of_lt (blk_lt (g:=gb101) (o:=.cells #[.int .i64 a0_0,.int .i64 a0_1,.int .i64 a0_2,.slice (some ad123) l0_3.length c0_3] 35 (0,0)) (by (with_reducible repeat (first|refine blk_drewN ?_ _|refine blk_drew ?_|refine blk_alloc ?_ _));exact BK101.out)):gb101≠gb124));have n10_:=Aside0.mk ((by rw[hg];exact Nat.ne_of_gt (blk_lt (g:=gb101) (o:=.cells #[.int .i64 a0_0,.int .i64 a0_1,.int .i64 a0_2,.slice (some ad123) l0_3.length c0_3] 35 (0,0)) (by (with_reducible repeat (first|refine blk_drewN ?_ _|refine blk_drew ?_|refine blk_alloc ?_ _));exact BK101.out)):gb124≠gb101));have n11_:=Aside0.mk ((by rw[hg];exact Nat.ne_of_lt (blk_lt (g:=gb102) (o:=.cells #[.int .i64 a1_0,.int .i64 a1_1] 41 (0,0)) (by (with_reducible repeat (first|refine blk_drewN ?_ _|refine blk_drew ?_|refine blk_alloc ?_ _));exact BK102.out)):gb102≠gb124));have n12_:=Aside0.mk ((by rw[hg];exact Nat.ne_of_gt (blk_lt (g:=gb102) (o:=.cells #[.int .i64 a1_0,.int .i64 a1_1] 41 (0,0)) (by (with_reducible repeat (first|refine blk_drewN ?_ _|refine blk_drew ?_|refine blk_alloc ?_ _));exact BK102.out)):gb124≠gb102));have n13_:=Aside0.mk ((by rw[hg];exact Nat.ne_of_lt (blk_lt (g:=gb103) (o:=.cells #[.int .i64 a2_0,.int .i64 a2_1,.slice A2_2 l2_2.length c2_2] 39 (0,0)) (by (with_reducible repeat (first|refine blk_drewN ?_ _|refine blk_drew ?_|refine blk_alloc ?_ _));exact BK103.out)):gb103≠gb124));have n14_:=Aside0.mk ((by rw[hg];exact Nat.ne_of_gt (blk_lt (g:=gb103) (o:=.cells #[.int .i64 a2_0,.int .i64 a2_1,.slice A2_2 l2_2.length c2_2] 39 (0,0)) (by (with_reducible repeat (first|refine blk_drewN ?_ _|refine blk_drew ?_|refine blk_alloc ?_ _));exact BK103.out)):gb124≠gb103));have n15_:=Aside0.mk ((by rw[hg];exact Nat.ne_of_lt (blk_lt (g:=gb104) (o:=.cells #[.int .i64 0,.slice none 0 0] 30 (0,0)) (by (with_reducible repeat (first|refine blk_drewN ?_ _|refine blk_drew ?_|refine blk_alloc ?_ _));exact BK104.out)):gb104≠gb124));have n16_:=Aside0.mk ((by rw[hg];exact Nat.ne_of_gt (blk_lt (g:=gb104) (o:=.cells #[.int .i64 0,.slice none 0 0] 30 (0,0)) (by (with_reducible repeat (first|refine blk_drewN ?_ _|refine blk_drew ?_|refine blk_alloc ?_ _));exact BK104.out)):gb124≠gb104));clear HO_14;clear BK101;clear BK102;clear BK103;clear BK104;clear HB;have HO_14:=n0_;have BK101:=n1_;have BK102:=n2_;have BK103:=n3_;have BK104:=n4_;have HB:=n5_;have BK124:=n6_;have GW124:=n7_;have GE124:=n8_;have NB101_124:=n9_;have NB124_101:=n10_;have NB102_124:=n11_;have NB124_102:=n12_;have NB103_124:=n13_;have NB124_103:=n14_;have NB104_124:=n15_;have NB124_104:=n16_;clear n0_ n1_ n2_ n3_ n4_ n5_ n6_ n7_ n8_ n9_ n10_ n11_ n12_ n13_ n14_ n15_ n16_;clear hb hbox hg;have hnb104:=NB124_101.out;have hnc104:=NB101_124.out;have hnb105:=NB124_102.out;have hnc105:=NB102_124.out;have hnb106:=NB124_103.out;have hnc106:=NB103_124.out;have hnb107:=NB124_104.out;have hnc107:=NB104_124.out;have hcz108_0:w103.cell? ⟨gb124,0,none⟩ = some (.int .i64 0):=(blk_cell BK124.out 0).trans rfl;have hcz108_1:w103.cell? ⟨gb124,1,none⟩ = some (.int .i64 0):=(blk_cell BK124.out 1).trans rfl;have hfz108_0:=blk_frozen BK124.out 0;have hfz108_1:=blk_frozen BK124.out 1;obtain ⟨Ao109,co109,eo109⟩:=Kd.R_slice HO_14.out;subst eo109)|((with_reducible refine gate_callee (f:=26) rfl ?_);refine goesL_ (some 92) rfl rfl Try.func26 (by kernel_rfl) rfl #[.slice Ao109 x14_4.length co109] rfl (by (try simp only[List.map_toArray,List.map_cons,List.map_nil]);first|done|rfl|(simp only[List.length_drop,List.length_take];rfl)) ?_;(with_reducible refine(worktime_total.calls k4 _ _ x14_4 t125 _ ?side1 ?side2 A98.out).mono ?_);(case side1=>refine(Kd.R_reads' (e:=41) (base:=w.heap.size) (ok:=fun k_=>k_≠gb102) (n:=x14_4.length) (c:=co109) ?_).2.2;exact(by (with_reducible repeat (first|apply Kd.R_alloc|apply Kd.R_drewN|apply Kd.R_drew));exact(Kd.R_mono (Kd.R_far (p:=⟨gb124,1,none⟩) (Kd.R_far (p:=⟨gb124,0,none⟩) (Kd.R_types HO_14.out BK124.out (by decide)) (fun _ hk=>hk.2) (.int .i64 ((rd_T60 l0_3 x87_4).f0))) (fun _ hk=>hk.2) (.int .i64 ((rd_T60 l0_3 x87_4).f1))) (fun _ h_=>h_.1))));(case side2=>exact(Kd.R_reads' HO_14.out).2.1);rintro e w110 ⟨rfl,hb⟩;refine⟨_,rfl,?_⟩;have n0_:=Aside0.mk (Kd.R_below (by (with_reducible repeat (first|apply Kd.R_alloc|apply Kd.R_drewN|apply Kd.R_drew));exact(Kd.R_mono (Kd.R_far (p:=⟨gb124,1,none⟩) (Kd.R_far (p:=⟨gb124,0,none⟩) (Kd.R_types HO_14.out BK124.out (by decide)) (fun _ hk=>hk.2) (.int .i64 ((rd_T60 l0_3 x87_4).f0))) (fun _ hk=>hk.2) (.int .i64 ((rd_T60 l0_3 x87_4).f1))) (fun _ h_=>h_.1))) hb);have n1_:=Aside0.mk (blk_below (g:=gb101) (o:=.cells #[.int .i64 a0_0,.int .i64 a0_1,.int .i64 a0_2,.slice (some ad123) l0_3.length c0_3] 35 (0,0)) (by (with_reducible repeat (first|refine blk_drewN ?_ _|refine blk_drew ?_|refine blk_alloc ?_ _));refine blk_far ?_ NB101_124.out _;(with_reducible repeat (first|refine blk_drewN ?_ _|refine blk_drew ?_|refine blk_alloc ?_ _));refine blk_far ?_ NB101_124.out _;(with_reducible repeat (first|refine blk_drewN ?_ _|refine blk_drew ?_|refine blk_alloc ?_ _));exact BK101.out) hb);have n2_:=Aside0.mk (blk_below (g:=gb102) (o:=.cells #[.int .i64 a1_0,.int .i64 a1_1] 41 (0,0)) (by (with_reducible repeat (first|refine blk_drewN ?_ _|refine blk_drew ?_|refine blk_alloc ?_ _));refine blk_far ?_ NB102_124.out _;(with_reducible repeat (first|refine blk_drewN ?_ _|refine blk_drew ?_|refine blk_alloc ?_ _));refine blk_far ?_ NB102_124.out _;(with_reducible repeat (first|refine blk_drewN ?_ _|refine blk_drew ?_|refine blk_alloc ?_ _));exact BK102.out) hb);have n3_:=Aside0.mk (blk_below (g:=gb103) (o:=.cells #[.int .i64 a2_0,.int .i64 a2_1,.slice A2_2 l2_2.length c2_2] 39 (0,0)) (by (with_reducible repeat (first|refine blk_drewN ?_ _|refine blk_drew ?_|refine blk_alloc ?_ _));refine blk_far ?_ NB103_124.out _;(with_reducible repeat (first|refine blk_drewN ?_ _|refine blk_drew ?_|refine blk_alloc ?_ _));refine blk_far ?_ NB103_124.out _;(with_reducible repeat (first|refine blk_drewN ?_ _|refine blk_drew ?_|refine blk_alloc ?_ _));exact BK103.out) hb);have n4_:=Aside0.mk (blk_below (g:=gb104) (o:=.cells #[.int .i64 0,.slice none 0 0] 30 (0,0)) (by (with_reducible repeat (first|refine blk_drewN ?_ _|refine blk_drew ?_|refine blk_alloc ?_ _));refine blk_far ?_ NB104_124.out _;(with_reducible repeat (first|refine blk_drewN ?_ _|refine blk_drew ?_|refine blk_alloc ?_ _));refine blk_far ?_ NB104_124.out _;(with_reducible repeat (first|refine blk_drewN ?_ _|refine blk_drew ?_|refine blk_alloc ?_ _));exact BK104.out) hb);have n5_:=Aside0.mk (blk_below (g:=gb124) (o:=.cells #[.int .i64 ((rd_T60 l0_3 x87_4).f0),.int .i64 ((rd_T60 l0_3 x87_4).f1)] 60 (0,0)) (by (with_reducible repeat (first|refine blk_drewN ?_ _|refine blk_drew ?_|refine blk_alloc ?_ _));refine blk_put (cs:=#[.int .i64 ((rd_T60 l0_3 x87_4).f0),.int .i64 0]) ?_ 1 _ rfl;(with_reducible repeat (first|refine blk_drewN ?_ _|refine blk_drew ?_|refine blk_alloc ?_ _));refine blk_put (cs:=#[.int .i64 0,.int .i64 0]) ?_ 0 _ rfl;(with_reducible repeat (first|refine blk_drewN ?_ _|refine blk_drew ?_|refine blk_alloc ?_ _));exact BK124.out) hb);have n6_:=Aside0.mk (below_step (by repeat (first|(with_reducible first|exact HB.out|apply below_alloc|apply pw_below_drewN|apply below_drew1|refine below_set ?_ GE101.out|refine below_set ?_ GE102.out|refine below_set ?_ GE103.out|refine below_set ?_ GE104.out|refine below_set ?_ GE124.out)|exact HB.out)) hb);clear HO_14;clear BK101;clear BK102;clear BK103;clear BK104;clear BK124;clear HB;have HO_14:=n0_;have BK101:=n1_;have BK102:=n2_;have BK103:=n3_;have BK104:=n4_;have BK124:=n5_;have HB:=n6_;clear n0_ n1_ n2_ n3_ n4_ n5_ n6_;(try clear hb);(try clear hb2);(try clear hk);(try clear hi);have hcz111_0:w110.cell? ⟨gb124,0,none⟩ = some (.int .i64 ((rd_T60 l0_3 x87_4).f0)):=(blk_cell BK124.out 0).trans rfl;have hcz111_1:w110.cell? ⟨gb124,1,none⟩ = some (.int .i64 ((rd_T60 l0_3 x87_4).f1)):=(blk_cell BK124.out 1).trans rfl;have hfz111_0:=blk_frozen BK124.out 0;have hfz111_1:=blk_frozen BK124.out 1)|((with_reducible refine gate_callee (f:=28) rfl ?_);refine goesL_ (some 116) rfl rfl Try.func28 (by kernel_rfl) rfl #[.slice Ao109 x14_4.length co109,.int .i64 ((rd_T60 l0_3 x87_4).f0),.int .i64 ji101] rfl (by (try simp only[List.map_toArray,List.map_cons,List.map_nil]);first|done|(simp only[hji101];rfl)|rfl|(simp only[List.length_drop,List.length_take];rfl)) ?_;(with_reducible refine(worktime_cut.calls k4 _ _ x14_4 ((rd_T60 l0_3 x87_4).f0) ji101 t126 _ ?side1 ?side2 A102.out).mono ?_);(case side1=>repeat (first|exact(Kd.R_reads' HO_14.out).2.2|(with_reducible refine Kd.C_alloc ?_ _)|(with_reducible refine Kd.C_drewN ?_ _)|(with_reducible refine Kd.C_drew ?_)));(case side2=>exact(Kd.R_reads' HO_14.out).2.1);rintro e w112 ⟨v127,rfl,ho0,hb⟩;refine⟨_,rfl,?_⟩;have n0_:=Aside0.mk (Kd.R_elder' (by (with_reducible repeat (first|apply Kd.R_alloc|apply Kd.R_drewN|apply Kd.R_drew));exact HO_14.out) (Kd.R_base ho0) hb);have n1_:=Aside0.mk (Kd.R_lower (Kd.R_newB (Kd.R_new' ho0 (Kd.R_lt (by (with_reducible repeat (first|apply Kd.R_alloc|apply Kd.R_drewN|apply Kd.R_drew));exact HO_14.out))) (g:=gb102) (o:=.cells #[.int .i64 a1_0,.int .i64 a1_1] 41 (0,0)) (by (with_reducible repeat (first|refine blk_drewN ?_ _|refine blk_drew ?_|refine blk_alloc ?_ _));exact BK102.out)) (below_size (by repeat (first|(with_reducible first|exact HB.out|apply below_alloc|apply pw_below_drewN|apply below_drew1|refine below_set ?_ GE101.out|refine below_set ?_ GE102.out|refine below_set ?_ GE103.out|refine below_set ?_ GE104.out|refine below_set ?_ GE124.out)|exact HB.out))));have n2_:=Aside0.mk (blk_below (g:=gb101) (o:=.cells #[.int .i64 a0_0,.int .i64 a0_1,.int .i64 a0_2,.slice (some ad123) l0_3.length c0_3] 35 (0,0)) (by (with_reducible repeat (first|refine blk_drewN ?_ _|refine blk_drew ?_|refine blk_alloc ?_ _));exact BK101.out) hb);have n3_:=Aside0.mk (blk_below (g:=gb102) (o:=.cells #[.int .i64 a1_0,.int .i64 a1_1] 41 (0,0)) (by (with_reducible repeat (first|refine blk_drewN ?_ _|refine blk_drew ?_|refine blk_alloc ?_ _));exact BK102.out) hb);have n4_:=Aside0.mk (blk_below (g:=gb103) (o:=.cells #[.int .i64 a2_0,.int .i64 a2_1,.slice A2_2 l2_2.length c2_2] 39 (0,0)) (by (with_reducible repeat (first|refine blk_drewN ?_ _|refine blk_drew ?_|refine blk_alloc ?_ _));exact BK103.out) hb);have n5_:=Aside0.mk (blk_below (g:=gb104) (o:=.cells #[.int .i64 0,.slice none 0 0] 30 (0,0)) (by (with_reducible repeat (first|refine blk_drewN ?_ _|refine blk_drew ?_|refine blk_alloc ?_ _));exact BK104.out) hb);have n6_:=Aside0.mk (blk_below (g:=gb124) (o:=.cells #[.int .i64 ((rd_T60 l0_3 x87_4).f0),.int .i64 ((rd_T60 l0_3 x87_4).f1)] 60 (0,0)) (by (with_reducible repeat (first|refine blk_drewN ?_ _|refine blk_drew ?_|refine blk_alloc ?_ _));exact BK124.out) hb);have n7_:=Aside0.mk (below_step (by repeat (first|(with_reducible first|exact HB.out|apply below_alloc|apply pw_below_drewN|apply below_drew1|refine below_set ?_ GE101.out|refine below_set ?_ GE102.out|refine below_set ?_ GE103.out|refine below_set ?_ GE104.out|refine below_set ?_ GE124.out)|exact HB.out)) hb);clear HO_14;clear BK101;clear BK102;clear BK103;clear BK104;clear BK124;clear HB;have HO_14:=n0_;have HO128:=n1_;have BK101:=n2_;have BK102:=n3_;have BK103:=n4_;have BK104:=n5_;have BK124:=n6_;have HB:=n7_;clear n0_ n1_ n2_ n3_ n4_ n5_ n6_ n7_;(try clear hb);(try clear hb2);(try clear hk);(try clear hi);(try clear ho0)))
                                      go_roundg k4
                                      case measure=>have:=HJ5.out;have:=HK2.out;have:=HJ78.out;have:=HK4.out;omega
                                      case rel=>exact⟨(t126),(wrap64 (x15_4 + (ji101))),(wrap64 (x87_4 + 1)),(by first|rfl|(simp;done)|(simp only[← hji101] <;> (first|rfl|simp))|(simp[*];done)),(by first|rfl|(simp;done)|(simp[*];done)),H',⟨by have:=HJ5.out;have:=HK2.out;have:=HJ78.out;have:=HK4.out;omega⟩,⟨by (with_reducible repeat (first|apply Kd.R_alloc|apply Kd.R_drewN|apply Kd.R_drew));exact Kd.R_mono HO128.out (fun _ hk=>hk.2)⟩,⟨by (with_reducible repeat (first|refine blk_drewN ?_ _|refine blk_drew ?_|refine blk_alloc ?_ _));exact BK101.out⟩,⟨by (with_reducible repeat (first|refine blk_drewN ?_ _|refine blk_drew ?_|refine blk_alloc ?_ _));exact BK102.out⟩,⟨by (with_reducible repeat (first|refine blk_drewN ?_ _|refine blk_drew ?_|refine blk_alloc ?_ _));exact BK103.out⟩,⟨by (with_reducible repeat (first|refine blk_drewN ?_ _|refine blk_drew ?_|refine blk_alloc ?_ _));exact BK104.out⟩,⟨by repeat (first|(with_reducible first|exact HB.out|apply below_alloc|apply pw_below_drewN|apply below_drew1|refine below_set ?_ GE101.out|refine below_set ?_ GE102.out|refine below_set ?_ GE103.out|refine below_set ?_ GE104.out|refine below_set ?_ GE124.out)|exact HB.out)⟩⟩
                                    · rw [if_neg c100] at H
                                      have c100b0:decide (x15_4 < ((rd_T60 l0_3 x87_4).f1)) = false:=decide_eq_false c100
                                      clear c100
                                      have H' := Aside0.mk H
                                      clear H
                                      have p123:0≤(x87_4:Int):=of_decide_eq_true (by first|(with_reducible assumption)|assumption)
                                      have q123:x87_4 < (l0_3.length:Int):=of_decide_eq_true (by first|(with_reducible assumption)|assumption)
                                      obtain ⟨ad123, e123, hx123_0, hx123_1⟩ := at_T60 HR0_3.out x87_4 p123 q123
                                      cases e123
                                      replace hx123_0:=(HB.out.cell (World.block_lt_of_cell? w _ hx123_0)).trans hx123_0
                                      replace hx123_1:=(HB.out.cell (World.block_lt_of_cell? w _ hx123_1)).trans hx123_1
                                      replace p123 := eq_true p123
                                      replace q123 := eq_true q123
                                      go_wp2_with (first|((with_reducible refine gate_dst (N:=17) rfl ?_);refine box_event ?hg (N:=17) ?hd (cs:=#[.int .i64 0,.int .i64 0]) (t:=60) ?hr ?_;(case hd=>rfl);(case hg=>rfl);(case hr=>first|(go_simp;done)|(go_simp;rfl));intro gb124 hg w113 hbox hb;have n0_:=Aside0.mk (Kd.R_below (by (with_reducible repeat (first|apply Kd.R_alloc|apply Kd.R_drewN|apply Kd.R_drew));exact HO_14.out) hb);have n1_:=Aside0.mk (blk_below (g:=gb101) (o:=.cells #[.int .i64 a0_0,.int .i64 a0_1,.int .i64 a0_2,.slice (some ad123) l0_3.length c0_3] 35 (0,0)) (by (with_reducible repeat (first|refine blk_drewN ?_ _|refine blk_drew ?_|refine blk_alloc ?_ _));exact BK101.out) hb);have n2_:=Aside0.mk (blk_below (g:=gb102) (o:=.cells #[.int .i64 a1_0,.int .i64 a1_1] 41 (0,0)) (by (with_reducible repeat (first|refine blk_drewN ?_ _|refine blk_drew ?_|refine blk_alloc ?_ _));exact BK102.out) hb);have n3_:=Aside0.mk (blk_below (g:=gb103) (o:=.cells #[.int .i64 a2_0,.int .i64 a2_1,.slice A2_2 l2_2.length c2_2] 39 (0,0)) (by (with_reducible repeat (first|refine blk_drewN ?_ _|refine blk_drew ?_|refine blk_alloc ?_ _));exact BK103.out) hb);have n4_:=Aside0.mk (blk_below (g:=gb104) (o:=.cells #[.int .i64 0,.slice none 0 0] 30 (0,0)) (by (with_reducible repeat (first|refine blk_drewN ?_ _|refine blk_drew ?_|refine blk_alloc ?_ _));exact BK104.out) hb);have n5_:=Aside0.mk (below_step (by repeat (first|(with_reducible first|exact HB.out|apply below_alloc|apply pw_below_drewN|apply below_drew1|refine below_set ?_ GE101.out|refine below_set ?_ GE102.out|refine below_set ?_ GE103.out|refine below_set ?_ GE104.out)|exact HB.out)) hb);have n6_:=Aside0.mk (hbox);have n7_:=Aside0.mk ((by rw[hg];exact(below_size (by repeat (first|(with_reducible first|exact HB.out|apply below_alloc|apply pw_below_drewN|apply below_drew1|refine below_set ?_ GE101.out|refine below_set ?_ GE102.out|refine below_set ?_ GE103.out|refine below_set ?_ GE104.out)|exact HB.out))):w.heap.size≤gb124));have n8_:=Aside0.mk ((by rw[hg];exact(below_size (by repeat (first|(with_reducible first|exact HB.out|apply below_alloc|apply pw_below_drewN|apply below_drew1|refine below_set ?_ GE101.out|refine below_set ?_ GE102.out|refine below_set ?_ GE103.out|refine below_set ?_ GE104.out)|exact HB.out))):w.heap.size≤gb124));have n9_:=Aside0.mk ((by rw[hg];exact Nat.ne_of_lt (blk_lt (g:=gb101) (o:=.cells #[.int .i64 a0_0,.int .i64 a0_1,.int .i64 a0_2,.slice (some ad123) l0_3.length c0_3] 35 (0,0)) (by (with_reducible repeat (first|refine blk_drewN ?_ _|refine blk_drew ?_|refine blk_alloc ?_ _));exact BK101.out)):gb101≠gb124));have n10_:=Aside0.mk ((by rw[hg];exact Nat.ne_of_gt (blk_lt (g:=gb101) (o:=.cells #[.int .i64 a0_0,.int .i64 a0_1,.int .i64 a0_2,.slice (some ad123) l0_3.length c0_3] 35 (0,0)) (by (with_reducible repeat (first|refine blk_drewN ?_ _|refine blk_drew ?_|refine blk_alloc ?_ _));exact BK101.out)):gb124≠gb101));have n11_:=Aside0.mk ((by rw[hg];exact Nat.ne_of_lt (blk_lt (g:=gb102) (o:=.cells #[.int .i64 a1_0,.int .i64 a1_1] 41 (0,0)) (by (with_reducible repeat (first|refine blk_drewN ?_ _|refine blk_drew ?_|refine blk_alloc ?_ _));exact BK102.out)):gb102≠gb124));have n12_:=Aside0.mk ((by rw[hg];exact Nat.ne_of_gt (blk_lt (g:=gb102) (o:=.cells #[.int .i64 a1_0,.int .i64 a1_1] 41 (0,0)) (by (with_reducible repeat (first|refine blk_drewN ?_ _|refine blk_drew ?_|refine blk_alloc ?_ _));exact BK102.out)):gb124≠gb102));have n13_:=Aside0.mk ((by rw[hg];exact Nat.ne_of_lt (blk_lt (g:=gb103) (o:=.cells #[.int .i64 a2_0,.int .i64 a2_1,.slice A2_2 l2_2.length c2_2] 39 (0,0)) (by (with_reducible repeat (first|refine blk_drewN ?_ _|refine blk_drew ?_|refine blk_alloc ?_ _));exact BK103.out)):gb103≠gb124));have n14_:=Aside0.mk ((by rw[hg];exact Nat.ne_of_gt (blk_lt (g:=gb103) (o:=.cells #[.int .i64 a2_0,.int .i64 a2_1,.slice A2_2 l2_2.length c2_2] 39 (0,0)) (by (with_reducible repeat (first|refine blk_drewN ?_ _|refine blk_drew ?_|refine blk_alloc ?_ _));exact BK103.out)):gb124≠gb103));have n15_:=Aside0.mk ((by rw[hg];exact Nat.ne_of_lt (blk_lt (g:=gb104) (o:=.cells #[.int .i64 0,.slice none 0 0] 30 (0,0)) (by (with_reducible repeat (first|refine blk_drewN ?_ _|refine blk_drew ?_|refine blk_alloc ?_ _));exact BK104.out)):gb104≠gb124));have n16_:=Aside0.mk ((by rw[hg];exact Nat.ne_of_gt (blk_lt (g:=gb104) (o:=.cells #[.int .i64 0,.slice none 0 0] 30 (0,0)) (by (with_reducible repeat (first|refine blk_drewN ?_ _|refine blk_drew ?_|refine blk_alloc ?_ _));exact BK104.out)):gb124≠gb104));clear HO_14;clear BK101;clear BK102;clear BK103;clear BK104;clear HB;have HO_14:=n0_;have BK101:=n1_;have BK102:=n2_;have BK103:=n3_;have BK104:=n4_;have HB:=n5_;have BK124:=n6_;have GW124:=n7_;have GE124:=n8_;have NB101_124:=n9_;have NB124_101:=n10_;have NB102_124:=n11_;have NB124_102:=n12_;have NB103_124:=n13_;have NB124_103:=n14_;have NB104_124:=n15_;have NB124_104:=n16_;clear n0_ n1_ n2_ n3_ n4_ n5_ n6_ n7_ n8_ n9_ n10_ n11_ n12_ n13_ n14_ n15_ n16_;clear hb hbox hg;have hnb114:=NB124_101.out;have hnc114:=NB101_124.out;have hnb115:=NB124_102.out;have hnc115:=NB102_124.out;have hnb116:=NB124_103.out;have hnc116:=NB103_124.out;have hnb117:=NB124_104.out;have hnc117:=NB104_124.out;have hcz118_0:w113.cell? ⟨gb124,0,none⟩ = some (.int .i64 0):=(blk_cell BK124.out 0).trans rfl;have hcz118_1:w113.cell? ⟨gb124,1,none⟩ = some (.int .i64 0):=(blk_cell BK124.out 1).trans rfl;have hfz118_0:=blk_frozen BK124.out 0;have hfz118_1:=blk_frozen BK124.out 1;obtain ⟨Ao119,co119,eo119⟩:=Kd.R_slice HO_14.out;subst eo119)|((with_reducible refine gate_callee (f:=26) rfl ?_);refine goesL_ (some 92) rfl rfl Try.func26 (by kernel_rfl) rfl #[.slice Ao119 x14_4.length co119] rfl (by (try simp only[List.map_toArray,List.map_cons,List.map_nil]);first|done|rfl|(simp only[List.length_drop,List.length_take];rfl)) ?_;(with_reducible refine(worktime_total.calls k4 _ _ x14_4 t125 _ ?side1 ?side2 A98.out).mono ?_);(case side1=>refine(Kd.R_reads' (e:=41) (base:=w.heap.size) (ok:=fun k_=>k_≠gb102) (n:=x14_4.length) (c:=co119) ?_).2.2;exact(by (with_reducible repeat (first|apply Kd.R_alloc|apply Kd.R_drewN|apply Kd.R_drew));exact(Kd.R_mono (Kd.R_far (p:=⟨gb124,1,none⟩) (Kd.R_far (p:=⟨gb124,0,none⟩) (Kd.R_types HO_14.out BK124.out (by decide)) (fun _ hk=>hk.2) (.int .i64 ((rd_T60 l0_3 x87_4).f0))) (fun _ hk=>hk.2) (.int .i64 ((rd_T60 l0_3 x87_4).f1))) (fun _ h_=>h_.1))));(case side2=>exact(Kd.R_reads' HO_14.out).2.1);rintro e w120 ⟨rfl,hb⟩;refine⟨_,rfl,?_⟩;have n0_:=Aside0.mk (Kd.R_below (by (with_reducible repeat (first|apply Kd.R_alloc|apply Kd.R_drewN|apply Kd.R_drew));exact(Kd.R_mono (Kd.R_far (p:=⟨gb124,1,none⟩) (Kd.R_far (p:=⟨gb124,0,none⟩) (Kd.R_types HO_14.out BK124.out (by decide)) (fun _ hk=>hk.2) (.int .i64 ((rd_T60 l0_3 x87_4).f0))) (fun _ hk=>hk.2) (.int .i64 ((rd_T60 l0_3 x87_4).f1))) (fun _ h_=>h_.1))) hb);have n1_:=Aside0.mk (blk_below (g:=gb101) (o:=.cells #[.int .i64 a0_0,.int .i64 a0_1,.int .i64 a0_2,.slice (some ad123) l0_3.length c0_3] 35 (0,0)) (by (with_reducible repeat (first|refine blk_drewN ?_ _|refine blk_drew ?_|refine blk_alloc ?_ _));refine blk_far ?_ NB101_124.out _;(with_reducible repeat (first|refine blk_drewN ?_ _|refine blk_drew ?_|refine blk_alloc ?_ _));refine blk_far ?_ NB101_124.out _;(with_reducible repeat (first|refine blk_drewN ?_ _|refine blk_drew ?_|refine blk_alloc ?_ _));exact BK101.out) hb);have n2_:=Aside0.mk (blk_below (g:=gb102) (o:=.cells #[.int .i64 a1_0,.int .i64 a1_1] 41 (0,0)) (by (with_reducible repeat (first|refine blk_drewN ?_ _|refine blk_drew ?_|refine blk_alloc ?_ _));refine blk_far ?_ NB102_124.out _;(with_reducible repeat (first|refine blk_drewN ?_ _|refine blk_drew ?_|refine blk_alloc ?_ _));refine blk_far ?_ NB102_124.out _;(with_reducible repeat (first|refine blk_drewN ?_ _|refine blk_drew ?_|refine blk_alloc ?_ _));exact BK102.out) hb);have n3_:=Aside0.mk (blk_below (g:=gb103) (o:=.cells #[.int .i64 a2_0,.int .i64 a2_1,.slice A2_2 l2_2.length c2_2] 39 (0,0)) (by (with_reducible repeat (first|refine blk_drewN ?_ _|refine blk_drew ?_|refine blk_alloc ?_ _));refine blk_far ?_ NB103_124.out _;(with_reducible repeat (first|refine blk_drewN ?_ _|refine blk_drew ?_|refine blk_alloc ?_ _));refine blk_far ?_ NB103_124.out _;(with_reducible repeat (first|refine blk_drewN ?_ _|refine blk_drew ?_|refine blk_alloc ?_ _));exact BK103.out) hb);have n4_:=Aside0.mk (blk_below (g:=gb104) (o:=.cells #[.int .i64 0,.slice none 0 0] 30 (0,0)) (by (with_reducible repeat (first|refine blk_drewN ?_ _|refine blk_drew ?_|refine blk_alloc ?_ _));refine blk_far ?_ NB104_124.out _;(with_reducible repeat (first|refine blk_drewN ?_ _|refine blk_drew ?_|refine blk_alloc ?_ _));refine blk_far ?_ NB104_124.out _;(with_reducible repeat (first|refine blk_drewN ?_ _|refine blk_drew ?_|refine blk_alloc ?_ _));exact BK104.out) hb);have n5_:=Aside0.mk (blk_below (g:=gb124) (o:=.cells #[.int .i64 ((rd_T60 l0_3 x87_4).f0),.int .i64 ((rd_T60 l0_3 x87_4).f1)] 60 (0,0)) (by (with_reducible repeat (first|refine blk_drewN ?_ _|refine blk_drew ?_|refine blk_alloc ?_ _));refine blk_put (cs:=#[.int .i64 ((rd_T60 l0_3 x87_4).f0),.int .i64 0]) ?_ 1 _ rfl;(with_reducible repeat (first|refine blk_drewN ?_ _|refine blk_drew ?_|refine blk_alloc ?_ _));refine blk_put (cs:=#[.int .i64 0,.int .i64 0]) ?_ 0 _ rfl;(with_reducible repeat (first|refine blk_drewN ?_ _|refine blk_drew ?_|refine blk_alloc ?_ _));exact BK124.out) hb);have n6_:=Aside0.mk (below_step (by repeat (first|(with_reducible first|exact HB.out|apply below_alloc|apply pw_below_drewN|apply below_drew1|refine below_set ?_ GE101.out|refine below_set ?_ GE102.out|refine below_set ?_ GE103.out|refine below_set ?_ GE104.out|refine below_set ?_ GE124.out)|exact HB.out)) hb);clear HO_14;clear BK101;clear BK102;clear BK103;clear BK104;clear BK124;clear HB;have HO_14:=n0_;have BK101:=n1_;have BK102:=n2_;have BK103:=n3_;have BK104:=n4_;have BK124:=n5_;have HB:=n6_;clear n0_ n1_ n2_ n3_ n4_ n5_ n6_;(try clear hb);(try clear hb2);(try clear hk);(try clear hi);have hcz121_0:w120.cell? ⟨gb124,0,none⟩ = some (.int .i64 ((rd_T60 l0_3 x87_4).f0)):=(blk_cell BK124.out 0).trans rfl;have hcz121_1:w120.cell? ⟨gb124,1,none⟩ = some (.int .i64 ((rd_T60 l0_3 x87_4).f1)):=(blk_cell BK124.out 1).trans rfl;have hfz121_0:=blk_frozen BK124.out 0;have hfz121_1:=blk_frozen BK124.out 1))
                                      go_roundg k4
                                      case measure=>have:=HJ5.out;have:=HK2.out;have:=HJ78.out;have:=HK4.out;omega
                                      case rel=>exact⟨(x14_4),(x15_4),(wrap64 (x87_4 + 1)),(by first|rfl|(simp;done)|(simp[*];done)),(by first|rfl|(simp;done)|(simp[*];done)),H',⟨by have:=HJ5.out;have:=HK2.out;have:=HJ78.out;have:=HK4.out;omega⟩,⟨by (with_reducible repeat (first|apply Kd.R_alloc|apply Kd.R_drewN|apply Kd.R_drew));exact HO_14.out⟩,⟨by (with_reducible repeat (first|refine blk_drewN ?_ _|refine blk_drew ?_|refine blk_alloc ?_ _));exact BK101.out⟩,⟨by (with_reducible repeat (first|refine blk_drewN ?_ _|refine blk_drew ?_|refine blk_alloc ?_ _));exact BK102.out⟩,⟨by (with_reducible repeat (first|refine blk_drewN ?_ _|refine blk_drew ?_|refine blk_alloc ?_ _));exact BK103.out⟩,⟨by (with_reducible repeat (first|refine blk_drewN ?_ _|refine blk_drew ?_|refine blk_alloc ?_ _));exact BK104.out⟩,⟨by repeat (first|(with_reducible first|exact HB.out|apply below_alloc|apply pw_below_drewN|apply below_drew1|refine below_set ?_ GE101.out|refine below_set ?_ GE102.out|refine below_set ?_ GE103.out|refine below_set ?_ GE104.out|refine below_set ?_ GE124.out)|exact HB.out)⟩⟩
                                  · rw [if_neg c99] at H
                                    have c99b0 : decide (((rd_T60 l0_3 x87_4).f0) < t125) = false := decide_eq_false c99
                                    clear c99
                                    have H' := Aside0.mk H
                                    clear H
                                    have p123:0≤(x87_4:Int):=of_decide_eq_true (by first|(with_reducible assumption)|assumption)
                                    have q123:x87_4 < (l0_3.length:Int):=of_decide_eq_true (by first|(with_reducible assumption)|assumption)
                                    obtain ⟨ad123, e123, hx123_0, hx123_1⟩ := at_T60 HR0_3.out x87_4 p123 q123
                                    cases e123
                                    replace hx123_0 := (HB.out.cell (World.block_lt_of_cell? w _ hx123_0)).trans hx123_0
                                    replace hx123_1 := (HB.out.cell (World.block_lt_of_cell? w _ hx123_1)).trans hx123_1
                                    replace p123 := eq_true p123
                                    replace q123 := eq_true q123
                                    go_wp2_with (first|((with_reducible refine gate_dst (N:=17) rfl ?_);refine box_event ?hg (N:=17) ?hd (cs:=#[.int .i64 0,.int .i64 0]) (t:=60) ?hr ?_;(case hd=>rfl);(case hg=>rfl);(case hr=>first|(go_simp;done)|(go_simp;rfl));intro gb124 hg w122 hbox hb;have n0_:=Aside0.mk (Kd.R_below (by (with_reducible repeat (first|apply Kd.R_alloc|apply Kd.R_drewN|apply Kd.R_drew));exact HO_14.out) hb);have n1_:=Aside0.mk (blk_below (g:=gb101) (o:=.cells #[.int .i64 a0_0,.int .i64 a0_1,.int .i64 a0_2,.slice (some ad123) l0_3.length c0_3] 35 (0,0)) (by (with_reducible repeat (first|refine blk_drewN ?_ _|refine blk_drew ?_|refine blk_alloc ?_ _));exact BK101.out) hb);have n2_:=Aside0.mk (blk_below (g:=gb102) (o:=.cells #[.int .i64 a1_0,.int .i64 a1_1] 41 (0,0)) (by (with_reducible repeat (first|refine blk_drewN ?_ _|refine blk_drew ?_|refine blk_alloc ?_ _));exact BK102.out) hb);have n3_:=Aside0.mk (blk_below (g:=gb103) (o:=.cells #[.int .i64 a2_0,.int .i64 a2_1,.slice A2_2 l2_2.length c2_2] 39 (0,0)) (by (with_reducible repeat (first|refine blk_drewN ?_ _|refine blk_drew ?_|refine blk_alloc ?_ _));exact BK103.out) hb);have n4_:=Aside0.mk (blk_below (g:=gb104) (o:=.cells #[.int .i64 0,.slice none 0 0] 30 (0,0)) (by (with_reducible repeat (first|refine blk_drewN ?_ _|refine blk_drew ?_|refine blk_alloc ?_ _));exact BK104.out) hb);have n5_:=Aside0.mk (below_step (by repeat (first|(with_reducible first|exact HB.out|apply below_alloc|apply pw_below_drewN|apply below_drew1|refine below_set ?_ GE101.out|refine below_set ?_ GE102.out|refine below_set ?_ GE103.out|refine below_set ?_ GE104.out)|exact HB.out)) hb);have n6_:=Aside0.mk (hbox);have n7_:=Aside0.mk ((by rw[hg];exact(below_size (by repeat (first|(with_reducible first|exact HB.out|apply below_alloc|apply pw_below_drewN|apply below_drew1|refine below_set ?_ GE101.out|refine below_set ?_ GE102.out|refine below_set ?_ GE103.out|refine below_set ?_ GE104.out)|exact HB.out))):w.heap.size≤gb124));have n8_:=Aside0.mk ((by rw[hg];exact(below_size (by repeat (first|(with_reducible first|exact HB.out|apply below_alloc|apply pw_below_drewN|apply below_drew1|refine below_set ?_ GE101.out|refine below_set ?_ GE102.out|refine below_set ?_ GE103.out|refine below_set ?_ GE104.out)|exact HB.out))):w.heap.size≤gb124));have n9_:=Aside0.mk ((by rw[hg];exact Nat.ne_of_lt (blk_lt (g:=gb101) (o:=.cells #[.int .i64 a0_0,.int .i64 a0_1,.int .i64 a0_2,.slice (some ad123) l0_3.length c0_3] 35 (0,0)) (by (with_reducible repeat (first|refine blk_drewN ?_ _|refine blk_drew ?_|refine blk_alloc ?_ _));exact BK101.out)):gb101≠gb124));have n10_:=Aside0.mk ((by rw[hg];exact Nat.ne_of_gt (blk_lt (g:=gb101) (o:=.cells #[.int .i64 a0_0,.int .i64 a0_1,.int .i64 a0_2,.slice (some ad123) l0_3.length c0_3] 35 (0,0)) (by (with_reducible repeat (first|refine blk_drewN ?_ _|refine blk_drew ?_|refine blk_alloc ?_ _));exact BK101.out)):gb124≠gb101));have n11_:=Aside0.mk ((by rw[hg];exact Nat.ne_of_lt (blk_lt (g:=gb102) (o:=.cells #[.int .i64 a1_0,.int .i64 a1_1] 41 (0,0)) (by (with_reducible repeat (first|refine blk_drewN ?_ _|refine blk_drew ?_|refine blk_alloc ?_ _));exact BK102.out)):gb102≠gb124));have n12_:=Aside0.mk ((by rw[hg];exact Nat.ne_of_gt (blk_lt (g:=gb102) (o:=.cells #[.int .i64 a1_0,.int .i64 a1_1] 41 (0,0)) (by (with_reducible repeat (first|refine blk_drewN ?_ _|refine blk_drew ?_|refine blk_alloc ?_ _));exact BK102.out)):gb124≠gb102));have n13_:=Aside0.mk ((by rw[hg];exact Nat.ne_of_lt (blk_lt (g:=gb103) (o:=.cells #[.int .i64 a2_0,.int .i64 a2_1,.slice A2_2 l2_2.length c2_2] 39 (0,0)) (by (with_reducible repeat (first|refine blk_drewN ?_ _|refine blk_drew ?_|refine blk_alloc ?_ _));exact BK103.out)):gb103≠gb124));have n14_:=Aside0.mk ((by rw[hg];exact Nat.ne_of_gt (blk_lt (g:=gb103) (o:=.cells #[.int .i64 a2_0,.int .i64 a2_1,.slice A2_2 l2_2.length c2_2] 39 (0,0)) (by (with_reducible repeat (first|refine blk_drewN ?_ _|refine blk_drew ?_|refine blk_alloc ?_ _));exact BK103.out)):gb124≠gb103));have n15_:=Aside0.mk ((by rw[hg];exact Nat.ne_of_lt (blk_lt (g:=gb104) (o:=.cells #[.int .i64 0,.slice none 0 0] 30 (0,0)) (by (with_reducible repeat (first|refine blk_drewN ?_ _|refine blk_drew ?_|refine blk_alloc ?_ _));exact BK104.out)):gb104≠gb124));have n16_:=Aside0.mk ((by rw[hg];exact Nat.ne_of_gt (blk_lt (g:=gb104) (o:=.cells #[.int .i64 0,.slice none 0 0] 30 (0,0)) (by (with_reducible repeat (first|refine blk_drewN ?_ _|refine blk_drew ?_|refine blk_alloc ?_ _));exact BK104.out)):gb124≠gb104));clear HO_14;clear BK101;clear BK102;clear BK103;clear BK104;clear HB;have HO_14:=n0_;have BK101:=n1_;have BK102:=n2_;have BK103:=n3_;have BK104:=n4_;have HB:=n5_;have BK124:=n6_;have GW124:=n7_;have GE124:=n8_;have NB101_124:=n9_;have NB124_101:=n10_;have NB102_124:=n11_;have NB124_102:=n12_;have NB103_124:=n13_;have NB124_103:=n14_;have NB104_124:=n15_;have NB124_104:=n16_;clear n0_ n1_ n2_ n3_ n4_ n5_ n6_ n7_ n8_ n9_ n10_ n11_ n12_ n13_ n14_ n15_ n16_;clear hb hbox hg;have hnb123:=NB124_101.out;have hnc123:=NB101_124.out;have hnb124:=NB124_102.out;have hnc124:=NB102_124.out;have hnb125:=NB124_103.out;have hnc125:=NB103_124.out;have hnb126:=NB124_104.out;have hnc126:=NB104_124.out;have hcz127_0:w122.cell? ⟨gb124,0,none⟩ = some (.int .i64 0):=(blk_cell BK124.out 0).trans rfl;have hcz127_1:w122.cell? ⟨gb124,1,none⟩ = some (.int .i64 0):=(blk_cell BK124.out 1).trans rfl;have hfz127_0:=blk_frozen BK124.out 0;have hfz127_1:=blk_frozen BK124.out 1;obtain ⟨Ao128,co128,eo128⟩:=Kd.R_slice HO_14.out;subst eo128)|((with_reducible refine gate_callee (f:=26) rfl ?_);refine goesL_ (some 92) rfl rfl Try.func26 (by kernel_rfl) rfl #[.slice Ao128 x14_4.length co128] rfl (by (try simp only[List.map_toArray,List.map_cons,List.map_nil]);first|done|rfl|(simp only[List.length_drop,List.length_take];rfl)) ?_;(with_reducible refine(worktime_total.calls k4 _ _ x14_4 t125 _ ?side1 ?side2 A98.out).mono ?_);(case side1=>refine(Kd.R_reads' (e:=41) (base:=w.heap.size) (ok:=fun k_=>k_≠gb102) (n:=x14_4.length) (c:=co128) ?_).2.2;exact(by (with_reducible repeat (first|apply Kd.R_alloc|apply Kd.R_drewN|apply Kd.R_drew));exact(Kd.R_mono (Kd.R_far (p:=⟨gb124,1,none⟩) (Kd.R_far (p:=⟨gb124,0,none⟩) (Kd.R_types HO_14.out BK124.out (by decide)) (fun _ hk=>hk.2) (.int .i64 ((rd_T60 l0_3 x87_4).f0))) (fun _ hk=>hk.2) (.int .i64 ((rd_T60 l0_3 x87_4).f1))) (fun _ h_=>h_.1))));(case side2=>exact(Kd.R_reads' HO_14.out).2.1);rintro e w129 ⟨rfl,hb⟩;refine⟨_,rfl,?_⟩;have n0_:=Aside0.mk (Kd.R_below (by (with_reducible repeat (first|apply Kd.R_alloc|apply Kd.R_drewN|apply Kd.R_drew));exact(Kd.R_mono (Kd.R_far (p:=⟨gb124,1,none⟩) (Kd.R_far (p:=⟨gb124,0,none⟩) (Kd.R_types HO_14.out BK124.out (by decide)) (fun _ hk=>hk.2) (.int .i64 ((rd_T60 l0_3 x87_4).f0))) (fun _ hk=>hk.2) (.int .i64 ((rd_T60 l0_3 x87_4).f1))) (fun _ h_=>h_.1))) hb);have n1_:=Aside0.mk (blk_below (g:=gb101) (o:=.cells #[.int .i64 a0_0,.int .i64 a0_1,.int .i64 a0_2,.slice (some ad123) l0_3.length c0_3] 35 (0,0)) (by (with_reducible repeat (first|refine blk_drewN ?_ _|refine blk_drew ?_|refine blk_alloc ?_ _));refine blk_far ?_ NB101_124.out _;(with_reducible repeat (first|refine blk_drewN ?_ _|refine blk_drew ?_|refine blk_alloc ?_ _));refine blk_far ?_ NB101_124.out _;(with_reducible repeat (first|refine blk_drewN ?_ _|refine blk_drew ?_|refine blk_alloc ?_ _));exact BK101.out) hb);have n2_:=Aside0.mk (blk_below (g:=gb102) (o:=.cells #[.int .i64 a1_0,.int .i64 a1_1] 41 (0,0)) (by (with_reducible repeat (first|refine blk_drewN ?_ _|refine blk_drew ?_|refine blk_alloc ?_ _));refine blk_far ?_ NB102_124.out _;(with_reducible repeat (first|refine blk_drewN ?_ _|refine blk_drew ?_|refine blk_alloc ?_ _));refine blk_far ?_ NB102_124.out _;(with_reducible repeat (first|refine blk_drewN ?_ _|refine blk_drew ?_|refine blk_alloc ?_ _));exact BK102.out) hb);have n3_:=Aside0.mk (blk_below (g:=gb103) (o:=.cells #[.int .i64 a2_0,.int .i64 a2_1,.slice A2_2 l2_2.length c2_2] 39 (0,0)) (by (with_reducible repeat (first|refine blk_drewN ?_ _|refine blk_drew ?_|refine blk_alloc ?_ _));refine blk_far ?_ NB103_124.out _;(with_reducible repeat (first|refine blk_drewN ?_ _|refine blk_drew ?_|refine blk_alloc ?_ _));refine blk_far ?_ NB103_124.out _;(with_reducible repeat (first|refine blk_drewN ?_ _|refine blk_drew ?_|refine blk_alloc ?_ _));exact BK103.out) hb);have n4_:=Aside0.mk (blk_below (g:=gb104) (o:=.cells #[.int .i64 0,.slice none 0 0] 30 (0,0)) (by (with_reducible repeat (first|refine blk_drewN ?_ _|refine blk_drew ?_|refine blk_alloc ?_ _));refine blk_far ?_ NB104_124.out _;(with_reducible repeat (first|refine blk_drewN ?_ _|refine blk_drew ?_|refine blk_alloc ?_ _));refine blk_far ?_ NB104_124.out _;(with_reducible repeat (first|refine blk_drewN ?_ _|refine blk_drew ?_|refine blk_alloc ?_ _));exact BK104.out) hb);have n5_:=Aside0.mk (blk_below (g:=gb124) (o:=.cells #[.int .i64 ((rd_T60 l0_3 x87_4).f0),.int .i64 ((rd_T60 l0_3 x87_4).f1)] 60 (0,0)) (by (with_reducible repeat (first|refine blk_drewN ?_ _|refine blk_drew ?_|refine blk_alloc ?_ _));refine blk_put (cs:=#[.int .i64 ((rd_T60 l0_3 x87_4).f0),.int .i64 0]) ?_ 1 _ rfl;(with_reducible repeat (first|refine blk_drewN ?_ _|refine blk_drew ?_|refine blk_alloc ?_ _));refine blk_put (cs:=#[.int .i64 0,.int .i64 0]) ?_ 0 _ rfl;(with_reducible repeat (first|refine blk_drewN ?_ _|refine blk_drew ?_|refine blk_alloc ?_ _));exact BK124.out) hb);have n6_:=Aside0.mk (below_step (by repeat (first|(with_reducible first|exact HB.out|apply below_alloc|apply pw_below_drewN|apply below_drew1|refine below_set ?_ GE101.out|refine below_set ?_ GE102.out|refine below_set ?_ GE103.out|refine below_set ?_ GE104.out|refine below_set ?_ GE124.out)|exact HB.out)) hb);clear HO_14;clear BK101;clear BK102;clear BK103;clear BK104;clear BK124;clear HB;have HO_14:=n0_;have BK101:=n1_;have BK102:=n2_;have BK103:=n3_;have BK104:=n4_;have BK124:=n5_;have HB:=n6_;clear n0_ n1_ n2_ n3_ n4_ n5_ n6_;(try clear hb);(try clear hb2);(try clear hk);(try clear hi);have hcz130_0:w129.cell? ⟨gb124,0,none⟩ = some (.int .i64 ((rd_T60 l0_3 x87_4).f0)):=(blk_cell BK124.out 0).trans rfl;have hcz130_1:w129.cell? ⟨gb124,1,none⟩ = some (.int .i64 ((rd_T60 l0_3 x87_4).f1)):=(blk_cell BK124.out 1).trans rfl;have hfz130_0:=blk_frozen BK124.out 0;have hfz130_1:=blk_frozen BK124.out 1))
                                    go_roundg k4
                                    case measure=>have:=HJ5.out;have:=HK2.out;have:=HJ78.out;have:=HK4.out;omega
                                    case rel=>exact⟨(x14_4),(x15_4),(wrap64 (x87_4 + 1)),(by first|rfl|(simp;done)|(simp[*];done)),(by first|rfl|(simp;done)|(simp[*];done)),H',⟨by have:=HJ5.out;have:=HK2.out;have:=HJ78.out;have:=HK4.out;omega⟩,⟨by (with_reducible repeat (first|apply Kd.R_alloc|apply Kd.R_drewN|apply Kd.R_drew));exact HO_14.out⟩,⟨by (with_reducible repeat (first|refine blk_drewN ?_ _|refine blk_drew ?_|refine blk_alloc ?_ _));exact BK101.out⟩,⟨by (with_reducible repeat (first|refine blk_drewN ?_ _|refine blk_drew ?_|refine blk_alloc ?_ _));exact BK102.out⟩,⟨by (with_reducible repeat (first|refine blk_drewN ?_ _|refine blk_drew ?_|refine blk_alloc ?_ _));exact BK103.out⟩,⟨by (with_reducible repeat (first|refine blk_drewN ?_ _|refine blk_drew ?_|refine blk_alloc ?_ _));exact BK104.out⟩,⟨by repeat (first|(with_reducible first|exact HB.out|apply below_alloc|apply pw_below_drewN|apply below_drew1|refine below_set ?_ GE101.out|refine below_set ?_ GE102.out|refine below_set ?_ GE103.out|refine below_set ?_ GE104.out|refine below_set ?_ GE124.out)|exact HB.out)⟩⟩
                                · rw [if_neg c97] at H
                                  exact absurd H (by simp)
                              · rw [if_neg c96] at H
                                exact absurd H (by simp)
                            · rw [if_neg c95] at H
                              have c95b0 : decide (x87_4 < (l0_3.length : Int)) = false := decide_eq_false c95
                              clear c95
                              simp only [Option.some.injEq, Prod.mk.injEq] at H
                              obtain ⟨rfl, rfl, rfl⟩ := H
                              have hnb131 := NB103_101.out
                              have hnc131 := NB101_103.out
                              have hnb132 := NB103_102.out
                              have hnc132 := NB102_103.out
                              have hnb133 := NB103_104.out
                              have hnc133 := NB104_103.out
                              have hcz134_0:wr.cell? ⟨gb103,0,none⟩ = some (.int .i64 a2_0):=(blk_cell BK103.out 0).trans rfl
                              have hcz134_1:wr.cell? ⟨gb103,1,none⟩ = some (.int .i64 a2_1):=(blk_cell BK103.out 1).trans rfl
                              have hcz134_2:wr.cell? ⟨gb103,2,none⟩ = some (.slice A2_2 l2_2.length c2_2):=(blk_cell BK103.out 2).trans rfl
                              have hfz134_0 := blk_frozen BK103.out 0
                              have hfz134_1 := blk_frozen BK103.out 1
                              have hfz134_2 := blk_frozen BK103.out 2
                              obtain ⟨Ao135, co135, eo135⟩ := Kd.R_slice HO_14.out
                              subst eo135
                              have hnb136 := NB104_101.out
                              have hnc136 := NB101_104.out
                              have hnb137 := NB104_102.out
                              have hnc137 := NB102_104.out
                              have hcz138_0:wr.cell? ⟨gb104,0,none⟩ = some (.int .i64 0):=(blk_cell BK104.out 0).trans rfl
                              have hcz138_1:wr.cell? ⟨gb104,1,none⟩ = some (.slice none 0 0):=(blk_cell BK104.out 1).trans rfl
                              have hfz138_0 := blk_frozen BK104.out 0
                              have hfz138_1 := blk_frozen BK104.out 1
                              go_wp2
                              refine bodyPost_ret (results_ct rfl _ _ gb104 30 #[.int .i64 a2_1,.slice Ao135 x14_4.length co135] (0,0) _ rfl (by (with_reducible repeat (first|refine blk_drewN ?_ _|refine blk_drew ?_|refine blk_alloc ?_ _));refine blk_put (cs:=#[.int .i64 a2_1,.slice none 0 0]) ?_ 1 _ rfl;(with_reducible repeat (first|refine blk_drewN ?_ _|refine blk_drew ?_|refine blk_alloc ?_ _));refine blk_put (cs:=#[.int .i64 0,.slice none 0 0]) ?_ 0 _ rfl;(with_reducible repeat (first|refine blk_drewN ?_ _|refine blk_drew ?_|refine blk_alloc ?_ _));exact BK104.out) Try.underlying30 rfl (by kernel_rfl)) rfl ?_
                              exact⟨_,by first|rfl|(simp[errW_none,errW_some] <;> rfl)|(simp[*,errW_none,errW_some] <;> rfl),by (with_reducible repeat (first|apply Kd.R_alloc|apply Kd.R_drewN|apply Kd.R_drew));exact Kd.R_mono (Kd.R_far (p:=⟨gb104,1,none⟩) (Kd.R_far (p:=⟨gb104,0,none⟩) (Kd.R_types HO_14.out BK104.out (by decide)) (fun _ hk=>hk.2) (.int .i64 a2_1)) (fun _ hk=>hk.2) (.slice Ao135 x14_4.length co135)) (fun _ hk=>trivial),by repeat (first|(with_reducible first|exact HB.out|apply below_alloc|apply pw_below_drewN|apply below_drew1|refine below_set ?_ GE101.out|refine below_set ?_ GE102.out|refine below_set ?_ GE103.out|refine below_set ?_ GE104.out)|exact HB.out)⟩
          · rw [if_neg c33] at H
            have c33b0 : (t107 == 0) = false := beq_eq_false_iff_ne.mpr c33
            have c33b1 : (t107 != 0) = true := bne_iff_ne.mpr c33
            simp only [Option.some.injEq, Prod.mk.injEq] at H
            obtain ⟨rfl, rfl, rfl⟩ := H
            have hnb139 := NB103_101.out
            have hnc139 := NB101_103.out
            have hnb140 := NB103_102.out
            have hnc140 := NB102_103.out
            have hnb141 := NB103_104.out
            have hnc141 := NB104_103.out
            have hcz142_0 : wc.cell? ⟨gb103, 0, none⟩ = some (.int .i64 a2_0) := (blk_cell BK103.out 0).trans rfl
            have hcz142_1 : wc.cell? ⟨gb103, 1, none⟩ = some (.int .i64 a2_1) := (blk_cell BK103.out 1).trans rfl
            have hcz142_2:wc.cell? ⟨gb103,2,none⟩ = some (.slice A2_2 l2_2.length c2_2):=(blk_cell BK103.out 2).trans rfl
            have hfz142_0 := blk_frozen BK103.out 0
            have hfz142_1 := blk_frozen BK103.out 1
            have hfz142_2 := blk_frozen BK103.out 2
            go_wp2_with (first|((with_reducible refine gate_callee (f:=24) rfl ?_);refine goesL_ (some 37) rfl rfl Try.func24 (by kernel_rfl) rfl #[.slice A2_2 l2_2.length c2_2] rfl (by (try simp only[List.map_toArray,List.map_cons,List.map_nil]);first|done|rfl|(simp only[List.length_drop,List.length_take];rfl)) ?_;(with_reducible refine(presence_Valid.calls kj5 _ _ l2_2 t107 _ ?side1 ?side2 A32.out).mono ?_);(case side1=>repeat (first|exact(Kd.C_below HR2_2.out HB.out)|(with_reducible refine Kd.C_alloc ?_ _)|(with_reducible refine Kd.C_drewN ?_ _)|(with_reducible refine Kd.C_drew ?_)));(case side2=>exact HC2_2.out);rintro e w143 ⟨rfl,hb⟩;refine⟨_,rfl,?_⟩;have n0_:=Aside0.mk (blk_below (g:=gb101) (o:=.cells #[.int .i64 a0_0,.int .i64 a0_1,.int .i64 a0_2,.slice A0_3 l0_3.length c0_3] 35 (0,0)) (by (with_reducible repeat (first|refine blk_drewN ?_ _|refine blk_drew ?_|refine blk_alloc ?_ _));exact BK101.out) hb);have n1_:=Aside0.mk (blk_below (g:=gb102) (o:=.cells #[.int .i64 a1_0,.int .i64 a1_1] 41 (0,0)) (by (with_reducible repeat (first|refine blk_drewN ?_ _|refine blk_drew ?_|refine blk_alloc ?_ _));exact BK102.out) hb);have n2_:=Aside0.mk (blk_below (g:=gb103) (o:=.cells #[.int .i64 a2_0,.int .i64 a2_1,.slice A2_2 l2_2.length c2_2] 39 (0,0)) (by (with_reducible repeat (first|refine blk_drewN ?_ _|refine blk_drew ?_|refine blk_alloc ?_ _));exact BK103.out) hb);have n3_:=Aside0.mk (blk_below (g:=gb104) (o:=.cells #[.int .i64 0,.slice none 0 0] 30 (0,0)) (by (with_reducible repeat (first|refine blk_drewN ?_ _|refine blk_drew ?_|refine blk_alloc ?_ _));exact BK104.out) hb);have n4_:=Aside0.mk (below_step (by repeat (first|(with_reducible first|exact HB.out|apply below_alloc|apply pw_below_drewN|apply below_drew1|refine below_set ?_ GE101.out|refine below_set ?_ GE102.out|refine below_set ?_ GE103.out|refine below_set ?_ GE104.out)|exact HB.out)) hb);clear BK101;clear BK102;clear BK103;clear BK104;clear HB;have BK101:=n0_;have BK102:=n1_;have BK103:=n2_;have BK104:=n3_;have HB:=n4_;clear n0_ n1_ n2_ n3_ n4_;(try clear hb);(try clear hb2);(try clear hk);(try clear hi);have hnb144:=NB104_101.out;have hnc144:=NB101_104.out;have hnb145:=NB104_102.out;have hnc145:=NB102_104.out;have hcz146_0:w143.cell? ⟨gb104,0,none⟩ = some (.int .i64 0):=(blk_cell BK104.out 0).trans rfl;have hcz146_1:w143.cell? ⟨gb104,1,none⟩ = some (.slice none 0 0):=(blk_cell BK104.out 1).trans rfl;have hfz146_0:=blk_frozen BK104.out 0;have hfz146_1:=blk_frozen BK104.out 1))
            refine bodyPost_ret (results_ct rfl _ _ gb104 30 #[.int .i64 0,.slice none 0 0] (0,0) _ rfl (by (with_reducible repeat (first|refine blk_drewN ?_ _|refine blk_drew ?_|refine blk_alloc ?_ _));refine blk_put (cs:=#[.int .i64 0,.slice none 0 0]) ?_ 1 _ rfl;(with_reducible repeat (first|refine blk_drewN ?_ _|refine blk_drew ?_|refine blk_alloc ?_ _));refine blk_put (cs:=#[.int .i64 0,.slice none 0 0]) ?_ 0 _ rfl;(with_reducible repeat (first|refine blk_drewN ?_ _|refine blk_drew ?_|refine blk_alloc ?_ _));exact BK104.out) Try.underlying30 rfl (by kernel_rfl)) rfl ?_
            exact⟨_,by first|rfl|(simp[errW_none,errW_some] <;> rfl)|(simp[*,errW_none,errW_some] <;> rfl),by first|exact Kd.R_nil _ _ _ _ _|exact Kd.N_nil _ _ _ _ _|exact Kd.V_nil _ _ _ _ _|exact Kd.Q_nil _ _ _ _ _|exact Kd.S_nil _ _ _ _ _,by repeat (first|(with_reducible first|exact HB.out|apply below_alloc|apply pw_below_drewN|apply below_drew1|refine below_set ?_ GE101.out|refine below_set ?_ GE102.out|refine below_set ?_ GE103.out|refine below_set ?_ GE104.out)|exact HB.out)⟩
  · rw [if_neg c5] at H
    have c5b0 : (t105 == 0) = false := beq_eq_false_iff_ne.mpr c5
    have c5b1 : (t105 != 0) = true := bne_iff_ne.mpr c5
    simp only [Option.some.injEq, Prod.mk.injEq] at H
    obtain ⟨rfl, rfl, rfl⟩ := H
    go_enter Try.func14, Try.ntmps14
    go_wp2_with (first|((with_reducible refine gate_dst (N:=3) rfl ?_);refine box_event ?hg (N:=3) ?hd (cs:=#[.int .i64 a0_0,.int .i64 a0_1,.int .i64 a0_2,.slice A0_3 l0_3.length c0_3]) (t:=35) ?hr ?_;(case hd=>rfl);(case hg=>rfl);(case hr=>first|(go_simp;done)|(go_simp;rfl));intro gb101 hg w147 hbox hb;have n0_:=Aside0.mk (below_step (by repeat (first|(with_reducible first|exact HB.out|apply below_alloc|apply pw_below_drewN|apply below_drew1)|exact HB.out)) hb);have n1_:=Aside0.mk (hbox);have n2_:=Aside0.mk ((by rw[hg];exact(below_size (by repeat (first|(with_reducible first|exact HB.out|apply below_alloc|apply pw_below_drewN|apply below_drew1)|exact HB.out))):w.heap.size≤gb101));have n3_:=Aside0.mk ((by rw[hg];exact(below_size (by repeat (first|(with_reducible first|exact HB.out|apply below_alloc|apply pw_below_drewN|apply below_drew1)|exact HB.out))):w.heap.size≤gb101));clear HB;have HB:=n0_;have BK101:=n1_;have GW101:=n2_;have GE101:=n3_;clear n0_ n1_ n2_ n3_;clear hb hbox hg)|((with_reducible refine gate_dst (N:=4) rfl ?_);refine box_event ?hg (N:=4) ?hd (cs:=#[.int .i64 a1_0,.int .i64 a1_1]) (t:=41) ?hr ?_;(case hd=>rfl);(case hg=>rfl);(case hr=>first|(go_simp;done)|(go_simp;rfl));intro gb102 hg w148 hbox hb;have n0_:=Aside0.mk (blk_below (g:=gb101) (o:=.cells #[.int .i64 a0_0,.int .i64 a0_1,.int .i64 a0_2,.slice A0_3 l0_3.length c0_3] 35 (0,0)) (by (with_reducible repeat (first|refine blk_drewN ?_ _|refine blk_drew ?_|refine blk_alloc ?_ _));exact BK101.out) hb);have n1_:=Aside0.mk (below_step (by repeat (first|(with_reducible first|exact HB.out|apply below_alloc|apply pw_below_drewN|apply below_drew1|refine below_set ?_ GE101.out)|exact HB.out)) hb);have n2_:=Aside0.mk (hbox);have n3_:=Aside0.mk ((by rw[hg];exact(below_size (by repeat (first|(with_reducible first|exact HB.out|apply below_alloc|apply pw_below_drewN|apply below_drew1|refine below_set ?_ GE101.out)|exact HB.out))):w.heap.size≤gb102));have n4_:=Aside0.mk ((by rw[hg];exact(below_size (by repeat (first|(with_reducible first|exact HB.out|apply below_alloc|apply pw_below_drewN|apply below_drew1|refine below_set ?_ GE101.out)|exact HB.out))):w.heap.size≤gb102));have n5_:=Aside0.mk ((by rw[hg];exact Nat.ne_of_lt (blk_lt (g:=gb101) (o:=.cells #[.int .i64 a0_0,.int .i64 a0_1,.int .i64 a0_2,.slice A0_3 l0_3.length c0_3] 35 (0,0)) (by (with_reducible repeat (first|refine blk_drewN ?_ _|refine blk_drew ?_|refine blk_alloc ?_ _));exact BK101.out)):gb101≠gb102));have n6_:=Aside0.mk ((by rw[hg];exact Nat.ne_of_gt (blk_lt (g:=gb101) (o:=.cells #[.int .i64 a0_0,.int .i64 a0_1,.int .i64 a0_2,.slice A0_3 l0_3.length c0_3] 35 (0,0)) (by (with_reducible repeat (first|refine blk_drewN ?_ _|refine blk_drew ?_|refine blk_alloc ?_ _));exact BK101.out)):gb102≠gb101));clear BK101;clear HB;have BK101:=n0_;have HB:=n1_;have BK102:=n2_;have GW102:=n3_;have GE102:=n4_;have NB101_102:=n5_;have NB102_101:=n6_;clear n0_ n1_ n2_ n3_ n4_ n5_ n6_;clear hb hbox hg)|((with_reducible refine gate_dst (N:=5) rfl ?_);refine box_event ?hg (N:=5) ?hd (cs:=#[.int .i64 a2_0,.int .i64 a2_1,.slice A2_2 l2_2.length c2_2]) (t:=39) ?hr ?_;(case hd=>rfl);(case hg=>rfl);(case hr=>first|(go_simp;done)|(go_simp;rfl));intro gb103 hg w149 hbox hb;have n0_:=Aside0.mk (blk_below (g:=gb101) (o:=.cells #[.int .i64 a0_0,.int .i64 a0_1,.int .i64 a0_2,.slice A0_3 l0_3.length c0_3] 35 (0,0)) (by (with_reducible repeat (first|refine blk_drewN ?_ _|refine blk_drew ?_|refine blk_alloc ?_ _));exact BK101.out) hb);have n1_:=Aside0.mk (blk_below (g:=gb102) (o:=.cells #[.int .i64 a1_0,.int .i64 a1_1] 41 (0,0)) (by (with_reducible repeat (first|refine blk_drewN ?_ _|refine blk_drew ?_|refine blk_alloc ?_ _));exact BK102.out) hb);have n2_:=Aside0.mk (below_step (by repeat (first|(with_reducible first|exact HB.out|apply below_alloc|apply pw_below_drewN|apply below_drew1|refine below_set ?_ GE101.out|refine below_set ?_ GE102.out)|exact HB.out)) hb);have n3_:=Aside0.mk (hbox);have n4_:=Aside0.mk ((by rw[hg];exact(below_size (by repeat (first|(with_reducible first|exact HB.out|apply below_alloc|apply pw_below_drewN|apply below_drew1|refine below_set ?_ GE101.out|refine below_set ?_ GE102.out)|exact HB.out))):w.heap.size≤gb103));have n5_:=Aside0.mk ((by rw[hg];exact(below_size (by repeat (first|(with_reducible first|exact HB.out|apply below_alloc|apply pw_below_drewN|apply below_drew1|refine below_set ?_ GE101.out|refine below_set ?_ GE102.out)|exact HB.out))):w.heap.size≤gb103));have n6_:=Aside0.mk ((by rw[hg];exact Nat.ne_of_lt (blk_lt (g:=gb101) (o:=.cells #[.int .i64 a0_0,.int .i64 a0_1,.int .i64 a0_2,.slice A0_3 l0_3.length c0_3] 35 (0,0)) (by (with_reducible repeat (first|refine blk_drewN ?_ _|refine blk_drew ?_|refine blk_alloc ?_ _));exact BK101.out)):gb101≠gb103));have n7_:=Aside0.mk ((by rw[hg];exact Nat.ne_of_gt (blk_lt (g:=gb101) (o:=.cells #[.int .i64 a0_0,.int .i64 a0_1,.int .i64 a0_2,.slice A0_3 l0_3.length c0_3] 35 (0,0)) (by (with_reducible repeat (first|refine blk_drewN ?_ _|refine blk_drew ?_|refine blk_alloc ?_ _));exact BK101.out)):gb103≠gb101));have n8_:=Aside0.mk ((by rw[hg];exact Nat.ne_of_lt (blk_lt (g:=gb102) (o:=.cells #[.int .i64 a1_0,.int .i64 a1_1] 41 (0,0)) (by (with_reducible repeat (first|refine blk_drewN ?_ _|refine blk_drew ?_|refine blk_alloc ?_ _));exact BK102.out)):gb102≠gb103));have n9_:=Aside0.mk ((by rw[hg];exact Nat.ne_of_gt (blk_lt (g:=gb102) (o:=.cells #[.int .i64 a1_0,.int .i64 a1_1] 41 (0,0)) (by (with_reducible repeat (first|refine blk_drewN ?_ _|refine blk_drew ?_|refine blk_alloc ?_ _));exact BK102.out)):gb103≠gb102));clear BK101;clear BK102;clear HB;have BK101:=n0_;have BK102:=n1_;have HB:=n2_;have BK103:=n3_;have GW103:=n4_;have GE103:=n5_;have NB101_103:=n6_;have NB103_101:=n7_;have NB102_103:=n8_;have NB103_102:=n9_;clear n0_ n1_ n2_ n3_ n4_ n5_ n6_ n7_ n8_ n9_;clear hb hbox hg)|((with_reducible refine gate_dst (N:=6) rfl ?_);refine box_event ?hg (N:=6) ?hd (cs:=#[.int .i64 0,.slice none 0 0]) (t:=30) ?hr ?_;(case hd=>rfl);(case hg=>rfl);(case hr=>first|(go_simp;done)|(go_simp;rfl));intro gb104 hg w150 hbox hb;have n0_:=Aside0.mk (blk_below (g:=gb101) (o:=.cells #[.int .i64 a0_0,.int .i64 a0_1,.int .i64 a0_2,.slice A0_3 l0_3.length c0_3] 35 (0,0)) (by (with_reducible repeat (first|refine blk_drewN ?_ _|refine blk_drew ?_|refine blk_alloc ?_ _));exact BK101.out) hb);have n1_:=Aside0.mk (blk_below (g:=gb102) (o:=.cells #[.int .i64 a1_0,.int .i64 a1_1] 41 (0,0)) (by (with_reducible repeat (first|refine blk_drewN ?_ _|refine blk_drew ?_|refine blk_alloc ?_ _));exact BK102.out) hb);have n2_:=Aside0.mk (blk_below (g:=gb103) (o:=.cells #[.int .i64 a2_0,.int .i64 a2_1,.slice A2_2 l2_2.length c2_2] 39 (0,0)) (by (with_reducible repeat (first|refine blk_drewN ?_ _|refine blk_drew ?_|refine blk_alloc ?_ _));exact BK103.out) hb);have n3_:=Aside0.mk (below_step (by repeat (first|(with_reducible first|exact HB.out|apply below_alloc|apply pw_below_drewN|apply below_drew1|refine below_set ?_ GE101.out|refine below_set ?_ GE102.out|refine below_set ?_ GE103.out)|exact HB.out)) hb);have n4_:=Aside0.mk (hbox);have n5_:=Aside0.mk ((by rw[hg];exact(below_size (by repeat (first|(with_reducible first|exact HB.out|apply below_alloc|apply pw_below_drewN|apply below_drew1|refine below_set ?_ GE101.out|refine below_set ?_ GE102.out|refine below_set ?_ GE103.out)|exact HB.out))):w.heap.size≤gb104));have n6_:=Aside0.mk ((by rw[hg];exact(below_size (by repeat (first|(with_reducible first|exact HB.out|apply below_alloc|apply pw_below_drewN|apply below_drew1|refine below_set ?_ GE101.out|refine below_set ?_ GE102.out|refine below_set ?_ GE103.out)|exact HB.out))):w.heap.size≤gb104));have n7_:=Aside0.mk ((by rw[hg];exact Nat.ne_of_lt (blk_lt (g:=gb101) (o:=.cells #[.int .i64 a0_0,.int .i64 a0_1,.int .i64 a0_2,.slice A0_3 l0_3.length c0_3] 35 (0,0)) (by (with_reducible repeat (first|refine blk_drewN ?_ _|refine blk_drew ?_|refine blk_alloc ?_ _));exact BK101.out)):gb101≠gb104));have n8_:=Aside0.mk ((by rw[hg];exact Nat.ne_of_gt (blk_lt (g:=gb101) (o:=.cells #[.int .i64 a0_0,.int .i64 a0_1,.int .i64 a0_2,.slice A0_3 l0_3.length c0_3] 35 (0,0)) (by (with_reducible repeat (first|refine blk_drewN ?_ _|refine blk_drew ?_|refine blk_alloc ?_ _));exact BK101.out)):gb104≠gb101));have n9_:=Aside0.mk ((by rw[hg];exact Nat.ne_of_lt (blk_lt (g:=gb102) (o:=.cells #[.int .i64 a1_0,.int .i64 a1_1] 41 (0,0)) (by (with_reducible repeat (first|refine blk_drewN ?_ _|refine blk_drew ?_|refine blk_alloc ?_ _));exact BK102.out)):gb102≠gb104));have n10_:=Aside0.mk ((by rw[hg];exact Nat.ne_of_gt (blk_lt (g:=gb102) (o:=.cells #[.int .i64 a1_0,.int .i64 a1_1] 41 (0,0)) (by (with_reducible repeat (first|refine blk_drewN ?_ _|refine blk_drew ?_|refine blk_alloc ?_ _));exact BK102.out)):gb104≠gb102));have n11_:=Aside0.mk ((by rw[hg];exact Nat.ne_of_lt (blk_lt (g:=gb103) (o:=.cells #[.int .i64 a2_0,.int .i64 a2_1,.slice A2_2 l2_2.length c2_2] 39 (0,0)) (by (with_reducible repeat (first|refine blk_drewN ?_ _|refine blk_drew ?_|refine blk_alloc ?_ _));exact BK103.out)):gb103≠gb104));have n12_:=Aside0.mk ((by rw[hg];exact Nat.ne_of_gt (blk_lt (g:=gb103) (o:=.cells #[.int .i64 a2_0,.int .i64 a2_1,.slice A2_2 l2_2.length c2_2] 39 (0,0)) (by (with_reducible repeat (first|refine blk_drewN ?_ _|refine blk_drew ?_|refine blk_alloc ?_ _));exact BK103.out)):gb104≠gb103));clear BK101;clear BK102;clear BK103;clear HB;have BK101:=n0_;have BK102:=n1_;have BK103:=n2_;have HB:=n3_;have BK104:=n4_;have GW104:=n5_;have GE104:=n6_;have NB101_104:=n7_;have NB104_101:=n8_;have NB102_104:=n9_;have NB104_102:=n10_;have NB103_104:=n11_;have NB104_103:=n12_;clear n0_ n1_ n2_ n3_ n4_ n5_ n6_ n7_ n8_ n9_ n10_ n11_ n12_;clear hb hbox hg;have hnb151:=NB101_102.out;have hnc151:=NB102_101.out;have hnb152:=NB101_103.out;have hnc152:=NB103_101.out;have hnb153:=NB101_104.out;have hnc153:=NB104_101.out;have hcz154_0:w150.cell? ⟨gb101,0,none⟩ = some (.int .i64 a0_0):=(blk_cell BK101.out 0).trans rfl;have hcz154_1:w150.cell? ⟨gb101,1,none⟩ = some (.int .i64 a0_1):=(blk_cell BK101.out 1).trans rfl;have hcz154_2:w150.cell? ⟨gb101,2,none⟩ = some (.int .i64 a0_2):=(blk_cell BK101.out 2).trans rfl;have hcz154_3:w150.cell? ⟨gb101,3,none⟩ = some (.slice A0_3 l0_3.length c0_3):=(blk_cell BK101.out 3).trans rfl;have hfz154_0:=blk_frozen BK101.out 0;have hfz154_1:=blk_frozen BK101.out 1;have hfz154_2:=blk_frozen BK101.out 2;have hfz154_3:=blk_frozen BK101.out 3)|((with_reducible refine gate_callee (f:=23) rfl ?_);refine goesL_ (some 21) rfl rfl Try.func23 (by kernel_rfl) rfl #[.agg #[.int .i64 a0_0,.int .i64 a0_1,.int .i64 a0_2,.slice A0_3 l0_3.length c0_3]] rfl (by (try simp only[List.map_toArray,List.map_cons,List.map_nil]);first|done|rfl|(simp only[List.length_drop,List.length_take];rfl)) ?_;(with_reducible refine(worktime_Valid.calls k a0_0 a0_1 a0_2 _ _ l0_3 t105 _ ?side1 ?side2 A4.out).mono ?_);(case side1=>repeat (first|exact(Kd.C_below HR0_3.out HB.out)|(with_reducible refine Kd.C_alloc ?_ _)|(with_reducible refine Kd.C_drewN ?_ _)|(with_reducible refine Kd.C_drew ?_)));(case side2=>exact HC0_3.out);rintro e w155 ⟨rfl,hb⟩;refine⟨_,rfl,?_⟩;have n0_:=Aside0.mk (blk_below (g:=gb101) (o:=.cells #[.int .i64 a0_0,.int .i64 a0_1,.int .i64 a0_2,.slice A0_3 l0_3.length c0_3] 35 (0,0)) (by (with_reducible repeat (first|refine blk_drewN ?_ _|refine blk_drew ?_|refine blk_alloc ?_ _));exact BK101.out) hb);have n1_:=Aside0.mk (blk_below (g:=gb102) (o:=.cells #[.int .i64 a1_0,.int .i64 a1_1] 41 (0,0)) (by (with_reducible repeat (first|refine blk_drewN ?_ _|refine blk_drew ?_|refine blk_alloc ?_ _));exact BK102.out) hb);have n2_:=Aside0.mk (blk_below (g:=gb103) (o:=.cells #[.int .i64 a2_0,.int .i64 a2_1,.slice A2_2 l2_2.length c2_2] 39 (0,0)) (by (with_reducible repeat (first|refine blk_drewN ?_ _|refine blk_drew ?_|refine blk_alloc ?_ _));exact BK103.out) hb);have n3_:=Aside0.mk (blk_below (g:=gb104) (o:=.cells #[.int .i64 0,.slice none 0 0] 30 (0,0)) (by (with_reducible repeat (first|refine blk_drewN ?_ _|refine blk_drew ?_|refine blk_alloc ?_ _));exact BK104.out) hb);have n4_:=Aside0.mk (below_step (by repeat (first|(with_reducible first|exact HB.out|apply below_alloc|apply pw_below_drewN|apply below_drew1|refine below_set ?_ GE101.out|refine below_set ?_ GE102.out|refine below_set ?_ GE103.out|refine below_set ?_ GE104.out)|exact HB.out)) hb);clear BK101;clear BK102;clear BK103;clear BK104;clear HB;have BK101:=n0_;have BK102:=n1_;have BK103:=n2_;have BK104:=n3_;have HB:=n4_;clear n0_ n1_ n2_ n3_ n4_;(try clear hb);(try clear hb2);(try clear hk);(try clear hi);have hnb156:=NB104_102.out;have hnc156:=NB102_104.out;have hnb157:=NB104_103.out;have hnc157:=NB103_104.out;have hcz158_0:w155.cell? ⟨gb104,0,none⟩ = some (.int .i64 0):=(blk_cell BK104.out 0).trans rfl;have hcz158_1:w155.cell? ⟨gb104,1,none⟩ = some (.slice none 0 0):=(blk_cell BK104.out 1).trans rfl;have hfz158_0:=blk_frozen BK104.out 0;have hfz158_1:=blk_frozen BK104.out 1))
    refine bodyPost_ret (results_ct rfl _ _ gb104 30 #[.int .i64 0,.slice none 0 0] (0,0) _ rfl (by (with_reducible repeat (first|refine blk_drewN ?_ _|refine blk_drew ?_|refine blk_alloc ?_ _));refine blk_put (cs:=#[.int .i64 0,.slice none 0 0]) ?_ 1 _ rfl;(with_reducible repeat (first|refine blk_drewN ?_ _|refine blk_drew ?_|refine blk_alloc ?_ _));refine blk_put (cs:=#[.int .i64 0,.slice none 0 0]) ?_ 0 _ rfl;(with_reducible repeat (first|refine blk_drewN ?_ _|refine blk_drew ?_|refine blk_alloc ?_ _));exact BK104.out) Try.underlying30 rfl (by kernel_rfl)) rfl ?_
    exact⟨_,by first|rfl|(simp[errW_none,errW_some] <;> rfl)|(simp[*,errW_none,errW_some] <;> rfl),by first|exact Kd.R_nil _ _ _ _ _|exact Kd.N_nil _ _ _ _ _|exact Kd.V_nil _ _ _ _ _|exact Kd.Q_nil _ _ _ _ _|exact Kd.S_nil _ _ _ _ _,by repeat (first|(with_reducible first|exact HB.out|apply below_alloc|apply pw_below_drewN|apply below_drew1|refine below_set ?_ GE101.out|refine below_set ?_ GE102.out|refine below_set ?_ GE103.out|refine below_set ?_ GE104.out)|exact HB.out)⟩
end Go.Proofs.Ythdohkabcpdpdaa.M
