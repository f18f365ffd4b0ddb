import Derived.Test.YthdohkabcpdpdaaP0
import Derived.Test.YthdohkabcpdpdaaP4
import Derived.Test.YthdohkabcpdpdaaP12
import Derived.Test.YthdohkabcpdpdaaP13
import Derived.Test.YthdohkabcpdpdaaP14
import Derived.Test.YthdohkabcpdpdaaP16
namespace Go.Proofs.Ythdohkabcpdpdaa.P
open Go.RowKit Go.Proofs.YthdohkabcpdpdaaW.PrintWords Go.Proofs.YthdohkabcpdpdaaW.PrintLast Go.Proofs.YthdohkabcpdpdaaW.PrintMore
attribute [local go_sem] max2_int min2_int max_two min_two max_three min_three max_four min_four   -- for this text's walks alone
set_option linter.unusedVariables false
set_option linter.unusedSimpArgs false
mutual
def payrolllaw11_WorktimeSound.j0 : Nat → Bool → Int → Int → List (S48) → Int → List (S41) → Option (Bool)
  | 0, _, _, _, _, _, _ => none
  | k + 1, x38, x121000, x121001, x121002, x128000, x128001 => if x38 = true then (some false) else (payrolllaw11_WorktimeSound.l0 k 0 x121000 x121001 x121002 x128000 x128001)
def payrolllaw11_WorktimeSound.l0 : Nat → Int → Int → Int → List (S48) → Int → List (S41) → Option (Bool)
  | 0, _, _, _, _, _, _ => none
  | k + 1, x9, x121000, x121001, x121002, x128000, x128001 => if x9 < (x128001.length : Int) then (if 0 ≤ x9 then (if ((rd_T41 x128001 x9).f0) ≥ ((rd_T41 x128001 x9).f1) then (payrolllaw11_WorktimeSound.j2 k x9 true x121000 x121001 x121002 x128000 x128001 ((rd_T41 x128001 x9).f0) ((rd_T41 x128001 x9).f1)) else (if x9 > 0 then (if 0 ≤ (wrap64 (x9 - 1)) then (if (wrap64 (x9 - 1)) < (x128001.length : Int) then (payrolllaw11_WorktimeSound.j2 k x9 (decide (((rd_T41 x128001 x9).f0) ≤ ((rd_T41 x128001 (wrap64 (x9 - 1))).f1))) x121000 x121001 x121002 x128000 x128001 ((rd_T41 x128001 x9).f0) ((rd_T41 x128001 x9).f1)) else (none)) else (none)) else (payrolllaw11_WorktimeSound.j2 k x9 false x121000 x121001 x121002 x128000 x128001 ((rd_T41 x128001 x9).f0) ((rd_T41 x128001 x9).f1)))) else (none)) else ((payrolllaw11_sane.f k).bind fun t128 => (some t128))
def payrolllaw11_WorktimeSound.j2 : Nat → Int → Bool → Int → Int → List (S48) → Int → List (S41) → Int → Int → Option (Bool)
  | 0, _, _, _, _, _, _, _, _, _ => none
  | k + 1, x9, x71, x121000, x121001, x121002, x128000, x128001, x131000, x131001 => if x71 = true then (some false) else (payrolllaw11_WorktimeSound.l1 k x9 0 x121000 x121001 x121002 x128000 x128001 x131000 x131001)
def payrolllaw11_WorktimeSound.l1 : Nat → Int → Int → Int → Int → List (S48) → Int → List (S41) → Int → Int → Option (Bool)
  | 0, _, _, _, _, _, _, _, _, _ => none
  | k + 1, x9, x11, x121000, x121001, x121002, x128000, x128001, x131000, x131001 => if x11 < (x121002.length : Int) then (payrolllaw11_WorktimeSound.l2 k x9 x11 0 x121000 x121001 x121002 x128000 x128001 x131000 x131001) else (payrolllaw11_WorktimeSound.l0 k (wrap64 (x9 + 1)) x121000 x121001 x121002 x128000 x128001)
def payrolllaw11_WorktimeSound.l2 : Nat → Int → Int → Int → Int → Int → List (S48) → Int → List (S41) → Int → Int → Option (Bool)
  | 0, _, _, _, _, _, _, _, _, _, _ => none
  | k + 1, x9, x11, x12, x121000, x121001, x121002, x128000, x128001, x131000, x131001 => if 0 ≤ x11 then (if x11 < (x121002.length : Int) then (if x12 < (((rd_T48 x121002 x11).f1).length : Int) then (if 0 ≤ x12 then (if ((rd_T41 ((rd_T48 x121002 x11).f1) x12).f0) < x131001 then (if x131000 < ((rd_T41 ((rd_T48 x121002 x11).f1) x12).f1) then (some false) else (payrolllaw11_WorktimeSound.l2 k x9 x11 (wrap64 (x12 + 1)) x121000 x121001 x121002 x128000 x128001 x131000 x131001)) else (payrolllaw11_WorktimeSound.l2 k x9 x11 (wrap64 (x12 + 1)) x121000 x121001 x121002 x128000 x128001 x131000 x131001)) else (none)) else (payrolllaw11_WorktimeSound.l1 k x9 (wrap64 (x11 + 1)) x121000 x121001 x121002 x128000 x128001 x131000 x131001)) else (none)) else (none)
end
def payrolllaw11_WorktimeSound.f (k : Nat) (l0 : List Int) : Option (Bool) := (payrollgen_New.f l0).bind fun bt101 => ((payrollgen_Tape_Adjust.f k bt101.1 bt101.2 false).bind fun bt104 => ((payrolllaw11_duty.f k bt101.1 bt104.2.2.2.2).bind fun bt112 => ((worktime_Adjust.f k bt104.1 bt104.2.1 bt104.2.2.1 bt104.2.2.2.1 bt112.2.2.2.1 bt112.2.2.2.2.1 bt112.1 bt112.2.1 bt112.2.2.1).bind fun bt122 => (if bt122.2.2 = 0 then (payrolllaw11_WorktimeSound.j0 k (bt122.1 != bt112.2.1) bt112.1 bt112.2.1 bt112.2.2.1 bt122.1 bt122.2.1) else (payrolllaw11_WorktimeSound.j0 k true bt112.1 bt112.2.1 bt112.2.2.1 bt122.1 bt122.2.1)))))
theorem payrolllaw11_WorktimeSound.mono_l : ∀ k, (∀ y0 y1 y2 y3 y4 y5, LeO (payrolllaw11_WorktimeSound.j0 k y0 y1 y2 y3 y4 y5) (payrolllaw11_WorktimeSound.j0 (k + 1) y0 y1 y2 y3 y4 y5)) ∧ (∀ y0 y1 y2 y3 y4 y5, LeO (payrolllaw11_WorktimeSound.l0 k y0 y1 y2 y3 y4 y5) (payrolllaw11_WorktimeSound.l0 (k + 1) y0 y1 y2 y3 y4 y5)) ∧ (∀ y0 y1 y2 y3 y4 y5 y6 y7 y8, LeO (payrolllaw11_WorktimeSound.j2 k y0 y1 y2 y3 y4 y5 y6 y7 y8) (payrolllaw11_WorktimeSound.j2 (k + 1) y0 y1 y2 y3 y4 y5 y6 y7 y8)) ∧ (∀ y0 y1 y2 y3 y4 y5 y6 y7 y8, LeO (payrolllaw11_WorktimeSound.l1 k y0 y1 y2 y3 y4 y5 y6 y7 y8) (payrolllaw11_WorktimeSound.l1 (k + 1) y0 y1 y2 y3 y4 y5 y6 y7 y8)) ∧ (∀ y0 y1 y2 y3 y4 y5 y6 y7 y8 y9, LeO (payrolllaw11_WorktimeSound.l2 k y0 y1 y2 y3 y4 y5 y6 y7 y8 y9) (payrolllaw11_WorktimeSound.l2 (k + 1) y0 y1 y2 y3 y4 y5 y6 y7 y8 y9))
  | 0 => ⟨fun _ _ _ _ _ _ r h => by simp [payrolllaw11_WorktimeSound.j0] at h, fun _ _ _ _ _ _ r h => by simp [payrolllaw11_WorktimeSound.l0] at h, fun _ _ _ _ _ _ _ _ _ r h => by simp [payrolllaw11_WorktimeSound.j2] at h, fun _ _ _ _ _ _ _ _ _ r h => by simp [payrolllaw11_WorktimeSound.l1] at h, fun _ _ _ _ _ _ _ _ _ _ r h => by simp [payrolllaw11_WorktimeSound.l2] at h⟩
  | k + 1 => by
    obtain ⟨ih0, ih1, ih2, ih3, ih4⟩ := payrolllaw11_WorktimeSound.mono_l k
    refine ⟨?_, ?_, ?_, ?_, ?_⟩
    · intro y0 y1 y2 y3 y4 y5
      unfold payrolllaw11_WorktimeSound.j0
      repeat' first
      | (with_reducible exact ih0 _ _ _ _ _ _)
      | (with_reducible exact ih1 _ _ _ _ _ _)
      | (with_reducible exact ih2 _ _ _ _ _ _ _ _ _)
      | (with_reducible exact ih3 _ _ _ _ _ _ _ _ _)
      | (with_reducible exact ih4 _ _ _ _ _ _ _ _ _ _)
      | (with_reducible exact payrollgen_Tape_Adjust.mono _ _ _ _)
      | (with_reducible exact payrolllaw11_duty.mono _ _ _)
      | (with_reducible exact payrolllaw11_sane.mono _)
      | (with_reducible exact worktime_Adjust.mono _ _ _ _ _ _ _ _ _ _)
      | (with_reducible exact LeO.refl _)
      | (with_reducible exact LeO.none _)
      | (with_reducible refine LeO.ite ?_ ?_)
      | (with_reducible refine LeO.bind ?_ (fun _ => ?_))
      | exact ih0 _ _ _ _ _ _
      | exact ih1 _ _ _ _ _ _
      | exact ih2 _ _ _ _ _ _ _ _ _
      | exact ih3 _ _ _ _ _ _ _ _ _
      | exact ih4 _ _ _ _ _ _ _ _ _ _
      | exact payrollgen_Tape_Adjust.mono _ _ _ _
      | exact payrolllaw11_duty.mono _ _ _
      | exact payrolllaw11_sane.mono _
      | exact worktime_Adjust.mono _ _ _ _ _ _ _ _ _ _
      | exact LeO.none _
      | refine LeO.ite ?_ ?_
      | refine LeO.bind ?_ (fun _ => ?_)
    · intro y0 y1 y2 y3 y4 y5
      unfold payrolllaw11_WorktimeSound.l0
      repeat' first
      | (with_reducible exact ih0 _ _ _ _ _ _)
      | (with_reducible exact ih1 _ _ _ _ _ _)
      | (with_reducible exact ih2 _ _ _ _ _ _ _ _ _)
      | (with_reducible exact ih3 _ _ _ _ _ _ _ _ _)
      | (with_reducible exact ih4 _ _ _ _ _ _ _ _ _ _)
      | (with_reducible exact payrollgen_Tape_Adjust.mono _ _ _ _)
      | (with_reducible exact payrolllaw11_duty.mono _ _ _)
      | (with_reducible exact payrolllaw11_sane.mono _)
      | (with_reducible exact worktime_Adjust.mono _ _ _ _ _ _ _ _ _ _)
      | (with_reducible exact LeO.refl _)
      | (with_reducible exact LeO.none _)
      | (with_reducible refine LeO.ite ?_ ?_)
      | (with_reducible refine LeO.bind ?_ (fun _ => ?_))
      | exact ih0 _ _ _ _ _ _
      | exact ih1 _ _ _ _ _ _
      | exact ih2 _ _ _ _ _ _ _ _ _
      | exact ih3 _ _ _ _ _ _ _ _ _
      | exact ih4 _ _ _ _ _ _ _ _ _ _
      | exact payrollgen_Tape_Adjust.mono _ _ _ _
      | exact payrolllaw11_duty.mono _ _ _
      | exact payrolllaw11_sane.mono _
      | exact worktime_Adjust.mono _ _ _ _ _ _ _ _ _ _
      | exact LeO.none _
      | refine LeO.ite ?_ ?_
      | refine LeO.bind ?_ (fun _ => ?_)
    · intro y0 y1 y2 y3 y4 y5 y6 y7 y8
      unfold payrolllaw11_WorktimeSound.j2
      repeat' first
      | (with_reducible exact ih0 _ _ _ _ _ _)
      | (with_reducible exact ih1 _ _ _ _ _ _)
      | (with_reducible exact ih2 _ _ _ _ _ _ _ _ _)
      | (with_reducible exact ih3 _ _ _ _ _ _ _ _ _)
      | (with_reducible exact ih4 _ _ _ _ _ _ _ _ _ _)
      | (with_reducible exact payrollgen_Tape_Adjust.mono _ _ _ _)
      | (with_reducible exact payrolllaw11_duty.mono _ _ _)
      | (with_reducible exact payrolllaw11_sane.mono _)
      | (with_reducible exact worktime_Adjust.mono _ _ _ _ _ _ _ _ _ _)
      | (with_reducible exact LeO.refl _)
      | (with_reducible exact LeO.none _)
      | (with_reducible refine LeO.ite ?_ ?_)
      | (with_reducible refine LeO.bind ?_ (fun _ => ?_))
      | exact ih0 _ _ _ _ _ _
      | exact ih1 _ _ _ _ _ _
      | exact ih2 _ _ _ _ _ _ _ _ _
      | exact ih3 _ _ _ _ _ _ _ _ _
      | exact ih4 _ _ _ _ _ _ _ _ _ _
      | exact payrollgen_Tape_Adjust.mono _ _ _ _
      | exact payrolllaw11_duty.mono _ _ _
      | exact payrolllaw11_sane.mono _
      | exact worktime_Adjust.mono _ _ _ _ _ _ _ _ _ _
      | exact LeO.none _
      | refine LeO.ite ?_ ?_
      | refine LeO.bind ?_ (fun _ => ?_)
    · intro y0 y1 y2 y3 y4 y5 y6 y7 y8
      unfold payrolllaw11_WorktimeSound.l1
      repeat' first
      | (with_reducible exact ih0 _ _ _ _ _ _)
      | (with_reducible exact ih1 _ _ _ _ _ _)
      | (with_reducible exact ih2 _ _ _ _ _ _ _ _ _)
      | (with_reducible exact ih3 _ _ _ _ _ _ _ _ _)
      | (with_reducible exact ih4 _ _ _ _ _ _ _ _ _ _)
      | (with_reducible exact payrollgen_Tape_Adjust.mono _ _ _ _)
      | (with_reducible exact payrolllaw11_duty.mono _ _ _)
      | (with_reducible exact payrolllaw11_sane.mono _)
      | (with_reducible exact worktime_Adjust.mono _ _ _ _ _ _ _ _ _ _)
      | (with_reducible exact LeO.refl _)
      | (with_reducible exact LeO.none _)
      | (with_reducible refine LeO.ite ?_ ?_)
      | (with_reducible refine LeO.bind ?_ (fun _ => ?_))
      | exact ih0 _ _ _ _ _ _
      | exact ih1 _ _ _ _ _ _
      | exact ih2 _ _ _ _ _ _ _ _ _
      | exact ih3 _ _ _ _ _ _ _ _ _
      | exact ih4 _ _ _ _ _ _ _ _ _ _
      | exact payrollgen_Tape_Adjust.mono _ _ _ _
      | exact payrolllaw11_duty.mono _ _ _
      | exact payrolllaw11_sane.mono _
      | exact worktime_Adjust.mono _ _ _ _ _ _ _ _ _ _
      | exact LeO.none _
      | refine LeO.ite ?_ ?_
      | refine LeO.bind ?_ (fun _ => ?_)
    · intro y0 y1 y2 y3 y4 y5 y6 y7 y8 y9
      unfold payrolllaw11_WorktimeSound.l2
      repeat' first
      | (with_reducible exact ih0 _ _ _ _ _ _)
      | (with_reducible exact ih1 _ _ _ _ _ _)
      | (with_reducible exact ih2 _ _ _ _ _ _ _ _ _)
      | (with_reducible exact ih3 _ _ _ _ _ _ _ _ _)
      | (with_reducible exact ih4 _ _ _ _ _ _ _ _ _ _)
      | (with_reducible exact payrollgen_Tape_Adjust.mono _ _ _ _)
      | (with_reducible exact payrolllaw11_duty.mono _ _ _)
      | (with_reducible exact payrolllaw11_sane.mono _)
      | (with_reducible exact worktime_Adjust.mono _ _ _ _ _ _ _ _ _ _)
      | (with_reducible exact LeO.refl _)
      | (with_reducible exact LeO.none _)
      | (with_reducible refine LeO.ite ?_ ?_)
      | (with_reducible refine LeO.bind ?_ (fun _ => ?_))
      | exact ih0 _ _ _ _ _ _
      | exact ih1 _ _ _ _ _ _
      | exact ih2 _ _ _ _ _ _ _ _ _
      | exact ih3 _ _ _ _ _ _ _ _ _
      | exact ih4 _ _ _ _ _ _ _ _ _ _
      | exact payrollgen_Tape_Adjust.mono _ _ _ _
      | exact payrolllaw11_duty.mono _ _ _
      | exact payrolllaw11_sane.mono _
      | exact worktime_Adjust.mono _ _ _ _ _ _ _ _ _ _
      | exact LeO.none _
      | refine LeO.ite ?_ ?_
      | refine LeO.bind ?_ (fun _ => ?_)
theorem payrolllaw11_WorktimeSound.mono : ∀ a0 k, LeO (payrolllaw11_WorktimeSound.f k a0) (payrolllaw11_WorktimeSound.f (k + 1) a0) := by
  intro a0 k
  obtain ⟨ih0, ih1, ih2, ih3, ih4⟩ := payrolllaw11_WorktimeSound.mono_l k
  unfold payrolllaw11_WorktimeSound.f
  repeat' first
      | (with_reducible exact ih0 _ _ _ _ _ _)
      | (with_reducible exact ih1 _ _ _ _ _ _)
      | (with_reducible exact ih2 _ _ _ _ _ _ _ _ _)
      | (with_reducible exact ih3 _ _ _ _ _ _ _ _ _)
      | (with_reducible exact ih4 _ _ _ _ _ _ _ _ _ _)
      | (with_reducible exact payrollgen_Tape_Adjust.mono _ _ _ _)
      | (with_reducible exact payrolllaw11_duty.mono _ _ _)
      | (with_reducible exact payrolllaw11_sane.mono _)
      | (with_reducible exact worktime_Adjust.mono _ _ _ _ _ _ _ _ _ _)
      | (with_reducible exact LeO.refl _)
      | (with_reducible exact LeO.none _)
      | (with_reducible refine LeO.ite ?_ ?_)
      | (with_reducible refine LeO.bind ?_ (fun _ => ?_))
      | exact ih0 _ _ _ _ _ _
      | exact ih1 _ _ _ _ _ _
      | exact ih2 _ _ _ _ _ _ _ _ _
      | exact ih3 _ _ _ _ _ _ _ _ _
      | exact ih4 _ _ _ _ _ _ _ _ _ _
      | exact payrollgen_Tape_Adjust.mono _ _ _ _
      | exact payrolllaw11_duty.mono _ _ _
      | exact payrolllaw11_sane.mono _
      | exact worktime_Adjust.mono _ _ _ _ _ _ _ _ _ _
      | exact LeO.none _
      | refine LeO.ite ?_ ?_
      | refine LeO.bind ?_ (fun _ => ?_)
set_option maxHeartbeats 8000000 in
set_option maxRecDepth 100000 in
theorem payrolllaw11_WorktimeSound.calls (k : Nat) (A0 : Option Addr) (c0 : Nat) (l0 : List Int) (r : Bool) (w : World) (hr0 : Kd.C (Kd.int .i64) w A0 l0.length l0) (hc0 : l0.length ≤ c0) (hrt : r = true) (h : payrolllaw11_WorktimeSound.f k l0 = some r) :
    Calls Try.prog 4 #[.slice A0 l0.length c0] w fun e w' => e = .returned (.bool r) ∧ Below w.heap.size w w' := by
  have HRT := Aside0.mk hrt
  clear hrt
  have hu35 := Try.underlying35
  have hu39 := Try.underlying39
  have hu41 := Try.underlying41
  have hu30 := Try.underlying30
  have HR0 := Aside0.mk hr0
  have HC0 := Aside0.mk hc0
  clear hr0 hc0
  have HB := Aside0.mk (Below.refl w.heap.size w)
  have H:((payrollgen_New.f l0).bind fun bt101=>((payrollgen_Tape_Adjust.f k bt101.1 bt101.2 false).bind fun bt104=>((payrolllaw11_duty.f k bt101.1 bt104.2.2.2.2).bind fun bt112=>((worktime_Adjust.f k bt104.1 bt104.2.1 bt104.2.2.1 bt104.2.2.2.1 bt112.2.2.2.1 bt112.2.2.2.2.1 bt112.1 bt112.2.1 bt112.2.2.1).bind fun bt122=>(if bt122.2.2 = 0 then (payrolllaw11_WorktimeSound.j0 k (bt122.1 != bt112.2.1) bt112.1 bt112.2.1 bt112.2.2.1 bt122.1 bt122.2.1) else (payrolllaw11_WorktimeSound.j0 k true bt112.1 bt112.2.1 bt112.2.2.1 bt122.1 bt122.2.1)))))) = some r:=h
  clear h
  replace H := Option.bind_eq_some_iff.mp H
  obtain ⟨⟨t101, t102⟩, A20, H⟩ := H
  replace H:((payrollgen_Tape_Adjust.f k t101 t102 false).bind fun bt104=>((payrolllaw11_duty.f k t101 bt104.2.2.2.2).bind fun bt112=>((worktime_Adjust.f k bt104.1 bt104.2.1 bt104.2.2.1 bt104.2.2.2.1 bt112.2.2.2.1 bt112.2.2.2.2.1 bt112.1 bt112.2.1 bt112.2.2.1).bind fun bt122=>(if bt122.2.2 = 0 then (payrolllaw11_WorktimeSound.j0 k (bt122.1 != bt112.2.1) bt112.1 bt112.2.1 bt112.2.2.1 bt122.1 bt122.2.1) else (payrolllaw11_WorktimeSound.j0 k true bt112.1 bt112.2.1 bt112.2.2.1 bt122.1 bt122.2.1))))) = some r:=H
  have A2 := Aside0.mk A20
  clear A20
  replace H := Option.bind_eq_some_iff.mp H
  obtain ⟨⟨t104, t105, t106, t107, t110⟩, A30, H⟩ := H
  replace H:((payrolllaw11_duty.f k t101 t110).bind fun bt112=>((worktime_Adjust.f k t104 t105 t106 t107 bt112.2.2.2.1 bt112.2.2.2.2.1 bt112.1 bt112.2.1 bt112.2.2.1).bind fun bt122=>(if bt122.2.2 = 0 then (payrolllaw11_WorktimeSound.j0 k (bt122.1 != bt112.2.1) bt112.1 bt112.2.1 bt112.2.2.1 bt122.1 bt122.2.1) else (payrolllaw11_WorktimeSound.j0 k true bt112.1 bt112.2.1 bt112.2.2.1 bt122.1 bt122.2.1)))) = some r:=H
  have A3 := Aside0.mk A30
  clear A30
  replace H := Option.bind_eq_some_iff.mp H
  obtain ⟨⟨t112, t113, t114, t117, t118, t119⟩, A40, H⟩ := H
  replace H:((worktime_Adjust.f k t104 t105 t106 t107 t117 t118 t112 t113 t114).bind fun bt122=>(if bt122.2.2 = 0 then (payrolllaw11_WorktimeSound.j0 k (bt122.1 != t113) t112 t113 t114 bt122.1 bt122.2.1) else (payrolllaw11_WorktimeSound.j0 k true t112 t113 t114 bt122.1 bt122.2.1))) = some r:=H
  have A4 := Aside0.mk A40
  clear A40
  replace H := Option.bind_eq_some_iff.mp H
  obtain ⟨⟨t122, t123, t126⟩, A50, H⟩ := H
  replace H:(if t126 = 0 then (payrolllaw11_WorktimeSound.j0 k (t122 != t113) t112 t113 t114 t122 t123) else (payrolllaw11_WorktimeSound.j0 k true t112 t113 t114 t122 t123)) = some r:=H
  have A5 := Aside0.mk A50
  clear A50
  have HC6 := Aside0.mk H
  clear H
  go_enter Try.func4, Try.ntmps4
  go_upto_region 5 with (first|(go_at_call 6;(with_reducible refine(payrollgen_New.calls _ _ l0 t101 t102 w _ ?side1 ?side2 ?side3 A2.out).mono ?_);(case side1=>repeat (first|(with_reducible first|exact HB.out|apply below_alloc|apply pw_below_drewN|apply below_drew1)|exact HB.out));(case side2=>exact HR0.out);(case side3=>exact HC0.out);rintro e w7 ⟨g103,rfl,hi,hb,hb2⟩;have n0_:=Aside0.mk (hb);have n1_:=Aside0.mk (hi);clear HB;have HB:=n0_;have HI103:=n1_;clear n0_ n1_;(try clear hb);(try clear hb2);(try clear hk);(try clear hi))|(go_at_call 12;(with_reducible refine(payrollgen_Tape_Adjust.calls k g103 t101 t102 false t104 t105 t106 t107 t110 w _ ?side1 ?side2 A3.out).mono ?_);(case side1=>repeat (first|(with_reducible first|exact HI103.out|apply IsS54.alloc|apply IsS54.drewN|apply IsS54.drew|apply IsS54.set_1)|exact HI103.out));(case side2=>repeat (first|(with_reducible first|exact HB.out|apply below_alloc|apply pw_below_drewN|apply below_drew1|refine below_set ?_ (IsS54.ge HI103.out))|exact HB.out));rintro e w8 ⟨v108,rfl,ho0,hi,hb,hk⟩;have n0_:=Aside0.mk (Kd.R_lower ho0 (below_size (by repeat (first|(with_reducible first|exact HB.out|apply below_alloc|apply pw_below_drewN|apply below_drew1|refine below_set ?_ (IsS54.ge HI103.out))|exact HB.out))));have n1_:=Aside0.mk (hb);have n2_:=Aside0.mk (hi);clear HB;clear HI103;have HO109:=n0_;have HB:=n1_;have HI103:=n2_;clear n0_ n1_ n2_;(try clear hb);(try clear hb2);(try clear hk);(try clear hi);(try clear ho0))|((with_reducible refine gate_dst (N:=4) rfl ?_);refine box_event ?hg (N:=4) ?hd (cs:=#[.int .i64 0,.int .i64 0,.int .i64 0,.slice none 0 0]) (t:=35) ?hr ?_;(case hd=>rfl);(case hg=>rfl);(case hr=>first|(go_simp;done)|(go_simp;rfl));intro gb111 hg w9 hbox hb;have n0_:=Aside0.mk (Kd.R_below (by (with_reducible repeat (first|apply Kd.R_alloc|apply Kd.R_drewN|apply Kd.R_drew));exact HO109.out) hb);have n1_:=Aside0.mk (IsS54.below (by repeat (first|(with_reducible first|exact HI103.out|apply IsS54.alloc|apply IsS54.drewN|apply IsS54.drew|apply IsS54.set_1)|exact HI103.out)) hb);have n2_:=Aside0.mk (below_step (by repeat (first|(with_reducible first|exact HB.out|apply below_alloc|apply pw_below_drewN|apply below_drew1|refine below_set ?_ (IsS54.ge HI103.out))|exact HB.out)) hb);have n3_:=Aside0.mk (hbox);have n4_:=Aside0.mk ((by rw[hg];exact(below_size (by repeat (first|(with_reducible first|exact HB.out|apply below_alloc|apply pw_below_drewN|apply below_drew1|refine below_set ?_ (IsS54.ge HI103.out))|exact HB.out))):w.heap.size≤gb111));have n5_:=Aside0.mk ((by rw[hg];exact(below_size (by repeat (first|(with_reducible first|exact HB.out|apply below_alloc|apply pw_below_drewN|apply below_drew1|refine below_set ?_ (IsS54.ge HI103.out))|exact HB.out))):w.heap.size≤gb111));have n6_:=Aside0.mk ((by rw[hg];exact Nat.ne_of_lt (IsS54.lt (show IsS54 w _ g103 t101 t110 from by repeat (first|(with_reducible first|exact HI103.out|apply IsS54.alloc|apply IsS54.drewN|apply IsS54.drew|apply IsS54.set_1)|exact HI103.out))):g103≠gb111));have n7_:=Aside0.mk ((by rw[hg];exact Nat.ne_of_gt (IsS54.lt (show IsS54 w _ g103 t101 t110 from by repeat (first|(with_reducible first|exact HI103.out|apply IsS54.alloc|apply IsS54.drewN|apply IsS54.drew|apply IsS54.set_1)|exact HI103.out))):gb111≠g103));clear HO109;clear HI103;clear HB;have HO109:=n0_;have HI103:=n1_;have HB:=n2_;have BK111:=n3_;have GW111:=n4_;have GE111:=n5_;have NB103_111:=n6_;have NB111_103:=n7_;clear n0_ n1_ n2_ n3_ n4_ n5_ n6_ n7_;clear hb hbox hg;have hnb10:=NB111_103.out;have hnc10:=NB103_111.out;have hcz11_0:w9.cell? ⟨gb111,0,none⟩ = some (.int .i64 0):=(blk_cell BK111.out 0).trans rfl;have hcz11_1:w9.cell? ⟨gb111,1,none⟩ = some (.int .i64 0):=(blk_cell BK111.out 1).trans rfl;have hcz11_2:w9.cell? ⟨gb111,2,none⟩ = some (.int .i64 0):=(blk_cell BK111.out 2).trans rfl;have hcz11_3:w9.cell? ⟨gb111,3,none⟩ = some (.slice none 0 0):=(blk_cell BK111.out 3).trans rfl;have hfz11_0:=blk_frozen BK111.out 0;have hfz11_1:=blk_frozen BK111.out 1;have hfz11_2:=blk_frozen BK111.out 2;have hfz11_3:=blk_frozen BK111.out 3;obtain ⟨Ao12,co12,eo12⟩:=Kd.R_slice HO109.out;subst eo12)|(go_at_call 13;(with_reducible refine(payrolllaw11_duty.calls k g103 t101 t110 t112 t113 t114 t117 t118 t119 w _ ?side1 ?side2 A4.out).mono ?_);(case side1=>repeat (first|(with_reducible first|exact HI103.out|apply IsS54.alloc|apply IsS54.drewN|apply IsS54.drew|apply IsS54.set_1|refine IsS54.far ?_ NB103_111.out _)|exact HI103.out));(case side2=>repeat (first|(with_reducible first|exact HB.out|apply below_alloc|apply pw_below_drewN|apply below_drew1|refine below_set ?_ (IsS54.ge HI103.out)|refine below_set ?_ GE111.out)|exact HB.out));rintro e w13 ⟨v115,rfl,ho0,hi,hb,hk⟩;have n0_:=Aside0.mk (Kd.R_mono (Kd.R_keep (IsS54.apart (show IsS54 w _ g103 t101 t110 from by repeat (first|(with_reducible first|exact HI103.out|apply IsS54.alloc|apply IsS54.drewN|apply IsS54.drew|apply IsS54.set_1|refine IsS54.far ?_ NB103_111.out _)|exact HI103.out)) (by (with_reducible repeat (first|apply Kd.R_alloc|apply Kd.R_drewN|apply Kd.R_drew));exact(Kd.R_mono (Kd.R_far (p:=⟨gb111,3,none⟩) (Kd.R_far (p:=⟨gb111,2,none⟩) (Kd.R_far (p:=⟨gb111,1,none⟩) (Kd.R_far (p:=⟨gb111,0,none⟩) (Kd.R_types HO109.out BK111.out (by decide)) (fun _ hk=>hk.2) (.int .i64 t104)) (fun _ hk=>hk.2) (.int .i64 t105)) (fun _ hk=>hk.2) (.int .i64 t106)) (fun _ hk=>hk.2) (.slice Ao12 t107.length co12)) (fun _ h_=>h_.1))) (by decide)) hk (fun _ h=>h.2)) (fun _ h=>h.1));have n1_:=Aside0.mk (KeepBut.blk hk (g':=gb111) (o:=.cells #[.int .i64 t104,.int .i64 t105,.int .i64 t106,.slice Ao12 t107.length co12] 35 (0,0)) (by (with_reducible repeat (first|refine blk_drewN ?_ _|refine blk_drew ?_|refine blk_alloc ?_ _));refine blk_put (cs:=#[.int .i64 t104,.int .i64 t105,.int .i64 t106,.slice none 0 0]) ?_ 3 _ rfl;(with_reducible repeat (first|refine blk_drewN ?_ _|refine blk_drew ?_|refine blk_alloc ?_ _));refine blk_put (cs:=#[.int .i64 t104,.int .i64 t105,.int .i64 0,.slice none 0 0]) ?_ 2 _ rfl;(with_reducible repeat (first|refine blk_drewN ?_ _|refine blk_drew ?_|refine blk_alloc ?_ _));refine blk_put (cs:=#[.int .i64 t104,.int .i64 0,.int .i64 0,.slice none 0 0]) ?_ 1 _ rfl;(with_reducible repeat (first|refine blk_drewN ?_ _|refine blk_drew ?_|refine blk_alloc ?_ _));refine blk_put (cs:=#[.int .i64 0,.int .i64 0,.int .i64 0,.slice none 0 0]) ?_ 0 _ rfl;(with_reducible repeat (first|refine blk_drewN ?_ _|refine blk_drew ?_|refine blk_alloc ?_ _));exact BK111.out) NB111_103.out (by simp));have n2_:=Aside0.mk (Kd.N_lower (Kd.N_mono (ok':=fun k_=>some k_≠(.slice Ao12 t107.length co12:Value).ownBlock∧k_≠gb111∧k_≠g103) ho0 (fun k_ hk_=>⟨(Kd.fresh' (Kd.R_lt (by (with_reducible repeat (first|apply Kd.R_alloc|apply Kd.R_drewN|apply Kd.R_drew));exact(Kd.R_mono (Kd.R_far (p:=⟨gb111,3,none⟩) (Kd.R_far (p:=⟨gb111,2,none⟩) (Kd.R_far (p:=⟨gb111,1,none⟩) (Kd.R_far (p:=⟨gb111,0,none⟩) (Kd.R_types HO109.out BK111.out (by decide)) (fun _ hk=>hk.2) (.int .i64 t104)) (fun _ hk=>hk.2) (.int .i64 t105)) (fun _ hk=>hk.2) (.int .i64 t106)) (fun _ hk=>hk.2) (.slice Ao12 t107.length co12)) (fun _ h_=>h_.1)))) k_ hk_),(Kd.freshB (g:=gb111) (o:=.cells #[.int .i64 t104,.int .i64 t105,.int .i64 t106,.slice Ao12 t107.length co12] 35 (0,0)) (by (with_reducible repeat (first|refine blk_drewN ?_ _|refine blk_drew ?_|refine blk_alloc ?_ _));refine blk_put (cs:=#[.int .i64 t104,.int .i64 t105,.int .i64 t106,.slice none 0 0]) ?_ 3 _ rfl;(with_reducible repeat (first|refine blk_drewN ?_ _|refine blk_drew ?_|refine blk_alloc ?_ _));refine blk_put (cs:=#[.int .i64 t104,.int .i64 t105,.int .i64 0,.slice none 0 0]) ?_ 2 _ rfl;(with_reducible repeat (first|refine blk_drewN ?_ _|refine blk_drew ?_|refine blk_alloc ?_ _));refine blk_put (cs:=#[.int .i64 t104,.int .i64 0,.int .i64 0,.slice none 0 0]) ?_ 1 _ rfl;(with_reducible repeat (first|refine blk_drewN ?_ _|refine blk_drew ?_|refine blk_alloc ?_ _));refine blk_put (cs:=#[.int .i64 0,.int .i64 0,.int .i64 0,.slice none 0 0]) ?_ 0 _ rfl;(with_reducible repeat (first|refine blk_drewN ?_ _|refine blk_drew ?_|refine blk_alloc ?_ _));exact BK111.out) k_ hk_),(IsS54.fresh (by repeat (first|(with_reducible first|exact HI103.out|apply IsS54.alloc|apply IsS54.drewN|apply IsS54.drew|apply IsS54.set_1|refine IsS54.far ?_ NB103_111.out _)|exact HI103.out)) k_ hk_)⟩)) (below_size (by repeat (first|(with_reducible first|exact HB.out|apply below_alloc|apply pw_below_drewN|apply below_drew1|refine below_set ?_ (IsS54.ge HI103.out)|refine below_set ?_ GE111.out)|exact HB.out))));have n3_:=Aside0.mk (hb);have n4_:=Aside0.mk (hi);clear HO109;clear BK111;clear HB;clear HI103;have HO109:=n0_;have BK111:=n1_;have HO116:=n2_;have HB:=n3_;have HI103:=n4_;clear n0_ n1_ n2_ n3_ n4_;(try clear hb);(try clear hb2);(try clear hk);(try clear hi);(try clear ho0))|((with_reducible refine gate_dst (N:=5) rfl ?_);refine box_event ?hg (N:=5) ?hd (cs:=#[.int .i64 0,.int .i64 0,.slice none 0 0]) (t:=39) ?hr ?_;(case hd=>rfl);(case hg=>rfl);(case hr=>first|(go_simp;done)|(go_simp;rfl));intro gb120 hg w14 hbox hb;have n0_:=Aside0.mk (Kd.R_below (by (with_reducible repeat (first|apply Kd.R_alloc|apply Kd.R_drewN|apply Kd.R_drew));exact HO109.out) hb);have n1_:=Aside0.mk (Kd.N_below (Kd.N_elderB (by (with_reducible repeat (first|apply Kd.N_alloc|apply Kd.N_drewN|apply Kd.N_drew));exact HO116.out) gb120 (Nat.le_of_eq hg.symm)) hb);have n2_:=Aside0.mk (IsS54.below (by repeat (first|(with_reducible first|exact HI103.out|apply IsS54.alloc|apply IsS54.drewN|apply IsS54.drew|apply IsS54.set_1|refine IsS54.far ?_ NB103_111.out _)|exact HI103.out)) hb);have n3_:=Aside0.mk (blk_below (g:=gb111) (o:=.cells #[.int .i64 t104,.int .i64 t105,.int .i64 t106,.slice Ao12 t107.length co12] 35 (0,0)) (by (with_reducible repeat (first|refine blk_drewN ?_ _|refine blk_drew ?_|refine blk_alloc ?_ _));exact BK111.out) hb);have n4_:=Aside0.mk (below_step (by repeat (first|(with_reducible first|exact HB.out|apply below_alloc|apply pw_below_drewN|apply below_drew1|refine below_set ?_ (IsS54.ge HI103.out)|refine below_set ?_ GE111.out)|exact HB.out)) hb);have n5_:=Aside0.mk (hbox);have n6_:=Aside0.mk ((by rw[hg];exact(below_size (by repeat (first|(with_reducible first|exact HB.out|apply below_alloc|apply pw_below_drewN|apply below_drew1|refine below_set ?_ (IsS54.ge HI103.out)|refine below_set ?_ GE111.out)|exact HB.out))):w.heap.size≤gb120));have n7_:=Aside0.mk ((by rw[hg];exact(below_size (by repeat (first|(with_reducible first|exact HB.out|apply below_alloc|apply pw_below_drewN|apply below_drew1|refine below_set ?_ (IsS54.ge HI103.out)|refine below_set ?_ GE111.out)|exact HB.out))):w.heap.size≤gb120));have n8_:=Aside0.mk ((by rw[hg];exact Nat.ne_of_lt (blk_lt (g:=gb111) (o:=.cells #[.int .i64 t104,.int .i64 t105,.int .i64 t106,.slice Ao12 t107.length co12] 35 (0,0)) (by (with_reducible repeat (first|refine blk_drewN ?_ _|refine blk_drew ?_|refine blk_alloc ?_ _));exact BK111.out)):gb111≠gb120));have n9_:=Aside0.mk ((by rw[hg];exact Nat.ne_of_gt (blk_lt (g:=gb111) (o:=.cells #[.int .i64 t104,.int .i64 t105,.int .i64 t106,.slice Ao12 t107.length co12] 35 (0,0)) (by (with_reducible repeat (first|refine blk_drewN ?_ _|refine blk_drew ?_|refine blk_alloc ?_ _));exact BK111.out)):gb120≠gb111));have n10_:=Aside0.mk ((by rw[hg];exact Nat.ne_of_lt (IsS54.lt (show IsS54 w _ g103 t101 t119 from by repeat (first|(with_reducible first|exact HI103.out|apply IsS54.alloc|apply IsS54.drewN|apply IsS54.drew|apply IsS54.set_1|refine IsS54.far ?_ NB103_111.out _)|exact HI103.out))):g103≠gb120));have n11_:=Aside0.mk ((by rw[hg];exact Nat.ne_of_gt (IsS54.lt (show IsS54 w _ g103 t101 t119 from by repeat (first|(with_reducible first|exact HI103.out|apply IsS54.alloc|apply IsS54.drewN|apply IsS54.drew|apply IsS54.set_1|refine IsS54.far ?_ NB103_111.out _)|exact HI103.out))):gb120≠g103));clear HO109;clear HO116;clear HI103;clear BK111;clear HB;have HO109:=n0_;have HO116:=n1_;have HI103:=n2_;have BK111:=n3_;have HB:=n4_;have BK120:=n5_;have GW120:=n6_;have GE120:=n7_;have NB111_120:=n8_;have NB120_111:=n9_;have NB103_120:=n10_;have NB120_103:=n11_;clear n0_ n1_ n2_ n3_ n4_ n5_ n6_ n7_ n8_ n9_ n10_ n11_;clear hb hbox hg)|((with_reducible refine gate_dst (N:=6) rfl ?_);refine box_event ?hg (N:=6) ?hd (cs:=#[.int .i64 0,.int .i64 0]) (t:=41) ?hr ?_;(case hd=>rfl);(case hg=>rfl);(case hr=>first|(go_simp;done)|(go_simp;rfl));intro gb121 hg w15 hbox hb;have n0_:=Aside0.mk (Kd.R_below (by (with_reducible repeat (first|apply Kd.R_alloc|apply Kd.R_drewN|apply Kd.R_drew));exact HO109.out) hb);have n1_:=Aside0.mk (Kd.N_below (Kd.N_elderB (by (with_reducible repeat (first|apply Kd.N_alloc|apply Kd.N_drewN|apply Kd.N_drew));exact HO116.out) gb121 (Nat.le_of_eq hg.symm)) hb);have n2_:=Aside0.mk (IsS54.below (by repeat (first|(with_reducible first|exact HI103.out|apply IsS54.alloc|apply IsS54.drewN|apply IsS54.drew|apply IsS54.set_1|refine IsS54.far ?_ NB103_111.out _|refine IsS54.far ?_ NB103_120.out _)|exact HI103.out)) hb);have n3_:=Aside0.mk (blk_below (g:=gb111) (o:=.cells #[.int .i64 t104,.int .i64 t105,.int .i64 t106,.slice Ao12 t107.length co12] 35 (0,0)) (by (with_reducible repeat (first|refine blk_drewN ?_ _|refine blk_drew ?_|refine blk_alloc ?_ _));exact BK111.out) hb);have n4_:=Aside0.mk (blk_below (g:=gb120) (o:=.cells #[.int .i64 0,.int .i64 0,.slice none 0 0] 39 (0,0)) (by (with_reducible repeat (first|refine blk_drewN ?_ _|refine blk_drew ?_|refine blk_alloc ?_ _));exact BK120.out) hb);have n5_:=Aside0.mk (below_step (by repeat (first|(with_reducible first|exact HB.out|apply below_alloc|apply pw_below_drewN|apply below_drew1|refine below_set ?_ (IsS54.ge HI103.out)|refine below_set ?_ GE111.out|refine below_set ?_ GE120.out)|exact HB.out)) hb);have n6_:=Aside0.mk (hbox);have n7_:=Aside0.mk ((by rw[hg];exact(below_size (by repeat (first|(with_reducible first|exact HB.out|apply below_alloc|apply pw_below_drewN|apply below_drew1|refine below_set ?_ (IsS54.ge HI103.out)|refine below_set ?_ GE111.out|refine below_set ?_ GE120.out)|exact HB.out))):w.heap.size≤gb121));have n8_:=Aside0.mk ((by rw[hg];exact(below_size (by repeat (first|(with_reducible first|exact HB.out|apply below_alloc|apply pw_below_drewN|apply below_drew1|refine below_set ?_ (IsS54.ge HI103.out)|refine below_set ?_ GE111.out|refine below_set ?_ GE120.out)|exact HB.out))):w.heap.size≤gb121));have n9_:=Aside0.mk ((by rw[hg];exact Nat.ne_of_lt (blk_lt (g:=gb111) (o:=.cells #[.int .i64 t104,.int .i64 t105,.int .i64 t106,.slice Ao12 t107.length co12] 35 (0,0)) (by (with_reducible repeat (first|refine blk_drewN ?_ _|refine blk_drew ?_|refine blk_alloc ?_ _));exact BK111.out)):gb111≠gb121));have n10_:=Aside0.mk ((by rw[hg];exact Nat.ne_of_gt (blk_lt (g:=gb111) (o:=.cells #[.int .i64 t104,.int .i64 t105,.int .i64 t106,.slice Ao12 t107.length co12] 35 (0,0)) (by (with_reducible repeat (first|refine blk_drewN ?_ _|refine blk_drew ?_|refine blk_alloc ?_ _));exact BK111.out)):gb121≠gb111));have n11_:=Aside0.mk ((by rw[hg];exact Nat.ne_of_lt (blk_lt (g:=gb120) (o:=.cells #[.int .i64 0,.int .i64 0,.slice none 0 0] 39 (0,0)) (by (with_reducible repeat (first|refine blk_drewN ?_ _|refine blk_drew ?_|refine blk_alloc ?_ _));exact BK120.out)):gb120≠gb121));have n12_:=Aside0.mk ((by rw[hg];exact Nat.ne_of_gt (blk_lt (g:=gb120) (o:=.cells #[.int .i64 0,.int .i64 0,.slice none 0 0] 39 (0,0)) (by (with_reducible repeat (first|refine blk_drewN ?_ _|refine blk_drew ?_|refine blk_alloc ?_ _));exact BK120.out)):gb121≠gb120));have n13_:=Aside0.mk ((by rw[hg];exact Nat.ne_of_lt (IsS54.lt (show IsS54 w _ g103 t101 t119 from by repeat (first|(with_reducible first|exact HI103.out|apply IsS54.alloc|apply IsS54.drewN|apply IsS54.drew|apply IsS54.set_1|refine IsS54.far ?_ NB103_111.out _|refine IsS54.far ?_ NB103_120.out _)|exact HI103.out))):g103≠gb121));have n14_:=Aside0.mk ((by rw[hg];exact Nat.ne_of_gt (IsS54.lt (show IsS54 w _ g103 t101 t119 from by repeat (first|(with_reducible first|exact HI103.out|apply IsS54.alloc|apply IsS54.drewN|apply IsS54.drew|apply IsS54.set_1|refine IsS54.far ?_ NB103_111.out _|refine IsS54.far ?_ NB103_120.out _)|exact HI103.out))):gb121≠g103));clear HO109;clear HO116;clear HI103;clear BK111;clear BK120;clear HB;have HO109:=n0_;have HO116:=n1_;have HI103:=n2_;have BK111:=n3_;have BK120:=n4_;have HB:=n5_;have BK121:=n6_;have GW121:=n7_;have GE121:=n8_;have NB111_121:=n9_;have NB121_111:=n10_;have NB120_121:=n11_;have NB121_120:=n12_;have NB103_121:=n13_;have NB121_103:=n14_;clear n0_ n1_ n2_ n3_ n4_ n5_ n6_ n7_ n8_ n9_ n10_ n11_ n12_ n13_ n14_;clear hb hbox hg;have hnb16:=NB120_111.out;have hnc16:=NB111_120.out;have hnb17:=NB120_121.out;have hnc17:=NB121_120.out;have hnb18:=NB120_103.out;have hnc18:=NB103_120.out;have hcz19_0:w15.cell? ⟨gb120,0,none⟩ = some (.int .i64 0):=(blk_cell BK120.out 0).trans rfl;have hcz19_1:w15.cell? ⟨gb120,1,none⟩ = some (.int .i64 0):=(blk_cell BK120.out 1).trans rfl;have hcz19_2:w15.cell? ⟨gb120,2,none⟩ = some (.slice none 0 0):=(blk_cell BK120.out 2).trans rfl;have hfz19_0:=blk_frozen BK120.out 0;have hfz19_1:=blk_frozen BK120.out 1;have hfz19_2:=blk_frozen BK120.out 2;obtain ⟨Ao20,co20,eo20⟩:=Kd.N_slice HO116.out;subst eo20;have hnb21:=NB121_111.out;have hnc21:=NB111_121.out;have hnb22:=NB121_103.out;have hnc22:=NB103_121.out;have hcz23_0:w15.cell? ⟨gb121,0,none⟩ = some (.int .i64 0):=(blk_cell BK121.out 0).trans rfl;have hcz23_1:w15.cell? ⟨gb121,1,none⟩ = some (.int .i64 0):=(blk_cell BK121.out 1).trans rfl;have hfz23_0:=blk_frozen BK121.out 0;have hfz23_1:=blk_frozen BK121.out 1;have hcz24_0:w15.cell? ⟨gb111,0,none⟩ = some (.int .i64 t104):=(blk_cell BK111.out 0).trans rfl;have hcz24_1:w15.cell? ⟨gb111,1,none⟩ = some (.int .i64 t105):=(blk_cell BK111.out 1).trans rfl;have hcz24_2:w15.cell? ⟨gb111,2,none⟩ = some (.int .i64 t106):=(blk_cell BK111.out 2).trans rfl;have hcz24_3:w15.cell? ⟨gb111,3,none⟩ = some (.slice Ao12 t107.length co12):=(blk_cell BK111.out 3).trans rfl;have hfz24_0:=blk_frozen BK111.out 0;have hfz24_1:=blk_frozen BK111.out 1;have hfz24_2:=blk_frozen BK111.out 2;have hfz24_3:=blk_frozen BK111.out 3)|(go_at_call 14;(with_reducible refine(worktime_Adjust.calls k t104 t105 t106 _ _ t107 t117 t118 t112 t113 _ _ t114 t122 t123 t126 _ ?side1 ?side2 ?side3 ?side4 A5.out).mono ?_);(case side1=>refine(Kd.R_reads' (e:=60) (base:=w.heap.size) (ok:=fun k_=>True) (n:=t107.length) (c:=co12) ?_).2.2;exact(by (with_reducible repeat (first|apply Kd.R_alloc|apply Kd.R_drewN|apply Kd.R_drew));exact(Kd.R_mono (Kd.R_mono (Kd.R_far (p:=⟨gb121,1,none⟩) (Kd.R_far (p:=⟨gb121,0,none⟩) (Kd.R_far (p:=⟨gb120,2,none⟩) (Kd.R_far (p:=⟨gb120,1,none⟩) (Kd.R_far (p:=⟨gb120,0,none⟩) (Kd.R_types (Kd.R_types HO109.out BK120.out (by decide)) BK121.out (by decide)) (fun _ hk=>hk.1.2) (.int .i64 t112)) (fun _ hk=>hk.1.2) (.int .i64 t113)) (fun _ hk=>hk.1.2) (.slice Ao20 t114.length co20)) (fun _ hk=>hk.2) (.int .i64 t117)) (fun _ hk=>hk.2) (.int .i64 t118)) (fun _ h_=>h_.1)) (fun _ h_=>h_.1))));(case side2=>exact(Kd.R_reads' HO109.out).2.1);(case side3=>refine(Kd.N_reads' (e:=48) (base:=w.heap.size) (ok:=fun k_=>(((some k_≠(.slice Ao12 t107.length co12:Value).ownBlock∧(k_≠gb111∧k_≠g103))∧k_≠gb120)∧k_≠gb121)) (n:=t114.length) (c:=co20) ?_).2.2;exact(by (with_reducible repeat (first|apply Kd.N_alloc|apply Kd.N_drewN|apply Kd.N_drew));exact(Kd.N_mono (Kd.N_mono (Kd.N_far (p:=⟨gb121,1,none⟩) (Kd.N_far (p:=⟨gb121,0,none⟩) (Kd.N_far (p:=⟨gb120,2,none⟩) (Kd.N_far (p:=⟨gb120,1,none⟩) (Kd.N_far (p:=⟨gb120,0,none⟩) (Kd.N_mono (Kd.N_mono HO116.out (fun k_ hk=>(⟨hk,hk.1.2⟩:_∧k_≠gb120))) (fun k_ hk=>(⟨hk,hk.1.2⟩:_∧k_≠gb121))) (fun _ hk=>hk.1.2) (.int .i64 t112)) (fun _ hk=>hk.1.2) (.int .i64 t113)) (fun _ hk=>hk.1.2) (.slice Ao20 t114.length co20)) (fun _ hk=>hk.2) (.int .i64 t117)) (fun _ hk=>hk.2) (.int .i64 t118)) (fun _ h_=>h_.1)) (fun _ h_=>h_.1))));(case side4=>exact(Kd.N_reads' HO116.out).2.1);rintro e w25 ⟨v124,rfl,ho0,hb⟩;have n0_:=Aside0.mk (Kd.R_below (by (with_reducible repeat (first|apply Kd.R_alloc|apply Kd.R_drewN|apply Kd.R_drew));exact(Kd.R_mono (Kd.R_mono (Kd.R_far (p:=⟨gb121,1,none⟩) (Kd.R_far (p:=⟨gb121,0,none⟩) (Kd.R_far (p:=⟨gb120,2,none⟩) (Kd.R_far (p:=⟨gb120,1,none⟩) (Kd.R_far (p:=⟨gb120,0,none⟩) (Kd.R_types (Kd.R_types HO109.out BK120.out (by decide)) BK121.out (by decide)) (fun _ hk=>hk.1.2) (.int .i64 t112)) (fun _ hk=>hk.1.2) (.int .i64 t113)) (fun _ hk=>hk.1.2) (.slice Ao20 t114.length co20)) (fun _ hk=>hk.2) (.int .i64 t117)) (fun _ hk=>hk.2) (.int .i64 t118)) (fun _ h_=>h_.1)) (fun _ h_=>h_.1))) hb);have n1_:=Aside0.mk (Kd.N_elder' (by (with_reducible repeat (first|apply Kd.N_alloc|apply Kd.N_drewN|apply Kd.N_drew));exact(Kd.N_mono (Kd.N_mono (Kd.N_far (p:=⟨gb121,1,none⟩) (Kd.N_far (p:=⟨gb121,0,none⟩) (Kd.N_far (p:=⟨gb120,2,none⟩) (Kd.N_far (p:=⟨gb120,1,none⟩) (Kd.N_far (p:=⟨gb120,0,none⟩) (Kd.N_mono (Kd.N_mono HO116.out (fun k_ hk=>(⟨hk,hk.1.2⟩:_∧k_≠gb120))) (fun k_ hk=>(⟨hk,hk.1.2⟩:_∧k_≠gb121))) (fun _ hk=>hk.1.2) (.int .i64 t112)) (fun _ hk=>hk.1.2) (.int .i64 t113)) (fun _ hk=>hk.1.2) (.slice Ao20 t114.length co20)) (fun _ hk=>hk.2) (.int .i64 t117)) (fun _ hk=>hk.2) (.int .i64 t118)) (fun _ h_=>h_.1)) (fun _ h_=>h_.1))) (Kd.R_base ho0) hb);have n2_:=Aside0.mk (Kd.R_lower (Kd.R_newB ho0 (g:=gb121) (o:=.cells #[.int .i64 t117,.int .i64 t118] 41 (0,0)) (by (with_reducible repeat (first|refine blk_drewN ?_ _|refine blk_drew ?_|refine blk_alloc ?_ _));refine blk_put (cs:=#[.int .i64 t117,.int .i64 0]) ?_ 1 _ rfl;(with_reducible repeat (first|refine blk_drewN ?_ _|refine blk_drew ?_|refine blk_alloc ?_ _));refine blk_put (cs:=#[.int .i64 0,.int .i64 0]) ?_ 0 _ rfl;(with_reducible repeat (first|refine blk_drewN ?_ _|refine blk_drew ?_|refine blk_alloc ?_ _));refine blk_far ?_ NB121_120.out _;(with_reducible repeat (first|refine blk_drewN ?_ _|refine blk_drew ?_|refine blk_alloc ?_ _));refine blk_far ?_ NB121_120.out _;(with_reducible repeat (first|refine blk_drewN ?_ _|refine blk_drew ?_|refine blk_alloc ?_ _));refine blk_far ?_ NB121_120.out _;(with_reducible repeat (first|refine blk_drewN ?_ _|refine blk_drew ?_|refine blk_alloc ?_ _));exact BK121.out)) (below_size (by repeat (first|(with_reducible first|exact HB.out|apply below_alloc|apply pw_below_drewN|apply below_drew1|refine below_set ?_ (IsS54.ge HI103.out)|refine below_set ?_ GE111.out|refine below_set ?_ GE120.out|refine below_set ?_ GE121.out)|exact HB.out))));have n3_:=Aside0.mk (IsS54.below (show IsS54 w (((((w15.setCell ⟨gb120,0,none⟩ (.int .i64 t112)).setCell ⟨gb120,1,none⟩ (.int .i64 t113)).setCell ⟨gb120,2,none⟩ (.slice Ao20 t114.length co20)).setCell ⟨gb121,0,none⟩ (.int .i64 t117)).setCell ⟨gb121,1,none⟩ (.int .i64 t118)) g103 t101 t119 from by repeat (first|(with_reducible first|exact HI103.out|apply IsS54.alloc|apply IsS54.drewN|apply IsS54.drew|apply IsS54.set_1|refine IsS54.far ?_ NB103_111.out _|refine IsS54.far ?_ NB103_120.out _|refine IsS54.far ?_ NB103_121.out _)|exact HI103.out)) hb);have n4_:=Aside0.mk (blk_below (g:=gb111) (o:=.cells #[.int .i64 t104,.int .i64 t105,.int .i64 t106,.slice Ao12 t107.length co12] 35 (0,0)) (by (with_reducible repeat (first|refine blk_drewN ?_ _|refine blk_drew ?_|refine blk_alloc ?_ _));refine blk_far ?_ NB111_121.out _;(with_reducible repeat (first|refine blk_drewN ?_ _|refine blk_drew ?_|refine blk_alloc ?_ _));refine blk_far ?_ NB111_121.out _;(with_reducible repeat (first|refine blk_drewN ?_ _|refine blk_drew ?_|refine blk_alloc ?_ _));refine blk_far ?_ NB111_120.out _;(with_reducible repeat (first|refine blk_drewN ?_ _|refine blk_drew ?_|refine blk_alloc ?_ _));refine blk_far ?_ NB111_120.out _;(with_reducible repeat (first|refine blk_drewN ?_ _|refine blk_drew ?_|refine blk_alloc ?_ _));refine blk_far ?_ NB111_120.out _;(with_reducible repeat (first|refine blk_drewN ?_ _|refine blk_drew ?_|refine blk_alloc ?_ _));exact BK111.out) hb);have n5_:=Aside0.mk (blk_below (g:=gb120) (o:=.cells #[.int .i64 t112,.int .i64 t113,.slice Ao20 t114.length co20] 39 (0,0)) (by (with_reducible repeat (first|refine blk_drewN ?_ _|refine blk_drew ?_|refine blk_alloc ?_ _));refine blk_far ?_ NB120_121.out _;(with_reducible repeat (first|refine blk_drewN ?_ _|refine blk_drew ?_|refine blk_alloc ?_ _));refine blk_far ?_ NB120_121.out _;(with_reducible repeat (first|refine blk_drewN ?_ _|refine blk_drew ?_|refine blk_alloc ?_ _));refine blk_put (cs:=#[.int .i64 t112,.int .i64 t113,.slice none 0 0]) ?_ 2 _ rfl;(with_reducible repeat (first|refine blk_drewN ?_ _|refine blk_drew ?_|refine blk_alloc ?_ _));refine blk_put (cs:=#[.int .i64 t112,.int .i64 0,.slice none 0 0]) ?_ 1 _ rfl;(with_reducible repeat (first|refine blk_drewN ?_ _|refine blk_drew ?_|refine blk_alloc ?_ _));refine blk_put (cs:=#[.int .i64 0,.int .i64 0,.slice none 0 0]) ?_ 0 _ rfl;(with_reducible repeat (first|refine blk_drewN ?_ _|refine blk_drew ?_|refine blk_alloc ?_ _));exact BK120.out) hb);have n6_:=Aside0.mk (blk_below (g:=gb121) (o:=.cells #[.int .i64 t117,.int .i64 t118] 41 (0,0)) (by (with_reducible repeat (first|refine blk_drewN ?_ _|refine blk_drew ?_|refine blk_alloc ?_ _));refine blk_put (cs:=#[.int .i64 t117,.int .i64 0]) ?_ 1 _ rfl;(with_reducible repeat (first|refine blk_drewN ?_ _|refine blk_drew ?_|refine blk_alloc ?_ _));refine blk_put (cs:=#[.int .i64 0,.int .i64 0]) ?_ 0 _ rfl;(with_reducible repeat (first|refine blk_drewN ?_ _|refine blk_drew ?_|refine blk_alloc ?_ _));refine blk_far ?_ NB121_120.out _;(with_reducible repeat (first|refine blk_drewN ?_ _|refine blk_drew ?_|refine blk_alloc ?_ _));refine blk_far ?_ NB121_120.out _;(with_reducible repeat (first|refine blk_drewN ?_ _|refine blk_drew ?_|refine blk_alloc ?_ _));refine blk_far ?_ NB121_120.out _;(with_reducible repeat (first|refine blk_drewN ?_ _|refine blk_drew ?_|refine blk_alloc ?_ _));exact BK121.out) hb);have n7_:=Aside0.mk (below_step (by repeat (first|(with_reducible first|exact HB.out|apply below_alloc|apply pw_below_drewN|apply below_drew1|refine below_set ?_ (IsS54.ge HI103.out)|refine below_set ?_ GE111.out|refine below_set ?_ GE120.out|refine below_set ?_ GE121.out)|exact HB.out)) hb);clear HO109;clear HO116;clear HI103;clear BK111;clear BK120;clear BK121;clear HB;have HO109:=n0_;have HO116:=n1_;have HO125:=n2_;have HI103:=n3_;have BK111:=n4_;have BK120:=n5_;have BK121:=n6_;have HB:=n7_;clear n0_ n1_ n2_ n3_ n4_ n5_ n6_ n7_;(try clear hb);(try clear hb2);(try clear hk);(try clear hi);(try clear ho0))|((with_reducible refine gate_dst (N:=7) rfl ?_);refine box_event ?hg (N:=7) ?hd (cs:=#[.int .i64 0,.slice none 0 0]) (t:=30) ?hr ?_;(case hd=>rfl);(case hg=>rfl);(case hr=>first|(go_simp;done)|(go_simp;rfl));intro gb127 hg w26 hbox hb;have n0_:=Aside0.mk (Kd.R_below (by (with_reducible repeat (first|apply Kd.R_alloc|apply Kd.R_drewN|apply Kd.R_drew));exact HO109.out) hb);have n1_:=Aside0.mk (Kd.N_below (Kd.N_elderB (by (with_reducible repeat (first|apply Kd.N_alloc|apply Kd.N_drewN|apply Kd.N_drew));exact HO116.out) gb127 (Nat.le_of_eq hg.symm)) hb);have n2_:=Aside0.mk (Kd.R_below (by (with_reducible repeat (first|apply Kd.R_alloc|apply Kd.R_drewN|apply Kd.R_drew));exact HO125.out) hb);have n3_:=Aside0.mk (IsS54.below (by repeat (first|(with_reducible first|exact HI103.out|apply IsS54.alloc|apply IsS54.drewN|apply IsS54.drew|apply IsS54.set_1|refine IsS54.far ?_ NB103_111.out _|refine IsS54.far ?_ NB103_120.out _|refine IsS54.far ?_ NB103_121.out _)|exact HI103.out)) hb);have n4_:=Aside0.mk (blk_below (g:=gb111) (o:=.cells #[.int .i64 t104,.int .i64 t105,.int .i64 t106,.slice Ao12 t107.length co12] 35 (0,0)) (by (with_reducible repeat (first|refine blk_drewN ?_ _|refine blk_drew ?_|refine blk_alloc ?_ _));exact BK111.out) hb);have n5_:=Aside0.mk (blk_below (g:=gb120) (o:=.cells #[.int .i64 t112,.int .i64 t113,.slice Ao20 t114.length co20] 39 (0,0)) (by (with_reducible repeat (first|refine blk_drewN ?_ _|refine blk_drew ?_|refine blk_alloc ?_ _));exact BK120.out) hb);have n6_:=Aside0.mk (blk_below (g:=gb121) (o:=.cells #[.int .i64 t117,.int .i64 t118] 41 (0,0)) (by (with_reducible repeat (first|refine blk_drewN ?_ _|refine blk_drew ?_|refine blk_alloc ?_ _));exact BK121.out) hb);have n7_:=Aside0.mk (below_step (by repeat (first|(with_reducible first|exact HB.out|apply below_alloc|apply pw_below_drewN|apply below_drew1|refine below_set ?_ (IsS54.ge HI103.out)|refine below_set ?_ GE111.out|refine below_set ?_ GE120.out|refine below_set ?_ GE121.out)|exact HB.out)) hb);have n8_:=Aside0.mk (hbox);have n9_:=Aside0.mk ((by rw[hg];exact(below_size (by repeat (first|(with_reducible first|exact HB.out|apply below_alloc|apply pw_below_drewN|apply below_drew1|refine below_set ?_ (IsS54.ge HI103.out)|refine below_set ?_ GE111.out|refine below_set ?_ GE120.out|refine below_set ?_ GE121.out)|exact HB.out))):w.heap.size≤gb127));have n10_:=Aside0.mk ((by rw[hg];exact(below_size (by repeat (first|(with_reducible first|exact HB.out|apply below_alloc|apply pw_below_drewN|apply below_drew1|refine below_set ?_ (IsS54.ge HI103.out)|refine below_set ?_ GE111.out|refine below_set ?_ GE120.out|refine below_set ?_ GE121.out)|exact HB.out))):w.heap.size≤gb127));have n11_:=Aside0.mk ((by rw[hg];exact Nat.ne_of_lt (blk_lt (g:=gb111) (o:=.cells #[.int .i64 t104,.int .i64 t105,.int .i64 t106,.slice Ao12 t107.length co12] 35 (0,0)) (by (with_reducible repeat (first|refine blk_drewN ?_ _|refine blk_drew ?_|refine blk_alloc ?_ _));exact BK111.out)):gb111≠gb127));have n12_:=Aside0.mk ((by rw[hg];exact Nat.ne_of_gt (blk_lt (g:=gb111) (o:=.cells #[.int .i64 t104,.int .i64 t105,.int .i64 t106,.slice Ao12 t107.length co12] 35 (0,0)) (by (with_reducible repeat (first|refine blk_drewN ?_ _|refine blk_drew ?_|refine blk_alloc ?_ _));exact BK111.out)):gb127≠gb111));have n13_:=Aside0.mk ((by rw[hg];exact Nat.ne_of_lt (blk_lt (g:=gb120) (o:=.cells #[.int .i64 t112,.int .i64 t113,.slice Ao20 t114.length co20] 39 (0,0)) (by (with_reducible repeat (first|refine blk_drewN ?_ _|refine blk_drew ?_|refine blk_alloc ?_ _));exact BK120.out)):gb120≠gb127));have n14_:=Aside0.mk ((by rw[hg];exact Nat.ne_of_gt (blk_lt (g:=gb120) (o:=.cells #[.int .i64 t112,.int .i64 t113,.slice Ao20 t114.length co20] 39 (0,0)) (by (with_reducible repeat (first|refine blk_drewN ?_ _|refine blk_drew ?_|refine blk_alloc ?_ _));exact BK120.out)):gb127≠gb120));have n15_:=Aside0.mk ((by rw[hg];exact Nat.ne_of_lt (blk_lt (g:=gb121) (o:=.cells #[.int .i64 t117,.int .i64 t118] 41 (0,0)) (by (with_reducible repeat (first|refine blk_drewN ?_ _|refine blk_drew ?_|refine blk_alloc ?_ _));exact BK121.out)):gb121≠gb127));have n16_:=Aside0.mk ((by rw[hg];exact Nat.ne_of_gt (blk_lt (g:=gb121) (o:=.cells #[.int .i64 t117,.int .i64 t118] 41 (0,0)) (by (with_reducible repeat (first|refine blk_drewN ?_ _|refine blk_drew ?_|refine blk_alloc ?_ _));exact BK121.out)):gb127≠gb121));have n17_:=Aside0.mk ((by rw[hg];exact Nat.ne_of_lt (IsS54.lt (show IsS54 w _ g103 t101 t119 from by repeat (first|(with_reducible first|exact HI103.out|apply IsS54.alloc|apply IsS54.drewN|apply IsS54.drew|apply IsS54.set_1|refine IsS54.far ?_ NB103_111.out _|refine IsS54.far ?_ NB103_120.out _|refine IsS54.far ?_ NB103_121.out _)|exact HI103.out))):g103≠gb127));have n18_:=Aside0.mk ((by rw[hg];exact Nat.ne_of_gt (IsS54.lt (show IsS54 w _ g103 t101 t119 from by repeat (first|(with_reducible first|exact HI103.out|apply IsS54.alloc|apply IsS54.drewN|apply IsS54.drew|apply IsS54.set_1|refine IsS54.far ?_ NB103_111.out _|refine IsS54.far ?_ NB103_120.out _|refine IsS54.far ?_ NB103_121.out _)|exact HI103.out))):gb127≠g103));clear HO109;clear HO116;clear HO125;clear HI103;clear BK111;clear BK120;clear BK121;clear HB;have HO109:=n0_;have HO116:=n1_;have HO125:=n2_;have HI103:=n3_;have BK111:=n4_;have BK120:=n5_;have BK121:=n6_;have HB:=n7_;have BK127:=n8_;have GW127:=n9_;have GE127:=n10_;have NB111_127:=n11_;have NB127_111:=n12_;have NB120_127:=n13_;have NB127_120:=n14_;have NB121_127:=n15_;have NB127_121:=n16_;have NB103_127:=n17_;have NB127_103:=n18_;clear n0_ n1_ n2_ n3_ n4_ n5_ n6_ n7_ n8_ n9_ n10_ n11_ n12_ n13_ n14_ n15_ n16_ n17_ n18_;clear hb hbox hg;have hnb27:=NB127_111.out;have hnc27:=NB111_127.out;have hnb28:=NB127_120.out;have hnc28:=NB120_127.out;have hnb29:=NB127_121.out;have hnc29:=NB121_127.out;have hnb30:=NB127_103.out;have hnc30:=NB103_127.out;have hcz31_0:w26.cell? ⟨gb127,0,none⟩ = some (.int .i64 0):=(blk_cell BK127.out 0).trans rfl;have hcz31_1:w26.cell? ⟨gb127,1,none⟩ = some (.slice none 0 0):=(blk_cell BK127.out 1).trans rfl;have hfz31_0:=blk_frozen BK127.out 0;have hfz31_1:=blk_frozen BK127.out 1;obtain ⟨Ao32,co32,eo32⟩:=Kd.R_slice HO125.out;subst eo32))
  repeat (go_quiet (fail); go_upto_region 5 with (fail))
  (try simp only [Act.put, List.setIfInBounds_toArray, List.set_cons_zero, List.set_cons_succ])
  go_cut [38] (fun v38 wc=>∃ (kq:Nat) (x38_5:Bool),v38 = .bool x38_5∧Aside0 (payrolllaw11_WorktimeSound.j0 kq x38_5 t112 t113 t114 t122 t123 = some r)∧Aside0 (kq≤k)∧Aside0 (Kd.R k60 60 wc w.heap.size (fun _=>True) (.slice Ao12 t107.length co12) t107)∧Aside0 (Kd.N k48 48 wc w.heap.size (fun k_=>some k_≠((.slice Ao12 t107.length co12):Value).ownBlock∧some k_≠((.slice Ao32 t123.length co32):Value).ownBlock∧k_≠gb111∧k_≠gb120∧k_≠gb121∧k_≠gb127) (.slice Ao20 t114.length co20) t114)∧Aside0 (Kd.R k41 41 wc w.heap.size (fun k_=>k_≠gb121) (.slice Ao32 t123.length co32) t123)∧Aside0 (wc.heap[gb111]? = some (.cells #[.int .i64 t104,.int .i64 t105,.int .i64 t106,(.slice Ao12 t107.length co12)] 35 (0,0)))∧Aside0 (wc.heap[gb120]? = some (.cells #[.int .i64 t112,.int .i64 t113,(.slice Ao20 t114.length co20)] 39 (0,0)))∧Aside0 (wc.heap[gb121]? = some (.cells #[.int .i64 t117,.int .i64 t118] 41 (0,0)))∧Aside0 (wc.heap[gb127]? = some (.cells #[.int .i64 t122,(.slice Ao32 t123.length co32)] 30 (0,0)))∧Aside0 (Below w.heap.size w wc))
  case first =>
    have H := HC6.out
    clear HC6
    by_cases c33 : t126 = 0
    · rw [if_pos c33] at H
      have c33b0 : (t126 == 0) = true := beq_iff_eq.mpr c33
      have c33b1 : (t126 != 0) = false := bne_eq_false_iff_eq.mpr c33
      clear c33
      (first | rw [c33b0] | (simp only [i64_w, i32_w]; rw [c33b0]) | skip)
      have H' := Aside0.mk H
      clear H
      have hnb34 := NB127_111.out
      have hnc34 := NB111_127.out
      have hnb35 := NB127_120.out
      have hnc35 := NB120_127.out
      have hnb36 := NB127_121.out
      have hnc36 := NB121_127.out
      have hnb37 := NB127_103.out
      have hnc37 := NB103_127.out
      have hcz38_0 : w26.cell? ⟨gb127, 0, none⟩ = some (.int .i64 0) := (blk_cell BK127.out 0).trans rfl
      have hcz38_1 : w26.cell? ⟨gb127, 1, none⟩ = some (.slice none 0 0) := (blk_cell BK127.out 1).trans rfl
      have hfz38_0 := blk_frozen BK127.out 0
      have hfz38_1 := blk_frozen BK127.out 1
      have hnb39 := NB120_111.out
      have hnc39 := NB111_120.out
      have hnb40 := NB120_121.out
      have hnc40 := NB121_120.out
      have hnb41 := NB120_103.out
      have hnc41 := NB103_120.out
      have hcz42_0 : w26.cell? ⟨gb120, 0, none⟩ = some (.int .i64 t112) := (blk_cell BK120.out 0).trans rfl
      have hcz42_1 : w26.cell? ⟨gb120, 1, none⟩ = some (.int .i64 t113) := (blk_cell BK120.out 1).trans rfl
      have hcz42_2:w26.cell? ⟨gb120,2,none⟩ = some (.slice Ao20 t114.length co20):=(blk_cell BK120.out 2).trans rfl
      have hfz42_0 := blk_frozen BK120.out 0
      have hfz42_1 := blk_frozen BK120.out 1
      have hfz42_2 := blk_frozen BK120.out 2
      go_wp2
      repeat (go_quiet (fail); try go_wp2)
      go_meet
      case rel=>exact⟨_,((t122 != t113)),(by first|rfl|(simp;done)|(simp[*];done)),H',⟨by first|omega|exact Nat.le_refl _⟩,⟨by (with_reducible repeat (first|apply Kd.R_alloc|apply Kd.R_drewN|apply Kd.R_drew));exact Kd.R_mono (Kd.R_far (p:=⟨gb127,1,none⟩) (Kd.R_far (p:=⟨gb127,0,none⟩) (Kd.R_types HO109.out BK127.out (by decide)) (fun _ hk=>hk.2) (.int .i64 t122)) (fun _ hk=>hk.2) (.slice Ao32 t123.length co32)) (fun _ hk=>trivial)⟩,⟨by (with_reducible repeat (first|apply Kd.N_alloc|apply Kd.N_drewN|apply Kd.N_drew));exact Kd.N_mono (Kd.N_far (p:=⟨gb127,1,none⟩) (Kd.N_far (p:=⟨gb127,0,none⟩) (Kd.N_mono HO116.out (fun k_ hk=>(⟨hk,hk.2⟩:_∧k_≠gb127))) (fun _ hk=>hk.2) (.int .i64 t122)) (fun _ hk=>hk.2) (.slice Ao32 t123.length co32)) (fun _ hk=>⟨hk.1.1.1.1.1.1,⟨hk.1.1.2,⟨hk.1.1.1.1.1.2.1,⟨hk.1.1.1.1.2,⟨hk.1.1.1.2,hk.1.2⟩⟩⟩⟩⟩)⟩,⟨by (with_reducible repeat (first|apply Kd.R_alloc|apply Kd.R_drewN|apply Kd.R_drew));exact Kd.R_mono (Kd.R_far (p:=⟨gb127,1,none⟩) (Kd.R_far (p:=⟨gb127,0,none⟩) (Kd.R_types HO125.out BK127.out (by decide)) (fun _ hk=>hk.2) (.int .i64 t122)) (fun _ hk=>hk.2) (.slice Ao32 t123.length co32)) (fun _ hk=>hk.1.2)⟩,⟨by (with_reducible repeat (first|refine blk_drewN ?_ _|refine blk_drew ?_|refine blk_alloc ?_ _));refine blk_far ?_ NB111_127.out _;(with_reducible repeat (first|refine blk_drewN ?_ _|refine blk_drew ?_|refine blk_alloc ?_ _));refine blk_far ?_ NB111_127.out _;(with_reducible repeat (first|refine blk_drewN ?_ _|refine blk_drew ?_|refine blk_alloc ?_ _));exact BK111.out⟩,⟨by (with_reducible repeat (first|refine blk_drewN ?_ _|refine blk_drew ?_|refine blk_alloc ?_ _));refine blk_far ?_ NB120_127.out _;(with_reducible repeat (first|refine blk_drewN ?_ _|refine blk_drew ?_|refine blk_alloc ?_ _));refine blk_far ?_ NB120_127.out _;(with_reducible repeat (first|refine blk_drewN ?_ _|refine blk_drew ?_|refine blk_alloc ?_ _));exact BK120.out⟩,⟨by (with_reducible repeat (first|refine blk_drewN ?_ _|refine blk_drew ?_|refine blk_alloc ?_ _));refine blk_far ?_ NB121_127.out _;(with_reducible repeat (first|refine blk_drewN ?_ _|refine blk_drew ?_|refine blk_alloc ?_ _));refine blk_far ?_ NB121_127.out _;(with_reducible repeat (first|refine blk_drewN ?_ _|refine blk_drew ?_|refine blk_alloc ?_ _));exact BK121.out⟩,⟨by (with_reducible repeat (first|refine blk_drewN ?_ _|refine blk_drew ?_|refine blk_alloc ?_ _));refine blk_put (cs:=#[.int .i64 t122,.slice none 0 0]) ?_ 1 _ rfl;(with_reducible repeat (first|refine blk_drewN ?_ _|refine blk_drew ?_|refine blk_alloc ?_ _));refine blk_put (cs:=#[.int .i64 0,.slice none 0 0]) ?_ 0 _ rfl;(with_reducible repeat (first|refine blk_drewN ?_ _|refine blk_drew ?_|refine blk_alloc ?_ _));exact BK127.out⟩,⟨by repeat (first|(with_reducible first|exact HB.out|apply below_alloc|apply pw_below_drewN|apply below_drew1|refine below_set ?_ (IsS54.ge HI103.out)|refine below_set ?_ GE111.out|refine below_set ?_ GE120.out|refine below_set ?_ GE121.out|refine below_set ?_ GE127.out)|exact HB.out)⟩⟩
    · rw [if_neg c33] at H
      have c33b0 : (t126 == 0) = false := beq_eq_false_iff_ne.mpr c33
      have c33b1 : (t126 != 0) = true := bne_iff_ne.mpr c33
      (first | rw [c33b0] | (simp only [i64_w, i32_w]; rw [c33b0]) | skip)
      have H' := Aside0.mk H
      clear H
      go_wp2
      repeat (go_quiet (fail); try go_wp2)
      go_meet
      case rel=>exact⟨_,(true),(by first|rfl|(simp;done)|(simp[*];done)),H',⟨by first|omega|exact Nat.le_refl _⟩,⟨by (with_reducible repeat (first|apply Kd.R_alloc|apply Kd.R_drewN|apply Kd.R_drew));exact Kd.R_mono (Kd.R_far (p:=⟨gb127,1,none⟩) (Kd.R_far (p:=⟨gb127,0,none⟩) (Kd.R_types HO109.out BK127.out (by decide)) (fun _ hk=>hk.2) (.int .i64 t122)) (fun _ hk=>hk.2) (.slice Ao32 t123.length co32)) (fun _ hk=>trivial)⟩,⟨by (with_reducible repeat (first|apply Kd.N_alloc|apply Kd.N_drewN|apply Kd.N_drew));exact Kd.N_mono (Kd.N_far (p:=⟨gb127,1,none⟩) (Kd.N_far (p:=⟨gb127,0,none⟩) (Kd.N_mono HO116.out (fun k_ hk=>(⟨hk,hk.2⟩:_∧k_≠gb127))) (fun _ hk=>hk.2) (.int .i64 t122)) (fun _ hk=>hk.2) (.slice Ao32 t123.length co32)) (fun _ hk=>⟨hk.1.1.1.1.1.1,⟨hk.1.1.2,⟨hk.1.1.1.1.1.2.1,⟨hk.1.1.1.1.2,⟨hk.1.1.1.2,hk.1.2⟩⟩⟩⟩⟩)⟩,⟨by (with_reducible repeat (first|apply Kd.R_alloc|apply Kd.R_drewN|apply Kd.R_drew));exact Kd.R_mono (Kd.R_far (p:=⟨gb127,1,none⟩) (Kd.R_far (p:=⟨gb127,0,none⟩) (Kd.R_types HO125.out BK127.out (by decide)) (fun _ hk=>hk.2) (.int .i64 t122)) (fun _ hk=>hk.2) (.slice Ao32 t123.length co32)) (fun _ hk=>hk.1.2)⟩,⟨by (with_reducible repeat (first|refine blk_drewN ?_ _|refine blk_drew ?_|refine blk_alloc ?_ _));refine blk_far ?_ NB111_127.out _;(with_reducible repeat (first|refine blk_drewN ?_ _|refine blk_drew ?_|refine blk_alloc ?_ _));refine blk_far ?_ NB111_127.out _;(with_reducible repeat (first|refine blk_drewN ?_ _|refine blk_drew ?_|refine blk_alloc ?_ _));exact BK111.out⟩,⟨by (with_reducible repeat (first|refine blk_drewN ?_ _|refine blk_drew ?_|refine blk_alloc ?_ _));refine blk_far ?_ NB120_127.out _;(with_reducible repeat (first|refine blk_drewN ?_ _|refine blk_drew ?_|refine blk_alloc ?_ _));refine blk_far ?_ NB120_127.out _;(with_reducible repeat (first|refine blk_drewN ?_ _|refine blk_drew ?_|refine blk_alloc ?_ _));exact BK120.out⟩,⟨by (with_reducible repeat (first|refine blk_drewN ?_ _|refine blk_drew ?_|refine blk_alloc ?_ _));refine blk_far ?_ NB121_127.out _;(with_reducible repeat (first|refine blk_drewN ?_ _|refine blk_drew ?_|refine blk_alloc ?_ _));refine blk_far ?_ NB121_127.out _;(with_reducible repeat (first|refine blk_drewN ?_ _|refine blk_drew ?_|refine blk_alloc ?_ _));exact BK121.out⟩,⟨by (with_reducible repeat (first|refine blk_drewN ?_ _|refine blk_drew ?_|refine blk_alloc ?_ _));refine blk_put (cs:=#[.int .i64 t122,.slice none 0 0]) ?_ 1 _ rfl;(with_reducible repeat (first|refine blk_drewN ?_ _|refine blk_drew ?_|refine blk_alloc ?_ _));refine blk_put (cs:=#[.int .i64 0,.slice none 0 0]) ?_ 0 _ rfl;(with_reducible repeat (first|refine blk_drewN ?_ _|refine blk_drew ?_|refine blk_alloc ?_ _));exact BK127.out⟩,⟨by repeat (first|(with_reducible first|exact HB.out|apply below_alloc|apply pw_below_drewN|apply below_drew1|refine below_set ?_ (IsS54.ge HI103.out)|refine below_set ?_ GE111.out|refine below_set ?_ GE120.out|refine below_set ?_ GE121.out|refine below_set ?_ GE127.out)|exact HB.out)⟩⟩
  case rest =>
    clear HC6
    try clear c1
    try clear c2
    try clear p2
    try clear c3
    try clear c4
    try clear c10
    try clear c16
    try clear c17
    try clear c18
    try clear c21
    try clear c22
    try clear c27
    try clear c28
    try clear c29
    try clear c30
    try clear c33
    try clear c33b0
    try clear c33b1
    try clear c34
    try clear c35
    try clear c36
    try clear c37
    try clear c39
    try clear c40
    try clear c41
    try clear hcz11_0
    try clear hcz11_1
    try clear hcz11_2
    try clear hcz11_3
    try clear hcz19_0
    try clear hcz19_1
    try clear hcz19_2
    try clear hcz23_0
    try clear hcz23_1
    try clear hcz24_0
    try clear hcz24_1
    try clear hcz24_2
    try clear hcz24_3
    try clear hcz31_0
    try clear hcz31_1
    try clear hcz38_0
    try clear hcz38_1
    try clear hcz42_0
    try clear hcz42_1
    try clear hcz42_2
    try clear hfz11_0
    try clear hfz11_1
    try clear hfz11_2
    try clear hfz11_3
    try clear hfz19_0
    try clear hfz19_1
    try clear hfz19_2
    try clear hfz23_0
    try clear hfz23_1
    try clear hfz24_0
    try clear hfz24_1
    try clear hfz24_2
    try clear hfz24_3
    try clear hfz31_0
    try clear hfz31_1
    try clear hfz38_0
    try clear hfz38_1
    try clear hfz42_0
    try clear hfz42_1
    try clear hfz42_2
    obtain ⟨kq, x38_5, rfl, HA, HJ5, HO_112003, HO_121002, HO_128001, BK111, BK120, BK121, BK127, HB⟩ := hcut
    cases kq with
    | zero => exact absurd HA.out (by simp [payrolllaw11_WorktimeSound.j0])
    | succ kj5 =>
      have H := HA.out
      clear HA
      simp only [payrolllaw11_WorktimeSound.j0] at H
      by_cases c43 : x38_5 = true
      · subst c43
        have H1 : (some false) = some r := by rw [if_pos rfl] at H; exact H
        clear H
        have H := H1
        clear H1
        exact absurd (H.trans (congrArg some HRT.out)) (by simp)
      · replace c43 := Bool.eq_false_iff.mpr c43
        subst c43
        have H1:(payrolllaw11_WorktimeSound.l0 kj5 0 t112 t113 t114 t122 t123) = some r:=by rw[if_neg (show ¬ (false = true) by decide)] at H;exact H
        clear H
        have H := H1
        clear H1
        have H' := Aside0.mk H
        clear H
        go_wp2
        repeat (go_quiet (fail); try go_wp2)
        go_loopg [9] kj5 (fun kq v9 w'=>∃ (x9_2:Int),v9 = .int .i64 x9_2∧Aside0 (payrolllaw11_WorktimeSound.l0 kq x9_2 t112 t113 t114 t122 t123 = some r)∧Aside0 (kq≤kj5)∧Aside0 (Kd.R k60 60 w' w.heap.size (fun _=>True) (.slice Ao12 t107.length co12) t107)∧Aside0 (Kd.N k48 48 w' w.heap.size (fun k_=>some k_≠((.slice Ao12 t107.length co12):Value).ownBlock∧some k_≠((.slice Ao32 t123.length co32):Value).ownBlock∧k_≠gb111∧k_≠gb120∧k_≠gb121∧k_≠gb127) (.slice Ao20 t114.length co20) t114)∧Aside0 (Kd.R k41 41 w' w.heap.size (fun k_=>k_≠gb121) (.slice Ao32 t123.length co32) t123)∧Aside0 (w'.heap[gb111]? = some (.cells #[.int .i64 t104,.int .i64 t105,.int .i64 t106,(.slice Ao12 t107.length co12)] 35 (0,0)))∧Aside0 (w'.heap[gb120]? = some (.cells #[.int .i64 t112,.int .i64 t113,(.slice Ao20 t114.length co20)] 39 (0,0)))∧Aside0 (w'.heap[gb121]? = some (.cells #[.int .i64 t117,.int .i64 t118] 41 (0,0)))∧Aside0 (w'.heap[gb127]? = some (.cells #[.int .i64 t122,(.slice Ao32 t123.length co32)] 30 (0,0)))∧Aside0 (Below w.heap.size w w'))
        case atStart=>exact⟨(0),(by first|rfl|(simp;done)|(simp[*];done)),H',⟨Nat.le_refl _⟩,⟨by (with_reducible repeat (first|apply Kd.R_alloc|apply Kd.R_drewN|apply Kd.R_drew));exact HO_112003.out⟩,⟨by (with_reducible repeat (first|apply Kd.N_alloc|apply Kd.N_drewN|apply Kd.N_drew));exact HO_121002.out⟩,⟨by (with_reducible repeat (first|apply Kd.R_alloc|apply Kd.R_drewN|apply Kd.R_drew));exact HO_128001.out⟩,⟨by (with_reducible repeat (first|refine blk_drewN ?_ _|refine blk_drew ?_|refine blk_alloc ?_ _));exact BK111.out⟩,⟨by (with_reducible repeat (first|refine blk_drewN ?_ _|refine blk_drew ?_|refine blk_alloc ?_ _));exact BK120.out⟩,⟨by (with_reducible repeat (first|refine blk_drewN ?_ _|refine blk_drew ?_|refine blk_alloc ?_ _));exact BK121.out⟩,⟨by (with_reducible repeat (first|refine blk_drewN ?_ _|refine blk_drew ?_|refine blk_alloc ?_ _));exact BK127.out⟩,⟨by repeat (first|(with_reducible first|exact HB.out|apply below_alloc|apply pw_below_drewN|apply below_drew1|refine below_set ?_ GE111.out|refine below_set ?_ GE120.out|refine below_set ?_ GE121.out|refine below_set ?_ GE127.out)|exact HB.out)⟩⟩
        case round =>
          clear H'
          try clear c1
          try clear c2
          try clear p2
          try clear c3
          try clear c4
          try clear c10
          try clear c16
          try clear c17
          try clear c18
          try clear c21
          try clear c22
          try clear c27
          try clear c28
          try clear c29
          try clear c30
          try clear c33
          try clear c33b0
          try clear c33b1
          try clear c34
          try clear c35
          try clear c36
          try clear c37
          try clear c39
          try clear c40
          try clear c41
          try clear c43
          try clear hcz11_0
          try clear hcz11_1
          try clear hcz11_2
          try clear hcz11_3
          try clear hcz19_0
          try clear hcz19_1
          try clear hcz19_2
          try clear hcz23_0
          try clear hcz23_1
          try clear hcz24_0
          try clear hcz24_1
          try clear hcz24_2
          try clear hcz24_3
          try clear hcz31_0
          try clear hcz31_1
          try clear hcz38_0
          try clear hcz38_1
          try clear hcz42_0
          try clear hcz42_1
          try clear hcz42_2
          try clear hfz11_0
          try clear hfz11_1
          try clear hfz11_2
          try clear hfz11_3
          try clear hfz19_0
          try clear hfz19_1
          try clear hfz19_2
          try clear hfz23_0
          try clear hfz23_1
          try clear hfz24_0
          try clear hfz24_1
          try clear hfz24_2
          try clear hfz24_3
          try clear hfz31_0
          try clear hfz31_1
          try clear hfz38_0
          try clear hfz38_1
          try clear hfz42_0
          try clear hfz42_1
          try clear hfz42_2
          try clear p2
          obtain ⟨x9_2, rfl, HA, HK2, HO_112003, HO_121002, HO_128001, BK111, BK120, BK121, BK127, HB⟩ := hrel
          cases gk with
          | zero => exact absurd HA.out (by simp [payrolllaw11_WorktimeSound.l0])
          | succ k2 =>
            have H := HA.out
            clear HA
            simp only [payrolllaw11_WorktimeSound.l0] at H
            by_cases c44 : x9_2 < (t123.length : Int)
            · rw [if_pos c44] at H
              have c44b0 : decide (x9_2 < (t123.length : Int)) = true := decide_eq_true c44
              clear c44
              by_cases c45 : 0 ≤ x9_2
              · rw [if_pos c45] at H
                have c45b0 : decide (0 ≤ x9_2) = true := decide_eq_true c45
                clear c45
                have HC46 := Aside0.mk H
                clear H
                have hnb47 := NB127_111.out
                have hnc47 := NB111_127.out
                have hnb48 := NB127_120.out
                have hnc48 := NB120_127.out
                have hnb49 := NB127_121.out
                have hnc49 := NB121_127.out
                have hcz50_0 : wr.cell? ⟨gb127, 0, none⟩ = some (.int .i64 t122) := (blk_cell BK127.out 0).trans rfl
                have hcz50_1:wr.cell? ⟨gb127,1,none⟩ = some (.slice Ao32 t123.length co32):=(blk_cell BK127.out 1).trans rfl
                have hfz50_0 := blk_frozen BK127.out 0
                have hfz50_1 := blk_frozen BK127.out 1
                have p129 : 0 ≤ (x9_2 : Int) := of_decide_eq_true (by first | (with_reducible assumption) | assumption)
                have q129:x9_2 < (t123.length:Int):=of_decide_eq_true (by first|(with_reducible assumption)|assumption)
                obtain ⟨ad129, e129, hx129_0, hx129_1⟩ := at_T41 (Kd.R_reads' HO_128001.out).2.2 x9_2 p129 q129
                cases e129
                replace p129 := eq_true p129
                replace q129 := eq_true q129
                go_upto_region 11 with (first|((with_reducible refine gate_dst (N:=10) rfl ?_);refine box_event ?hg (N:=10) ?hd (cs:=#[.int .i64 0,.int .i64 0]) (t:=41) ?hr ?_;(case hd=>rfl);(case hg=>rfl);(case hr=>first|(go_simp;done)|(go_simp;rfl));intro gb130 hg w51 hbox hb;have n0_:=Aside0.mk (Kd.R_below (by (with_reducible repeat (first|apply Kd.R_alloc|apply Kd.R_drewN|apply Kd.R_drew));exact HO_112003.out) hb);have n1_:=Aside0.mk (Kd.N_below (Kd.N_elderB (by (with_reducible repeat (first|apply Kd.N_alloc|apply Kd.N_drewN|apply Kd.N_drew));exact HO_121002.out) gb130 (Nat.le_of_eq hg.symm)) hb);have n2_:=Aside0.mk (Kd.R_below (Kd.R_elderB (by (with_reducible repeat (first|apply Kd.R_alloc|apply Kd.R_drewN|apply Kd.R_drew));exact HO_128001.out) gb130 (Nat.le_of_eq hg.symm)) hb);have n3_:=Aside0.mk (blk_below (g:=gb111) (o:=.cells #[.int .i64 t104,.int .i64 t105,.int .i64 t106,.slice Ao12 t107.length co12] 35 (0,0)) (by (with_reducible repeat (first|refine blk_drewN ?_ _|refine blk_drew ?_|refine blk_alloc ?_ _));exact BK111.out) hb);have n4_:=Aside0.mk (blk_below (g:=gb120) (o:=.cells #[.int .i64 t112,.int .i64 t113,.slice Ao20 t114.length co20] 39 (0,0)) (by (with_reducible repeat (first|refine blk_drewN ?_ _|refine blk_drew ?_|refine blk_alloc ?_ _));exact BK120.out) hb);have n5_:=Aside0.mk (blk_below (g:=gb121) (o:=.cells #[.int .i64 t117,.int .i64 t118] 41 (0,0)) (by (with_reducible repeat (first|refine blk_drewN ?_ _|refine blk_drew ?_|refine blk_alloc ?_ _));exact BK121.out) hb);have n6_:=Aside0.mk (blk_below (g:=gb127) (o:=.cells #[.int .i64 t122,.slice (some ad129) t123.length co32] 30 (0,0)) (by (with_reducible repeat (first|refine blk_drewN ?_ _|refine blk_drew ?_|refine blk_alloc ?_ _));exact BK127.out) hb);have n7_:=Aside0.mk (below_step (by repeat (first|(with_reducible first|exact HB.out|apply below_alloc|apply pw_below_drewN|apply below_drew1|refine below_set ?_ GE111.out|refine below_set ?_ GE120.out|refine below_set ?_ GE121.out|refine below_set ?_ GE127.out)|exact HB.out)) hb);have n8_:=Aside0.mk (hbox);have n9_:=Aside0.mk ((by rw[hg];exact(below_size (by repeat (first|(with_reducible first|exact HB.out|apply below_alloc|apply pw_below_drewN|apply below_drew1|refine below_set ?_ GE111.out|refine below_set ?_ GE120.out|refine below_set ?_ GE121.out|refine below_set ?_ GE127.out)|exact HB.out))):w.heap.size≤gb130));have n10_:=Aside0.mk ((by rw[hg];exact(below_size (by repeat (first|(with_reducible first|exact HB.out|apply below_alloc|apply pw_below_drewN|apply below_drew1|refine below_set ?_ GE111.out|refine below_set ?_ GE120.out|refine below_set ?_ GE121.out|refine below_set ?_ GE127.out)|exact HB.out))):w.heap.size≤gb130));have n11_:=Aside0.mk ((by rw[hg];exact Nat.ne_of_lt (blk_lt (g:=gb111) (o:=.cells #[.int .i64 t104,.int .i64 t105,.int .i64 t106,.slice Ao12 t107.length co12] 35 (0,0)) (by (with_reducible repeat (first|refine blk_drewN ?_ _|refine blk_drew ?_|refine blk_alloc ?_ _));exact BK111.out)):gb111≠gb130));have n12_:=Aside0.mk ((by rw[hg];exact Nat.ne_of_gt (blk_lt (g:=gb111) (o:=.cells #[.int .i64 t104,.int .i64 t105,.int .i64 t106,.slice Ao12 t107.length co12] 35 (0,0)) (by (with_reducible repeat (first|refine blk_drewN ?_ _|refine blk_drew ?_|refine blk_alloc ?_ _));exact BK111.out)):gb130≠gb111));have n13_:=Aside0.mk ((by rw[hg];exact Nat.ne_of_lt (blk_lt (g:=gb120) (o:=.cells #[.int .i64 t112,.int .i64 t113,.slice Ao20 t114.length co20] 39 (0,0)) (by (with_reducible repeat (first|refine blk_drewN ?_ _|refine blk_drew ?_|refine blk_alloc ?_ _));exact BK120.out)):gb120≠gb130));have n14_:=Aside0.mk ((by rw[hg];exact Nat.ne_of_gt (blk_lt (g:=gb120) (o:=.cells #[.int .i64 t112,.int .i64 t113,.slice Ao20 t114.length co20] 39 (0,0)) (by (with_reducible repeat (first|refine blk_drewN ?_ _|refine blk_drew ?_|refine blk_alloc ?_ _));exact BK120.out)):gb130≠gb120));have n15_:=Aside0.mk ((by rw[hg];exact Nat.ne_of_lt (blk_lt (g:=gb121) (o:=.cells #[.int .i64 t117,.int .i64 t118] 41 (0,0)) (by (with_reducible repeat (first|refine blk_drewN ?_ _|refine blk_drew ?_|refine blk_alloc ?_ _));exact BK121.out)):gb121≠gb130));have n16_:=Aside0.mk ((by rw[hg];exact Nat.ne_of_gt (blk_lt (g:=gb121) (o:=.cells #[.int .i64 t117,.int .i64 t118] 41 (0,0)) (by (with_reducible repeat (first|refine blk_drewN ?_ _|refine blk_drew ?_|refine blk_alloc ?_ _));exact BK121.out)):gb130≠gb121));have n17_:=Aside0.mk ((by rw[hg];exact Nat.ne_of_lt (blk_lt (g:=gb127) (o:=.cells #[.int .i64 t122,.slice (some ad129) t123.length co32] 30 (0,0)) (by (with_reducible repeat (first|refine blk_drewN ?_ _|refine blk_drew ?_|refine blk_alloc ?_ _));exact BK127.out)):gb127≠gb130));have n18_:=Aside0.mk ((by rw[hg];exact Nat.ne_of_gt (blk_lt (g:=gb127) (o:=.cells #[.int .i64 t122,.slice (some ad129) t123.length co32] 30 (0,0)) (by (with_reducible repeat (first|refine blk_drewN ?_ _|refine blk_drew ?_|refine blk_alloc ?_ _));exact BK127.out)):gb130≠gb127));clear HO_112003;clear HO_121002;clear HO_128001;clear BK111;clear BK120;clear BK121;clear BK127;clear HB;have HO_112003:=n0_;have HO_121002:=n1_;have HO_128001:=n2_;have BK111:=n3_;have BK120:=n4_;have BK121:=n5_;have BK127:=n6_;have HB:=n7_;have BK130:=n8_;have GW130:=n9_;have GE130:=n10_;have NB111_130:=n11_;have NB130_111:=n12_;have NB120_130:=n13_;have NB130_120:=n14_;have NB121_130:=n15_;have NB130_121:=n16_;have NB127_130:=n17_;have NB130_127:=n18_;clear n0_ n1_ n2_ n3_ n4_ n5_ n6_ n7_ n8_ n9_ n10_ n11_ n12_ n13_ n14_ n15_ n16_ n17_ n18_;clear hb hbox hg;have hnb52:=NB130_111.out;have hnc52:=NB111_130.out;have hnb53:=NB130_120.out;have hnc53:=NB120_130.out;have hnb54:=NB130_121.out;have hnc54:=NB121_130.out;have hnb55:=NB130_127.out;have hnc55:=NB127_130.out;have hcz56_0:w51.cell? ⟨gb130,0,none⟩ = some (.int .i64 0):=(blk_cell BK130.out 0).trans rfl;have hcz56_1:w51.cell? ⟨gb130,1,none⟩ = some (.int .i64 0):=(blk_cell BK130.out 1).trans rfl;have hfz56_0:=blk_frozen BK130.out 0;have hfz56_1:=blk_frozen BK130.out 1))
                repeat (go_quiet (fail); go_upto_region 11 with (fail))
                (try simp only [Act.put, List.setIfInBounds_toArray, List.set_cons_zero, List.set_cons_succ])
                go_cut [71] (fun v71 wc=>∃ (kq:Nat) (x71_45:Bool),v71 = .bool x71_45∧Aside0 (payrolllaw11_WorktimeSound.j2 kq x9_2 x71_45 t112 t113 t114 t122 t123 ((rd_T41 t123 x9_2).f0) ((rd_T41 t123 x9_2).f1) = some r)∧Aside0 (kq≤k2)∧Aside0 (Kd.R k60 60 wc w.heap.size (fun _=>True) (.slice Ao12 t107.length co12) t107)∧Aside0 (Kd.N k48 48 wc w.heap.size (fun k_=>some k_≠((.slice Ao12 t107.length co12):Value).ownBlock∧some k_≠((.slice (some ad129) t123.length co32):Value).ownBlock∧k_≠gb111∧k_≠gb120∧k_≠gb121∧k_≠gb127∧k_≠gb130) (.slice Ao20 t114.length co20) t114)∧Aside0 (Kd.R k41 41 wc w.heap.size (fun k_=>k_≠gb121∧k_≠gb130) (.slice (some ad129) t123.length co32) t123)∧Aside0 (wc.heap[gb111]? = some (.cells #[.int .i64 t104,.int .i64 t105,.int .i64 t106,(.slice Ao12 t107.length co12)] 35 (0,0)))∧Aside0 (wc.heap[gb120]? = some (.cells #[.int .i64 t112,.int .i64 t113,(.slice Ao20 t114.length co20)] 39 (0,0)))∧Aside0 (wc.heap[gb121]? = some (.cells #[.int .i64 t117,.int .i64 t118] 41 (0,0)))∧Aside0 (wc.heap[gb127]? = some (.cells #[.int .i64 t122,(.slice (some ad129) t123.length co32)] 30 (0,0)))∧Aside0 (wc.heap[gb130]? = some (.cells #[.int .i64 ((rd_T41 t123 x9_2).f0),.int .i64 ((rd_T41 t123 x9_2).f1)] 41 (0,0)))∧Aside0 (Below w.heap.size w wc))
                case first =>
                  have H := HC46.out
                  clear HC46
                  by_cases c57 : ((rd_T41 t123 x9_2).f0) ≥ ((rd_T41 t123 x9_2).f1)
                  · rw [if_pos c57] at H
                    have c57b0 : decide (((rd_T41 t123 x9_2).f1) ≤ ((rd_T41 t123 x9_2).f0)) = true := decide_eq_true c57
                    clear c57
                    (first | rw [c57b0] | (simp only [i64_w, i32_w]; rw [c57b0]) | skip)
                    have H' := Aside0.mk H
                    clear H
                    have hnb58 := NB130_111.out
                    have hnc58 := NB111_130.out
                    have hnb59 := NB130_120.out
                    have hnc59 := NB120_130.out
                    have hnb60 := NB130_121.out
                    have hnc60 := NB121_130.out
                    have hnb61 := NB130_127.out
                    have hnc61 := NB127_130.out
                    have hcz62_0 : w51.cell? ⟨gb130, 0, none⟩ = some (.int .i64 0) := (blk_cell BK130.out 0).trans rfl
                    have hcz62_1 : w51.cell? ⟨gb130, 1, none⟩ = some (.int .i64 0) := (blk_cell BK130.out 1).trans rfl
                    have hfz62_0 := blk_frozen BK130.out 0
                    have hfz62_1 := blk_frozen BK130.out 1
                    go_wp2
                    repeat (go_quiet (fail); try go_wp2)
                    go_meet
                    case rel=>exact⟨_,(true),(by first|rfl|(simp;done)|(simp[*];done)),H',⟨by have:=HJ5.out;have:=HK2.out;first|omega|exact Nat.le_refl _⟩,⟨by (with_reducible repeat (first|apply Kd.R_alloc|apply Kd.R_drewN|apply Kd.R_drew));exact Kd.R_mono (Kd.R_far (p:=⟨gb130,1,none⟩) (Kd.R_far (p:=⟨gb130,0,none⟩) (Kd.R_types HO_112003.out BK130.out (by decide)) (fun _ hk=>hk.2) (.int .i64 ((rd_T41 t123 x9_2).f0))) (fun _ hk=>hk.2) (.int .i64 ((rd_T41 t123 x9_2).f1))) (fun _ hk=>trivial)⟩,⟨by (with_reducible repeat (first|apply Kd.N_alloc|apply Kd.N_drewN|apply Kd.N_drew));exact Kd.N_mono (Kd.N_far (p:=⟨gb130,1,none⟩) (Kd.N_far (p:=⟨gb130,0,none⟩) (Kd.N_mono HO_121002.out (fun k_ hk=>(⟨hk,hk.2⟩:_∧k_≠gb130))) (fun _ hk=>hk.2) (.int .i64 ((rd_T41 t123 x9_2).f0))) (fun _ hk=>hk.2) (.int .i64 ((rd_T41 t123 x9_2).f1))) (fun _ hk=>⟨hk.1.1.1,⟨hk.1.1.2.1,⟨hk.1.1.2.2.1,⟨hk.1.1.2.2.2.1,⟨hk.1.1.2.2.2.2.1,⟨hk.1.1.2.2.2.2.2,hk.1.2⟩⟩⟩⟩⟩⟩)⟩,⟨by (with_reducible repeat (first|apply Kd.R_alloc|apply Kd.R_drewN|apply Kd.R_drew));exact Kd.R_mono (Kd.R_far (p:=⟨gb130,1,none⟩) (Kd.R_far (p:=⟨gb130,0,none⟩) (Kd.R_mono HO_128001.out (fun k_ hk=>(⟨hk,hk.2⟩:_∧k_≠gb130))) (fun _ hk=>hk.2) (.int .i64 ((rd_T41 t123 x9_2).f0))) (fun _ hk=>hk.2) (.int .i64 ((rd_T41 t123 x9_2).f1))) (fun _ hk=>⟨hk.1.1,hk.1.2⟩)⟩,⟨by (with_reducible repeat (first|refine blk_drewN ?_ _|refine blk_drew ?_|refine blk_alloc ?_ _));refine blk_far ?_ NB111_130.out _;(with_reducible repeat (first|refine blk_drewN ?_ _|refine blk_drew ?_|refine blk_alloc ?_ _));refine blk_far ?_ NB111_130.out _;(with_reducible repeat (first|refine blk_drewN ?_ _|refine blk_drew ?_|refine blk_alloc ?_ _));exact BK111.out⟩,⟨by (with_reducible repeat (first|refine blk_drewN ?_ _|refine blk_drew ?_|refine blk_alloc ?_ _));refine blk_far ?_ NB120_130.out _;(with_reducible repeat (first|refine blk_drewN ?_ _|refine blk_drew ?_|refine blk_alloc ?_ _));refine blk_far ?_ NB120_130.out _;(with_reducible repeat (first|refine blk_drewN ?_ _|refine blk_drew ?_|refine blk_alloc ?_ _));exact BK120.out⟩,⟨by (with_reducible repeat (first|refine blk_drewN ?_ _|refine blk_drew ?_|refine blk_alloc ?_ _));refine blk_far ?_ NB121_130.out _;(with_reducible repeat (first|refine blk_drewN ?_ _|refine blk_drew ?_|refine blk_alloc ?_ _));refine blk_far ?_ NB121_130.out _;(with_reducible repeat (first|refine blk_drewN ?_ _|refine blk_drew ?_|refine blk_alloc ?_ _));exact BK121.out⟩,⟨by (with_reducible repeat (first|refine blk_drewN ?_ _|refine blk_drew ?_|refine blk_alloc ?_ _));refine blk_far ?_ NB127_130.out _;(with_reducible repeat (first|refine blk_drewN ?_ _|refine blk_drew ?_|refine blk_alloc ?_ _));refine blk_far ?_ NB127_130.out _;(with_reducible repeat (first|refine blk_drewN ?_ _|refine blk_drew ?_|refine blk_alloc ?_ _));exact BK127.out⟩,⟨by (with_reducible repeat (first|refine blk_drewN ?_ _|refine blk_drew ?_|refine blk_alloc ?_ _));refine blk_put (cs:=#[.int .i64 ((rd_T41 t123 x9_2).f0),.int .i64 0]) ?_ 1 _ rfl;(with_reducible repeat (first|refine blk_drewN ?_ _|refine blk_drew ?_|refine blk_alloc ?_ _));refine blk_put (cs:=#[.int .i64 0,.int .i64 0]) ?_ 0 _ rfl;(with_reducible repeat (first|refine blk_drewN ?_ _|refine blk_drew ?_|refine blk_alloc ?_ _));exact BK130.out⟩,⟨by repeat (first|(with_reducible first|exact HB.out|apply below_alloc|apply pw_below_drewN|apply below_drew1|refine below_set ?_ GE111.out|refine below_set ?_ GE120.out|refine below_set ?_ GE121.out|refine below_set ?_ GE127.out|refine below_set ?_ GE130.out)|exact HB.out)⟩⟩
                  · rw [if_neg c57] at H
                    have c57b0:decide (((rd_T41 t123 x9_2).f1)≤((rd_T41 t123 x9_2).f0)) = false:=decide_eq_false c57
                    clear c57
                    (first | rw [c57b0] | (simp only [i64_w, i32_w]; rw [c57b0]) | skip)
                    by_cases c63 : x9_2 > 0
                    · rw [if_pos c63] at H
                      have c63b0 : decide (0 < x9_2) = true := decide_eq_true c63
                      clear c63
                      obtain ⟨ji64, hji64⟩ : ∃ j_ : Int, (wrap64 (x9_2 - 1)) = j_ := ⟨_, rfl⟩
                      replace H:(if 0≤(ji64) then (if (ji64) < (t123.length:Int) then (payrolllaw11_WorktimeSound.j2 k2 x9_2 (decide (((rd_T41 t123 x9_2).f0)≤((rd_T41 t123 (ji64)).f1))) t112 t113 t114 t122 t123 ((rd_T41 t123 x9_2).f0) ((rd_T41 t123 x9_2).f1)) else (none)) else (none)) = some r:=by first|(rw[hji64] at H;exact H)|(simp only[hji64] at H ⊢;exact H)
                      have hji64w : (IntKind.i64.wrap (x9_2 - 1)) = ji64 := (i64_w _).trans hji64
                      by_cases c65 : 0 ≤ (ji64)
                      · rw [if_pos c65] at H
                        have c65b0 : decide (0 ≤ (ji64)) = true := decide_eq_true c65
                        clear c65
                        by_cases c66 : (ji64) < (t123.length : Int)
                        · rw [if_pos c66] at H
                          have c66b0 : decide ((ji64) < (t123.length : Int)) = true := decide_eq_true c66
                          clear c66
                          have H' := Aside0.mk H
                          clear H
                          have hnb67 := NB130_111.out
                          have hnc67 := NB111_130.out
                          have hnb68 := NB130_120.out
                          have hnc68 := NB120_130.out
                          have hnb69 := NB130_121.out
                          have hnc69 := NB121_130.out
                          have hnb70 := NB130_127.out
                          have hnc70 := NB127_130.out
                          have hcz71_0:w51.cell? ⟨gb130,0,none⟩ = some (.int .i64 0):=(blk_cell BK130.out 0).trans rfl
                          have hcz71_1:w51.cell? ⟨gb130,1,none⟩ = some (.int .i64 0):=(blk_cell BK130.out 1).trans rfl
                          have hfz71_0 := blk_frozen BK130.out 0
                          have hfz71_1 := blk_frozen BK130.out 1
                          have hnb72 := NB127_111.out
                          have hnc72 := NB111_127.out
                          have hnb73 := NB127_120.out
                          have hnc73 := NB120_127.out
                          have hnb74 := NB127_121.out
                          have hnc74 := NB121_127.out
                          have hcz75_0:w51.cell? ⟨gb127,0,none⟩ = some (.int .i64 t122):=(blk_cell BK127.out 0).trans rfl
                          have hcz75_1:w51.cell? ⟨gb127,1,none⟩ = some (.slice (some ad129) t123.length co32):=(blk_cell BK127.out 1).trans rfl
                          have hfz75_0 := blk_frozen BK127.out 0
                          have hfz75_1 := blk_frozen BK127.out 1
                          have p131:0≤((ji64):Int):=of_decide_eq_true (by first|(with_reducible assumption)|assumption)
                          have q131:(ji64) < (t123.length:Int):=of_decide_eq_true (by first|(with_reducible assumption)|assumption)
                          obtain ⟨ad131,e131,hx131_0,hx131_1⟩:=at_T41 (Kd.R_reads' HO_128001.out).2.2 (ji64) p131 q131
                          obtain rfl : ad129 = ad131 := (by injection e131)
                          have hn131_0:ad129.block≠gb130:=by first|exact Kd.own_blk (Kd.R_ne HO_128001.out BK130.out (by decide))|exact Kd.own_blk (Kd.R_away HO_128001.out (fun _ hk=>hk.2))|exact Kd.own_blk (Kd.R_away HO_128001.out (fun _ hk=>hk.1.2))|exact Kd.own_blk (Kd.R_away HO_128001.out (fun _ hk=>hk.1.1.2))
                          have hn131_1:ad129.block≠gb130:=by first|exact Kd.own_blk (Kd.R_ne HO_128001.out BK130.out (by decide))|exact Kd.own_blk (Kd.R_away HO_128001.out (fun _ hk=>hk.2))|exact Kd.own_blk (Kd.R_away HO_128001.out (fun _ hk=>hk.1.2))|exact Kd.own_blk (Kd.R_away HO_128001.out (fun _ hk=>hk.1.1.2))
                          replace hx131_0:=(cell_far (p:=⟨gb130,0,none⟩) (by first|(rw[add_block];exact hn131_0)|(show (Addr.add _ _).block≠_;rw[add_block];exact hn131_0)|exact hn131_0) (.int .i64 ((rd_T41 t123 x9_2).f0))).trans hx131_0
                          replace hx131_1:=(cell_far (p:=⟨gb130,0,none⟩) (by first|(rw[add_block];exact hn131_0)|(show (Addr.add _ _).block≠_;rw[add_block];exact hn131_0)|exact hn131_0) (.int .i64 ((rd_T41 t123 x9_2).f0))).trans hx131_1
                          replace hx131_0:=(cell_far (p:=⟨gb130,1,none⟩) (by first|(rw[add_block];exact hn131_1)|(show (Addr.add _ _).block≠_;rw[add_block];exact hn131_1)|exact hn131_1) (.int .i64 ((rd_T41 t123 x9_2).f1))).trans hx131_0
                          replace hx131_1:=(cell_far (p:=⟨gb130,1,none⟩) (by first|(rw[add_block];exact hn131_1)|(show (Addr.add _ _).block≠_;rw[add_block];exact hn131_1)|exact hn131_1) (.int .i64 ((rd_T41 t123 x9_2).f1))).trans hx131_1
                          (try have hy131_0:=fun (n_:Nat)=>(show ((((w51.drewN n_).setCell ⟨gb130,0,none⟩ (.int .i64 ((rd_T41 t123 x9_2).f0))).setCell ⟨gb130,1,none⟩ (.int .i64 ((rd_T41 t123 x9_2).f1)))).cell? _ = some _ from hx131_0))
                          (try have hy131_1:=fun (n_:Nat)=>(show ((((w51.drewN n_).setCell ⟨gb130,0,none⟩ (.int .i64 ((rd_T41 t123 x9_2).f0))).setCell ⟨gb130,1,none⟩ (.int .i64 ((rd_T41 t123 x9_2).f1)))).cell? _ = some _ from hx131_1))
                          clear hn131_0
                          clear hn131_1
                          replace p131 := eq_true p131
                          replace q131 := eq_true q131
                          go_wp2
                          repeat (go_quiet (fail); try go_wp2)
                          go_meet
                          case rel=>exact⟨_,(decide (((rd_T41 t123 x9_2).f0)≤((rd_T41 t123 (ji64)).f1))),(by first|rfl|(simp;done)|(simp only[← hji64] <;> (first|rfl|simp))|(simp[*];done)),H',⟨by have:=HJ5.out;have:=HK2.out;first|omega|exact Nat.le_refl _⟩,⟨by (with_reducible repeat (first|apply Kd.R_alloc|apply Kd.R_drewN|apply Kd.R_drew));exact Kd.R_mono (Kd.R_far (p:=⟨gb130,1,none⟩) (Kd.R_far (p:=⟨gb130,0,none⟩) (Kd.R_types HO_112003.out BK130.out (by decide)) (fun _ hk=>hk.2) (.int .i64 ((rd_T41 t123 x9_2).f0))) (fun _ hk=>hk.2) (.int .i64 ((rd_T41 t123 x9_2).f1))) (fun _ hk=>trivial)⟩,⟨by (with_reducible repeat (first|apply Kd.N_alloc|apply Kd.N_drewN|apply Kd.N_drew));exact Kd.N_mono (Kd.N_far (p:=⟨gb130,1,none⟩) (Kd.N_far (p:=⟨gb130,0,none⟩) (Kd.N_mono HO_121002.out (fun k_ hk=>(⟨hk,hk.2⟩:_∧k_≠gb130))) (fun _ hk=>hk.2) (.int .i64 ((rd_T41 t123 x9_2).f0))) (fun _ hk=>hk.2) (.int .i64 ((rd_T41 t123 x9_2).f1))) (fun _ hk=>⟨hk.1.1.1,⟨hk.1.1.2.1,⟨hk.1.1.2.2.1,⟨hk.1.1.2.2.2.1,⟨hk.1.1.2.2.2.2.1,⟨hk.1.1.2.2.2.2.2,hk.1.2⟩⟩⟩⟩⟩⟩)⟩,⟨by (with_reducible repeat (first|apply Kd.R_alloc|apply Kd.R_drewN|apply Kd.R_drew));exact Kd.R_mono (Kd.R_far (p:=⟨gb130,1,none⟩) (Kd.R_far (p:=⟨gb130,0,none⟩) (Kd.R_mono HO_128001.out (fun k_ hk=>(⟨hk,hk.2⟩:_∧k_≠gb130))) (fun _ hk=>hk.2) (.int .i64 ((rd_T41 t123 x9_2).f0))) (fun _ hk=>hk.2) (.int .i64 ((rd_T41 t123 x9_2).f1))) (fun _ hk=>⟨hk.1.1,hk.1.2⟩)⟩,⟨by (with_reducible repeat (first|refine blk_drewN ?_ _|refine blk_drew ?_|refine blk_alloc ?_ _));refine blk_far ?_ NB111_130.out _;(with_reducible repeat (first|refine blk_drewN ?_ _|refine blk_drew ?_|refine blk_alloc ?_ _));refine blk_far ?_ NB111_130.out _;(with_reducible repeat (first|refine blk_drewN ?_ _|refine blk_drew ?_|refine blk_alloc ?_ _));exact BK111.out⟩,⟨by (with_reducible repeat (first|refine blk_drewN ?_ _|refine blk_drew ?_|refine blk_alloc ?_ _));refine blk_far ?_ NB120_130.out _;(with_reducible repeat (first|refine blk_drewN ?_ _|refine blk_drew ?_|refine blk_alloc ?_ _));refine blk_far ?_ NB120_130.out _;(with_reducible repeat (first|refine blk_drewN ?_ _|refine blk_drew ?_|refine blk_alloc ?_ _));exact BK120.out⟩,⟨by (with_reducible repeat (first|refine blk_drewN ?_ _|refine blk_drew ?_|refine blk_alloc ?_ _));refine blk_far ?_ NB121_130.out _;(with_reducible repeat (first|refine blk_drewN ?_ _|refine blk_drew ?_|refine blk_alloc ?_ _));refine blk_far ?_ NB121_130.out _;(with_reducible repeat (first|refine blk_drewN ?_ _|refine blk_drew ?_|refine blk_alloc ?_ _));exact BK121.out⟩,⟨by (with_reducible repeat (first|refine blk_drewN ?_ _|refine blk_drew ?_|refine blk_alloc ?_ _));refine blk_far ?_ NB127_130.out _;(with_reducible repeat (first|refine blk_drewN ?_ _|refine blk_drew ?_|refine blk_alloc ?_ _));refine blk_far ?_ NB127_130.out _;(with_reducible repeat (first|refine blk_drewN ?_ _|refine blk_drew ?_|refine blk_alloc ?_ _));exact BK127.out⟩,⟨by (with_reducible repeat (first|refine blk_drewN ?_ _|refine blk_drew ?_|refine blk_alloc ?_ _));refine blk_put (cs:=#[.int .i64 ((rd_T41 t123 x9_2).f0),.int .i64 0]) ?_ 1 _ rfl;(with_reducible repeat (first|refine blk_drewN ?_ _|refine blk_drew ?_|refine blk_alloc ?_ _));refine blk_put (cs:=#[.int .i64 0,.int .i64 0]) ?_ 0 _ rfl;(with_reducible repeat (first|refine blk_drewN ?_ _|refine blk_drew ?_|refine blk_alloc ?_ _));exact BK130.out⟩,⟨by repeat (first|(with_reducible first|exact HB.out|apply below_alloc|apply pw_below_drewN|apply below_drew1|refine below_set ?_ GE111.out|refine below_set ?_ GE120.out|refine below_set ?_ GE121.out|refine below_set ?_ GE127.out|refine below_set ?_ GE130.out)|exact HB.out)⟩⟩
                        · rw [if_neg c66] at H
                          exact absurd H (by simp)
                      · rw [if_neg c65] at H
                        exact absurd H (by simp)
                    · rw [if_neg c63] at H
                      have c63b0 : decide (0 < x9_2) = false := decide_eq_false c63
                      clear c63
                      have H' := Aside0.mk H
                      clear H
                      have hnb76 := NB130_111.out
                      have hnc76 := NB111_130.out
                      have hnb77 := NB130_120.out
                      have hnc77 := NB120_130.out
                      have hnb78 := NB130_121.out
                      have hnc78 := NB121_130.out
                      have hnb79 := NB130_127.out
                      have hnc79 := NB127_130.out
                      have hcz80_0 : w51.cell? ⟨gb130, 0, none⟩ = some (.int .i64 0) := (blk_cell BK130.out 0).trans rfl
                      have hcz80_1 : w51.cell? ⟨gb130, 1, none⟩ = some (.int .i64 0) := (blk_cell BK130.out 1).trans rfl
                      have hfz80_0 := blk_frozen BK130.out 0
                      have hfz80_1 := blk_frozen BK130.out 1
                      go_wp2
                      repeat (go_quiet (fail); try go_wp2)
                      go_meet
                      case rel=>exact⟨_,(false),(by first|rfl|(simp;done)|(simp[*];done)),H',⟨by have:=HJ5.out;have:=HK2.out;first|omega|exact Nat.le_refl _⟩,⟨by (with_reducible repeat (first|apply Kd.R_alloc|apply Kd.R_drewN|apply Kd.R_drew));exact Kd.R_mono (Kd.R_far (p:=⟨gb130,1,none⟩) (Kd.R_far (p:=⟨gb130,0,none⟩) (Kd.R_types HO_112003.out BK130.out (by decide)) (fun _ hk=>hk.2) (.int .i64 ((rd_T41 t123 x9_2).f0))) (fun _ hk=>hk.2) (.int .i64 ((rd_T41 t123 x9_2).f1))) (fun _ hk=>trivial)⟩,⟨by (with_reducible repeat (first|apply Kd.N_alloc|apply Kd.N_drewN|apply Kd.N_drew));exact Kd.N_mono (Kd.N_far (p:=⟨gb130,1,none⟩) (Kd.N_far (p:=⟨gb130,0,none⟩) (Kd.N_mono HO_121002.out (fun k_ hk=>(⟨hk,hk.2⟩:_∧k_≠gb130))) (fun _ hk=>hk.2) (.int .i64 ((rd_T41 t123 x9_2).f0))) (fun _ hk=>hk.2) (.int .i64 ((rd_T41 t123 x9_2).f1))) (fun _ hk=>⟨hk.1.1.1,⟨hk.1.1.2.1,⟨hk.1.1.2.2.1,⟨hk.1.1.2.2.2.1,⟨hk.1.1.2.2.2.2.1,⟨hk.1.1.2.2.2.2.2,hk.1.2⟩⟩⟩⟩⟩⟩)⟩,⟨by (with_reducible repeat (first|apply Kd.R_alloc|apply Kd.R_drewN|apply Kd.R_drew));exact Kd.R_mono (Kd.R_far (p:=⟨gb130,1,none⟩) (Kd.R_far (p:=⟨gb130,0,none⟩) (Kd.R_mono HO_128001.out (fun k_ hk=>(⟨hk,hk.2⟩:_∧k_≠gb130))) (fun _ hk=>hk.2) (.int .i64 ((rd_T41 t123 x9_2).f0))) (fun _ hk=>hk.2) (.int .i64 ((rd_T41 t123 x9_2).f1))) (fun _ hk=>⟨hk.1.1,hk.1.2⟩)⟩,⟨by (with_reducible repeat (first|refine blk_drewN ?_ _|refine blk_drew ?_|refine blk_alloc ?_ _));refine blk_far ?_ NB111_130.out _;(with_reducible repeat (first|refine blk_drewN ?_ _|refine blk_drew ?_|refine blk_alloc ?_ _));refine blk_far ?_ NB111_130.out _;(with_reducible repeat (first|refine blk_drewN ?_ _|refine blk_drew ?_|refine blk_alloc ?_ _));exact BK111.out⟩,⟨by (with_reducible repeat (first|refine blk_drewN ?_ _|refine blk_drew ?_|refine blk_alloc ?_ _));refine blk_far ?_ NB120_130.out _;(with_reducible repeat (first|refine blk_drewN ?_ _|refine blk_drew ?_|refine blk_alloc ?_ _));refine blk_far ?_ NB120_130.out _;(with_reducible repeat (first|refine blk_drewN ?_ _|refine blk_drew ?_|refine blk_alloc ?_ _));exact BK120.out⟩,⟨by (with_reducible repeat (first|refine blk_drewN ?_ _|refine blk_drew ?_|refine blk_alloc ?_ _));refine blk_far ?_ NB121_130.out _;(with_reducible repeat (first|refine blk_drewN ?_ _|refine blk_drew ?_|refine blk_alloc ?_ _));refine blk_far ?_ NB121_130.out _;(with_reducible repeat (first|refine blk_drewN ?_ _|refine blk_drew ?_|refine blk_alloc ?_ _));exact BK121.out⟩,⟨by (with_reducible repeat (first|refine blk_drewN ?_ _|refine blk_drew ?_|refine blk_alloc ?_ _));refine blk_far ?_ NB127_130.out _;(with_reducible repeat (first|refine blk_drewN ?_ _|refine blk_drew ?_|refine blk_alloc ?_ _));refine blk_far ?_ NB127_130.out _;(with_reducible repeat (first|refine blk_drewN ?_ _|refine blk_drew ?_|refine blk_alloc ?_ _));exact BK127.out⟩,⟨by (with_reducible repeat (first|refine blk_drewN ?_ _|refine blk_drew ?_|refine blk_alloc ?_ _));refine blk_put (cs:=#[.int .i64 ((rd_T41 t123 x9_2).f0),.int .i64 0]) ?_ 1 _ rfl;(with_reducible repeat (first|refine blk_drewN ?_ _|refine blk_drew ?_|refine blk_alloc ?_ _));refine blk_put (cs:=#[.int .i64 0,.int .i64 0]) ?_ 0 _ rfl;(with_reducible repeat (first|refine blk_drewN ?_ _|refine blk_drew ?_|refine blk_alloc ?_ _));exact BK130.out⟩,⟨by repeat (first|(with_reducible first|exact HB.out|apply below_alloc|apply pw_below_drewN|apply below_drew1|refine below_set ?_ GE111.out|refine below_set ?_ GE120.out|refine below_set ?_ GE121.out|refine below_set ?_ GE127.out|refine below_set ?_ GE130.out)|exact HB.out)⟩⟩
                case rest =>
                  clear HC46
                  try clear c1
                  try clear p1
                  try clear q1
                  try clear hx1
                  try clear c2
                  try clear p2
                  try clear c3
                  try clear c4
                  try clear c5
                  try clear c6
                  try clear p6
                  try clear c7
                  try clear c10
                  try clear p12
                  try clear q12
                  try clear hx12
                  try clear p13
                  try clear q13
                  try clear hx13
                  try clear c16
                  try clear c17
                  try clear c18
                  try clear c21
                  try clear c22
                  try clear c27
                  try clear c28
                  try clear c29
                  try clear c30
                  try clear c33
                  try clear c33b0
                  try clear c33b1
                  try clear c34
                  try clear c35
                  try clear c36
                  try clear c37
                  try clear c39
                  try clear c40
                  try clear c41
                  try clear c43
                  try clear c44
                  try clear c44b0
                  try clear c45
                  try clear c45b0
                  try clear c47
                  try clear c48
                  try clear c49
                  try clear c52
                  try clear c53
                  try clear c54
                  try clear c55
                  try clear c57
                  try clear c57b0
                  try clear c58
                  try clear c59
                  try clear c60
                  try clear c61
                  try clear c63
                  try clear c63b0
                  try clear p64
                  try clear c65
                  try clear c65b0
                  try clear c66
                  try clear c66b0
                  try clear c67
                  try clear c68
                  try clear c69
                  try clear c70
                  try clear c72
                  try clear c73
                  try clear c74
                  try clear c76
                  try clear c77
                  try clear c78
                  try clear c79
                  try clear hcz11_0
                  try clear hcz11_1
                  try clear hcz11_2
                  try clear hcz11_3
                  try clear hcz19_0
                  try clear hcz19_1
                  try clear hcz19_2
                  try clear hcz23_0
                  try clear hcz23_1
                  try clear hcz24_0
                  try clear hcz24_1
                  try clear hcz24_2
                  try clear hcz24_3
                  try clear hcz31_0
                  try clear hcz31_1
                  try clear hcz38_0
                  try clear hcz38_1
                  try clear hcz42_0
                  try clear hcz42_1
                  try clear hcz42_2
                  try clear hcz50_0
                  try clear hcz50_1
                  try clear hcz56_0
                  try clear hcz56_1
                  try clear hcz62_0
                  try clear hcz62_1
                  try clear hcz71_0
                  try clear hcz71_1
                  try clear hcz75_0
                  try clear hcz75_1
                  try clear hcz80_0
                  try clear hcz80_1
                  try clear hfz11_0
                  try clear hfz11_1
                  try clear hfz11_2
                  try clear hfz11_3
                  try clear hfz19_0
                  try clear hfz19_1
                  try clear hfz19_2
                  try clear hfz23_0
                  try clear hfz23_1
                  try clear hfz24_0
                  try clear hfz24_1
                  try clear hfz24_2
                  try clear hfz24_3
                  try clear hfz31_0
                  try clear hfz31_1
                  try clear hfz38_0
                  try clear hfz38_1
                  try clear hfz42_0
                  try clear hfz42_1
                  try clear hfz42_2
                  try clear hfz50_0
                  try clear hfz50_1
                  try clear hfz56_0
                  try clear hfz56_1
                  try clear hfz62_0
                  try clear hfz62_1
                  try clear hfz71_0
                  try clear hfz71_1
                  try clear hfz75_0
                  try clear hfz75_1
                  try clear hfz80_0
                  try clear hfz80_1
                  try clear hx129_0
                  try clear hx129_1
                  try clear hx131_0
                  try clear hx131_1
                  try clear p129
                  try clear p131
                  try clear p2
                  try clear q129
                  try clear q131
                  obtain ⟨kq,x71_45,rfl,HA,HJ45,HO_112003,HO_121002,HO_128001,BK111,BK120,BK121,BK127,BK130,HB⟩:=hcut
                  cases kq with
                  | zero => exact absurd HA.out (by simp [payrolllaw11_WorktimeSound.j2])
                  | succ kj45 =>
                    have H := HA.out
                    clear HA
                    simp only [payrolllaw11_WorktimeSound.j2] at H
                    by_cases c81 : x71_45 = true
                    · subst c81
                      have H1 : (some false) = some r := by rw [if_pos rfl] at H; exact H
                      clear H
                      have H := H1
                      clear H1
                      exact absurd (H.trans (congrArg some HRT.out)) (by simp)
                    · replace c81 := Bool.eq_false_iff.mpr c81
                      subst c81
                      have H1:(payrolllaw11_WorktimeSound.l1 kj45 x9_2 0 t112 t113 t114 t122 t123 ((rd_T41 t123 x9_2).f0) ((rd_T41 t123 x9_2).f1)) = some r:=by rw[if_neg (show ¬ (false = true) by decide)] at H;exact H
                      clear H
                      have H := H1
                      clear H1
                      have H' := Aside0.mk H
                      clear H
                      go_wp2
                      repeat (go_quiet (fail); try go_wp2)
                      go_loopg [11] kj45 (fun kq v11 w'=>∃ (x11_4:Int),v11 = .int .i64 x11_4∧Aside0 (payrolllaw11_WorktimeSound.l1 kq x9_2 x11_4 t112 t113 t114 t122 t123 ((rd_T41 t123 x9_2).f0) ((rd_T41 t123 x9_2).f1) = some r)∧Aside0 (kq≤kj45)∧Aside0 (Kd.R k60 60 w' w.heap.size (fun _=>True) (.slice Ao12 t107.length co12) t107)∧Aside0 (Kd.N k48 48 w' w.heap.size (fun k_=>some k_≠((.slice Ao12 t107.length co12):Value).ownBlock∧some k_≠((.slice (some ad129) t123.length co32):Value).ownBlock∧k_≠gb111∧k_≠gb120∧k_≠gb121∧k_≠gb127∧k_≠gb130) (.slice Ao20 t114.length co20) t114)∧Aside0 (Kd.R k41 41 w' w.heap.size (fun k_=>k_≠gb121∧k_≠gb130) (.slice (some ad129) t123.length co32) t123)∧Aside0 (w'.heap[gb111]? = some (.cells #[.int .i64 t104,.int .i64 t105,.int .i64 t106,(.slice Ao12 t107.length co12)] 35 (0,0)))∧Aside0 (w'.heap[gb120]? = some (.cells #[.int .i64 t112,.int .i64 t113,(.slice Ao20 t114.length co20)] 39 (0,0)))∧Aside0 (w'.heap[gb121]? = some (.cells #[.int .i64 t117,.int .i64 t118] 41 (0,0)))∧Aside0 (w'.heap[gb127]? = some (.cells #[.int .i64 t122,(.slice (some ad129) t123.length co32)] 30 (0,0)))∧Aside0 (w'.heap[gb130]? = some (.cells #[.int .i64 ((rd_T41 t123 x9_2).f0),.int .i64 ((rd_T41 t123 x9_2).f1)] 41 (0,0)))∧Aside0 (Below w.heap.size w w'))
                      case atStart=>exact⟨(0),(by first|rfl|(simp;done)|(simp[*];done)),H',⟨Nat.le_refl _⟩,⟨by (with_reducible repeat (first|apply Kd.R_alloc|apply Kd.R_drewN|apply Kd.R_drew));exact HO_112003.out⟩,⟨by (with_reducible repeat (first|apply Kd.N_alloc|apply Kd.N_drewN|apply Kd.N_drew));exact HO_121002.out⟩,⟨by (with_reducible repeat (first|apply Kd.R_alloc|apply Kd.R_drewN|apply Kd.R_drew));exact HO_128001.out⟩,⟨by (with_reducible repeat (first|refine blk_drewN ?_ _|refine blk_drew ?_|refine blk_alloc ?_ _));exact BK111.out⟩,⟨by (with_reducible repeat (first|refine blk_drewN ?_ _|refine blk_drew ?_|refine blk_alloc ?_ _));exact BK120.out⟩,⟨by (with_reducible repeat (first|refine blk_drewN ?_ _|refine blk_drew ?_|refine blk_alloc ?_ _));exact BK121.out⟩,⟨by (with_reducible repeat (first|refine blk_drewN ?_ _|refine blk_drew ?_|refine blk_alloc ?_ _));exact BK127.out⟩,⟨by (with_reducible repeat (first|refine blk_drewN ?_ _|refine blk_drew ?_|refine blk_alloc ?_ _));exact BK130.out⟩,⟨by repeat (first|(with_reducible first|exact HB.out|apply below_alloc|apply pw_below_drewN|apply below_drew1|refine below_set ?_ GE111.out|refine below_set ?_ GE120.out|refine below_set ?_ GE121.out|refine below_set ?_ GE127.out|refine below_set ?_ GE130.out)|exact HB.out)⟩⟩
                      case round =>
                        clear H'
                        try clear c1
                        try clear p1
                        try clear q1
                        try clear hx1
                        try clear c2
                        try clear p2
                        try clear c3
                        try clear c4
                        try clear c5
                        try clear c6
                        try clear p6
                        try clear c7
                        try clear c8
                        try clear c10
                        try clear p12
                        try clear q12
                        try clear hx12
                        try clear p13
                        try clear q13
                        try clear hx13
                        try clear c16
                        try clear c17
                        try clear c18
                        try clear c21
                        try clear c22
                        try clear c27
                        try clear c28
                        try clear c29
                        try clear c30
                        try clear c33
                        try clear c33b0
                        try clear c33b1
                        try clear c34
                        try clear c35
                        try clear c36
                        try clear c37
                        try clear c39
                        try clear c40
                        try clear c41
                        try clear c43
                        try clear c44
                        try clear c44b0
                        try clear c45
                        try clear c45b0
                        try clear c47
                        try clear c48
                        try clear c49
                        try clear c52
                        try clear c53
                        try clear c54
                        try clear c55
                        try clear c57
                        try clear c57b0
                        try clear c58
                        try clear c59
                        try clear c60
                        try clear c61
                        try clear c63
                        try clear c63b0
                        try clear p64
                        try clear c65
                        try clear c65b0
                        try clear c66
                        try clear c66b0
                        try clear c67
                        try clear c68
                        try clear c69
                        try clear c70
                        try clear c72
                        try clear c73
                        try clear c74
                        try clear c76
                        try clear c77
                        try clear c78
                        try clear c79
                        try clear c81
                        try clear hcz11_0
                        try clear hcz11_1
                        try clear hcz11_2
                        try clear hcz11_3
                        try clear hcz19_0
                        try clear hcz19_1
                        try clear hcz19_2
                        try clear hcz23_0
                        try clear hcz23_1
                        try clear hcz24_0
                        try clear hcz24_1
                        try clear hcz24_2
                        try clear hcz24_3
                        try clear hcz31_0
                        try clear hcz31_1
                        try clear hcz38_0
                        try clear hcz38_1
                        try clear hcz42_0
                        try clear hcz42_1
                        try clear hcz42_2
                        try clear hcz50_0
                        try clear hcz50_1
                        try clear hcz56_0
                        try clear hcz56_1
                        try clear hcz62_0
                        try clear hcz62_1
                        try clear hcz71_0
                        try clear hcz71_1
                        try clear hcz75_0
                        try clear hcz75_1
                        try clear hcz80_0
                        try clear hcz80_1
                        try clear hfz11_0
                        try clear hfz11_1
                        try clear hfz11_2
                        try clear hfz11_3
                        try clear hfz19_0
                        try clear hfz19_1
                        try clear hfz19_2
                        try clear hfz23_0
                        try clear hfz23_1
                        try clear hfz24_0
                        try clear hfz24_1
                        try clear hfz24_2
                        try clear hfz24_3
                        try clear hfz31_0
                        try clear hfz31_1
                        try clear hfz38_0
                        try clear hfz38_1
                        try clear hfz42_0
                        try clear hfz42_1
                        try clear hfz42_2
                        try clear hfz50_0
                        try clear hfz50_1
                        try clear hfz56_0
                        try clear hfz56_1
                        try clear hfz62_0
                        try clear hfz62_1
                        try clear hfz71_0
                        try clear hfz71_1
                        try clear hfz75_0
                        try clear hfz75_1
                        try clear hfz80_0
                        try clear hfz80_1
                        try clear hx129_0
                        try clear hx129_1
                        try clear hx131_0
                        try clear hx131_1
                        try clear p1
                        try clear p12
                        try clear p129
                        try clear p13
                        try clear p131
                        try clear p2
                        try clear p6
                        try clear p64
                        try clear q1
                        try clear q12
                        try clear q129
                        try clear q13
                        try clear q131
                        obtain ⟨x11_4,rfl,HA,HK4,HO_112003,HO_121002,HO_128001,BK111,BK120,BK121,BK127,BK130,HB⟩:=hrel
                        cases gk with
                        | zero => exact absurd HA.out (by simp [payrolllaw11_WorktimeSound.l1])
                        | succ k4 =>
                          have H := HA.out
                          clear HA
                          simp only [payrolllaw11_WorktimeSound.l1] at H
                          by_cases c82 : x11_4 < (t114.length : Int)
                          · rw [if_pos c82] at H
                            have c82b0 : decide (x11_4 < (t114.length : Int)) = true := decide_eq_true c82
                            clear c82
                            have H' := Aside0.mk H
                            clear H
                            have hnb83 := NB120_111.out
                            have hnc83 := NB111_120.out
                            have hnb84 := NB120_121.out
                            have hnc84 := NB121_120.out
                            have hnb85 := NB120_127.out
                            have hnc85 := NB127_120.out
                            have hnb86 := NB120_130.out
                            have hnc86 := NB130_120.out
                            have hcz87_0:wr.cell? ⟨gb120,0,none⟩ = some (.int .i64 t112):=(blk_cell BK120.out 0).trans rfl
                            have hcz87_1:wr.cell? ⟨gb120,1,none⟩ = some (.int .i64 t113):=(blk_cell BK120.out 1).trans rfl
                            have hcz87_2:wr.cell? ⟨gb120,2,none⟩ = some (.slice Ao20 t114.length co20):=(blk_cell BK120.out 2).trans rfl
                            have hfz87_0 := blk_frozen BK120.out 0
                            have hfz87_1 := blk_frozen BK120.out 1
                            have hfz87_2 := blk_frozen BK120.out 2
                            go_wp2
                            repeat (go_quiet (fail); try go_wp2)
                            go_loopg [12] k4 (fun kq v12 w'=>∃ (x12_5:Int),v12 = .int .i64 x12_5∧Aside0 (payrolllaw11_WorktimeSound.l2 kq x9_2 x11_4 x12_5 t112 t113 t114 t122 t123 ((rd_T41 t123 x9_2).f0) ((rd_T41 t123 x9_2).f1) = some r)∧Aside0 (kq≤k4)∧Aside0 (Kd.R k60 60 w' w.heap.size (fun _=>True) (.slice Ao12 t107.length co12) t107)∧Aside0 (Kd.N k48 48 w' w.heap.size (fun k_=>some k_≠((.slice Ao12 t107.length co12):Value).ownBlock∧some k_≠((.slice (some ad129) t123.length co32):Value).ownBlock∧k_≠gb111∧k_≠gb120∧k_≠gb121∧k_≠gb127∧k_≠gb130) (.slice Ao20 t114.length co20) t114)∧Aside0 (Kd.R k41 41 w' w.heap.size (fun k_=>k_≠gb121∧k_≠gb130) (.slice (some ad129) t123.length co32) t123)∧Aside0 (w'.heap[gb111]? = some (.cells #[.int .i64 t104,.int .i64 t105,.int .i64 t106,(.slice Ao12 t107.length co12)] 35 (0,0)))∧Aside0 (w'.heap[gb120]? = some (.cells #[.int .i64 t112,.int .i64 t113,(.slice Ao20 t114.length co20)] 39 (0,0)))∧Aside0 (w'.heap[gb121]? = some (.cells #[.int .i64 t117,.int .i64 t118] 41 (0,0)))∧Aside0 (w'.heap[gb127]? = some (.cells #[.int .i64 t122,(.slice (some ad129) t123.length co32)] 30 (0,0)))∧Aside0 (w'.heap[gb130]? = some (.cells #[.int .i64 ((rd_T41 t123 x9_2).f0),.int .i64 ((rd_T41 t123 x9_2).f1)] 41 (0,0)))∧Aside0 (Below w.heap.size w w'))
                            case atStart=>exact⟨(0),(by first|rfl|(simp;done)|(simp[*];done)),H',⟨Nat.le_refl _⟩,⟨by (with_reducible repeat (first|apply Kd.R_alloc|apply Kd.R_drewN|apply Kd.R_drew));exact HO_112003.out⟩,⟨by (with_reducible repeat (first|apply Kd.N_alloc|apply Kd.N_drewN|apply Kd.N_drew));exact HO_121002.out⟩,⟨by (with_reducible repeat (first|apply Kd.R_alloc|apply Kd.R_drewN|apply Kd.R_drew));exact HO_128001.out⟩,⟨by (with_reducible repeat (first|refine blk_drewN ?_ _|refine blk_drew ?_|refine blk_alloc ?_ _));exact BK111.out⟩,⟨by (with_reducible repeat (first|refine blk_drewN ?_ _|refine blk_drew ?_|refine blk_alloc ?_ _));exact BK120.out⟩,⟨by (with_reducible repeat (first|refine blk_drewN ?_ _|refine blk_drew ?_|refine blk_alloc ?_ _));exact BK121.out⟩,⟨by (with_reducible repeat (first|refine blk_drewN ?_ _|refine blk_drew ?_|refine blk_alloc ?_ _));exact BK127.out⟩,⟨by (with_reducible repeat (first|refine blk_drewN ?_ _|refine blk_drew ?_|refine blk_alloc ?_ _));exact BK130.out⟩,⟨by repeat (first|(with_reducible first|exact HB.out|apply below_alloc|apply pw_below_drewN|apply below_drew1|refine below_set ?_ GE111.out|refine below_set ?_ GE120.out|refine below_set ?_ GE121.out|refine below_set ?_ GE127.out|refine below_set ?_ GE130.out)|exact HB.out)⟩⟩
                            case round =>
                              clear H'
                              try clear c1
                              try clear p1
                              try clear q1
                              try clear hx1
                              try clear c2
                              try clear p2
                              try clear c3
                              try clear c4
                              try clear c5
                              try clear c6
                              try clear p6
                              try clear c7
                              try clear c8
                              try clear c10
                              try clear p12
                              try clear q12
                              try clear hx12
                              try clear p13
                              try clear q13
                              try clear hx13
                              try clear c16
                              try clear c17
                              try clear c18
                              try clear c21
                              try clear c22
                              try clear c27
                              try clear c28
                              try clear c29
                              try clear c30
                              try clear c33
                              try clear c33b0
                              try clear c33b1
                              try clear c34
                              try clear c35
                              try clear c36
                              try clear c37
                              try clear c39
                              try clear c40
                              try clear c41
                              try clear c43
                              try clear c44
                              try clear c44b0
                              try clear c45
                              try clear c45b0
                              try clear c47
                              try clear c48
                              try clear c49
                              try clear c52
                              try clear c53
                              try clear c54
                              try clear c55
                              try clear c57
                              try clear c57b0
                              try clear c58
                              try clear c59
                              try clear c60
                              try clear c61
                              try clear c63
                              try clear c63b0
                              try clear p64
                              try clear c65
                              try clear c65b0
                              try clear c66
                              try clear c66b0
                              try clear c67
                              try clear c68
                              try clear c69
                              try clear c70
                              try clear c72
                              try clear c73
                              try clear c74
                              try clear c76
                              try clear c77
                              try clear c78
                              try clear c79
                              try clear c81
                              try clear c82
                              try clear c82b0
                              try clear c83
                              try clear c84
                              try clear c85
                              try clear c86
                              try clear hcz11_0
                              try clear hcz11_1
                              try clear hcz11_2
                              try clear hcz11_3
                              try clear hcz19_0
                              try clear hcz19_1
                              try clear hcz19_2
                              try clear hcz23_0
                              try clear hcz23_1
                              try clear hcz24_0
                              try clear hcz24_1
                              try clear hcz24_2
                              try clear hcz24_3
                              try clear hcz31_0
                              try clear hcz31_1
                              try clear hcz38_0
                              try clear hcz38_1
                              try clear hcz42_0
                              try clear hcz42_1
                              try clear hcz42_2
                              try clear hcz50_0
                              try clear hcz50_1
                              try clear hcz56_0
                              try clear hcz56_1
                              try clear hcz62_0
                              try clear hcz62_1
                              try clear hcz71_0
                              try clear hcz71_1
                              try clear hcz75_0
                              try clear hcz75_1
                              try clear hcz80_0
                              try clear hcz80_1
                              try clear hcz87_0
                              try clear hcz87_1
                              try clear hcz87_2
                              try clear hfz11_0
                              try clear hfz11_1
                              try clear hfz11_2
                              try clear hfz11_3
                              try clear hfz19_0
                              try clear hfz19_1
                              try clear hfz19_2
                              try clear hfz23_0
                              try clear hfz23_1
                              try clear hfz24_0
                              try clear hfz24_1
                              try clear hfz24_2
                              try clear hfz24_3
                              try clear hfz31_0
                              try clear hfz31_1
                              try clear hfz38_0
                              try clear hfz38_1
                              try clear hfz42_0
                              try clear hfz42_1
                              try clear hfz42_2
                              try clear hfz50_0
                              try clear hfz50_1
                              try clear hfz56_0
                              try clear hfz56_1
                              try clear hfz62_0
                              try clear hfz62_1
                              try clear hfz71_0
                              try clear hfz71_1
                              try clear hfz75_0
                              try clear hfz75_1
                              try clear hfz80_0
                              try clear hfz80_1
                              try clear hfz87_0
                              try clear hfz87_1
                              try clear hfz87_2
                              try clear hx129_0
                              try clear hx129_1
                              try clear hx131_0
                              try clear hx131_1
                              try clear p1
                              try clear p12
                              try clear p129
                              try clear p13
                              try clear p131
                              try clear p2
                              try clear p6
                              try clear p64
                              try clear q1
                              try clear q12
                              try clear q129
                              try clear q13
                              try clear q131
                              obtain ⟨x12_5,rfl,HA,HK5,HO_112003,HO_121002,HO_128001,BK111,BK120,BK121,BK127,BK130,HB⟩:=hrel
                              cases gk with
                              | zero => exact absurd HA.out (by simp [payrolllaw11_WorktimeSound.l2])
                              | succ k5 =>
                                have H := HA.out
                                clear HA
                                simp only [payrolllaw11_WorktimeSound.l2] at H
                                by_cases c88 : 0 ≤ x11_4
                                · rw [if_pos c88] at H
                                  have c88b0 : decide (0 ≤ x11_4) = true := decide_eq_true c88
                                  clear c88
                                  by_cases c89 : x11_4 < (t114.length : Int)
                                  · rw [if_pos c89] at H
                                    have c89b0 : decide (x11_4 < (t114.length : Int)) = true := decide_eq_true c89
                                    clear c89
                                    by_cases c90 : x12_5 < (((rd_T48 t114 x11_4).f1).length : Int)
                                    · rw [if_pos c90] at H
                                      have c90b0:decide (x12_5 < (((rd_T48 t114 x11_4).f1).length:Int)) = true:=decide_eq_true c90
                                      clear c90
                                      by_cases c91 : 0 ≤ x12_5
                                      · rw [if_pos c91] at H
                                        have c91b0 : decide (0 ≤ x12_5) = true := decide_eq_true c91
                                        clear c91
                                        by_cases c92:((rd_T41 ((rd_T48 t114 x11_4).f1) x12_5).f0) < ((rd_T41 t123 x9_2).f1)
                                        · rw [if_pos c92] at H
                                          have c92b0:decide (((rd_T41 ((rd_T48 t114 x11_4).f1) x12_5).f0) < ((rd_T41 t123 x9_2).f1)) = true:=decide_eq_true c92
                                          clear c92
                                          by_cases c93:((rd_T41 t123 x9_2).f0) < ((rd_T41 ((rd_T48 t114 x11_4).f1) x12_5).f1)
                                          · rw [if_pos c93] at H
                                            have c93b0:decide (((rd_T41 t123 x9_2).f0) < ((rd_T41 ((rd_T48 t114 x11_4).f1) x12_5).f1)) = true:=decide_eq_true c93
                                            clear c93
                                            exact absurd (H.trans (congrArg some HRT.out)) (by simp)
                                          · rw [if_neg c93] at H
                                            have c93b0:decide (((rd_T41 t123 x9_2).f0) < ((rd_T41 ((rd_T48 t114 x11_4).f1) x12_5).f1)) = false:=decide_eq_false c93
                                            clear c93
                                            have H' := Aside0.mk H
                                            clear H
                                            have hnb94 := NB120_111.out
                                            have hnc94 := NB111_120.out
                                            have hnb95 := NB120_121.out
                                            have hnc95 := NB121_120.out
                                            have hnb96 := NB120_127.out
                                            have hnc96 := NB127_120.out
                                            have hnb97 := NB120_130.out
                                            have hnc97 := NB130_120.out
                                            have hcz98_0:wr.cell? ⟨gb120,0,none⟩ = some (.int .i64 t112):=(blk_cell BK120.out 0).trans rfl
                                            have hcz98_1:wr.cell? ⟨gb120,1,none⟩ = some (.int .i64 t113):=(blk_cell BK120.out 1).trans rfl
                                            have hcz98_2:wr.cell? ⟨gb120,2,none⟩ = some (.slice Ao20 t114.length co20):=(blk_cell BK120.out 2).trans rfl
                                            have hfz98_0 := blk_frozen BK120.out 0
                                            have hfz98_1 := blk_frozen BK120.out 1
                                            have hfz98_2 := blk_frozen BK120.out 2
                                            have p132:0≤(x11_4:Int):=of_decide_eq_true (by first|(with_reducible assumption)|assumption)
                                            have q132:x11_4 < (t114.length:Int):=of_decide_eq_true (by first|(with_reducible assumption)|assumption)
                                            obtain ⟨ad132,A132_2,c132_2,e132,hx132_0,hx132_1,hx132_2,hl132_2,hi132_2⟩:=at_T48 (Kd.N_reads' HO_121002.out).2.2 x11_4 p132 q132
                                            cases e132
                                            obtain ⟨ce132,hce132,hMe132,hcc132⟩:=Kd.N_get HO_121002.out z48 x11_4 p132 (by first|exact q132|exact of_decide_eq_true (by first|(with_reducible assumption)|assumption)|(have e_:=(Kd.N_reads' HO_121002.out).1;omega))
                                            obtain ⟨ua132_2, uc132_2, rfl, ul132_2, ge132_2⟩ := k48_openF hMe132
                                            have hv132_2 := hcc132 2 _ rfl
                                            rw [add_field _ _ 2 (by omega)] at hv132_2
                                            replace hv132_2 := Option.some.inj (hv132_2.symm.trans hx132_2)
                                            injection hv132_2 with hva_ hvn_ hvc_
                                            rw [hva_] at ge132_2
                                            rw [hvc_] at ul132_2
                                            have HL132_2:=Aside0.mk (show Kd.V k41 41 _ w.heap.size _ _ ((rd_T48 t114 x11_4).f1) from Kd.V_mk ul132_2 ge132_2)
                                            clear hva_ hvn_ hvc_ ge132_2 ul132_2
                                            clear hcc132 hce132
                                            have HR132_2 := Aside0.mk hi132_2
                                            have HC132_2 := Aside0.mk hl132_2
                                            clear hi132_2 hl132_2
                                            replace p132 := eq_true p132
                                            replace q132 := eq_true q132
                                            have p133:0≤(x11_4:Int):=of_decide_eq_true (by first|(with_reducible assumption)|assumption)
                                            have q133:x11_4 < (t114.length:Int):=of_decide_eq_true (by first|(with_reducible assumption)|assumption)
                                            obtain ⟨ad133,A133_2,c133_2,e133,hx133_0,hx133_1,hx133_2,hl133_2,hi133_2⟩:=at_T48 (Kd.N_reads' HO_121002.out).2.2 x11_4 p133 q133
                                            obtain rfl : ad132 = ad133 := (by injection e133)
                                            obtain ⟨ce133,hce133,hMe133,hcc133⟩:=Kd.N_get HO_121002.out z48 x11_4 p133 (by first|exact q133|exact of_decide_eq_true (by first|(with_reducible assumption)|assumption)|(have e_:=(Kd.N_reads' HO_121002.out).1;omega))
                                            obtain ⟨ua133_2, uc133_2, rfl, ul133_2, ge133_2⟩ := k48_openF hMe133
                                            have hv133_2 := hcc133 2 _ rfl
                                            rw [add_field _ _ 2 (by omega)] at hv133_2
                                            replace hv133_2 := Option.some.inj (hv133_2.symm.trans hx133_2)
                                            injection hv133_2 with hva_ hvn_ hvc_
                                            rw [hva_] at ge133_2
                                            rw [hvc_] at ul133_2
                                            have HL133_2:=Aside0.mk (show Kd.V k41 41 _ w.heap.size _ _ ((rd_T48 t114 x11_4).f1) from Kd.V_mk ul133_2 ge133_2)
                                            clear hva_ hvn_ hvc_ ge133_2 ul133_2
                                            clear hcc133 hce133
                                            have HR133_2 := Aside0.mk hi133_2
                                            have HC133_2 := Aside0.mk hl133_2
                                            clear hi133_2 hl133_2
                                            replace p133 := eq_true p133
                                            replace q133 := eq_true q133
                                            have ea_ := Option.some.inj (hx132_2.symm.trans hx133_2)
                                            injection ea_ with ea_ en_ ec_
                                            subst ea_
                                            subst ec_
                                            clear en_
                                            have p134:0≤(x12_5:Int):=of_decide_eq_true (by first|(with_reducible assumption)|assumption)
                                            have q134:x12_5 < (((rd_T48 t114 x11_4).f1).length:Int):=of_decide_eq_true (by first|(with_reducible assumption)|assumption)
                                            obtain ⟨ad134,e134,hx134_0,hx134_1⟩:=at_T41 (by repeat (first|(with_reducible exact HR133_2.out)|(with_reducible refine Kd.C_alloc ?_ _)|(with_reducible refine Kd.C_drewN ?_ _)|(with_reducible refine Kd.C_drew ?_)|exact HR133_2.out)) x12_5 p134 q134
                                            cases e134
                                            replace p134 := eq_true p134
                                            replace q134 := eq_true q134
                                            go_wp2_with (first|((with_reducible refine gate_dst (N:=13) rfl ?_);refine box_event ?hg (N:=13) ?hd (cs:=#[.int .i64 0,.int .i64 0]) (t:=41) ?hr ?_;(case hd=>rfl);(case hg=>rfl);(case hr=>first|(go_simp;done)|(go_simp;rfl));intro gb135 hg w99 hbox hb;have n0_:=Aside0.mk (Kd.R_below (by (with_reducible repeat (first|apply Kd.R_alloc|apply Kd.R_drewN|apply Kd.R_drew));exact HO_112003.out) hb);have n1_:=Aside0.mk (Kd.N_below (Kd.N_elderB (by (with_reducible repeat (first|apply Kd.N_alloc|apply Kd.N_drewN|apply Kd.N_drew));exact HO_121002.out) gb135 (Nat.le_of_eq hg.symm)) hb);have n2_:=Aside0.mk (Kd.R_below (Kd.R_elderB (by (with_reducible repeat (first|apply Kd.R_alloc|apply Kd.R_drewN|apply Kd.R_drew));exact HO_128001.out) gb135 (Nat.le_of_eq hg.symm)) hb);have n3_:=Aside0.mk (Kd.V_below (Kd.V_elderB (by (with_reducible repeat (first|apply Kd.V_alloc|apply Kd.V_drewN|apply Kd.V_drew));exact HL132_2.out) gb135 (Nat.le_of_eq hg.symm)) hb);have n4_:=Aside0.mk (Kd.V_below (Kd.V_elderB (by (with_reducible repeat (first|apply Kd.V_alloc|apply Kd.V_drewN|apply Kd.V_drew));exact HL133_2.out) gb135 (Nat.le_of_eq hg.symm)) hb);have n5_:=Aside0.mk (blk_below (g:=gb111) (o:=.cells #[.int .i64 t104,.int .i64 t105,.int .i64 t106,.slice Ao12 t107.length co12] 35 (0,0)) (by (with_reducible repeat (first|refine blk_drewN ?_ _|refine blk_drew ?_|refine blk_alloc ?_ _));exact BK111.out) hb);have n6_:=Aside0.mk (blk_below (g:=gb120) (o:=.cells #[.int .i64 t112,.int .i64 t113,.slice (some ad132) t114.length co20] 39 (0,0)) (by (with_reducible repeat (first|refine blk_drewN ?_ _|refine blk_drew ?_|refine blk_alloc ?_ _));exact BK120.out) hb);have n7_:=Aside0.mk (blk_below (g:=gb121) (o:=.cells #[.int .i64 t117,.int .i64 t118] 41 (0,0)) (by (with_reducible repeat (first|refine blk_drewN ?_ _|refine blk_drew ?_|refine blk_alloc ?_ _));exact BK121.out) hb);have n8_:=Aside0.mk (blk_below (g:=gb127) (o:=.cells #[.int .i64 t122,.slice (some ad129) t123.length co32] 30 (0,0)) (by (with_reducible repeat (first|refine blk_drewN ?_ _|refine blk_drew ?_|refine blk_alloc ?_ _));exact BK127.out) hb);have n9_:=Aside0.mk (blk_below (g:=gb130) (o:=.cells #[.int .i64 ((rd_T41 t123 x9_2).f0),.int .i64 ((rd_T41 t123 x9_2).f1)] 41 (0,0)) (by (with_reducible repeat (first|refine blk_drewN ?_ _|refine blk_drew ?_|refine blk_alloc ?_ _));exact BK130.out) hb);have n10_:=Aside0.mk (Kd.C_below (by repeat (first|(with_reducible exact HR132_2.out)|(with_reducible refine Kd.C_alloc ?_ _)|(with_reducible refine Kd.C_drewN ?_ _)|(with_reducible refine Kd.C_drew ?_)|exact HR132_2.out)) hb);have n11_:=Aside0.mk (Kd.C_below (by repeat (first|(with_reducible exact HR133_2.out)|(with_reducible refine Kd.C_alloc ?_ _)|(with_reducible refine Kd.C_drewN ?_ _)|(with_reducible refine Kd.C_drew ?_)|exact HR133_2.out)) hb);have n12_:=Aside0.mk (below_step (by repeat (first|(with_reducible first|exact HB.out|apply below_alloc|apply pw_below_drewN|apply below_drew1|refine below_set ?_ GE111.out|refine below_set ?_ GE120.out|refine below_set ?_ GE121.out|refine below_set ?_ GE127.out|refine below_set ?_ GE130.out)|exact HB.out)) hb);have n13_:=Aside0.mk (hbox);have n14_:=Aside0.mk ((by rw[hg];exact(below_size (by repeat (first|(with_reducible first|exact HB.out|apply below_alloc|apply pw_below_drewN|apply below_drew1|refine below_set ?_ GE111.out|refine below_set ?_ GE120.out|refine below_set ?_ GE121.out|refine below_set ?_ GE127.out|refine below_set ?_ GE130.out)|exact HB.out))):w.heap.size≤gb135));have n15_:=Aside0.mk ((by rw[hg];exact(below_size (by repeat (first|(with_reducible first|exact HB.out|apply below_alloc|apply pw_below_drewN|apply below_drew1|refine below_set ?_ GE111.out|refine below_set ?_ GE120.out|refine below_set ?_ GE121.out|refine below_set ?_ GE127.out|refine below_set ?_ GE130.out)|exact HB.out))):w.heap.size≤gb135));have n16_:=Aside0.mk ((by rw[hg];exact Nat.ne_of_lt (blk_lt (g:=gb111) (o:=.cells #[.int .i64 t104,.int .i64 t105,.int .i64 t106,.slice Ao12 t107.length co12] 35 (0,0)) (by (with_reducible repeat (first|refine blk_drewN ?_ _|refine blk_drew ?_|refine blk_alloc ?_ _));exact BK111.out)):gb111≠gb135));have n17_:=Aside0.mk ((by rw[hg];exact Nat.ne_of_gt (blk_lt (g:=gb111) (o:=.cells #[.int .i64 t104,.int .i64 t105,.int .i64 t106,.slice Ao12 t107.length co12] 35 (0,0)) (by (with_reducible repeat (first|refine blk_drewN ?_ _|refine blk_drew ?_|refine blk_alloc ?_ _));exact BK111.out)):gb135≠gb111));have n18_:=Aside0.mk ((by rw[hg];exact Nat.ne_of_lt (blk_lt (g:=gb120) (o:=.cells #[.int .i64 t112,.int .i64 t113,.slice (some ad132) t114.length co20] 39 (0,0)) (by (with_reducible repeat (first|refine blk_drewN ?_ _|refine blk_drew ?_|refine blk_alloc ?_ _));exact BK120.out)):gb120≠gb135));have n19_:=Aside0.mk ((by rw[hg];exact Nat.ne_of_gt (blk_lt (g:=gb120) (o:=.cells #[.int .i64 t112,.int .i64 t113,.slice (some ad132) t114.length co20] 39 (0,0)) (by (with_reducible repeat (first|refine blk_drewN ?_ _|refine blk_drew ?_|refine blk_alloc ?_ _));exact BK120.out)):gb135≠gb120));have n20_:=Aside0.mk ((by rw[hg];exact Nat.ne_of_lt (blk_lt (g:=gb121) (o:=.cells #[.int .i64 t117,.int .i64 t118] 41 (0,0)) (by (with_reducible repeat (first|refine blk_drewN ?_ _|refine blk_drew ?_|refine blk_alloc ?_ _));exact BK121.out)):gb121≠gb135));have n21_:=Aside0.mk ((by rw[hg];exact Nat.ne_of_gt (blk_lt (g:=gb121) (o:=.cells #[.int .i64 t117,.int .i64 t118] 41 (0,0)) (by (with_reducible repeat (first|refine blk_drewN ?_ _|refine blk_drew ?_|refine blk_alloc ?_ _));exact BK121.out)):gb135≠gb121));have n22_:=Aside0.mk ((by rw[hg];exact Nat.ne_of_lt (blk_lt (g:=gb127) (o:=.cells #[.int .i64 t122,.slice (some ad129) t123.length co32] 30 (0,0)) (by (with_reducible repeat (first|refine blk_drewN ?_ _|refine blk_drew ?_|refine blk_alloc ?_ _));exact BK127.out)):gb127≠gb135));have n23_:=Aside0.mk ((by rw[hg];exact Nat.ne_of_gt (blk_lt (g:=gb127) (o:=.cells #[.int .i64 t122,.slice (some ad129) t123.length co32] 30 (0,0)) (by (with_reducible repeat (first|refine blk_drewN ?_ _|refine blk_drew ?_|refine blk_alloc ?_ _));exact BK127.out)):gb135≠gb127));have n24_:=Aside0.mk ((by rw[hg];exact Nat.ne_of_lt (blk_lt (g:=gb130) (o:=.cells #[.int .i64 ((rd_T41 t123 x9_2).f0),.int .i64 ((rd_T41 t123 x9_2).f1)] 41 (0,0)) (by (with_reducible repeat (first|refine blk_drewN ?_ _|refine blk_drew ?_|refine blk_alloc ?_ _));exact BK130.out)):gb130≠gb135));have n25_:=Aside0.mk ((by rw[hg];exact Nat.ne_of_gt (blk_lt (g:=gb130) (o:=.cells #[.int .i64 ((rd_T41 t123 x9_2).f0),.int .i64 ((rd_T41 t123 x9_2).f1)] 41 (0,0)) (by (with_reducible repeat (first|refine blk_drewN ?_ _|refine blk_drew ?_|refine blk_alloc ?_ _));exact BK130.out)):gb135≠gb130));clear HO_112003;clear HO_121002;clear HO_128001;clear HL132_2;clear HL133_2;clear BK111;clear BK120;clear BK121;clear BK127;clear BK130;clear HR132_2;clear HR133_2;clear HB;have HO_112003:=n0_;have HO_121002:=n1_;have HO_128001:=n2_;have HL132_2:=n3_;have HL133_2:=n4_;have BK111:=n5_;have BK120:=n6_;have BK121:=n7_;have BK127:=n8_;have BK130:=n9_;have HR132_2:=n10_;have HR133_2:=n11_;have HB:=n12_;have BK135:=n13_;have GW135:=n14_;have GE135:=n15_;have NB111_135:=n16_;have NB135_111:=n17_;have NB120_135:=n18_;have NB135_120:=n19_;have NB121_135:=n20_;have NB135_121:=n21_;have NB127_135:=n22_;have NB135_127:=n23_;have NB130_135:=n24_;have NB135_130:=n25_;clear n0_ n1_ n2_ n3_ n4_ n5_ n6_ n7_ n8_ n9_ n10_ n11_ n12_ n13_ n14_ n15_ n16_ n17_ n18_ n19_ n20_ n21_ n22_ n23_ n24_ n25_;clear hb hbox hg;have hnb100:=NB135_111.out;have hnc100:=NB111_135.out;have hnb101:=NB135_120.out;have hnc101:=NB120_135.out;have hnb102:=NB135_121.out;have hnc102:=NB121_135.out;have hnb103:=NB135_127.out;have hnc103:=NB127_135.out;have hnb104:=NB135_130.out;have hnc104:=NB130_135.out;have hcz105_0:w99.cell? ⟨gb135,0,none⟩ = some (.int .i64 0):=(blk_cell BK135.out 0).trans rfl;have hcz105_1:w99.cell? ⟨gb135,1,none⟩ = some (.int .i64 0):=(blk_cell BK135.out 1).trans rfl;have hfz105_0:=blk_frozen BK135.out 0;have hfz105_1:=blk_frozen BK135.out 1;have hnb106:=NB130_111.out;have hnc106:=NB111_130.out;have hnb107:=NB130_121.out;have hnc107:=NB121_130.out;have hnb108:=NB130_127.out;have hnc108:=NB127_130.out;have hcz109_0:w99.cell? ⟨gb130,0,none⟩ = some (.int .i64 ((rd_T41 t123 x9_2).f0)):=(blk_cell BK130.out 0).trans rfl;have hcz109_1:w99.cell? ⟨gb130,1,none⟩ = some (.int .i64 ((rd_T41 t123 x9_2).f1)):=(blk_cell BK130.out 1).trans rfl;have hfz109_0:=blk_frozen BK130.out 0;have hfz109_1:=blk_frozen BK130.out 1))
                                            repeat (go_quiet (fail); try go_wp2)
                                            go_roundg k5
                                            case measure=>have:=HJ5.out;have:=HK2.out;have:=HJ45.out;have:=HK4.out;have:=HK5.out;omega
                                            case rel=>exact⟨(wrap64 (x12_5 + 1)),(by first|rfl|(simp;done)|(simp[*];done)),H',⟨by have:=HJ5.out;have:=HK2.out;have:=HJ45.out;have:=HK4.out;have:=HK5.out;omega⟩,⟨by (with_reducible repeat (first|apply Kd.R_alloc|apply Kd.R_drewN|apply Kd.R_drew));exact Kd.R_mono (Kd.R_far (p:=⟨gb135,1,none⟩) (Kd.R_far (p:=⟨gb135,0,none⟩) (Kd.R_types HO_112003.out BK135.out (by decide)) (fun _ hk=>hk.2) (.int .i64 ((rd_T41 ((rd_T48 t114 x11_4).f1) x12_5).f0))) (fun _ hk=>hk.2) (.int .i64 ((rd_T41 ((rd_T48 t114 x11_4).f1) x12_5).f1))) (fun _ hk=>trivial)⟩,⟨by (with_reducible repeat (first|apply Kd.N_alloc|apply Kd.N_drewN|apply Kd.N_drew));exact Kd.N_mono (Kd.N_far (p:=⟨gb135,1,none⟩) (Kd.N_far (p:=⟨gb135,0,none⟩) (Kd.N_mono HO_121002.out (fun k_ hk=>(⟨hk,hk.2⟩:_∧k_≠gb135))) (fun _ hk=>hk.2) (.int .i64 ((rd_T41 ((rd_T48 t114 x11_4).f1) x12_5).f0))) (fun _ hk=>hk.2) (.int .i64 ((rd_T41 ((rd_T48 t114 x11_4).f1) x12_5).f1))) (fun _ hk=>⟨hk.1.1.1,⟨hk.1.1.2.1,⟨hk.1.1.2.2.1,⟨hk.1.1.2.2.2.1,⟨hk.1.1.2.2.2.2.1,⟨hk.1.1.2.2.2.2.2.1,hk.1.1.2.2.2.2.2.2⟩⟩⟩⟩⟩⟩)⟩,⟨by (with_reducible repeat (first|apply Kd.R_alloc|apply Kd.R_drewN|apply Kd.R_drew));exact Kd.R_mono (Kd.R_far (p:=⟨gb135,1,none⟩) (Kd.R_far (p:=⟨gb135,0,none⟩) (Kd.R_mono HO_128001.out (fun k_ hk=>(⟨hk,hk.2⟩:_∧k_≠gb135))) (fun _ hk=>hk.2) (.int .i64 ((rd_T41 ((rd_T48 t114 x11_4).f1) x12_5).f0))) (fun _ hk=>hk.2) (.int .i64 ((rd_T41 ((rd_T48 t114 x11_4).f1) x12_5).f1))) (fun _ hk=>⟨hk.1.1.1,hk.1.1.2⟩)⟩,⟨by (with_reducible repeat (first|refine blk_drewN ?_ _|refine blk_drew ?_|refine blk_alloc ?_ _));refine blk_far ?_ NB111_135.out _;(with_reducible repeat (first|refine blk_drewN ?_ _|refine blk_drew ?_|refine blk_alloc ?_ _));refine blk_far ?_ NB111_135.out _;(with_reducible repeat (first|refine blk_drewN ?_ _|refine blk_drew ?_|refine blk_alloc ?_ _));exact BK111.out⟩,⟨by (with_reducible repeat (first|refine blk_drewN ?_ _|refine blk_drew ?_|refine blk_alloc ?_ _));refine blk_far ?_ NB120_135.out _;(with_reducible repeat (first|refine blk_drewN ?_ _|refine blk_drew ?_|refine blk_alloc ?_ _));refine blk_far ?_ NB120_135.out _;(with_reducible repeat (first|refine blk_drewN ?_ _|refine blk_drew ?_|refine blk_alloc ?_ _));exact BK120.out⟩,⟨by (with_reducible repeat (first|refine blk_drewN ?_ _|refine blk_drew ?_|refine blk_alloc ?_ _));refine blk_far ?_ NB121_135.out _;(with_reducible repeat (first|refine blk_drewN ?_ _|refine blk_drew ?_|refine blk_alloc ?_ _));refine blk_far ?_ NB121_135.out _;(with_reducible repeat (first|refine blk_drewN ?_ _|refine blk_drew ?_|refine blk_alloc ?_ _));exact BK121.out⟩,⟨by (with_reducible repeat (first|refine blk_drewN ?_ _|refine blk_drew ?_|refine blk_alloc ?_ _));refine blk_far ?_ NB127_135.out _;(with_reducible repeat (first|refine blk_drewN ?_ _|refine blk_drew ?_|refine blk_alloc ?_ _));refine blk_far ?_ NB127_135.out _;(with_reducible repeat (first|refine blk_drewN ?_ _|refine blk_drew ?_|refine blk_alloc ?_ _));exact BK127.out⟩,⟨by (with_reducible repeat (first|refine blk_drewN ?_ _|refine blk_drew ?_|refine blk_alloc ?_ _));refine blk_far ?_ NB130_135.out _;(with_reducible repeat (first|refine blk_drewN ?_ _|refine blk_drew ?_|refine blk_alloc ?_ _));refine blk_far ?_ NB130_135.out _;(with_reducible repeat (first|refine blk_drewN ?_ _|refine blk_drew ?_|refine blk_alloc ?_ _));exact BK130.out⟩,⟨by repeat (first|(with_reducible first|exact HB.out|apply below_alloc|apply pw_below_drewN|apply below_drew1|refine below_set ?_ GE111.out|refine below_set ?_ GE120.out|refine below_set ?_ GE121.out|refine below_set ?_ GE127.out|refine below_set ?_ GE130.out|refine below_set ?_ GE135.out)|exact HB.out)⟩⟩
                                        · rw [if_neg c92] at H
                                          have c92b0:decide (((rd_T41 ((rd_T48 t114 x11_4).f1) x12_5).f0) < ((rd_T41 t123 x9_2).f1)) = false:=decide_eq_false c92
                                          clear c92
                                          have H' := Aside0.mk H
                                          clear H
                                          have hnb110 := NB120_111.out
                                          have hnc110 := NB111_120.out
                                          have hnb111 := NB120_121.out
                                          have hnc111 := NB121_120.out
                                          have hnb112 := NB120_127.out
                                          have hnc112 := NB127_120.out
                                          have hnb113 := NB120_130.out
                                          have hnc113 := NB130_120.out
                                          have hcz114_0:wr.cell? ⟨gb120,0,none⟩ = some (.int .i64 t112):=(blk_cell BK120.out 0).trans rfl
                                          have hcz114_1:wr.cell? ⟨gb120,1,none⟩ = some (.int .i64 t113):=(blk_cell BK120.out 1).trans rfl
                                          have hcz114_2:wr.cell? ⟨gb120,2,none⟩ = some (.slice Ao20 t114.length co20):=(blk_cell BK120.out 2).trans rfl
                                          have hfz114_0 := blk_frozen BK120.out 0
                                          have hfz114_1 := blk_frozen BK120.out 1
                                          have hfz114_2 := blk_frozen BK120.out 2
                                          have p132:0≤(x11_4:Int):=of_decide_eq_true (by first|(with_reducible assumption)|assumption)
                                          have q132:x11_4 < (t114.length:Int):=of_decide_eq_true (by first|(with_reducible assumption)|assumption)
                                          obtain ⟨ad132,A132_2,c132_2,e132,hx132_0,hx132_1,hx132_2,hl132_2,hi132_2⟩:=at_T48 (Kd.N_reads' HO_121002.out).2.2 x11_4 p132 q132
                                          cases e132
                                          obtain ⟨ce132,hce132,hMe132,hcc132⟩:=Kd.N_get HO_121002.out z48 x11_4 p132 (by first|exact q132|exact of_decide_eq_true (by first|(with_reducible assumption)|assumption)|(have e_:=(Kd.N_reads' HO_121002.out).1;omega))
                                          obtain ⟨ua132_2, uc132_2, rfl, ul132_2, ge132_2⟩ := k48_openF hMe132
                                          have hv132_2 := hcc132 2 _ rfl
                                          rw [add_field _ _ 2 (by omega)] at hv132_2
                                          replace hv132_2 := Option.some.inj (hv132_2.symm.trans hx132_2)
                                          injection hv132_2 with hva_ hvn_ hvc_
                                          rw [hva_] at ge132_2
                                          rw [hvc_] at ul132_2
                                          have HL132_2:=Aside0.mk (show Kd.V k41 41 _ w.heap.size _ _ ((rd_T48 t114 x11_4).f1) from Kd.V_mk ul132_2 ge132_2)
                                          clear hva_ hvn_ hvc_ ge132_2 ul132_2
                                          clear hcc132 hce132
                                          have HR132_2 := Aside0.mk hi132_2
                                          have HC132_2 := Aside0.mk hl132_2
                                          clear hi132_2 hl132_2
                                          replace p132 := eq_true p132
                                          replace q132 := eq_true q132
                                          have p133:0≤(x11_4:Int):=of_decide_eq_true (by first|(with_reducible assumption)|assumption)
                                          have q133:x11_4 < (t114.length:Int):=of_decide_eq_true (by first|(with_reducible assumption)|assumption)
                                          obtain ⟨ad133,A133_2,c133_2,e133,hx133_0,hx133_1,hx133_2,hl133_2,hi133_2⟩:=at_T48 (Kd.N_reads' HO_121002.out).2.2 x11_4 p133 q133
                                          obtain rfl : ad132 = ad133 := (by injection e133)
                                          obtain ⟨ce133,hce133,hMe133,hcc133⟩:=Kd.N_get HO_121002.out z48 x11_4 p133 (by first|exact q133|exact of_decide_eq_true (by first|(with_reducible assumption)|assumption)|(have e_:=(Kd.N_reads' HO_121002.out).1;omega))
                                          obtain ⟨ua133_2, uc133_2, rfl, ul133_2, ge133_2⟩ := k48_openF hMe133
                                          have hv133_2 := hcc133 2 _ rfl
                                          rw [add_field _ _ 2 (by omega)] at hv133_2
                                          replace hv133_2 := Option.some.inj (hv133_2.symm.trans hx133_2)
                                          injection hv133_2 with hva_ hvn_ hvc_
                                          rw [hva_] at ge133_2
                                          rw [hvc_] at ul133_2
                                          have HL133_2:=Aside0.mk (show Kd.V k41 41 _ w.heap.size _ _ ((rd_T48 t114 x11_4).f1) from Kd.V_mk ul133_2 ge133_2)
                                          clear hva_ hvn_ hvc_ ge133_2 ul133_2
                                          clear hcc133 hce133
                                          have HR133_2 := Aside0.mk hi133_2
                                          have HC133_2 := Aside0.mk hl133_2
                                          clear hi133_2 hl133_2
                                          replace p133 := eq_true p133
                                          replace q133 := eq_true q133
                                          have ea_ := Option.some.inj (hx132_2.symm.trans hx133_2)
                                          injection ea_ with ea_ en_ ec_
                                          subst ea_
                                          subst ec_
                                          clear en_
                                          have p134:0≤(x12_5:Int):=of_decide_eq_true (by first|(with_reducible assumption)|assumption)
                                          have q134:x12_5 < (((rd_T48 t114 x11_4).f1).length:Int):=of_decide_eq_true (by first|(with_reducible assumption)|assumption)
                                          obtain ⟨ad134,e134,hx134_0,hx134_1⟩:=at_T41 (by repeat (first|(with_reducible exact HR133_2.out)|(with_reducible refine Kd.C_alloc ?_ _)|(with_reducible refine Kd.C_drewN ?_ _)|(with_reducible refine Kd.C_drew ?_)|exact HR133_2.out)) x12_5 p134 q134
                                          cases e134
                                          replace p134 := eq_true p134
                                          replace q134 := eq_true q134
                                          go_wp2_with (first|((with_reducible refine gate_dst (N:=13) rfl ?_);refine box_event ?hg (N:=13) ?hd (cs:=#[.int .i64 0,.int .i64 0]) (t:=41) ?hr ?_;(case hd=>rfl);(case hg=>rfl);(case hr=>first|(go_simp;done)|(go_simp;rfl));intro gb135 hg w115 hbox hb;have n0_:=Aside0.mk (Kd.R_below (by (with_reducible repeat (first|apply Kd.R_alloc|apply Kd.R_drewN|apply Kd.R_drew));exact HO_112003.out) hb);have n1_:=Aside0.mk (Kd.N_below (Kd.N_elderB (by (with_reducible repeat (first|apply Kd.N_alloc|apply Kd.N_drewN|apply Kd.N_drew));exact HO_121002.out) gb135 (Nat.le_of_eq hg.symm)) hb);have n2_:=Aside0.mk (Kd.R_below (Kd.R_elderB (by (with_reducible repeat (first|apply Kd.R_alloc|apply Kd.R_drewN|apply Kd.R_drew));exact HO_128001.out) gb135 (Nat.le_of_eq hg.symm)) hb);have n3_:=Aside0.mk (Kd.V_below (Kd.V_elderB (by (with_reducible repeat (first|apply Kd.V_alloc|apply Kd.V_drewN|apply Kd.V_drew));exact HL132_2.out) gb135 (Nat.le_of_eq hg.symm)) hb);have n4_:=Aside0.mk (Kd.V_below (Kd.V_elderB (by (with_reducible repeat (first|apply Kd.V_alloc|apply Kd.V_drewN|apply Kd.V_drew));exact HL133_2.out) gb135 (Nat.le_of_eq hg.symm)) hb);have n5_:=Aside0.mk (blk_below (g:=gb111) (o:=.cells #[.int .i64 t104,.int .i64 t105,.int .i64 t106,.slice Ao12 t107.length co12] 35 (0,0)) (by (with_reducible repeat (first|refine blk_drewN ?_ _|refine blk_drew ?_|refine blk_alloc ?_ _));exact BK111.out) hb);have n6_:=Aside0.mk (blk_below (g:=gb120) (o:=.cells #[.int .i64 t112,.int .i64 t113,.slice (some ad132) t114.length co20] 39 (0,0)) (by (with_reducible repeat (first|refine blk_drewN ?_ _|refine blk_drew ?_|refine blk_alloc ?_ _));exact BK120.out) hb);have n7_:=Aside0.mk (blk_below (g:=gb121) (o:=.cells #[.int .i64 t117,.int .i64 t118] 41 (0,0)) (by (with_reducible repeat (first|refine blk_drewN ?_ _|refine blk_drew ?_|refine blk_alloc ?_ _));exact BK121.out) hb);have n8_:=Aside0.mk (blk_below (g:=gb127) (o:=.cells #[.int .i64 t122,.slice (some ad129) t123.length co32] 30 (0,0)) (by (with_reducible repeat (first|refine blk_drewN ?_ _|refine blk_drew ?_|refine blk_alloc ?_ _));exact BK127.out) hb);have n9_:=Aside0.mk (blk_below (g:=gb130) (o:=.cells #[.int .i64 ((rd_T41 t123 x9_2).f0),.int .i64 ((rd_T41 t123 x9_2).f1)] 41 (0,0)) (by (with_reducible repeat (first|refine blk_drewN ?_ _|refine blk_drew ?_|refine blk_alloc ?_ _));exact BK130.out) hb);have n10_:=Aside0.mk (Kd.C_below (by repeat (first|(with_reducible exact HR132_2.out)|(with_reducible refine Kd.C_alloc ?_ _)|(with_reducible refine Kd.C_drewN ?_ _)|(with_reducible refine Kd.C_drew ?_)|exact HR132_2.out)) hb);have n11_:=Aside0.mk (Kd.C_below (by repeat (first|(with_reducible exact HR133_2.out)|(with_reducible refine Kd.C_alloc ?_ _)|(with_reducible refine Kd.C_drewN ?_ _)|(with_reducible refine Kd.C_drew ?_)|exact HR133_2.out)) hb);have n12_:=Aside0.mk (below_step (by repeat (first|(with_reducible first|exact HB.out|apply below_alloc|apply pw_below_drewN|apply below_drew1|refine below_set ?_ GE111.out|refine below_set ?_ GE120.out|refine below_set ?_ GE121.out|refine below_set ?_ GE127.out|refine below_set ?_ GE130.out)|exact HB.out)) hb);have n13_:=Aside0.mk (hbox);have n14_:=Aside0.mk ((by rw[hg];exact(below_size (by repeat (first|(with_reducible first|exact HB.out|apply below_alloc|apply pw_below_drewN|apply below_drew1|refine below_set ?_ GE111.out|refine below_set ?_ GE120.out|refine below_set ?_ GE121.out|refine below_set ?_ GE127.out|refine below_set ?_ GE130.out)|exact HB.out))):w.heap.size≤gb135));have n15_:=Aside0.mk ((by rw[hg];exact(below_size (by repeat (first|(with_reducible first|exact HB.out|apply below_alloc|apply pw_below_drewN|apply below_drew1|refine below_set ?_ GE111.out|refine below_set ?_ GE120.out|refine below_set ?_ GE121.out|refine below_set ?_ GE127.out|refine below_set ?_ GE130.out)|exact HB.out))):w.heap.size≤gb135));have n16_:=Aside0.mk ((by rw[hg];exact Nat.ne_of_lt (blk_lt (g:=gb111) (o:=.cells #[.int .i64 t104,.int .i64 t105,.int .i64 t106,.slice Ao12 t107.length co12] 35 (0,0)) (by (with_reducible repeat (first|refine blk_drewN ?_ _|refine blk_drew ?_|refine blk_alloc ?_ _));exact BK111.out)):gb111≠gb135));have n17_:=Aside0.mk ((by rw[hg];exact Nat.ne_of_gt (blk_lt (g:=gb111) (o:=.cells #[.int .i64 t104,.int .i64 t105,.int .i64 t106,.slice Ao12 t107.length co12] 35 (0,0)) (by (with_reducible repeat (first|refine blk_drewN ?_ _|refine blk_drew ?_|refine blk_alloc ?_ _));exact BK111.out)):gb135≠gb111));have n18_:=Aside0.mk ((by rw[hg];exact Nat.ne_of_lt (blk_lt (g:=gb120) (o:=.cells #[.int .i64 t112,.int .i64 t113,.slice (some ad132) t114.length co20] 39 (0,0)) (by (with_reducible repeat (first|refine blk_drewN ?_ _|refine blk_drew ?_|refine blk_alloc ?_ _));exact BK120.out)):gb120≠gb135));have n19_:=Aside0.mk ((by rw[hg];exact Nat.ne_of_gt (blk_lt (g:=gb120) (o:=.cells #[.int .i64 t112,.int .i64 t113,.slice (some ad132) t114.length co20] 39 (0,0)) (by (with_reducible repeat (first|refine blk_drewN ?_ _|refine blk_drew ?_|refine blk_alloc ?_ _));exact BK120.out)):gb135≠gb120));have n20_:=Aside0.mk ((by rw[hg];exact Nat.ne_of_lt (blk_lt (g:=gb121) (o:=.cells #[.int .i64 t117,.int .i64 t118] 41 (0,0)) (by (with_reducible repeat (first|refine blk_drewN ?_ _|refine blk_drew ?_|refine blk_alloc ?_ _));exact BK121.out)):gb121≠gb135));have n21_:=Aside0.mk ((by rw[hg];exact Nat.ne_of_gt (blk_lt (g:=gb121) (o:=.cells #[.int .i64 t117,.int .i64 t118] 41 (0,0)) (by (with_reducible repeat (first|refine blk_drewN ?_ _|refine blk_drew ?_|refine blk_alloc ?_ _));exact BK121.out)):gb135≠gb121));have n22_:=Aside0.mk ((by rw[hg];exact Nat.ne_of_lt (blk_lt (g:=gb127) (o:=.cells #[.int .i64 t122,.slice (some ad129) t123.length co32] 30 (0,0)) (by (with_reducible repeat (first|refine blk_drewN ?_ _|refine blk_drew ?_|refine blk_alloc ?_ _));exact BK127.out)):gb127≠gb135));have n23_:=Aside0.mk ((by rw[hg];exact Nat.ne_of_gt (blk_lt (g:=gb127) (o:=.cells #[.int .i64 t122,.slice (some ad129) t123.length co32] 30 (0,0)) (by (with_reducible repeat (first|refine blk_drewN ?_ _|refine blk_drew ?_|refine blk_alloc ?_ _));exact BK127.out)):gb135≠gb127));have n24_:=Aside0.mk ((by rw[hg];exact Nat.ne_of_lt (blk_lt (g:=gb130) (o:=.cells #[.int .i64 ((rd_T41 t123 x9_2).f0),.int .i64 ((rd_T41 t123 x9_2).f1)] 41 (0,0)) (by (with_reducible repeat (first|refine blk_drewN ?_ _|refine blk_drew ?_|refine blk_alloc ?_ _));exact BK130.out)):gb130≠gb135));have n25_:=Aside0.mk ((by rw[hg];exact Nat.ne_of_gt (blk_lt (g:=gb130) (o:=.cells #[.int .i64 ((rd_T41 t123 x9_2).f0),.int .i64 ((rd_T41 t123 x9_2).f1)] 41 (0,0)) (by (with_reducible repeat (first|refine blk_drewN ?_ _|refine blk_drew ?_|refine blk_alloc ?_ _));exact BK130.out)):gb135≠gb130));clear HO_112003;clear HO_121002;clear HO_128001;clear HL132_2;clear HL133_2;clear BK111;clear BK120;clear BK121;clear BK127;clear BK130;clear HR132_2;clear HR133_2;clear HB;have HO_112003:=n0_;have HO_121002:=n1_;have HO_128001:=n2_;have HL132_2:=n3_;have HL133_2:=n4_;have BK111:=n5_;have BK120:=n6_;have BK121:=n7_;have BK127:=n8_;have BK130:=n9_;have HR132_2:=n10_;have HR133_2:=n11_;have HB:=n12_;have BK135:=n13_;have GW135:=n14_;have GE135:=n15_;have NB111_135:=n16_;have NB135_111:=n17_;have NB120_135:=n18_;have NB135_120:=n19_;have NB121_135:=n20_;have NB135_121:=n21_;have NB127_135:=n22_;have NB135_127:=n23_;have NB130_135:=n24_;have NB135_130:=n25_;clear n0_ n1_ n2_ n3_ n4_ n5_ n6_ n7_ n8_ n9_ n10_ n11_ n12_ n13_ n14_ n15_ n16_ n17_ n18_ n19_ n20_ n21_ n22_ n23_ n24_ n25_;clear hb hbox hg;have hnb116:=NB135_111.out;have hnc116:=NB111_135.out;have hnb117:=NB135_120.out;have hnc117:=NB120_135.out;have hnb118:=NB135_121.out;have hnc118:=NB121_135.out;have hnb119:=NB135_127.out;have hnc119:=NB127_135.out;have hnb120:=NB135_130.out;have hnc120:=NB130_135.out;have hcz121_0:w115.cell? ⟨gb135,0,none⟩ = some (.int .i64 0):=(blk_cell BK135.out 0).trans rfl;have hcz121_1:w115.cell? ⟨gb135,1,none⟩ = some (.int .i64 0):=(blk_cell BK135.out 1).trans rfl;have hfz121_0:=blk_frozen BK135.out 0;have hfz121_1:=blk_frozen BK135.out 1;have hnb122:=NB130_111.out;have hnc122:=NB111_130.out;have hnb123:=NB130_121.out;have hnc123:=NB121_130.out;have hnb124:=NB130_127.out;have hnc124:=NB127_130.out;have hcz125_0:w115.cell? ⟨gb130,0,none⟩ = some (.int .i64 ((rd_T41 t123 x9_2).f0)):=(blk_cell BK130.out 0).trans rfl;have hcz125_1:w115.cell? ⟨gb130,1,none⟩ = some (.int .i64 ((rd_T41 t123 x9_2).f1)):=(blk_cell BK130.out 1).trans rfl;have hfz125_0:=blk_frozen BK130.out 0;have hfz125_1:=blk_frozen BK130.out 1))
                                          repeat (go_quiet (fail); try go_wp2)
                                          go_roundg k5
                                          case measure=>have:=HJ5.out;have:=HK2.out;have:=HJ45.out;have:=HK4.out;have:=HK5.out;omega
                                          case rel=>exact⟨(wrap64 (x12_5 + 1)),(by first|rfl|(simp;done)|(simp[*];done)),H',⟨by have:=HJ5.out;have:=HK2.out;have:=HJ45.out;have:=HK4.out;have:=HK5.out;omega⟩,⟨by (with_reducible repeat (first|apply Kd.R_alloc|apply Kd.R_drewN|apply Kd.R_drew));exact Kd.R_mono (Kd.R_far (p:=⟨gb135,1,none⟩) (Kd.R_far (p:=⟨gb135,0,none⟩) (Kd.R_types HO_112003.out BK135.out (by decide)) (fun _ hk=>hk.2) (.int .i64 ((rd_T41 ((rd_T48 t114 x11_4).f1) x12_5).f0))) (fun _ hk=>hk.2) (.int .i64 ((rd_T41 ((rd_T48 t114 x11_4).f1) x12_5).f1))) (fun _ hk=>trivial)⟩,⟨by (with_reducible repeat (first|apply Kd.N_alloc|apply Kd.N_drewN|apply Kd.N_drew));exact Kd.N_mono (Kd.N_far (p:=⟨gb135,1,none⟩) (Kd.N_far (p:=⟨gb135,0,none⟩) (Kd.N_mono HO_121002.out (fun k_ hk=>(⟨hk,hk.2⟩:_∧k_≠gb135))) (fun _ hk=>hk.2) (.int .i64 ((rd_T41 ((rd_T48 t114 x11_4).f1) x12_5).f0))) (fun _ hk=>hk.2) (.int .i64 ((rd_T41 ((rd_T48 t114 x11_4).f1) x12_5).f1))) (fun _ hk=>⟨hk.1.1.1,⟨hk.1.1.2.1,⟨hk.1.1.2.2.1,⟨hk.1.1.2.2.2.1,⟨hk.1.1.2.2.2.2.1,⟨hk.1.1.2.2.2.2.2.1,hk.1.1.2.2.2.2.2.2⟩⟩⟩⟩⟩⟩)⟩,⟨by (with_reducible repeat (first|apply Kd.R_alloc|apply Kd.R_drewN|apply Kd.R_drew));exact Kd.R_mono (Kd.R_far (p:=⟨gb135,1,none⟩) (Kd.R_far (p:=⟨gb135,0,none⟩) (Kd.R_mono HO_128001.out (fun k_ hk=>(⟨hk,hk.2⟩:_∧k_≠gb135))) (fun _ hk=>hk.2) (.int .i64 ((rd_T41 ((rd_T48 t114 x11_4).f1) x12_5).f0))) (fun _ hk=>hk.2) (.int .i64 ((rd_T41 ((rd_T48 t114 x11_4).f1) x12_5).f1))) (fun _ hk=>⟨hk.1.1.1,hk.1.1.2⟩)⟩,⟨by (with_reducible repeat (first|refine blk_drewN ?_ _|refine blk_drew ?_|refine blk_alloc ?_ _));refine blk_far ?_ NB111_135.out _;(with_reducible repeat (first|refine blk_drewN ?_ _|refine blk_drew ?_|refine blk_alloc ?_ _));refine blk_far ?_ NB111_135.out _;(with_reducible repeat (first|refine blk_drewN ?_ _|refine blk_drew ?_|refine blk_alloc ?_ _));exact BK111.out⟩,⟨by (with_reducible repeat (first|refine blk_drewN ?_ _|refine blk_drew ?_|refine blk_alloc ?_ _));refine blk_far ?_ NB120_135.out _;(with_reducible repeat (first|refine blk_drewN ?_ _|refine blk_drew ?_|refine blk_alloc ?_ _));refine blk_far ?_ NB120_135.out _;(with_reducible repeat (first|refine blk_drewN ?_ _|refine blk_drew ?_|refine blk_alloc ?_ _));exact BK120.out⟩,⟨by (with_reducible repeat (first|refine blk_drewN ?_ _|refine blk_drew ?_|refine blk_alloc ?_ _));refine blk_far ?_ NB121_135.out _;(with_reducible repeat (first|refine blk_drewN ?_ _|refine blk_drew ?_|refine blk_alloc ?_ _));refine blk_far ?_ NB121_135.out _;(with_reducible repeat (first|refine blk_drewN ?_ _|refine blk_drew ?_|refine blk_alloc ?_ _));exact BK121.out⟩,⟨by (with_reducible repeat (first|refine blk_drewN ?_ _|refine blk_drew ?_|refine blk_alloc ?_ _));refine blk_far ?_ NB127_135.out _;(with_reducible repeat (first|refine blk_drewN ?_ _|refine blk_drew ?_|refine blk_alloc ?_ _));refine blk_far ?_ NB127_135.out _;(with_reducible repeat (first|refine blk_drewN ?_ _|refine blk_drew ?_|refine blk_alloc ?_ _));exact BK127.out⟩,⟨by (with_reducible repeat (first|refine blk_drewN ?_ _|refine blk_drew ?_|refine blk_alloc ?_ _));refine blk_far ?_ NB130_135.out _;(with_reducible repeat (first|refine blk_drewN ?_ _|refine blk_drew ?_|refine blk_alloc ?_ _));refine blk_far ?_ NB130_135.out _;(with_reducible repeat (first|refine blk_drewN ?_ _|refine blk_drew ?_|refine blk_alloc ?_ _));exact BK130.out⟩,⟨by repeat (first|(with_reducible first|exact HB.out|apply below_alloc|apply pw_below_drewN|apply below_drew1|refine below_set ?_ GE111.out|refine below_set ?_ GE120.out|refine below_set ?_ GE121.out|refine below_set ?_ GE127.out|refine below_set ?_ GE130.out|refine below_set ?_ GE135.out)|exact HB.out)⟩⟩
                                      · rw [if_neg c91] at H
                                        exact absurd H (by simp)
                                    · rw [if_neg c90] at H
                                      have c90b0:decide (x12_5 < (((rd_T48 t114 x11_4).f1).length:Int)) = false:=decide_eq_false c90
                                      clear c90
                                      have H' := Aside0.mk H
                                      clear H
                                      have hnb126 := NB120_111.out
                                      have hnc126 := NB111_120.out
                                      have hnb127 := NB120_121.out
                                      have hnc127 := NB121_120.out
                                      have hnb128 := NB120_127.out
                                      have hnc128 := NB127_120.out
                                      have hnb129 := NB120_130.out
                                      have hnc129 := NB130_120.out
                                      have hcz130_0:wr.cell? ⟨gb120,0,none⟩ = some (.int .i64 t112):=(blk_cell BK120.out 0).trans rfl
                                      have hcz130_1:wr.cell? ⟨gb120,1,none⟩ = some (.int .i64 t113):=(blk_cell BK120.out 1).trans rfl
                                      have hcz130_2:wr.cell? ⟨gb120,2,none⟩ = some (.slice Ao20 t114.length co20):=(blk_cell BK120.out 2).trans rfl
                                      have hfz130_0 := blk_frozen BK120.out 0
                                      have hfz130_1 := blk_frozen BK120.out 1
                                      have hfz130_2 := blk_frozen BK120.out 2
                                      have p132:0≤(x11_4:Int):=of_decide_eq_true (by first|(with_reducible assumption)|assumption)
                                      have q132:x11_4 < (t114.length:Int):=of_decide_eq_true (by first|(with_reducible assumption)|assumption)
                                      obtain ⟨ad132,A132_2,c132_2,e132,hx132_0,hx132_1,hx132_2,hl132_2,hi132_2⟩:=at_T48 (Kd.N_reads' HO_121002.out).2.2 x11_4 p132 q132
                                      cases e132
                                      obtain ⟨ce132,hce132,hMe132,hcc132⟩:=Kd.N_get HO_121002.out z48 x11_4 p132 (by first|exact q132|exact of_decide_eq_true (by first|(with_reducible assumption)|assumption)|(have e_:=(Kd.N_reads' HO_121002.out).1;omega))
                                      obtain ⟨ua132_2, uc132_2, rfl, ul132_2, ge132_2⟩ := k48_openF hMe132
                                      have hv132_2 := hcc132 2 _ rfl
                                      rw [add_field _ _ 2 (by omega)] at hv132_2
                                      replace hv132_2 := Option.some.inj (hv132_2.symm.trans hx132_2)
                                      injection hv132_2 with hva_ hvn_ hvc_
                                      rw [hva_] at ge132_2
                                      rw [hvc_] at ul132_2
                                      have HL132_2:=Aside0.mk (show Kd.V k41 41 _ w.heap.size _ _ ((rd_T48 t114 x11_4).f1) from Kd.V_mk ul132_2 ge132_2)
                                      clear hva_ hvn_ hvc_ ge132_2 ul132_2
                                      clear hcc132 hce132
                                      have HR132_2 := Aside0.mk hi132_2
                                      have HC132_2 := Aside0.mk hl132_2
                                      clear hi132_2 hl132_2
                                      replace p132 := eq_true p132
                                      replace q132 := eq_true q132
                                      go_wp2
                                      repeat (go_quiet (fail); try go_wp2)
                                      go_roundg k5
                                      case measure=>have:=HJ5.out;have:=HK2.out;have:=HJ45.out;have:=HK4.out;have:=HK5.out;omega
                                      case rel=>exact⟨(wrap64 (x11_4 + 1)),(by first|rfl|(simp;done)|(simp[*];done)),H',⟨by have:=HJ5.out;have:=HK2.out;have:=HJ45.out;have:=HK4.out;have:=HK5.out;omega⟩,⟨by (with_reducible repeat (first|apply Kd.R_alloc|apply Kd.R_drewN|apply Kd.R_drew));exact HO_112003.out⟩,⟨by (with_reducible repeat (first|apply Kd.N_alloc|apply Kd.N_drewN|apply Kd.N_drew));exact HO_121002.out⟩,⟨by (with_reducible repeat (first|apply Kd.R_alloc|apply Kd.R_drewN|apply Kd.R_drew));exact HO_128001.out⟩,⟨by (with_reducible repeat (first|refine blk_drewN ?_ _|refine blk_drew ?_|refine blk_alloc ?_ _));exact BK111.out⟩,⟨by (with_reducible repeat (first|refine blk_drewN ?_ _|refine blk_drew ?_|refine blk_alloc ?_ _));exact BK120.out⟩,⟨by (with_reducible repeat (first|refine blk_drewN ?_ _|refine blk_drew ?_|refine blk_alloc ?_ _));exact BK121.out⟩,⟨by (with_reducible repeat (first|refine blk_drewN ?_ _|refine blk_drew ?_|refine blk_alloc ?_ _));exact BK127.out⟩,⟨by (with_reducible repeat (first|refine blk_drewN ?_ _|refine blk_drew ?_|refine blk_alloc ?_ _));exact BK130.out⟩,⟨by repeat (first|(with_reducible first|exact HB.out|apply below_alloc|apply pw_below_drewN|apply below_drew1|refine below_set ?_ GE111.out|refine below_set ?_ GE120.out|refine below_set ?_ GE121.out|refine below_set ?_ GE127.out|refine below_set ?_ GE130.out)|exact HB.out)⟩⟩
                                  · rw [if_neg c89] at H
                                    exact absurd H (by simp)
                                · rw [if_neg c88] at H
                                  exact absurd H (by simp)
                          · rw [if_neg c82] at H
                            have c82b0 : decide (x11_4 < (t114.length : Int)) = false := decide_eq_false c82
                            clear c82
                            have H' := Aside0.mk H
                            clear H
                            have hnb131 := NB120_111.out
                            have hnc131 := NB111_120.out
                            have hnb132 := NB120_121.out
                            have hnc132 := NB121_120.out
                            have hnb133 := NB120_127.out
                            have hnc133 := NB127_120.out
                            have hnb134 := NB120_130.out
                            have hnc134 := NB130_120.out
                            have hcz135_0:wr.cell? ⟨gb120,0,none⟩ = some (.int .i64 t112):=(blk_cell BK120.out 0).trans rfl
                            have hcz135_1:wr.cell? ⟨gb120,1,none⟩ = some (.int .i64 t113):=(blk_cell BK120.out 1).trans rfl
                            have hcz135_2:wr.cell? ⟨gb120,2,none⟩ = some (.slice Ao20 t114.length co20):=(blk_cell BK120.out 2).trans rfl
                            have hfz135_0 := blk_frozen BK120.out 0
                            have hfz135_1 := blk_frozen BK120.out 1
                            have hfz135_2 := blk_frozen BK120.out 2
                            go_wp2
                            repeat (go_quiet (fail); try go_wp2)
                            go_roundg k4
                            case measure => have := HJ5.out; have := HK2.out; have := HJ45.out; have := HK4.out; omega
                            case rel=>exact⟨(wrap64 (x9_2 + 1)),(by first|rfl|(simp;done)|(simp[*];done)),H',⟨by have:=HJ5.out;have:=HK2.out;have:=HJ45.out;have:=HK4.out;omega⟩,⟨by (with_reducible repeat (first|apply Kd.R_alloc|apply Kd.R_drewN|apply Kd.R_drew));exact HO_112003.out⟩,⟨by (with_reducible repeat (first|apply Kd.N_alloc|apply Kd.N_drewN|apply Kd.N_drew));exact Kd.N_mono HO_121002.out (fun _ hk=>⟨hk.1,⟨hk.2.1,⟨hk.2.2.1,⟨hk.2.2.2.1,⟨hk.2.2.2.2.1,hk.2.2.2.2.2.1⟩⟩⟩⟩⟩)⟩,⟨by (with_reducible repeat (first|apply Kd.R_alloc|apply Kd.R_drewN|apply Kd.R_drew));exact Kd.R_mono HO_128001.out (fun _ hk=>hk.1)⟩,⟨by (with_reducible repeat (first|refine blk_drewN ?_ _|refine blk_drew ?_|refine blk_alloc ?_ _));exact BK111.out⟩,⟨by (with_reducible repeat (first|refine blk_drewN ?_ _|refine blk_drew ?_|refine blk_alloc ?_ _));exact BK120.out⟩,⟨by (with_reducible repeat (first|refine blk_drewN ?_ _|refine blk_drew ?_|refine blk_alloc ?_ _));exact BK121.out⟩,⟨by (with_reducible repeat (first|refine blk_drewN ?_ _|refine blk_drew ?_|refine blk_alloc ?_ _));exact BK127.out⟩,⟨by repeat (first|(with_reducible first|exact HB.out|apply below_alloc|apply pw_below_drewN|apply below_drew1|refine below_set ?_ GE111.out|refine below_set ?_ GE120.out|refine below_set ?_ GE121.out|refine below_set ?_ GE127.out|refine below_set ?_ GE130.out)|exact HB.out)⟩⟩
              · rw [if_neg c45] at H
                exact absurd H (by simp)
            · rw [if_neg c44] at H
              have c44b0 : decide (x9_2 < (t123.length : Int)) = false := decide_eq_false c44
              clear c44
              replace H := Option.bind_eq_some_iff.mp H
              obtain ⟨t128, A1360, H⟩ := H
              replace H : (some t128) = some r := H
              have A136 := Aside0.mk A1360
              clear A1360
              obtain rfl := Option.some.inj H
              have hnb137 := NB127_111.out
              have hnc137 := NB111_127.out
              have hnb138 := NB127_120.out
              have hnc138 := NB120_127.out
              have hnb139 := NB127_121.out
              have hnc139 := NB121_127.out
              have hcz140_0 : wr.cell? ⟨gb127, 0, none⟩ = some (.int .i64 t122) := (blk_cell BK127.out 0).trans rfl
              have hcz140_1:wr.cell? ⟨gb127,1,none⟩ = some (.slice Ao32 t123.length co32):=(blk_cell BK127.out 1).trans rfl
              have hfz140_0 := blk_frozen BK127.out 0
              have hfz140_1 := blk_frozen BK127.out 1
              go_wp2_with (first|(go_at_call 11;(with_reducible refine(payrolllaw11_sane.calls k2  t128 _ HRT.out A136.out).mono ?_);rintro e w141 ⟨rfl,hb⟩;have n0_:=Aside0.mk (Kd.R_below (by (with_reducible repeat (first|apply Kd.R_alloc|apply Kd.R_drewN|apply Kd.R_drew));exact HO_112003.out) hb);have n1_:=Aside0.mk (Kd.N_below (by (with_reducible repeat (first|apply Kd.N_alloc|apply Kd.N_drewN|apply Kd.N_drew));exact HO_121002.out) hb);have n2_:=Aside0.mk (Kd.R_below (by (with_reducible repeat (first|apply Kd.R_alloc|apply Kd.R_drewN|apply Kd.R_drew));exact HO_128001.out) hb);have n3_:=Aside0.mk (blk_below (g:=gb111) (o:=.cells #[.int .i64 t104,.int .i64 t105,.int .i64 t106,.slice Ao12 t107.length co12] 35 (0,0)) (by (with_reducible repeat (first|refine blk_drewN ?_ _|refine blk_drew ?_|refine blk_alloc ?_ _));exact BK111.out) hb);have n4_:=Aside0.mk (blk_below (g:=gb120) (o:=.cells #[.int .i64 t112,.int .i64 t113,.slice Ao20 t114.length co20] 39 (0,0)) (by (with_reducible repeat (first|refine blk_drewN ?_ _|refine blk_drew ?_|refine blk_alloc ?_ _));exact BK120.out) hb);have n5_:=Aside0.mk (blk_below (g:=gb121) (o:=.cells #[.int .i64 t117,.int .i64 t118] 41 (0,0)) (by (with_reducible repeat (first|refine blk_drewN ?_ _|refine blk_drew ?_|refine blk_alloc ?_ _));exact BK121.out) hb);have n6_:=Aside0.mk (blk_below (g:=gb127) (o:=.cells #[.int .i64 t122,.slice Ao32 t123.length co32] 30 (0,0)) (by (with_reducible repeat (first|refine blk_drewN ?_ _|refine blk_drew ?_|refine blk_alloc ?_ _));exact BK127.out) hb);have n7_:=Aside0.mk (below_step (by repeat (first|(with_reducible first|exact HB.out|apply below_alloc|apply pw_below_drewN|apply below_drew1|refine below_set ?_ GE111.out|refine below_set ?_ GE120.out|refine below_set ?_ GE121.out|refine below_set ?_ GE127.out)|exact HB.out)) hb);clear HO_112003;clear HO_121002;clear HO_128001;clear BK111;clear BK120;clear BK121;clear BK127;clear HB;have HO_112003:=n0_;have HO_121002:=n1_;have HO_128001:=n2_;have BK111:=n3_;have BK120:=n4_;have BK121:=n5_;have BK127:=n6_;have HB:=n7_;clear n0_ n1_ n2_ n3_ n4_ n5_ n6_ n7_;(try clear hb);(try clear hb2);(try clear hk);(try clear hi)))
              repeat (go_quiet (fail); try go_wp2)
              go_ret
              exact⟨by first|rfl|(simp[errW_none,errW_some] <;> rfl)|(simp[*,errW_none,errW_some] <;> rfl),by repeat (first|(with_reducible first|exact HB.out|apply below_alloc|apply pw_below_drewN|apply below_drew1|refine below_set ?_ GE111.out|refine below_set ?_ GE120.out|refine below_set ?_ GE121.out|refine below_set ?_ GE127.out)|exact HB.out)⟩
def payrolllaw11_WorktimeSound.Pure : Prop := ∀ (l0 : List Int), l0.length ≤ maxLen → l0.length * 8 ≤ 140737488351232 → (∀ x ∈ l0, (Lit.int .i64 x).wf = true) → ∃ k, payrolllaw11_WorktimeSound.f k l0 = some true
theorem payrolllaw11_WorktimeSound.walk (P : payrolllaw11_WorktimeSound.Pure) (a0 : Option Addr) (len0 cap0 : Nat) (z0 : List Int) (w : World) (w0 : (a0 = none ∧ len0 = 0 ∧ cap0 = 0 ∧ z0 = []) ∨ ∃ x, a0 = some x ∧ len0 ≤ cap0 ∧ cap0 ≤ maxLen ∧ z0.length = cap0 ∧ (∀ i, i < z0.length → w.cell? (x.add i) = some (.int .i64 (z0.getD i 0))) ∧ ∀ n ∈ z0, (Lit.int .i64 n).wf = true) (y0 : len0 * 8 ≤ 140737488351232) :
    Calls Try.prog 4 #[.slice a0 len0 cap0] w fun e w' => e = .returned (.bool true) ∧ Below w.heap.size w w' := by
  obtain ⟨l0, rfl, hr0, hm0, hw0, hc0⟩ := ReadsInt.ofRowC w0
  obtain ⟨k, h⟩ := P l0 hm0 y0 hw0
  refine(payrolllaw11_WorktimeSound.calls k _ _ l0 true w (Kd.C_of_reads (d:=(0:Int)) (h1:=fun _=>rfl) hr0) hc0 rfl h).mono ?_
  rintro e w' ⟨rfl, hd⟩
  exact ⟨rfl, hd⟩
end Go.Proofs.Ythdohkabcpdpdaa.P
