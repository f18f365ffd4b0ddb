import Derived.Test.YthdohkabcpdpdaaM0
import Derived.Test.YthdohkabcpdpdaaM1
import Derived.Test.YthdohkabcpdpdaaM3
import Derived.Test.YthdohkabcpdpdaaM5
import Derived.Test.YthdohkabcpdpdaaM6
import Derived.Test.YthdohkabcpdpdaaM13
namespace Go.Proofs.Ythdohkabcpdpdaa.M
open Go.RowKit Go.Proofs.YthdohkabcpdpdaaW.PrintWords Go.Proofs.YthdohkabcpdpdaaW.PrintLast Go.Proofs.YthdohkabcpdpdaaW.PrintMore
attribute [local go_sem] max2_int min2_int max_two min_two max_three min_three max_four min_four   -- for this text's walks alone
set_option linter.unusedVariables false
set_option linter.unusedSimpArgs false
attribute [local go_sem high] eqA41
def payrolllaw11_one.f (a0 : Int) (a1 : Int) : Option (Int × Int × (List (S48))) := some (0, 1, (([(⟨(⟨a0, a1⟩ : S41), ([] : List (S41))⟩ : S48)] : List (S48))))
set_option maxHeartbeats 8000000 in
set_option maxRecDepth 100000 in
theorem payrolllaw11_one.calls (a0 : Int) (a1 : Int) (r1 : Int) (r2 : Int) (r3 : List (S48)) (w : World) (h : payrolllaw11_one.f a0 a1 = some (r1, r2, r3)) :
    Calls Try.prog 21 #[.int .i64 a0, .int .i64 a1] w fun e w' => ∃ v2_ : Value, e = .returned (.agg #[.int .i64 r1, .int .i64 r2, v2_]) ∧ Kd.S k48 48 w' w.heap.size (fun _ => True) v2_ r3 ∧ Below w.heap.size w w' := by
  have hu39 := Try.underlying39
  have hu41 := Try.underlying41
  have hu48 := Try.underlying48
  have HB := Aside0.mk (Below.refl w.heap.size w)
  have H : (some (0, 1, (([(⟨(⟨a0, a1⟩ : S41), ([] : List (S41))⟩ : S48)] : List (S48))))) = some (r1, r2, r3) := h
  clear h
  obtain ⟨y102,hy102⟩:∃ y_:List (S48),y_ = (([(⟨(⟨a0,a1⟩:S41),([]:List (S41))⟩:S48)]:List (S48))):=⟨_,rfl⟩
  replace H:(some (0,1,y102)) = some (r1,r2,r3):=by first|(rw[hy102];with_reducible exact H)|(have H2_:=(Option.bind_some _ _).symm.trans H;rw[hy102];with_reducible exact H2_)|(have H2_:=(Option.bind_some _ _).symm.trans H;with_reducible exact H2_)|with_reducible exact H|(rw[hy102];exact H)|exact H
  have Ny102 := Aside0.mk hy102
  clear hy102
  simp only [Option.some.injEq, Prod.mk.injEq] at H
  obtain ⟨rfl, rfl, rfl⟩ := H
  go_enter Try.func21, Try.ntmps21
  go_wp2_with (first|((with_reducible refine gate_dst (N:=4) rfl ?_);refine box_event ?hg (N:=4) ?hd (cs:=#[.int .i64 0,.int .i64 0,.slice none 0 0]) (t:=39) ?hr ?_;(case hd=>rfl);(case hg=>rfl);(case hr=>first|(go_simp;done)|(go_simp;rfl));intro gb101 hg w3 hbox hb;have n0_:=Aside0.mk (below_step (by repeat (first|(with_reducible first|exact HB.out|apply below_alloc|apply pw_below_drewN|apply below_drew1)|exact HB.out)) hb);have n1_:=Aside0.mk (hbox);have n2_:=Aside0.mk ((by rw[hg];exact(below_size (by repeat (first|(with_reducible first|exact HB.out|apply below_alloc|apply pw_below_drewN|apply below_drew1)|exact HB.out))):w.heap.size≤gb101));have n3_:=Aside0.mk ((by rw[hg];exact(below_size (by repeat (first|(with_reducible first|exact HB.out|apply below_alloc|apply pw_below_drewN|apply below_drew1)|exact HB.out))):w.heap.size≤gb101));clear HB;have HB:=n0_;have BK101:=n1_;have GW101:=n2_;have GE101:=n3_;clear n0_ n1_ n2_ n3_;clear hb hbox hg)|((with_reducible refine gate_dst (N:=9) rfl ?_);refine Kd.S_lit k48 _ 48 ?hg (N:=9) ?hd (xs:=([(⟨(⟨a0,a1⟩:S41),([]:List (S41))⟩:S48)]:List (S48))) (inner:=[.int .i64 a0,.int .i64 a1,.slice none 0 0]) (ok:=fun _=>True) (okp:=fun _=>True) ?hr ?hp (fun _ hk=>hk) trivial (Below.refl _ _) (Nat.le_refl _) (by simp) ?_;(case hd=>rfl);(case hg=>rfl);(case hr=>first|(go_simp;done)|(go_simp;rfl));(case hp=>exact(Reps.c3 (show Kd.M k48 _ _ _ (⟨(⟨a0,a1⟩:S41),([]:List (S41))⟩:S48) [.int .i64 a0,.int .i64 a1,.slice none 0 0] from (k48_mkM _ _ _ (⟨(⟨a0,a1⟩:S41),([]:List (S41))⟩:S48) (Kd.R_nil _ _ _ _ _))) (Reps.none _ _)));intro v103 w4 ho5 hb hg_ hnew_;clear hg_ hnew_;(first|rw[← Ny102.out] at ho5|(simp only[Int.reduceToNat] at ho5;rw[← Ny102.out] at ho5));have n0_:=Aside0.mk (Kd.S_lower ho5 (below_size (by repeat (first|(with_reducible first|exact HB.out|apply below_alloc|apply pw_below_drewN|apply below_drew1|refine below_set ?_ GE101.out)|exact HB.out))));have n1_:=Aside0.mk (blk_below (g:=gb101) (o:=.cells #[.int .i64 0,.int .i64 0,.slice none 0 0] 39 (0,0)) (by (with_reducible repeat (first|refine blk_drewN ?_ _|refine blk_drew ?_|refine blk_alloc ?_ _));exact BK101.out) hb);have n2_:=Aside0.mk (below_step (by repeat (first|(with_reducible first|exact HB.out|apply below_alloc|apply pw_below_drewN|apply below_drew1|refine below_set ?_ GE101.out)|exact HB.out)) hb);clear BK101;clear HB;have HO104:=n0_;have BK101:=n1_;have HB:=n2_;clear n0_ n1_ n2_;clear hb ho5;obtain ⟨Ao6,co6,eo6⟩:=Kd.S_slice HO104.out;subst eo6;have hcz7_0:w4.cell? ⟨gb101,0,none⟩ = some (.int .i64 0):=(blk_cell BK101.out 0).trans rfl;have hcz7_1:w4.cell? ⟨gb101,1,none⟩ = some (.int .i64 0):=(blk_cell BK101.out 1).trans rfl;have hcz7_2:w4.cell? ⟨gb101,2,none⟩ = some (.slice none 0 0):=(blk_cell BK101.out 2).trans rfl;have hfz7_0:=blk_frozen BK101.out 0;have hfz7_1:=blk_frozen BK101.out 1;have hfz7_2:=blk_frozen BK101.out 2))
  refine bodyPost_ret (results_cell_row rfl _ _ gb101 39 #[.int .i64 0,.int .i64 1,.slice Ao6 y102.length co6] (0,0) _ rfl (by (with_reducible repeat (first|refine blk_drewN ?_ _|refine blk_drew ?_|refine blk_alloc ?_ _));refine blk_put (cs:=#[.int .i64 0,.int .i64 1,.slice none 0 0]) ?_ 2 _ rfl;(with_reducible repeat (first|refine blk_drewN ?_ _|refine blk_drew ?_|refine blk_alloc ?_ _));refine blk_put (cs:=#[.int .i64 0,.int .i64 0,.slice none 0 0]) ?_ 1 _ rfl;(with_reducible repeat (first|refine blk_drewN ?_ _|refine blk_drew ?_|refine blk_alloc ?_ _));refine blk_put (cs:=#[.int .i64 0,.int .i64 0,.slice none 0 0]) ?_ 0 _ rfl;(with_reducible repeat (first|refine blk_drewN ?_ _|refine blk_drew ?_|refine blk_alloc ?_ _));exact BK101.out) Try.underlying39 rfl (by kernel_rfl)) rfl ?_
  exact⟨_,by first|rfl|(simp[errW_none,errW_some] <;> rfl)|(simp[*,errW_none,errW_some] <;> rfl),by (with_reducible repeat (first|apply Kd.S_alloc|apply Kd.S_drewN|apply Kd.S_drew));exact Kd.S_mono (Kd.S_far (p:=⟨gb101,2,none⟩) (Kd.S_far (p:=⟨gb101,1,none⟩) (Kd.S_far (p:=⟨gb101,0,none⟩) (Kd.S_types HO104.out BK101.out (by decide)) (fun _ hk=>hk.2) (.int .i64 0)) (fun _ hk=>hk.2) (.int .i64 1)) (fun _ hk=>hk.2) (.slice Ao6 y102.length co6)) (fun _ hk=>trivial),by repeat (first|(with_reducible first|exact HB.out|apply below_alloc|apply pw_below_drewN|apply below_drew1|refine below_set ?_ GE101.out)|exact HB.out)⟩
def payrolllaw11_sane.f (k : Nat)  : Option (Bool) := (payrolllaw11_one.f 477 1023).bind fun bt101 => ((worktime_Adjust.f k 0 0 5 ([] : List (S60)) 480 1020 bt101.1 bt101.2.1 bt101.2.2).bind fun bt106 => ((payrolllaw11_one.f 0 480).bind fun bt115 => ((worktime_Adjust.f k 0 0 0 (([(⟨360, 30⟩ : S60)] : List (S60))) 0 0 bt115.1 bt115.2.1 bt115.2.2).bind fun bt120 => ((payrolllaw11_one.f 482 1018).bind fun bt126 => ((worktime_Adjust.f k 15 1 0 ([] : List (S60)) 0 0 bt126.1 bt126.2.1 bt126.2.2).bind fun bt131 => (if bt106.2.2 = 0 then (if (bt106.2.1.length : Int) = 1 then (if 0 < (bt106.2.1.length : Int) then (if (((rd_T41 bt106.2.1 0).f0) == 480 && (((rd_T41 bt106.2.1 0).f1) == 1020)) = true then (if bt120.2.2 = 0 then ((worktime_Minutes.f k bt120.2.1).bind fun t138 => (if t138 = 450 then (if (bt120.2.1.length : Int) = 2 then (if 0 < (bt120.2.1.length : Int) then (if ((rd_T41 bt120.2.1 0).f1) = 360 then (if bt131.2.2 = 0 then (if (bt131.2.1.length : Int) = 1 then (if 0 < (bt131.2.1.length : Int) then (if (((rd_T41 bt131.2.1 0).f0) == 495 && (((rd_T41 bt131.2.1 0).f1) == 1005)) = true then (some (bt106.1 == 1)) else (some false)) else (none)) else (some false)) else (some false)) else (some false)) else (none)) else (some false)) else (some false))) else (some false)) else (some false)) else (none)) else (some false)) else (some false)))))))
theorem payrolllaw11_sane.mono : ∀ k, LeO (payrolllaw11_sane.f k ) (payrolllaw11_sane.f (k + 1) ) := by
  intro  k
  unfold payrolllaw11_sane.f
  repeat' first
      | (with_reducible exact worktime_Adjust.mono _ _ _ _ _ _ _ _ _ _)
      | (with_reducible exact worktime_Minutes.mono _ _)
      | (with_reducible exact LeO.refl _)
      | (with_reducible exact LeO.none _)
      | (with_reducible refine LeO.ite ?_ ?_)
      | (with_reducible refine LeO.bind ?_ (fun _ => ?_))
      | exact worktime_Adjust.mono _ _ _ _ _ _ _ _ _ _
      | exact worktime_Minutes.mono _ _
      | exact LeO.none _
      | refine LeO.ite ?_ ?_
      | refine LeO.bind ?_ (fun _ => ?_)
set_option maxHeartbeats 8000000 in
set_option maxRecDepth 100000 in
theorem payrolllaw11_sane.calls (k : Nat)  (r : Bool) (w : World) (hrt : r = true) (h : payrolllaw11_sane.f k  = some r) :
    Calls Try.prog 11 #[] w fun e w' => e = .returned (.bool r) ∧ Below w.heap.size w w' := by
  have HRT := Aside0.mk hrt
  clear hrt
  have hu35 := Try.underlying35
  have hu41 := Try.underlying41
  have hu30 := Try.underlying30
  have hu60 := Try.underlying60
  have HB := Aside0.mk (Below.refl w.heap.size w)
  have H:((payrolllaw11_one.f 477 1023).bind fun bt101=>((worktime_Adjust.f k 0 0 5 ([]:List (S60)) 480 1020 bt101.1 bt101.2.1 bt101.2.2).bind fun bt106=>((payrolllaw11_one.f 0 480).bind fun bt115=>((worktime_Adjust.f k 0 0 0 (([(⟨360,30⟩:S60)]:List (S60))) 0 0 bt115.1 bt115.2.1 bt115.2.2).bind fun bt120=>((payrolllaw11_one.f 482 1018).bind fun bt126=>((worktime_Adjust.f k 15 1 0 ([]:List (S60)) 0 0 bt126.1 bt126.2.1 bt126.2.2).bind fun bt131=>(if bt106.2.2 = 0 then (if (bt106.2.1.length:Int) = 1 then (if 0 < (bt106.2.1.length:Int) then (if (((rd_T41 bt106.2.1 0).f0) == 480 && (((rd_T41 bt106.2.1 0).f1) == 1020)) = true then (if bt120.2.2 = 0 then ((worktime_Minutes.f k bt120.2.1).bind fun t138=>(if t138 = 450 then (if (bt120.2.1.length:Int) = 2 then (if 0 < (bt120.2.1.length:Int) then (if ((rd_T41 bt120.2.1 0).f1) = 360 then (if bt131.2.2 = 0 then (if (bt131.2.1.length:Int) = 1 then (if 0 < (bt131.2.1.length:Int) then (if (((rd_T41 bt131.2.1 0).f0) == 495 && (((rd_T41 bt131.2.1 0).f1) == 1005)) = true then (some (bt106.1 == 1)) else (some false)) else (none)) else (some false)) else (some false)) else (some false)) else (none)) else (some false)) else (some false))) else (some false)) else (some false)) else (none)) else (some false)) else (some false)))))))) = some r:=h
  clear h
  replace H := Option.bind_eq_some_iff.mp H
  obtain ⟨⟨t101, t102, t103⟩, A10, H⟩ := H
  replace H:((worktime_Adjust.f k 0 0 5 ([]:List (S60)) 480 1020 t101 t102 t103).bind fun bt106=>((payrolllaw11_one.f 0 480).bind fun bt115=>((worktime_Adjust.f k 0 0 0 (([(⟨360,30⟩:S60)]:List (S60))) 0 0 bt115.1 bt115.2.1 bt115.2.2).bind fun bt120=>((payrolllaw11_one.f 482 1018).bind fun bt126=>((worktime_Adjust.f k 15 1 0 ([]:List (S60)) 0 0 bt126.1 bt126.2.1 bt126.2.2).bind fun bt131=>(if bt106.2.2 = 0 then (if (bt106.2.1.length:Int) = 1 then (if 0 < (bt106.2.1.length:Int) then (if (((rd_T41 bt106.2.1 0).f0) == 480 && (((rd_T41 bt106.2.1 0).f1) == 1020)) = true then (if bt120.2.2 = 0 then ((worktime_Minutes.f k bt120.2.1).bind fun t138=>(if t138 = 450 then (if (bt120.2.1.length:Int) = 2 then (if 0 < (bt120.2.1.length:Int) then (if ((rd_T41 bt120.2.1 0).f1) = 360 then (if bt131.2.2 = 0 then (if (bt131.2.1.length:Int) = 1 then (if 0 < (bt131.2.1.length:Int) then (if (((rd_T41 bt131.2.1 0).f0) == 495 && (((rd_T41 bt131.2.1 0).f1) == 1005)) = true then (some (bt106.1 == 1)) else (some false)) else (none)) else (some false)) else (some false)) else (some false)) else (none)) else (some false)) else (some false))) else (some false)) else (some false)) else (none)) else (some false)) else (some false))))))) = some r:=H
  have A1 := Aside0.mk A10
  clear A10
  replace H := Option.bind_eq_some_iff.mp H
  obtain ⟨⟨t106, t107, t110⟩, A20, H⟩ := H
  replace H:((payrolllaw11_one.f 0 480).bind fun bt115=>((worktime_Adjust.f k 0 0 0 (([(⟨360,30⟩:S60)]:List (S60))) 0 0 bt115.1 bt115.2.1 bt115.2.2).bind fun bt120=>((payrolllaw11_one.f 482 1018).bind fun bt126=>((worktime_Adjust.f k 15 1 0 ([]:List (S60)) 0 0 bt126.1 bt126.2.1 bt126.2.2).bind fun bt131=>(if t110 = 0 then (if (t107.length:Int) = 1 then (if 0 < (t107.length:Int) then (if (((rd_T41 t107 0).f0) == 480 && (((rd_T41 t107 0).f1) == 1020)) = true then (if bt120.2.2 = 0 then ((worktime_Minutes.f k bt120.2.1).bind fun t138=>(if t138 = 450 then (if (bt120.2.1.length:Int) = 2 then (if 0 < (bt120.2.1.length:Int) then (if ((rd_T41 bt120.2.1 0).f1) = 360 then (if bt131.2.2 = 0 then (if (bt131.2.1.length:Int) = 1 then (if 0 < (bt131.2.1.length:Int) then (if (((rd_T41 bt131.2.1 0).f0) == 495 && (((rd_T41 bt131.2.1 0).f1) == 1005)) = true then (some (t106 == 1)) else (some false)) else (none)) else (some false)) else (some false)) else (some false)) else (none)) else (some false)) else (some false))) else (some false)) else (some false)) else (none)) else (some false)) else (some false)))))) = some r:=H
  have A2 := Aside0.mk A20
  clear A20
  obtain ⟨y112, hy112⟩ : ∃ y_ : List (S60), y_ = (([(⟨360, 30⟩ : S60)] : List (S60))) := ⟨_, rfl⟩
  replace H:((payrolllaw11_one.f 0 480).bind fun bt115=>((worktime_Adjust.f k 0 0 0 y112 0 0 bt115.1 bt115.2.1 bt115.2.2).bind fun bt120=>((payrolllaw11_one.f 482 1018).bind fun bt126=>((worktime_Adjust.f k 15 1 0 ([]:List (S60)) 0 0 bt126.1 bt126.2.1 bt126.2.2).bind fun bt131=>(if t110 = 0 then (if (t107.length:Int) = 1 then (if 0 < (t107.length:Int) then (if (((rd_T41 t107 0).f0) == 480 && (((rd_T41 t107 0).f1) == 1020)) = true then (if bt120.2.2 = 0 then ((worktime_Minutes.f k bt120.2.1).bind fun t138=>(if t138 = 450 then (if (bt120.2.1.length:Int) = 2 then (if 0 < (bt120.2.1.length:Int) then (if ((rd_T41 bt120.2.1 0).f1) = 360 then (if bt131.2.2 = 0 then (if (bt131.2.1.length:Int) = 1 then (if 0 < (bt131.2.1.length:Int) then (if (((rd_T41 bt131.2.1 0).f0) == 495 && (((rd_T41 bt131.2.1 0).f1) == 1005)) = true then (some (t106 == 1)) else (some false)) else (none)) else (some false)) else (some false)) else (some false)) else (none)) else (some false)) else (some false))) else (some false)) else (some false)) else (none)) else (some false)) else (some false)))))) = some r:=by first|(rw[hy112];with_reducible exact H)|(have H2_:=(Option.bind_some _ _).symm.trans H;rw[hy112];with_reducible exact H2_)|(have H2_:=(Option.bind_some _ _).symm.trans H;with_reducible exact H2_)|with_reducible exact H|(rw[hy112];exact H)|exact H
  have Ny112 := Aside0.mk hy112
  clear hy112
  replace H := Option.bind_eq_some_iff.mp H
  obtain ⟨⟨t115, t116, t117⟩, A30, H⟩ := H
  replace H:((worktime_Adjust.f k 0 0 0 y112 0 0 t115 t116 t117).bind fun bt120=>((payrolllaw11_one.f 482 1018).bind fun bt126=>((worktime_Adjust.f k 15 1 0 ([]:List (S60)) 0 0 bt126.1 bt126.2.1 bt126.2.2).bind fun bt131=>(if t110 = 0 then (if (t107.length:Int) = 1 then (if 0 < (t107.length:Int) then (if (((rd_T41 t107 0).f0) == 480 && (((rd_T41 t107 0).f1) == 1020)) = true then (if bt120.2.2 = 0 then ((worktime_Minutes.f k bt120.2.1).bind fun t138=>(if t138 = 450 then (if (bt120.2.1.length:Int) = 2 then (if 0 < (bt120.2.1.length:Int) then (if ((rd_T41 bt120.2.1 0).f1) = 360 then (if bt131.2.2 = 0 then (if (bt131.2.1.length:Int) = 1 then (if 0 < (bt131.2.1.length:Int) then (if (((rd_T41 bt131.2.1 0).f0) == 495 && (((rd_T41 bt131.2.1 0).f1) == 1005)) = true then (some (t106 == 1)) else (some false)) else (none)) else (some false)) else (some false)) else (some false)) else (none)) else (some false)) else (some false))) else (some false)) else (some false)) else (none)) else (some false)) else (some false))))) = some r:=H
  have A3 := Aside0.mk A30
  clear A30
  replace H := Option.bind_eq_some_iff.mp H
  obtain ⟨⟨t120, t121, t124⟩, A40, H⟩ := H
  replace H:((payrolllaw11_one.f 482 1018).bind fun bt126=>((worktime_Adjust.f k 15 1 0 ([]:List (S60)) 0 0 bt126.1 bt126.2.1 bt126.2.2).bind fun bt131=>(if t110 = 0 then (if (t107.length:Int) = 1 then (if 0 < (t107.length:Int) then (if (((rd_T41 t107 0).f0) == 480 && (((rd_T41 t107 0).f1) == 1020)) = true then (if t124 = 0 then ((worktime_Minutes.f k t121).bind fun t138=>(if t138 = 450 then (if (t121.length:Int) = 2 then (if 0 < (t121.length:Int) then (if ((rd_T41 t121 0).f1) = 360 then (if bt131.2.2 = 0 then (if (bt131.2.1.length:Int) = 1 then (if 0 < (bt131.2.1.length:Int) then (if (((rd_T41 bt131.2.1 0).f0) == 495 && (((rd_T41 bt131.2.1 0).f1) == 1005)) = true then (some (t106 == 1)) else (some false)) else (none)) else (some false)) else (some false)) else (some false)) else (none)) else (some false)) else (some false))) else (some false)) else (some false)) else (none)) else (some false)) else (some false)))) = some r:=H
  have A4 := Aside0.mk A40
  clear A40
  replace H := Option.bind_eq_some_iff.mp H
  obtain ⟨⟨t126, t127, t128⟩, A50, H⟩ := H
  replace H:((worktime_Adjust.f k 15 1 0 ([]:List (S60)) 0 0 t126 t127 t128).bind fun bt131=>(if t110 = 0 then (if (t107.length:Int) = 1 then (if 0 < (t107.length:Int) then (if (((rd_T41 t107 0).f0) == 480 && (((rd_T41 t107 0).f1) == 1020)) = true then (if t124 = 0 then ((worktime_Minutes.f k t121).bind fun t138=>(if t138 = 450 then (if (t121.length:Int) = 2 then (if 0 < (t121.length:Int) then (if ((rd_T41 t121 0).f1) = 360 then (if bt131.2.2 = 0 then (if (bt131.2.1.length:Int) = 1 then (if 0 < (bt131.2.1.length:Int) then (if (((rd_T41 bt131.2.1 0).f0) == 495 && (((rd_T41 bt131.2.1 0).f1) == 1005)) = true then (some (t106 == 1)) else (some false)) else (none)) else (some false)) else (some false)) else (some false)) else (none)) else (some false)) else (some false))) else (some false)) else (some false)) else (none)) else (some false)) else (some false))) = some r:=H
  have A5 := Aside0.mk A50
  clear A50
  replace H := Option.bind_eq_some_iff.mp H
  obtain ⟨⟨t131, t132, t135⟩, A60, H⟩ := H
  replace H:(if t110 = 0 then (if (t107.length:Int) = 1 then (if 0 < (t107.length:Int) then (if (((rd_T41 t107 0).f0) == 480 && (((rd_T41 t107 0).f1) == 1020)) = true then (if t124 = 0 then ((worktime_Minutes.f k t121).bind fun t138=>(if t138 = 450 then (if (t121.length:Int) = 2 then (if 0 < (t121.length:Int) then (if ((rd_T41 t121 0).f1) = 360 then (if t135 = 0 then (if (t132.length:Int) = 1 then (if 0 < (t132.length:Int) then (if (((rd_T41 t132 0).f0) == 495 && (((rd_T41 t132 0).f1) == 1005)) = true then (some (t106 == 1)) else (some false)) else (none)) else (some false)) else (some false)) else (some false)) else (none)) else (some false)) else (some false))) else (some false)) else (some false)) else (none)) else (some false)) else (some false)) = some r:=H
  have A6 := Aside0.mk A60
  clear A60
  by_cases c7 : t110 = 0
  · rw [if_pos c7] at H
    have c7b0 : (t110 == 0) = true := beq_iff_eq.mpr c7
    have c7b1 : (t110 != 0) = false := bne_eq_false_iff_eq.mpr c7
    clear c7
    by_cases c8 : (t107.length : Int) = 1
    · rw [if_pos c8] at H
      have c8b0 : ((t107.length : Int) == 1) = true := beq_iff_eq.mpr c8
      have c8b1 : ((t107.length : Int) != 1) = false := bne_eq_false_iff_eq.mpr c8
      clear c8
      by_cases c9 : 0 < (t107.length : Int)
      · rw [if_pos c9] at H
        have c9b0 : decide (0 < (t107.length : Int)) = true := decide_eq_true c9
        have c9b1 : decide (0 < t107.length) = true := decide_eq_true (by omega)
        clear c9
        by_cases c10 : (((rd_T41 t107 0).f0) == 480 && (((rd_T41 t107 0).f1) == 1020)) = true
        · rw [if_pos c10] at H
          have c10b0 : (((rd_T41 t107 0).f0) == 480 && (((rd_T41 t107 0).f1) == 1020)) = true := c10
          (try (have c10b1:decide (((rd_T41 t107 0).f0) = 480 && (((rd_T41 t107 0).f1) == 1020)) = true:=by simpa using c10))
          (try (have c10b2:(((rd_T41 t107 0).f0) == 480 && (((rd_T41 t107 0).f1) == 1020)) = true:=by simpa using c10))
          clear c10
          by_cases c11 : t124 = 0
          · rw [if_pos c11] at H
            have c11b0 : (t124 == 0) = true := beq_iff_eq.mpr c11
            have c11b1 : (t124 != 0) = false := bne_eq_false_iff_eq.mpr c11
            clear c11
            replace H := Option.bind_eq_some_iff.mp H
            obtain ⟨t138, A120, H⟩ := H
            replace H:(if t138 = 450 then (if (t121.length:Int) = 2 then (if 0 < (t121.length:Int) then (if ((rd_T41 t121 0).f1) = 360 then (if t135 = 0 then (if (t132.length:Int) = 1 then (if 0 < (t132.length:Int) then (if (((rd_T41 t132 0).f0) == 495 && (((rd_T41 t132 0).f1) == 1005)) = true then (some (t106 == 1)) else (some false)) else (none)) else (some false)) else (some false)) else (some false)) else (none)) else (some false)) else (some false)) = some r:=H
            have A12 := Aside0.mk A120
            clear A120
            by_cases c13 : t138 = 450
            · rw [if_pos c13] at H
              have c13b0 : (t138 == 450) = true := beq_iff_eq.mpr c13
              have c13b1 : (t138 != 450) = false := bne_eq_false_iff_eq.mpr c13
              clear c13
              by_cases c14 : (t121.length : Int) = 2
              · rw [if_pos c14] at H
                have c14b0 : ((t121.length : Int) == 2) = true := beq_iff_eq.mpr c14
                have c14b1 : ((t121.length : Int) != 2) = false := bne_eq_false_iff_eq.mpr c14
                clear c14
                by_cases c15 : 0 < (t121.length : Int)
                · rw [if_pos c15] at H
                  have c15b0 : decide (0 < (t121.length : Int)) = true := decide_eq_true c15
                  have c15b1 : decide (0 < t121.length) = true := decide_eq_true (by omega)
                  clear c15
                  by_cases c16 : ((rd_T41 t121 0).f1) = 360
                  · rw [if_pos c16] at H
                    have c16b0 : (((rd_T41 t121 0).f1) == 360) = true := beq_iff_eq.mpr c16
                    have c16b1 : (((rd_T41 t121 0).f1) != 360) = false := bne_eq_false_iff_eq.mpr c16
                    clear c16
                    by_cases c17 : t135 = 0
                    · rw [if_pos c17] at H
                      have c17b0 : (t135 == 0) = true := beq_iff_eq.mpr c17
                      have c17b1 : (t135 != 0) = false := bne_eq_false_iff_eq.mpr c17
                      clear c17
                      by_cases c18 : (t132.length : Int) = 1
                      · rw [if_pos c18] at H
                        have c18b0 : ((t132.length : Int) == 1) = true := beq_iff_eq.mpr c18
                        have c18b1 : ((t132.length : Int) != 1) = false := bne_eq_false_iff_eq.mpr c18
                        clear c18
                        by_cases c19 : 0 < (t132.length : Int)
                        · rw [if_pos c19] at H
                          have c19b0 : decide (0 < (t132.length : Int)) = true := decide_eq_true c19
                          have c19b1 : decide (0 < t132.length) = true := decide_eq_true (by omega)
                          clear c19
                          by_cases c20 : (((rd_T41 t132 0).f0) == 495 && (((rd_T41 t132 0).f1) == 1005)) = true
                          · rw [if_pos c20] at H
                            have c20b0 : (((rd_T41 t132 0).f0) == 495 && (((rd_T41 t132 0).f1) == 1005)) = true := c20
                            (try (have c20b1:decide (((rd_T41 t132 0).f0) = 495 && (((rd_T41 t132 0).f1) == 1005)) = true:=by simpa using c20))
                            (try (have c20b2:(((rd_T41 t132 0).f0) == 495 && (((rd_T41 t132 0).f1) == 1005)) = true:=by simpa using c20))
                            clear c20
                            obtain rfl := Option.some.inj H
                            go_enter Try.func11, Try.ntmps11
                            go_wp2_with (first|((with_reducible refine gate_callee (f:=21) rfl ?_);refine goesL_ (some 10) rfl rfl Try.func21 (by kernel_rfl) rfl #[.int .i64 477,.int .i64 1023] rfl (by (try simp only[List.map_toArray,List.map_cons,List.map_nil]);first|done|rfl|(simp only[List.length_drop,List.length_take];rfl)) ?_;(with_reducible refine(payrolllaw11_one.calls 477 1023 t101 t102 t103 _ A1.out).mono ?_);rintro e w21 ⟨v104,rfl,ho0,hb⟩;refine⟨_,rfl,?_⟩;have n0_:=Aside0.mk (Kd.S_lower ho0 (below_size (by repeat (first|(with_reducible first|exact HB.out|apply below_alloc|apply pw_below_drewN|apply below_drew1)|exact HB.out))));have n1_:=Aside0.mk (below_step (by repeat (first|(with_reducible first|exact HB.out|apply below_alloc|apply pw_below_drewN|apply below_drew1)|exact HB.out)) hb);clear HB;have HO105:=n0_;have HB:=n1_;clear n0_ n1_;(try clear hb);(try clear hb2);(try clear hk);(try clear hi);(try clear ho0);obtain ⟨Ao22,co22,eo22⟩:=Kd.S_slice HO105.out;subst eo22)|((with_reducible refine gate_callee (f:=14) rfl ?_);refine goesL_ (some 11) rfl rfl Try.func14 (by kernel_rfl) rfl #[.agg #[.int .i64 0,.int .i64 0,.int .i64 5,.slice none 0 0],.agg #[.int .i64 480,.int .i64 1020],.agg #[.int .i64 t101,.int .i64 t102,.slice Ao22 t103.length co22]] rfl (by (try simp only[List.map_toArray,List.map_cons,List.map_nil]);first|done|rfl|(simp only[List.length_drop,List.length_take];rfl)) ?_;(refine(worktime_Adjust.calls k 0 0 5 _ _ ([]:List (S60)) 480 1020 t101 t102 _ _ t103 t106 t107 t110 _ ?side1 ?side2 ?side3 ?side4 A2.out).mono ?_);(case side1=>exact Kd.C_nil _ _);(case side2=>exact Nat.le_refl _);(case side3=>repeat (first|exact(Kd.S_reads' HO105.out).2.2|(with_reducible refine Kd.C_alloc ?_ _)|(with_reducible refine Kd.C_drewN ?_ _)|(with_reducible refine Kd.C_drew ?_)));(case side4=>exact(Kd.S_reads' HO105.out).2.1);rintro e w23 ⟨v108,rfl,ho0,hb⟩;refine⟨_,rfl,?_⟩;have n0_:=Aside0.mk (Kd.S_elder' (by (with_reducible repeat (first|apply Kd.S_alloc|apply Kd.S_drewN|apply Kd.S_drew));exact HO105.out) (Kd.R_base ho0) hb);have n1_:=Aside0.mk (Kd.R_lower ho0 (below_size (by repeat (first|(with_reducible first|exact HB.out|apply below_alloc|apply pw_below_drewN|apply below_drew1)|exact HB.out))));have n2_:=Aside0.mk (below_step (by repeat (first|(with_reducible first|exact HB.out|apply below_alloc|apply pw_below_drewN|apply below_drew1)|exact HB.out)) hb);clear HO105;clear HB;have HO105:=n0_;have HO109:=n1_;have HB:=n2_;clear n0_ n1_ n2_;(try clear hb);(try clear hb2);(try clear hk);(try clear hi);(try clear ho0))|((with_reducible refine gate_dst (N:=1) rfl ?_);(try (refine gate_guard (by rfl) ?_;dsimp only));refine box_event ?hg (N:=1) ?hd (cs:=#[.int .i64 0,.slice none 0 0]) (t:=30) ?hr ?_;(case hd=>rfl);(case hg=>rfl);(case hr=>first|(go_simp;done)|(go_simp;rfl));intro gb111 hg w24 hbox hb;have n0_:=Aside0.mk (Kd.S_below (by (with_reducible repeat (first|apply Kd.S_alloc|apply Kd.S_drewN|apply Kd.S_drew));exact HO105.out) hb);have n1_:=Aside0.mk (Kd.R_below (by (with_reducible repeat (first|apply Kd.R_alloc|apply Kd.R_drewN|apply Kd.R_drew));exact HO109.out) hb);have n2_:=Aside0.mk (below_step (by repeat (first|(with_reducible first|exact HB.out|apply below_alloc|apply pw_below_drewN|apply below_drew1)|exact HB.out)) hb);have n3_:=Aside0.mk (hbox);have n4_:=Aside0.mk ((by rw[hg];exact(below_size (by repeat (first|(with_reducible first|exact HB.out|apply below_alloc|apply pw_below_drewN|apply below_drew1)|exact HB.out))):w.heap.size≤gb111));have n5_:=Aside0.mk ((by rw[hg];exact(below_size (by repeat (first|(with_reducible first|exact HB.out|apply below_alloc|apply pw_below_drewN|apply below_drew1)|exact HB.out))):w.heap.size≤gb111));clear HO105;clear HO109;clear HB;have HO105:=n0_;have HO109:=n1_;have HB:=n2_;have BK111:=n3_;have GW111:=n4_;have GE111:=n5_;clear n0_ n1_ n2_ n3_ n4_ n5_;clear hb hbox hg;have hcz25_0:w24.cell? ⟨gb111,0,none⟩ = some (.int .i64 0):=(blk_cell BK111.out 0).trans rfl;have hcz25_1:w24.cell? ⟨gb111,1,none⟩ = some (.slice none 0 0):=(blk_cell BK111.out 1).trans rfl;have hfz25_0:=blk_frozen BK111.out 0;have hfz25_1:=blk_frozen BK111.out 1;obtain ⟨Ao26,co26,eo26⟩:=Kd.R_slice HO109.out;subst eo26)|((with_reducible refine gate_dst (N:=16) rfl ?_);(try (refine gate_guard (by rfl) ?_;dsimp only));refine Kd.R_lit k60 _ 60 ?hg (N:=16) ?hd (xs:=([(⟨360,30⟩:S60)]:List (S60))) (inner:=[.int .i64 360,.int .i64 30]) (ok:=fun _=>True) (okp:=fun _=>True) ?hr ?hp (fun _ hk=>hk) trivial (Below.refl _ _) (Nat.le_refl _) (by simp) ?_;(case hd=>rfl);(case hg=>rfl);(case hr=>first|(go_simp;done)|(go_simp;rfl));(case hp=>exact(Reps.c2 (show Kd.M k60 _ _ _ (⟨360,30⟩:S60) [.int .i64 360,.int .i64 30] from (k60_mkM _ _ _ (⟨360,30⟩:S60) )) (Reps.none _ _)));intro v113 w27 ho28 hb hg_ hnew_;clear hg_ hnew_;(first|rw[← Ny112.out] at ho28|(simp only[Int.reduceToNat] at ho28;rw[← Ny112.out] at ho28));have n0_:=Aside0.mk (Kd.S_below (by (with_reducible repeat (first|apply Kd.S_alloc|apply Kd.S_drewN|apply Kd.S_drew));exact(Kd.S_mono (Kd.S_far (p:=⟨gb111,1,none⟩) (Kd.S_far (p:=⟨gb111,0,none⟩) (Kd.S_types HO105.out BK111.out (by decide)) (fun _ hk=>hk.2) (.int .i64 t106)) (fun _ hk=>hk.2) (.slice Ao26 t107.length co26)) (fun _ h_=>h_.1))) hb);have n1_:=Aside0.mk (Kd.R_below (by (with_reducible repeat (first|apply Kd.R_alloc|apply Kd.R_drewN|apply Kd.R_drew));exact(Kd.R_mono (Kd.R_far (p:=⟨gb111,1,none⟩) (Kd.R_far (p:=⟨gb111,0,none⟩) (Kd.R_types HO109.out BK111.out (by decide)) (fun _ hk=>hk.2) (.int .i64 t106)) (fun _ hk=>hk.2) (.slice Ao26 t107.length co26)) (fun _ h_=>h_.1))) hb);have n2_:=Aside0.mk (Kd.R_lower ho28 (below_size (by repeat (first|(with_reducible first|exact HB.out|apply below_alloc|apply pw_below_drewN|apply below_drew1|refine below_set ?_ GE111.out)|exact HB.out))));have n3_:=Aside0.mk (blk_below (g:=gb111) (o:=.cells #[.int .i64 t106,.slice Ao26 t107.length co26] 30 (0,0)) (by (with_reducible repeat (first|refine blk_drewN ?_ _|refine blk_drew ?_|refine blk_alloc ?_ _));refine blk_put (cs:=#[.int .i64 t106,.slice none 0 0]) ?_ 1 _ rfl;(with_reducible repeat (first|refine blk_drewN ?_ _|refine blk_drew ?_|refine blk_alloc ?_ _));refine blk_put (cs:=#[.int .i64 0,.slice none 0 0]) ?_ 0 _ rfl;(with_reducible repeat (first|refine blk_drewN ?_ _|refine blk_drew ?_|refine blk_alloc ?_ _));exact BK111.out) hb);have n4_:=Aside0.mk (below_step (by repeat (first|(with_reducible first|exact HB.out|apply below_alloc|apply pw_below_drewN|apply below_drew1|refine below_set ?_ GE111.out)|exact HB.out)) hb);clear HO105;clear HO109;clear BK111;clear HB;have HO105:=n0_;have HO109:=n1_;have HO114:=n2_;have BK111:=n3_;have HB:=n4_;clear n0_ n1_ n2_ n3_ n4_;clear hb ho28;obtain ⟨Ao29,co29,eo29⟩:=Kd.R_slice HO114.out;subst eo29)|((with_reducible refine gate_callee (f:=21) rfl ?_);refine goesL_ (some 19) rfl rfl Try.func21 (by kernel_rfl) rfl #[.int .i64 0,.int .i64 480] rfl (by (try simp only[List.map_toArray,List.map_cons,List.map_nil]);first|done|rfl|(simp only[List.length_drop,List.length_take];rfl)) ?_;(with_reducible refine(payrolllaw11_one.calls 0 480 t115 t116 t117 _ A3.out).mono ?_);rintro e w30 ⟨v118,rfl,ho0,hb⟩;refine⟨_,rfl,?_⟩;have n0_:=Aside0.mk (Kd.S_elder' (by (with_reducible repeat (first|apply Kd.S_alloc|apply Kd.S_drewN|apply Kd.S_drew));exact HO105.out) (Kd.S_base ho0) hb);have n1_:=Aside0.mk (Kd.R_below (by (with_reducible repeat (first|apply Kd.R_alloc|apply Kd.R_drewN|apply Kd.R_drew));exact HO109.out) hb);have n2_:=Aside0.mk (Kd.R_below (by (with_reducible repeat (first|apply Kd.R_alloc|apply Kd.R_drewN|apply Kd.R_drew));exact HO114.out) hb);have n3_:=Aside0.mk (Kd.S_lower (Kd.S_new' (Kd.S_new' ho0 (Kd.S_lt (by (with_reducible repeat (first|apply Kd.S_alloc|apply Kd.S_drewN|apply Kd.S_drew));exact HO105.out))) (Kd.R_lt (by (with_reducible repeat (first|apply Kd.R_alloc|apply Kd.R_drewN|apply Kd.R_drew));exact HO109.out))) (below_size (by repeat (first|(with_reducible first|exact HB.out|apply below_alloc|apply pw_below_drewN|apply below_drew1|refine below_set ?_ GE111.out)|exact HB.out))));have n4_:=Aside0.mk (blk_below (g:=gb111) (o:=.cells #[.int .i64 t106,.slice Ao26 t107.length co26] 30 (0,0)) (by (with_reducible repeat (first|refine blk_drewN ?_ _|refine blk_drew ?_|refine blk_alloc ?_ _));exact BK111.out) hb);have n5_:=Aside0.mk (below_step (by repeat (first|(with_reducible first|exact HB.out|apply below_alloc|apply pw_below_drewN|apply below_drew1|refine below_set ?_ GE111.out)|exact HB.out)) hb);clear HO105;clear HO109;clear HO114;clear BK111;clear HB;have HO105:=n0_;have HO109:=n1_;have HO114:=n2_;have HO119:=n3_;have BK111:=n4_;have HB:=n5_;clear n0_ n1_ n2_ n3_ n4_ n5_;(try clear hb);(try clear hb2);(try clear hk);(try clear hi);(try clear ho0);obtain ⟨Ao31,co31,eo31⟩:=Kd.S_slice HO119.out;subst eo31)|((with_reducible refine gate_callee (f:=14) rfl ?_);refine goesL_ (some 20) rfl rfl Try.func14 (by kernel_rfl) rfl #[.agg #[.int .i64 0,.int .i64 0,.int .i64 0,.slice Ao29 y112.length co29],.agg #[.int .i64 0,.int .i64 0],.agg #[.int .i64 t115,.int .i64 t116,.slice Ao31 t117.length co31]] rfl (by (try simp only[List.map_toArray,List.map_cons,List.map_nil]);first|done|rfl|(simp only[List.length_drop,List.length_take];rfl)) ?_;(with_reducible refine(worktime_Adjust.calls k 0 0 0 _ _ y112 0 0 t115 t116 _ _ t117 t120 t121 t124 _ ?side1 ?side2 ?side3 ?side4 A4.out).mono ?_);(case side1=>repeat (first|exact(Kd.R_reads' HO114.out).2.2|(with_reducible refine Kd.C_alloc ?_ _)|(with_reducible refine Kd.C_drewN ?_ _)|(with_reducible refine Kd.C_drew ?_)));(case side2=>exact(Kd.R_reads' HO114.out).2.1);(case side3=>repeat (first|exact(Kd.S_reads' HO119.out).2.2|(with_reducible refine Kd.C_alloc ?_ _)|(with_reducible refine Kd.C_drewN ?_ _)|(with_reducible refine Kd.C_drew ?_)));(case side4=>exact(Kd.S_reads' HO119.out).2.1);rintro e w32 ⟨v122,rfl,ho0,hb⟩;refine⟨_,rfl,?_⟩;have n0_:=Aside0.mk (Kd.S_elder' (by (with_reducible repeat (first|apply Kd.S_alloc|apply Kd.S_drewN|apply Kd.S_drew));exact HO105.out) (Kd.R_base ho0) hb);have n1_:=Aside0.mk (Kd.R_elder' (by (with_reducible repeat (first|apply Kd.R_alloc|apply Kd.R_drewN|apply Kd.R_drew));exact HO109.out) (Kd.R_base ho0) hb);have n2_:=Aside0.mk (Kd.R_below (by (with_reducible repeat (first|apply Kd.R_alloc|apply Kd.R_drewN|apply Kd.R_drew));exact HO114.out) hb);have n3_:=Aside0.mk (Kd.S_elder' (by (with_reducible repeat (first|apply Kd.S_alloc|apply Kd.S_drewN|apply Kd.S_drew));exact HO119.out) (Kd.R_base ho0) hb);have n4_:=Aside0.mk (Kd.R_lower (Kd.R_new' ho0 (Kd.R_lt (by (with_reducible repeat (first|apply Kd.R_alloc|apply Kd.R_drewN|apply Kd.R_drew));exact HO109.out))) (below_size (by repeat (first|(with_reducible first|exact HB.out|apply below_alloc|apply pw_below_drewN|apply below_drew1|refine below_set ?_ GE111.out)|exact HB.out))));have n5_:=Aside0.mk (blk_below (g:=gb111) (o:=.cells #[.int .i64 t106,.slice Ao26 t107.length co26] 30 (0,0)) (by (with_reducible repeat (first|refine blk_drewN ?_ _|refine blk_drew ?_|refine blk_alloc ?_ _));exact BK111.out) hb);have n6_:=Aside0.mk (below_step (by repeat (first|(with_reducible first|exact HB.out|apply below_alloc|apply pw_below_drewN|apply below_drew1|refine below_set ?_ GE111.out)|exact HB.out)) hb);clear HO105;clear HO109;clear HO114;clear HO119;clear BK111;clear HB;have HO105:=n0_;have HO109:=n1_;have HO114:=n2_;have HO119:=n3_;have HO123:=n4_;have BK111:=n5_;have HB:=n6_;clear n0_ n1_ n2_ n3_ n4_ n5_ n6_;(try clear hb);(try clear hb2);(try clear hk);(try clear hi);(try clear ho0))|((with_reducible refine gate_dst (N:=3) rfl ?_);(try (refine gate_guard (by rfl) ?_;dsimp only));refine box_event ?hg (N:=3) ?hd (cs:=#[.int .i64 0,.slice none 0 0]) (t:=30) ?hr ?_;(case hd=>rfl);(case hg=>rfl);(case hr=>first|(go_simp;done)|(go_simp;rfl));intro gb125 hg w33 hbox hb;have n0_:=Aside0.mk (Kd.S_below (by (with_reducible repeat (first|apply Kd.S_alloc|apply Kd.S_drewN|apply Kd.S_drew));exact HO105.out) hb);have n1_:=Aside0.mk (Kd.R_below (by (with_reducible repeat (first|apply Kd.R_alloc|apply Kd.R_drewN|apply Kd.R_drew));exact HO109.out) hb);have n2_:=Aside0.mk (Kd.R_below (by (with_reducible repeat (first|apply Kd.R_alloc|apply Kd.R_drewN|apply Kd.R_drew));exact HO114.out) hb);have n3_:=Aside0.mk (Kd.S_below (by (with_reducible repeat (first|apply Kd.S_alloc|apply Kd.S_drewN|apply Kd.S_drew));exact HO119.out) hb);have n4_:=Aside0.mk (Kd.R_below (by (with_reducible repeat (first|apply Kd.R_alloc|apply Kd.R_drewN|apply Kd.R_drew));exact HO123.out) hb);have n5_:=Aside0.mk (blk_below (g:=gb111) (o:=.cells #[.int .i64 t106,.slice Ao26 t107.length co26] 30 (0,0)) (by (with_reducible repeat (first|refine blk_drewN ?_ _|refine blk_drew ?_|refine blk_alloc ?_ _));exact BK111.out) hb);have n6_:=Aside0.mk (below_step (by repeat (first|(with_reducible first|exact HB.out|apply below_alloc|apply pw_below_drewN|apply below_drew1|refine below_set ?_ GE111.out)|exact HB.out)) hb);have n7_:=Aside0.mk (hbox);have n8_:=Aside0.mk ((by rw[hg];exact(below_size (by repeat (first|(with_reducible first|exact HB.out|apply below_alloc|apply pw_below_drewN|apply below_drew1|refine below_set ?_ GE111.out)|exact HB.out))):w.heap.size≤gb125));have n9_:=Aside0.mk ((by rw[hg];exact(below_size (by repeat (first|(with_reducible first|exact HB.out|apply below_alloc|apply pw_below_drewN|apply below_drew1|refine below_set ?_ GE111.out)|exact HB.out))):w.heap.size≤gb125));have n10_:=Aside0.mk ((by rw[hg];exact Nat.ne_of_lt (blk_lt (g:=gb111) (o:=.cells #[.int .i64 t106,.slice Ao26 t107.length co26] 30 (0,0)) (by (with_reducible repeat (first|refine blk_drewN ?_ _|refine blk_drew ?_|refine blk_alloc ?_ _));exact BK111.out)):gb111≠gb125));have n11_:=Aside0.mk ((by rw[hg];exact Nat.ne_of_gt (blk_lt (g:=gb111) (o:=.cells #[.int .i64 t106,.slice Ao26 t107.length co26] 30 (0,0)) (by (with_reducible repeat (first|refine blk_drewN ?_ _|refine blk_drew ?_|refine blk_alloc ?_ _));exact BK111.out)):gb125≠gb111));clear HO105;clear HO109;clear HO114;clear HO119;clear HO123;clear BK111;clear HB;have HO105:=n0_;have HO109:=n1_;have HO114:=n2_;have HO119:=n3_;have HO123:=n4_;have BK111:=n5_;have HB:=n6_;have BK125:=n7_;have GW125:=n8_;have GE125:=n9_;have NB111_125:=n10_;have NB125_111:=n11_;clear n0_ n1_ n2_ n3_ n4_ n5_ n6_ n7_ n8_ n9_ n10_ n11_;clear hb hbox hg;have hnb34:=NB125_111.out;have hnc34:=NB111_125.out;have hcz35_0:w33.cell? ⟨gb125,0,none⟩ = some (.int .i64 0):=(blk_cell BK125.out 0).trans rfl;have hcz35_1:w33.cell? ⟨gb125,1,none⟩ = some (.slice none 0 0):=(blk_cell BK125.out 1).trans rfl;have hfz35_0:=blk_frozen BK125.out 0;have hfz35_1:=blk_frozen BK125.out 1;obtain ⟨Ao36,co36,eo36⟩:=Kd.R_slice HO123.out;subst eo36)|((with_reducible refine gate_callee (f:=21) rfl ?_);refine goesL_ (some 26) rfl rfl Try.func21 (by kernel_rfl) rfl #[.int .i64 482,.int .i64 1018] rfl (by (try simp only[List.map_toArray,List.map_cons,List.map_nil]);first|done|rfl|(simp only[List.length_drop,List.length_take];rfl)) ?_;(with_reducible refine(payrolllaw11_one.calls 482 1018 t126 t127 t128 _ A5.out).mono ?_);rintro e w37 ⟨v129,rfl,ho0,hb⟩;refine⟨_,rfl,?_⟩;have n0_:=Aside0.mk (Kd.S_elder' (by (with_reducible repeat (first|apply Kd.S_alloc|apply Kd.S_drewN|apply Kd.S_drew));exact(Kd.S_mono (Kd.S_far (p:=⟨gb125,1,none⟩) (Kd.S_far (p:=⟨gb125,0,none⟩) (Kd.S_types HO105.out BK125.out (by decide)) (fun _ hk=>hk.2) (.int .i64 t120)) (fun _ hk=>hk.2) (.slice Ao36 t121.length co36)) (fun _ h_=>h_.1))) (Kd.S_base ho0) hb);have n1_:=Aside0.mk (Kd.R_below (by (with_reducible repeat (first|apply Kd.R_alloc|apply Kd.R_drewN|apply Kd.R_drew));exact(Kd.R_mono (Kd.R_far (p:=⟨gb125,1,none⟩) (Kd.R_far (p:=⟨gb125,0,none⟩) (Kd.R_types HO109.out BK125.out (by decide)) (fun _ hk=>hk.2) (.int .i64 t120)) (fun _ hk=>hk.2) (.slice Ao36 t121.length co36)) (fun _ h_=>h_.1))) hb);have n2_:=Aside0.mk (Kd.R_below (by (with_reducible repeat (first|apply Kd.R_alloc|apply Kd.R_drewN|apply Kd.R_drew));exact(Kd.R_mono (Kd.R_far (p:=⟨gb125,1,none⟩) (Kd.R_far (p:=⟨gb125,0,none⟩) (Kd.R_types HO114.out BK125.out (by decide)) (fun _ hk=>hk.2) (.int .i64 t120)) (fun _ hk=>hk.2) (.slice Ao36 t121.length co36)) (fun _ h_=>h_.1))) hb);have n3_:=Aside0.mk (Kd.S_elder' (by (with_reducible repeat (first|apply Kd.S_alloc|apply Kd.S_drewN|apply Kd.S_drew));exact(Kd.S_mono (Kd.S_far (p:=⟨gb125,1,none⟩) (Kd.S_far (p:=⟨gb125,0,none⟩) (Kd.S_types HO119.out BK125.out (by decide)) (fun _ hk=>hk.2) (.int .i64 t120)) (fun _ hk=>hk.2) (.slice Ao36 t121.length co36)) (fun _ h_=>h_.1))) (Kd.S_base ho0) hb);have n4_:=Aside0.mk (Kd.R_below (by (with_reducible repeat (first|apply Kd.R_alloc|apply Kd.R_drewN|apply Kd.R_drew));exact(Kd.R_mono (Kd.R_far (p:=⟨gb125,1,none⟩) (Kd.R_far (p:=⟨gb125,0,none⟩) (Kd.R_types HO123.out BK125.out (by decide)) (fun _ hk=>hk.2) (.int .i64 t120)) (fun _ hk=>hk.2) (.slice Ao36 t121.length co36)) (fun _ h_=>h_.1))) hb);have n5_:=Aside0.mk (Kd.S_lower (Kd.S_new' (Kd.S_new' (Kd.S_new' (Kd.S_new' ho0 (Kd.S_lt (by (with_reducible repeat (first|apply Kd.S_alloc|apply Kd.S_drewN|apply Kd.S_drew));exact(Kd.S_mono (Kd.S_far (p:=⟨gb125,1,none⟩) (Kd.S_far (p:=⟨gb125,0,none⟩) (Kd.S_types HO105.out BK125.out (by decide)) (fun _ hk=>hk.2) (.int .i64 t120)) (fun _ hk=>hk.2) (.slice Ao36 t121.length co36)) (fun _ h_=>h_.1))))) (Kd.R_lt (by (with_reducible repeat (first|apply Kd.R_alloc|apply Kd.R_drewN|apply Kd.R_drew));exact(Kd.R_mono (Kd.R_far (p:=⟨gb125,1,none⟩) (Kd.R_far (p:=⟨gb125,0,none⟩) (Kd.R_types HO109.out BK125.out (by decide)) (fun _ hk=>hk.2) (.int .i64 t120)) (fun _ hk=>hk.2) (.slice Ao36 t121.length co36)) (fun _ h_=>h_.1))))) (Kd.S_lt (by (with_reducible repeat (first|apply Kd.S_alloc|apply Kd.S_drewN|apply Kd.S_drew));exact(Kd.S_mono (Kd.S_far (p:=⟨gb125,1,none⟩) (Kd.S_far (p:=⟨gb125,0,none⟩) (Kd.S_types HO119.out BK125.out (by decide)) (fun _ hk=>hk.2) (.int .i64 t120)) (fun _ hk=>hk.2) (.slice Ao36 t121.length co36)) (fun _ h_=>h_.1))))) (Kd.R_lt (by (with_reducible repeat (first|apply Kd.R_alloc|apply Kd.R_drewN|apply Kd.R_drew));exact(Kd.R_mono (Kd.R_far (p:=⟨gb125,1,none⟩) (Kd.R_far (p:=⟨gb125,0,none⟩) (Kd.R_types HO123.out BK125.out (by decide)) (fun _ hk=>hk.2) (.int .i64 t120)) (fun _ hk=>hk.2) (.slice Ao36 t121.length co36)) (fun _ h_=>h_.1))))) (below_size (by repeat (first|(with_reducible first|exact HB.out|apply below_alloc|apply pw_below_drewN|apply below_drew1|refine below_set ?_ GE111.out|refine below_set ?_ GE125.out)|exact HB.out))));have n6_:=Aside0.mk (blk_below (g:=gb111) (o:=.cells #[.int .i64 t106,.slice Ao26 t107.length co26] 30 (0,0)) (by (with_reducible repeat (first|refine blk_drewN ?_ _|refine blk_drew ?_|refine blk_alloc ?_ _));refine blk_far ?_ NB111_125.out _;(with_reducible repeat (first|refine blk_drewN ?_ _|refine blk_drew ?_|refine blk_alloc ?_ _));refine blk_far ?_ NB111_125.out _;(with_reducible repeat (first|refine blk_drewN ?_ _|refine blk_drew ?_|refine blk_alloc ?_ _));exact BK111.out) hb);have n7_:=Aside0.mk (blk_below (g:=gb125) (o:=.cells #[.int .i64 t120,.slice Ao36 t121.length co36] 30 (0,0)) (by (with_reducible repeat (first|refine blk_drewN ?_ _|refine blk_drew ?_|refine blk_alloc ?_ _));refine blk_put (cs:=#[.int .i64 t120,.slice none 0 0]) ?_ 1 _ rfl;(with_reducible repeat (first|refine blk_drewN ?_ _|refine blk_drew ?_|refine blk_alloc ?_ _));refine blk_put (cs:=#[.int .i64 0,.slice none 0 0]) ?_ 0 _ rfl;(with_reducible repeat (first|refine blk_drewN ?_ _|refine blk_drew ?_|refine blk_alloc ?_ _));exact BK125.out) hb);have n8_:=Aside0.mk (below_step (by repeat (first|(with_reducible first|exact HB.out|apply below_alloc|apply pw_below_drewN|apply below_drew1|refine below_set ?_ GE111.out|refine below_set ?_ GE125.out)|exact HB.out)) hb);clear HO105;clear HO109;clear HO114;clear HO119;clear HO123;clear BK111;clear BK125;clear HB;have HO105:=n0_;have HO109:=n1_;have HO114:=n2_;have HO119:=n3_;have HO123:=n4_;have HO130:=n5_;have BK111:=n6_;have BK125:=n7_;have HB:=n8_;clear n0_ n1_ n2_ n3_ n4_ n5_ n6_ n7_ n8_;(try clear hb);(try clear hb2);(try clear hk);(try clear hi);(try clear ho0);obtain ⟨Ao38,co38,eo38⟩:=Kd.S_slice HO130.out;subst eo38)|((with_reducible refine gate_callee (f:=14) rfl ?_);refine goesL_ (some 27) rfl rfl Try.func14 (by kernel_rfl) rfl #[.agg #[.int .i64 15,.int .i64 1,.int .i64 0,.slice none 0 0],.agg #[.int .i64 0,.int .i64 0],.agg #[.int .i64 t126,.int .i64 t127,.slice Ao38 t128.length co38]] rfl (by (try simp only[List.map_toArray,List.map_cons,List.map_nil]);first|done|rfl|(simp only[List.length_drop,List.length_take];rfl)) ?_;(refine(worktime_Adjust.calls k 15 1 0 _ _ ([]:List (S60)) 0 0 t126 t127 _ _ t128 t131 t132 t135 _ ?side1 ?side2 ?side3 ?side4 A6.out).mono ?_);(case side1=>exact Kd.C_nil _ _);(case side2=>exact Nat.le_refl _);(case side3=>repeat (first|exact(Kd.S_reads' HO130.out).2.2|(with_reducible refine Kd.C_alloc ?_ _)|(with_reducible refine Kd.C_drewN ?_ _)|(with_reducible refine Kd.C_drew ?_)));(case side4=>exact(Kd.S_reads' HO130.out).2.1);rintro e w39 ⟨v133,rfl,ho0,hb⟩;refine⟨_,rfl,?_⟩;have n0_:=Aside0.mk (Kd.S_elder' (by (with_reducible repeat (first|apply Kd.S_alloc|apply Kd.S_drewN|apply Kd.S_drew));exact HO105.out) (Kd.R_base ho0) hb);have n1_:=Aside0.mk (Kd.R_elder' (by (with_reducible repeat (first|apply Kd.R_alloc|apply Kd.R_drewN|apply Kd.R_drew));exact HO109.out) (Kd.R_base ho0) hb);have n2_:=Aside0.mk (Kd.R_below (by (with_reducible repeat (first|apply Kd.R_alloc|apply Kd.R_drewN|apply Kd.R_drew));exact HO114.out) hb);have n3_:=Aside0.mk (Kd.S_elder' (by (with_reducible repeat (first|apply Kd.S_alloc|apply Kd.S_drewN|apply Kd.S_drew));exact HO119.out) (Kd.R_base ho0) hb);have n4_:=Aside0.mk (Kd.R_elder' (by (with_reducible repeat (first|apply Kd.R_alloc|apply Kd.R_drewN|apply Kd.R_drew));exact HO123.out) (Kd.R_base ho0) hb);have n5_:=Aside0.mk (Kd.S_elder' (by (with_reducible repeat (first|apply Kd.S_alloc|apply Kd.S_drewN|apply Kd.S_drew));exact HO130.out) (Kd.R_base ho0) hb);have n6_:=Aside0.mk (Kd.R_lower (Kd.R_new' (Kd.R_new' ho0 (Kd.R_lt (by (with_reducible repeat (first|apply Kd.R_alloc|apply Kd.R_drewN|apply Kd.R_drew));exact HO109.out))) (Kd.R_lt (by (with_reducible repeat (first|apply Kd.R_alloc|apply Kd.R_drewN|apply Kd.R_drew));exact HO123.out))) (below_size (by repeat (first|(with_reducible first|exact HB.out|apply below_alloc|apply pw_below_drewN|apply below_drew1|refine below_set ?_ GE111.out|refine below_set ?_ GE125.out)|exact HB.out))));have n7_:=Aside0.mk (blk_below (g:=gb111) (o:=.cells #[.int .i64 t106,.slice Ao26 t107.length co26] 30 (0,0)) (by (with_reducible repeat (first|refine blk_drewN ?_ _|refine blk_drew ?_|refine blk_alloc ?_ _));exact BK111.out) hb);have n8_:=Aside0.mk (blk_below (g:=gb125) (o:=.cells #[.int .i64 t120,.slice Ao36 t121.length co36] 30 (0,0)) (by (with_reducible repeat (first|refine blk_drewN ?_ _|refine blk_drew ?_|refine blk_alloc ?_ _));exact BK125.out) hb);have n9_:=Aside0.mk (below_step (by repeat (first|(with_reducible first|exact HB.out|apply below_alloc|apply pw_below_drewN|apply below_drew1|refine below_set ?_ GE111.out|refine below_set ?_ GE125.out)|exact HB.out)) hb);clear HO105;clear HO109;clear HO114;clear HO119;clear HO123;clear HO130;clear BK111;clear BK125;clear HB;have HO105:=n0_;have HO109:=n1_;have HO114:=n2_;have HO119:=n3_;have HO123:=n4_;have HO130:=n5_;have HO134:=n6_;have BK111:=n7_;have BK125:=n8_;have HB:=n9_;clear n0_ n1_ n2_ n3_ n4_ n5_ n6_ n7_ n8_ n9_;(try clear hb);(try clear hb2);(try clear hk);(try clear hi);(try clear ho0))|((with_reducible refine gate_dst (N:=5) rfl ?_);(try (refine gate_guard (by rfl) ?_;dsimp only));refine box_event ?hg (N:=5) ?hd (cs:=#[.int .i64 0,.slice none 0 0]) (t:=30) ?hr ?_;(case hd=>rfl);(case hg=>rfl);(case hr=>first|(go_simp;done)|(go_simp;rfl));intro gb136 hg w40 hbox hb;have n0_:=Aside0.mk (Kd.S_below (by (with_reducible repeat (first|apply Kd.S_alloc|apply Kd.S_drewN|apply Kd.S_drew));exact HO105.out) hb);have n1_:=Aside0.mk (Kd.R_below (by (with_reducible repeat (first|apply Kd.R_alloc|apply Kd.R_drewN|apply Kd.R_drew));exact HO109.out) hb);have n2_:=Aside0.mk (Kd.R_below (by (with_reducible repeat (first|apply Kd.R_alloc|apply Kd.R_drewN|apply Kd.R_drew));exact HO114.out) hb);have n3_:=Aside0.mk (Kd.S_below (by (with_reducible repeat (first|apply Kd.S_alloc|apply Kd.S_drewN|apply Kd.S_drew));exact HO119.out) hb);have n4_:=Aside0.mk (Kd.R_below (by (with_reducible repeat (first|apply Kd.R_alloc|apply Kd.R_drewN|apply Kd.R_drew));exact HO123.out) hb);have n5_:=Aside0.mk (Kd.S_below (by (with_reducible repeat (first|apply Kd.S_alloc|apply Kd.S_drewN|apply Kd.S_drew));exact HO130.out) hb);have n6_:=Aside0.mk (Kd.R_below (by (with_reducible repeat (first|apply Kd.R_alloc|apply Kd.R_drewN|apply Kd.R_drew));exact HO134.out) hb);have n7_:=Aside0.mk (blk_below (g:=gb111) (o:=.cells #[.int .i64 t106,.slice Ao26 t107.length co26] 30 (0,0)) (by (with_reducible repeat (first|refine blk_drewN ?_ _|refine blk_drew ?_|refine blk_alloc ?_ _));exact BK111.out) hb);have n8_:=Aside0.mk (blk_below (g:=gb125) (o:=.cells #[.int .i64 t120,.slice Ao36 t121.length co36] 30 (0,0)) (by (with_reducible repeat (first|refine blk_drewN ?_ _|refine blk_drew ?_|refine blk_alloc ?_ _));exact BK125.out) hb);have n9_:=Aside0.mk (below_step (by repeat (first|(with_reducible first|exact HB.out|apply below_alloc|apply pw_below_drewN|apply below_drew1|refine below_set ?_ GE111.out|refine below_set ?_ GE125.out)|exact HB.out)) hb);have n10_:=Aside0.mk (hbox);have n11_:=Aside0.mk ((by rw[hg];exact(below_size (by repeat (first|(with_reducible first|exact HB.out|apply below_alloc|apply pw_below_drewN|apply below_drew1|refine below_set ?_ GE111.out|refine below_set ?_ GE125.out)|exact HB.out))):w.heap.size≤gb136));have n12_:=Aside0.mk ((by rw[hg];exact(below_size (by repeat (first|(with_reducible first|exact HB.out|apply below_alloc|apply pw_below_drewN|apply below_drew1|refine below_set ?_ GE111.out|refine below_set ?_ GE125.out)|exact HB.out))):w.heap.size≤gb136));have n13_:=Aside0.mk ((by rw[hg];exact Nat.ne_of_lt (blk_lt (g:=gb111) (o:=.cells #[.int .i64 t106,.slice Ao26 t107.length co26] 30 (0,0)) (by (with_reducible repeat (first|refine blk_drewN ?_ _|refine blk_drew ?_|refine blk_alloc ?_ _));exact BK111.out)):gb111≠gb136));have n14_:=Aside0.mk ((by rw[hg];exact Nat.ne_of_gt (blk_lt (g:=gb111) (o:=.cells #[.int .i64 t106,.slice Ao26 t107.length co26] 30 (0,0)) (by (with_reducible repeat (first|refine blk_drewN ?_ _|refine blk_drew ?_|refine blk_alloc ?_ _));exact BK111.out)):gb136≠gb111));have n15_:=Aside0.mk ((by rw[hg];exact Nat.ne_of_lt (blk_lt (g:=gb125) (o:=.cells #[.int .i64 t120,.slice Ao36 t121.length co36] 30 (0,0)) (by (with_reducible repeat (first|refine blk_drewN ?_ _|refine blk_drew ?_|refine blk_alloc ?_ _));exact BK125.out)):gb125≠gb136));have n16_:=Aside0.mk ((by rw[hg];exact Nat.ne_of_gt (blk_lt (g:=gb125) (o:=.cells #[.int .i64 t120,.slice Ao36 t121.length co36] 30 (0,0)) (by (with_reducible repeat (first|refine blk_drewN ?_ _|refine blk_drew ?_|refine blk_alloc ?_ _));exact BK125.out)):gb136≠gb125));clear HO105;clear HO109;clear HO114;clear HO119;clear HO123;clear HO130;clear HO134;clear BK111;clear BK125;clear HB;have HO105:=n0_;have HO109:=n1_;have HO114:=n2_;have HO119:=n3_;have HO123:=n4_;have HO130:=n5_;have HO134:=n6_;have BK111:=n7_;have BK125:=n8_;have HB:=n9_;have BK136:=n10_;have GW136:=n11_;have GE136:=n12_;have NB111_136:=n13_;have NB136_111:=n14_;have NB125_136:=n15_;have NB136_125:=n16_;clear n0_ n1_ n2_ n3_ n4_ n5_ n6_ n7_ n8_ n9_ n10_ n11_ n12_ n13_ n14_ n15_ n16_;clear hb hbox hg;have hnb41:=NB136_111.out;have hnc41:=NB111_136.out;have hnb42:=NB136_125.out;have hnc42:=NB125_136.out;have hcz43_0:w40.cell? ⟨gb136,0,none⟩ = some (.int .i64 0):=(blk_cell BK136.out 0).trans rfl;have hcz43_1:w40.cell? ⟨gb136,1,none⟩ = some (.slice none 0 0):=(blk_cell BK136.out 1).trans rfl;have hfz43_0:=blk_frozen BK136.out 0;have hfz43_1:=blk_frozen BK136.out 1;obtain ⟨Ao44,co44,eo44⟩:=Kd.R_slice HO134.out;subst eo44;have hcz45_0:w40.cell? ⟨gb111,0,none⟩ = some (.int .i64 t106):=(blk_cell BK111.out 0).trans rfl;have hcz45_1:w40.cell? ⟨gb111,1,none⟩ = some (.slice Ao26 t107.length co26):=(blk_cell BK111.out 1).trans rfl;have hfz45_0:=blk_frozen BK111.out 0;have hfz45_1:=blk_frozen BK111.out 1;have p137:0≤(0:Int):=(by omega);have q137:0 < (t107.length:Int):=of_decide_eq_true (by first|(with_reducible assumption)|assumption);obtain ⟨ad137,e137,hx137_0,hx137_1⟩:=at_T41 (Kd.R_reads' HO109.out).2.2 0 p137 q137;cases e137;have qi137:(0 < t107.length) = True:=eq_true (by omega);(try rw[show ((0:Int)).toNat = 0 from rfl] at hx137_0);(try rw[show 0 * 2 = 0 from rfl] at hx137_0);(try rw[Addr.add_zero'] at hx137_0);(try rw[show ((0:Int)).toNat = 0 from rfl] at hx137_1);(try rw[show 0 * 2 = 0 from rfl] at hx137_1);(try rw[Addr.add_zero'] at hx137_1);have hn137_0:ad137.block≠gb136:=Kd.own_blk (Kd.R_ne HO109.out BK136.out (by decide));have hn137_1:ad137.block≠gb136:=Kd.own_blk (Kd.R_ne HO109.out BK136.out (by decide));replace hx137_0:=(cell_far (p:=⟨gb136,0,none⟩) (by first|(rw[add_block];exact hn137_0)|(show (Addr.add _ _).block≠_;rw[add_block];exact hn137_0)|exact hn137_0) (.int .i64 t131)).trans hx137_0;replace hx137_1:=(cell_far (p:=⟨gb136,0,none⟩) (by first|(rw[add_block];exact hn137_0)|(show (Addr.add _ _).block≠_;rw[add_block];exact hn137_0)|exact hn137_0) (.int .i64 t131)).trans hx137_1;replace hx137_0:=(cell_far (p:=⟨gb136,1,none⟩) (by first|(rw[add_block];exact hn137_1)|(show (Addr.add _ _).block≠_;rw[add_block];exact hn137_1)|exact hn137_1) (.slice Ao44 t132.length co44)).trans hx137_0;replace hx137_1:=(cell_far (p:=⟨gb136,1,none⟩) (by first|(rw[add_block];exact hn137_1)|(show (Addr.add _ _).block≠_;rw[add_block];exact hn137_1)|exact hn137_1) (.slice Ao44 t132.length co44)).trans hx137_1;clear hn137_0;clear hn137_1;replace p137:=eq_true p137;replace q137:=eq_true q137;have hcz46_0:w40.cell? ⟨gb125,0,none⟩ = some (.int .i64 t120):=(blk_cell BK125.out 0).trans rfl;have hcz46_1:w40.cell? ⟨gb125,1,none⟩ = some (.slice Ao36 t121.length co36):=(blk_cell BK125.out 1).trans rfl;have hfz46_0:=blk_frozen BK125.out 0;have hfz46_1:=blk_frozen BK125.out 1)|(go_at_call 8;(with_reducible refine(worktime_Minutes.calls k _ _ t121 t138 _ ?side1 ?side2 A12.out).mono ?_);(case side1=>refine(Kd.R_reads' (e:=41) (base:=w.heap.size) (ok:=fun k_=>((True∧some k_≠(.slice (some ad137) t107.length co26:Value).ownBlock)∧some k_≠(.slice Ao44 t132.length co44:Value).ownBlock)) (n:=t121.length) (c:=co36) ?_).2.2;exact(by (with_reducible repeat (first|apply Kd.R_alloc|apply Kd.R_drewN|apply Kd.R_drew));exact(Kd.R_mono (Kd.R_far (p:=⟨gb136,1,none⟩) (Kd.R_far (p:=⟨gb136,0,none⟩) (Kd.R_types HO123.out BK136.out (by decide)) (fun _ hk=>hk.2) (.int .i64 t131)) (fun _ hk=>hk.2) (.slice Ao44 t132.length co44)) (fun _ h_=>h_.1))));(case side2=>exact(Kd.R_reads' HO123.out).2.1);rintro e w47 ⟨rfl,hb⟩;have n0_:=Aside0.mk (Kd.S_below (by (with_reducible repeat (first|apply Kd.S_alloc|apply Kd.S_drewN|apply Kd.S_drew));exact(Kd.S_mono (Kd.S_far (p:=⟨gb136,1,none⟩) (Kd.S_far (p:=⟨gb136,0,none⟩) (Kd.S_types HO105.out BK136.out (by decide)) (fun _ hk=>hk.2) (.int .i64 t131)) (fun _ hk=>hk.2) (.slice Ao44 t132.length co44)) (fun _ h_=>h_.1))) hb);have n1_:=Aside0.mk (Kd.R_below (by (with_reducible repeat (first|apply Kd.R_alloc|apply Kd.R_drewN|apply Kd.R_drew));exact(Kd.R_mono (Kd.R_far (p:=⟨gb136,1,none⟩) (Kd.R_far (p:=⟨gb136,0,none⟩) (Kd.R_types HO109.out BK136.out (by decide)) (fun _ hk=>hk.2) (.int .i64 t131)) (fun _ hk=>hk.2) (.slice Ao44 t132.length co44)) (fun _ h_=>h_.1))) hb);have n2_:=Aside0.mk (Kd.R_below (by (with_reducible repeat (first|apply Kd.R_alloc|apply Kd.R_drewN|apply Kd.R_drew));exact(Kd.R_mono (Kd.R_far (p:=⟨gb136,1,none⟩) (Kd.R_far (p:=⟨gb136,0,none⟩) (Kd.R_types HO114.out BK136.out (by decide)) (fun _ hk=>hk.2) (.int .i64 t131)) (fun _ hk=>hk.2) (.slice Ao44 t132.length co44)) (fun _ h_=>h_.1))) hb);have n3_:=Aside0.mk (Kd.S_below (by (with_reducible repeat (first|apply Kd.S_alloc|apply Kd.S_drewN|apply Kd.S_drew));exact(Kd.S_mono (Kd.S_far (p:=⟨gb136,1,none⟩) (Kd.S_far (p:=⟨gb136,0,none⟩) (Kd.S_types HO119.out BK136.out (by decide)) (fun _ hk=>hk.2) (.int .i64 t131)) (fun _ hk=>hk.2) (.slice Ao44 t132.length co44)) (fun _ h_=>h_.1))) hb);have n4_:=Aside0.mk (Kd.R_below (by (with_reducible repeat (first|apply Kd.R_alloc|apply Kd.R_drewN|apply Kd.R_drew));exact(Kd.R_mono (Kd.R_far (p:=⟨gb136,1,none⟩) (Kd.R_far (p:=⟨gb136,0,none⟩) (Kd.R_types HO123.out BK136.out (by decide)) (fun _ hk=>hk.2) (.int .i64 t131)) (fun _ hk=>hk.2) (.slice Ao44 t132.length co44)) (fun _ h_=>h_.1))) hb);have n5_:=Aside0.mk (Kd.S_below (by (with_reducible repeat (first|apply Kd.S_alloc|apply Kd.S_drewN|apply Kd.S_drew));exact(Kd.S_mono (Kd.S_far (p:=⟨gb136,1,none⟩) (Kd.S_far (p:=⟨gb136,0,none⟩) (Kd.S_types HO130.out BK136.out (by decide)) (fun _ hk=>hk.2) (.int .i64 t131)) (fun _ hk=>hk.2) (.slice Ao44 t132.length co44)) (fun _ h_=>h_.1))) hb);have n6_:=Aside0.mk (Kd.R_below (by (with_reducible repeat (first|apply Kd.R_alloc|apply Kd.R_drewN|apply Kd.R_drew));exact(Kd.R_mono (Kd.R_far (p:=⟨gb136,1,none⟩) (Kd.R_far (p:=⟨gb136,0,none⟩) (Kd.R_types HO134.out BK136.out (by decide)) (fun _ hk=>hk.2) (.int .i64 t131)) (fun _ hk=>hk.2) (.slice Ao44 t132.length co44)) (fun _ h_=>h_.1))) hb);have n7_:=Aside0.mk (blk_below (g:=gb111) (o:=.cells #[.int .i64 t106,.slice (some ad137) t107.length co26] 30 (0,0)) (by (with_reducible repeat (first|refine blk_drewN ?_ _|refine blk_drew ?_|refine blk_alloc ?_ _));refine blk_far ?_ NB111_136.out _;(with_reducible repeat (first|refine blk_drewN ?_ _|refine blk_drew ?_|refine blk_alloc ?_ _));refine blk_far ?_ NB111_136.out _;(with_reducible repeat (first|refine blk_drewN ?_ _|refine blk_drew ?_|refine blk_alloc ?_ _));exact BK111.out) hb);have n8_:=Aside0.mk (blk_below (g:=gb125) (o:=.cells #[.int .i64 t120,.slice Ao36 t121.length co36] 30 (0,0)) (by (with_reducible repeat (first|refine blk_drewN ?_ _|refine blk_drew ?_|refine blk_alloc ?_ _));refine blk_far ?_ NB125_136.out _;(with_reducible repeat (first|refine blk_drewN ?_ _|refine blk_drew ?_|refine blk_alloc ?_ _));refine blk_far ?_ NB125_136.out _;(with_reducible repeat (first|refine blk_drewN ?_ _|refine blk_drew ?_|refine blk_alloc ?_ _));exact BK125.out) hb);have n9_:=Aside0.mk (blk_below (g:=gb136) (o:=.cells #[.int .i64 t131,.slice Ao44 t132.length co44] 30 (0,0)) (by (with_reducible repeat (first|refine blk_drewN ?_ _|refine blk_drew ?_|refine blk_alloc ?_ _));refine blk_put (cs:=#[.int .i64 t131,.slice none 0 0]) ?_ 1 _ rfl;(with_reducible repeat (first|refine blk_drewN ?_ _|refine blk_drew ?_|refine blk_alloc ?_ _));refine blk_put (cs:=#[.int .i64 0,.slice none 0 0]) ?_ 0 _ rfl;(with_reducible repeat (first|refine blk_drewN ?_ _|refine blk_drew ?_|refine blk_alloc ?_ _));exact BK136.out) hb);have n10_:=Aside0.mk (below_step (by repeat (first|(with_reducible first|exact HB.out|apply below_alloc|apply pw_below_drewN|apply below_drew1|refine below_set ?_ GE111.out|refine below_set ?_ GE125.out|refine below_set ?_ GE136.out)|exact HB.out)) hb);clear HO105;clear HO109;clear HO114;clear HO119;clear HO123;clear HO130;clear HO134;clear BK111;clear BK125;clear BK136;clear HB;have HO105:=n0_;have HO109:=n1_;have HO114:=n2_;have HO119:=n3_;have HO123:=n4_;have HO130:=n5_;have HO134:=n6_;have BK111:=n7_;have BK125:=n8_;have BK136:=n9_;have HB:=n10_;clear n0_ n1_ n2_ n3_ n4_ n5_ n6_ n7_ n8_ n9_ n10_;(try clear hb);(try clear hb2);(try clear hk);(try clear hi);have hcz48_0:w47.cell? ⟨gb125,0,none⟩ = some (.int .i64 t120):=(blk_cell BK125.out 0).trans rfl;have hcz48_1:w47.cell? ⟨gb125,1,none⟩ = some (.slice Ao36 t121.length co36):=(blk_cell BK125.out 1).trans rfl;have hfz48_0:=blk_frozen BK125.out 0;have hfz48_1:=blk_frozen BK125.out 1;have p139:0≤(0:Int):=(by omega);have q139:0 < (t121.length:Int):=of_decide_eq_true (by first|(with_reducible assumption)|assumption);obtain ⟨ad139,e139,hx139_0,hx139_1⟩:=at_T41 (Kd.R_reads' HO123.out).2.2 0 p139 q139;cases e139;have qi139:(0 < t121.length) = True:=eq_true (by omega);(try rw[show ((0:Int)).toNat = 0 from rfl] at hx139_0);(try rw[show 0 * 2 = 0 from rfl] at hx139_0);(try rw[Addr.add_zero'] at hx139_0);(try rw[show ((0:Int)).toNat = 0 from rfl] at hx139_1);(try rw[show 0 * 2 = 0 from rfl] at hx139_1);(try rw[Addr.add_zero'] at hx139_1);replace p139:=eq_true p139;replace q139:=eq_true q139;have hcz49_0:w47.cell? ⟨gb136,0,none⟩ = some (.int .i64 t131):=(blk_cell BK136.out 0).trans rfl;have hcz49_1:w47.cell? ⟨gb136,1,none⟩ = some (.slice Ao44 t132.length co44):=(blk_cell BK136.out 1).trans rfl;have hfz49_0:=blk_frozen BK136.out 0;have hfz49_1:=blk_frozen BK136.out 1;have p140:0≤(0:Int):=(by omega);have q140:0 < (t132.length:Int):=of_decide_eq_true (by first|(with_reducible assumption)|assumption);obtain ⟨ad140,e140,hx140_0,hx140_1⟩:=at_T41 (Kd.R_reads' HO134.out).2.2 0 p140 q140;cases e140;have qi140:(0 < t132.length) = True:=eq_true (by omega);(try rw[show ((0:Int)).toNat = 0 from rfl] at hx140_0);(try rw[show 0 * 2 = 0 from rfl] at hx140_0);(try rw[Addr.add_zero'] at hx140_0);(try rw[show ((0:Int)).toNat = 0 from rfl] at hx140_1);(try rw[show 0 * 2 = 0 from rfl] at hx140_1);(try rw[Addr.add_zero'] at hx140_1);replace p140:=eq_true p140;replace q140:=eq_true q140;have hcz50_0:w47.cell? ⟨gb111,0,none⟩ = some (.int .i64 t106):=(blk_cell BK111.out 0).trans rfl;have hcz50_1:w47.cell? ⟨gb111,1,none⟩ = some (.slice (some ad137) t107.length co26):=(blk_cell BK111.out 1).trans rfl;have hfz50_0:=blk_frozen BK111.out 0;have hfz50_1:=blk_frozen BK111.out 1))
                            go_ret
                            exact⟨by first|rfl|(simp[errW_none,errW_some] <;> rfl)|(simp[*,errW_none,errW_some] <;> rfl),by repeat (first|(with_reducible first|exact HB.out|apply below_alloc|apply pw_below_drewN|apply below_drew1|refine below_set ?_ GE111.out|refine below_set ?_ GE125.out|refine below_set ?_ GE136.out)|exact HB.out)⟩
                          · rw [if_neg c20] at H
                            have c20b0:(((rd_T41 t132 0).f0) == 495 && (((rd_T41 t132 0).f1) == 1005)) = false:=by simpa using c20
                            (try (have c20b1:decide (((rd_T41 t132 0).f0) = 495 && (((rd_T41 t132 0).f1) == 1005)) = false:=by simpa using c20))
                            (try (have c20b2:(((rd_T41 t132 0).f0) == 495 && (((rd_T41 t132 0).f1) == 1005)) = false:=by simpa using c20))
                            (try (have c20b3:¬ (((rd_T41 t132 0).f0) = 495 && (((rd_T41 t132 0).f1) == 1005)):=by simpa using c20))
                            clear c20
                            exact absurd (H.trans (congrArg some HRT.out)) (by simp)
                        · rw [if_neg c19] at H
                          exact absurd H (by simp)
                      · rw [if_neg c18] at H
                        have c18b0 : ((t132.length : Int) == 1) = false := beq_eq_false_iff_ne.mpr c18
                        have c18b1 : ((t132.length : Int) != 1) = true := bne_iff_ne.mpr c18
                        exact absurd (H.trans (congrArg some HRT.out)) (by simp)
                    · rw [if_neg c17] at H
                      have c17b0 : (t135 == 0) = false := beq_eq_false_iff_ne.mpr c17
                      have c17b1 : (t135 != 0) = true := bne_iff_ne.mpr c17
                      exact absurd (H.trans (congrArg some HRT.out)) (by simp)
                  · rw [if_neg c16] at H
                    have c16b0 : (((rd_T41 t121 0).f1) == 360) = false := beq_eq_false_iff_ne.mpr c16
                    have c16b1 : (((rd_T41 t121 0).f1) != 360) = true := bne_iff_ne.mpr c16
                    exact absurd (H.trans (congrArg some HRT.out)) (by simp)
                · rw [if_neg c15] at H
                  exact absurd H (by simp)
              · rw [if_neg c14] at H
                have c14b0 : ((t121.length : Int) == 2) = false := beq_eq_false_iff_ne.mpr c14
                have c14b1 : ((t121.length : Int) != 2) = true := bne_iff_ne.mpr c14
                exact absurd (H.trans (congrArg some HRT.out)) (by simp)
            · rw [if_neg c13] at H
              have c13b0 : (t138 == 450) = false := beq_eq_false_iff_ne.mpr c13
              have c13b1 : (t138 != 450) = true := bne_iff_ne.mpr c13
              exact absurd (H.trans (congrArg some HRT.out)) (by simp)
          · rw [if_neg c11] at H
            have c11b0 : (t124 == 0) = false := beq_eq_false_iff_ne.mpr c11
            have c11b1 : (t124 != 0) = true := bne_iff_ne.mpr c11
            exact absurd (H.trans (congrArg some HRT.out)) (by simp)
        · rw [if_neg c10] at H
          have c10b0 : (((rd_T41 t107 0).f0) == 480 && (((rd_T41 t107 0).f1) == 1020)) = false := by simpa using c10
          (try (have c10b1:decide (((rd_T41 t107 0).f0) = 480 && (((rd_T41 t107 0).f1) == 1020)) = false:=by simpa using c10))
          (try (have c10b2:(((rd_T41 t107 0).f0) == 480 && (((rd_T41 t107 0).f1) == 1020)) = false:=by simpa using c10))
          (try (have c10b3 : ¬ (((rd_T41 t107 0).f0) = 480 && (((rd_T41 t107 0).f1) == 1020)) := by simpa using c10))
          clear c10
          exact absurd (H.trans (congrArg some HRT.out)) (by simp)
      · rw [if_neg c9] at H
        exact absurd H (by simp)
    · rw [if_neg c8] at H
      have c8b0 : ((t107.length : Int) == 1) = false := beq_eq_false_iff_ne.mpr c8
      have c8b1 : ((t107.length : Int) != 1) = true := bne_iff_ne.mpr c8
      exact absurd (H.trans (congrArg some HRT.out)) (by simp)
  · rw [if_neg c7] at H
    have c7b0 : (t110 == 0) = false := beq_eq_false_iff_ne.mpr c7
    have c7b1 : (t110 != 0) = true := bne_iff_ne.mpr c7
    exact absurd (H.trans (congrArg some HRT.out)) (by simp)
def payrolllaw11_WorktimeMinutes.l0 : Nat → List (S41) → List (S30) → Int → Option (Bool)
  | 0, _, _, _ => none
  | k + 1, x1, x6, x7 => if x7 < (x6.length : Int) then (if 0 ≤ x7 then ((worktime_Minutes.f k ((rd_T30 x6 x7).f1)).bind fun t113 => ((payrollgen_Minutes.f k ((rd_T30 x6 x7).f1)).bind fun t115 => (if t113 = t115 then (payrolllaw11_WorktimeMinutes.l0 k x1 x6 (wrap64 (x7 + 1))) else (some false)))) else (none)) else (if (x1.length : Int) > 2000 then ((payrolllaw11_sane.f k).bind fun t108 => (some t108)) else ((worktime_Minutes.f k x1).bind fun t109 => ((payrollref11_Minutes.f k x1).bind fun t110 => (if t109 = t110 then ((payrolllaw11_sane.f k).bind fun t111 => (some t111)) else (some false)))))
def payrolllaw11_WorktimeMinutes.f (k : Nat) (l0 : List Int) (l1 : List (S41)) : Option (Bool) := (payrollgen_New.f l0).bind fun bt101 => ((payrollgen_Tape_Works.f k bt101.1 bt101.2 3).bind fun bt104 => (payrolllaw11_WorktimeMinutes.l0 k l1 bt104.1 0))
theorem payrolllaw11_WorktimeMinutes.mono_l : ∀ k, (∀ y0 y1 y2, LeO (payrolllaw11_WorktimeMinutes.l0 k y0 y1 y2) (payrolllaw11_WorktimeMinutes.l0 (k + 1) y0 y1 y2))
  | 0 => fun _ _ _ r h => by simp [payrolllaw11_WorktimeMinutes.l0] at h
  | k + 1 => by
    have ih0 := payrolllaw11_WorktimeMinutes.mono_l k
    · intro y0 y1 y2
      unfold payrolllaw11_WorktimeMinutes.l0
      repeat' first
      | (with_reducible exact ih0 _ _ _)
      | (with_reducible exact payrollgen_Minutes.mono _ _)
      | (with_reducible exact payrollgen_Tape_Works.mono _ _ _ _)
      | (with_reducible exact payrolllaw11_sane.mono _)
      | (with_reducible exact payrollref11_Minutes.mono _ _)
      | (with_reducible exact worktime_Minutes.mono _ _)
      | (with_reducible exact LeO.refl _)
      | (with_reducible exact LeO.none _)
      | (with_reducible refine LeO.ite ?_ ?_)
      | (with_reducible refine LeO.bind ?_ (fun _ => ?_))
      | exact ih0 _ _ _
      | exact payrollgen_Minutes.mono _ _
      | exact payrollgen_Tape_Works.mono _ _ _ _
      | exact payrolllaw11_sane.mono _
      | exact payrollref11_Minutes.mono _ _
      | exact worktime_Minutes.mono _ _
      | exact LeO.none _
      | refine LeO.ite ?_ ?_
      | refine LeO.bind ?_ (fun _ => ?_)
theorem payrolllaw11_WorktimeMinutes.mono : ∀ a0 a1 k, LeO (payrolllaw11_WorktimeMinutes.f k a0 a1) (payrolllaw11_WorktimeMinutes.f (k + 1) a0 a1) := by
  intro a0 a1 k
  have ih0 := payrolllaw11_WorktimeMinutes.mono_l k
  unfold payrolllaw11_WorktimeMinutes.f
  repeat' first
      | (with_reducible exact ih0 _ _ _)
      | (with_reducible exact payrollgen_Minutes.mono _ _)
      | (with_reducible exact payrollgen_Tape_Works.mono _ _ _ _)
      | (with_reducible exact payrolllaw11_sane.mono _)
      | (with_reducible exact payrollref11_Minutes.mono _ _)
      | (with_reducible exact worktime_Minutes.mono _ _)
      | (with_reducible exact LeO.refl _)
      | (with_reducible exact LeO.none _)
      | (with_reducible refine LeO.ite ?_ ?_)
      | (with_reducible refine LeO.bind ?_ (fun _ => ?_))
      | exact ih0 _ _ _
      | exact payrollgen_Minutes.mono _ _
      | exact payrollgen_Tape_Works.mono _ _ _ _
      | exact payrolllaw11_sane.mono _
      | exact payrollref11_Minutes.mono _ _
      | exact worktime_Minutes.mono _ _
      | exact LeO.none _
      | refine LeO.ite ?_ ?_
      | refine LeO.bind ?_ (fun _ => ?_)
def payrolllaw11_WorktimeMinutes.T6 : Bool × List (List Nat × List Nat) := (true, [([], []), ([], []), ([0, 1], [0, 1]), ([2], [2]), ([3], [3]), ([4], [4]), ([], []), ([], []), ([6, 7], [6, 7]), ([8], [8]), ([9], [9]), ([10, 5], [10]), ([5, 11], [5, 11])])
def payrolllaw11_WorktimeMinutes.B6 : List Nat := [0, 0, 3, 7, 15, 31, 0, 0, 192, 448, 960, 2047, 4095]
theorem payrolllaw11_WorktimeMinutes.tab6 : rtab .any (opsOf Try.f3 6) = payrolllaw11_WorktimeMinutes.T6 := by kernel_rfl
theorem payrolllaw11_WorktimeMinutes.bits6 : waitsOk payrolllaw11_WorktimeMinutes.T6.2 payrolllaw11_WorktimeMinutes.B6 = true := by kernel_rfl
set_option maxHeartbeats 8000000 in
set_option maxRecDepth 100000 in
theorem payrolllaw11_WorktimeMinutes.calls (k : Nat) (A0 : Option Addr) (c0 : Nat) (l0 : List Int) (A1 : Option Addr) (c1 : Nat) (l1 : List (S41)) (r : Bool) (w : World) (hr0 : Kd.C (Kd.int .i64) w A0 l0.length l0) (hc0 : l0.length ≤ c0) (hr1 : Kd.C k41 w A1 l1.length l1) (hc1 : l1.length ≤ c1) (hrt : r = true) (h : payrolllaw11_WorktimeMinutes.f k l0 l1 = some r) :
    Calls Try.prog 3 #[.slice A0 l0.length c0, .slice A1 l1.length c1] w fun e w' => e = .returned (.bool r) ∧ Below w.heap.size w w' := by
  have HRT := Aside0.mk hrt
  clear hrt
  have HR0 := Aside0.mk hr0
  have HC0 := Aside0.mk hc0
  clear hr0 hc0
  have HR1 := Aside0.mk hr1
  have HC1 := Aside0.mk hc1
  clear hr1 hc1
  have HB := Aside0.mk (Below.refl w.heap.size w)
  have H:((payrollgen_New.f l0).bind fun bt101=>((payrollgen_Tape_Works.f k bt101.1 bt101.2 3).bind fun bt104=>(payrolllaw11_WorktimeMinutes.l0 k l1 bt104.1 0))) = some r:=h
  clear h
  replace H := Option.bind_eq_some_iff.mp H
  obtain ⟨⟨t101, t102⟩, A30, H⟩ := H
  replace H:((payrollgen_Tape_Works.f k t101 t102 3).bind fun bt104=>(payrolllaw11_WorktimeMinutes.l0 k l1 bt104.1 0)) = some r:=H
  have A3 := Aside0.mk A30
  clear A30
  replace H := Option.bind_eq_some_iff.mp H
  obtain ⟨⟨t104, t107⟩, A40, H⟩ := H
  replace H : (payrolllaw11_WorktimeMinutes.l0 k l1 t104 0) = some r := H
  have A4 := Aside0.mk A40
  clear A40
  have H' := Aside0.mk H
  clear H
  go_enter Try.func3, Try.ntmps3
  go_wp2_with (first|((with_reducible refine gate_callee (f:=6) rfl ?_);refine goesL_ (some 9) rfl rfl Try.func6 (by kernel_rfl) rfl #[.slice A0 l0.length c0] rfl (by (try simp only[List.map_toArray,List.map_cons,List.map_nil]);first|done|rfl|(simp only[List.length_drop,List.length_take];rfl)) ?_;(with_reducible refine(payrollgen_New.calls _ _ l0 t101 t102 w _ ?side1 ?side2 ?side3 A3.out).mono ?_);(case side1=>repeat (first|(with_reducible first|exact HB.out|apply below_alloc|apply pw_below_drewN|apply below_drew1)|exact HB.out));(case side2=>exact HR0.out);(case side3=>exact HC0.out);rintro e w5 ⟨g103,rfl,hi,hb,hb2⟩;refine⟨_,rfl,?_⟩;have n0_:=Aside0.mk (hb);have n1_:=Aside0.mk (hi);clear HB;have HB:=n0_;have HI103:=n1_;clear n0_ n1_;(try clear hb);(try clear hb2);(try clear hk);(try clear hi))|((with_reducible refine gate_callee (f:=7) rfl ?_);refine goesL_ (some 11) rfl rfl Try.func7 (by kernel_rfl) rfl #[.pointer (some ⟨g103,0,none⟩),.int .i64 3] rfl (by (try simp only[List.map_toArray,List.map_cons,List.map_nil]);first|done|rfl|(simp only[List.length_drop,List.length_take];rfl)) ?_;(with_reducible refine(payrollgen_Tape_Works.calls k g103 t101 t102 3 t104 t107 w _ ?side1 ?side2 A4.out).mono ?_);(case side1=>repeat (first|(with_reducible first|exact HI103.out|apply IsS54.alloc|apply IsS54.drewN|apply IsS54.drew|apply IsS54.set_1)|exact HI103.out));(case side2=>repeat (first|(with_reducible first|exact HB.out|apply below_alloc|apply pw_below_drewN|apply below_drew1|refine below_set ?_ (IsS54.ge HI103.out))|exact HB.out));rintro e w6 ⟨v105,rfl,ho0,hi,hb,hk⟩;refine⟨_,rfl,?_⟩;have n0_:=Aside0.mk (Kd.N_lower (Kd.N_mono (ok':=fun k_=>k_≠g103) ho0 (fun k_ hk_=>(IsS54.fresh (by repeat (first|(with_reducible first|exact HI103.out|apply IsS54.alloc|apply IsS54.drewN|apply IsS54.drew|apply IsS54.set_1)|exact HI103.out)) k_ hk_))) (below_size (by repeat (first|(with_reducible first|exact HB.out|apply below_alloc|apply pw_below_drewN|apply below_drew1|refine below_set ?_ (IsS54.ge HI103.out))|exact HB.out))));have n1_:=Aside0.mk (hb);have n2_:=Aside0.mk (hi);clear HB;clear HI103;have HO106:=n0_;have HB:=n1_;have HI103:=n2_;clear n0_ n1_ n2_;(try clear hb);(try clear hb2);(try clear hk);(try clear hi);(try clear ho0)))
  go_loopg [7] k (fun kq v7 w'=>∃ (x7_1:Int),v7 = .int .i64 x7_1∧Aside0 (payrolllaw11_WorktimeMinutes.l0 kq l1 t104 x7_1 = some r)∧Aside0 (kq≤k)∧Aside0 (Kd.N k30 30 w' w.heap.size (fun _=>True) v105 t104)∧Aside0 (Below w.heap.size w w'))
  case atStart=>exact⟨(0),(by first|rfl|(simp;done)|(simp[*];done)),H',⟨Nat.le_refl _⟩,⟨by (with_reducible repeat (first|apply Kd.N_alloc|apply Kd.N_drewN|apply Kd.N_drew));exact Kd.N_mono HO106.out (fun _ hk=>trivial)⟩,⟨by repeat (first|(with_reducible first|exact HB.out|apply below_alloc|apply pw_below_drewN|apply below_drew1|refine below_set ?_ (IsS54.ge HI103.out))|exact HB.out)⟩⟩
  case round =>
    clear H'
    try clear c1
    try clear p2
    try clear c3
    try clear c6
    obtain ⟨x7_1, rfl, HA, HK1, HO_6, HB⟩ := hrel
    cases gk with
    | zero => exact absurd HA.out (by simp [payrolllaw11_WorktimeMinutes.l0])
    | succ k1 =>
      have H := HA.out
      clear HA
      simp only [payrolllaw11_WorktimeMinutes.l0] at H
      by_cases c7 : x7_1 < (t104.length : Int)
      · rw [if_pos c7] at H
        have c7b0 : decide (x7_1 < (t104.length : Int)) = true := decide_eq_true c7
        clear c7
        by_cases c8 : 0 ≤ x7_1
        · rw [if_pos c8] at H
          have c8b0 : decide (0 ≤ x7_1) = true := decide_eq_true c8
          clear c8
          replace H := Option.bind_eq_some_iff.mp H
          obtain ⟨t113, A90, H⟩ := H
          replace H:((payrollgen_Minutes.f k1 ((rd_T30 t104 x7_1).f1)).bind fun t115=>(if t113 = t115 then (payrolllaw11_WorktimeMinutes.l0 k1 l1 t104 (wrap64 (x7_1 + 1))) else (some false))) = some r:=H
          have A9 := Aside0.mk A90
          clear A90
          replace H := Option.bind_eq_some_iff.mp H
          obtain ⟨t115, A100, H⟩ := H
          replace H:(if t113 = t115 then (payrolllaw11_WorktimeMinutes.l0 k1 l1 t104 (wrap64 (x7_1 + 1))) else (some false)) = some r:=H
          have A10 := Aside0.mk A100
          clear A100
          by_cases c11 : t113 = t115
          · rw [if_pos c11] at H
            have c11b0 : (t113 == t115) = true := beq_iff_eq.mpr c11
            have c11b1 : (t113 != t115) = false := bne_eq_false_iff_eq.mpr c11
            clear c11
            have H' := Aside0.mk H
            clear H
            obtain ⟨Ao12, co12, eo12⟩ := Kd.N_slice HO_6.out
            subst eo12
            try go_wp2
            have n0_ := Aside0.mk (Kd.N_drew HO_6.out)
            have n1_ := Aside0.mk (below_drew1 HB.out)
            clear HO_6
            clear HB
            have HO_6 := n0_
            have HB := n1_
            clear n0_ n1_
            have p112 : 0 ≤ (x7_1 : Int) := of_decide_eq_true (by first | (with_reducible assumption) | assumption)
            have q112:x7_1 < (t104.length:Int):=of_decide_eq_true (by first|(with_reducible assumption)|assumption)
            obtain ⟨ad112,A112_1,c112_1,e112,hx112_0,hx112_1,hl112_1,hi112_1⟩:=at_T30 (Kd.N_reads' HO_6.out).2.2 x7_1 p112 q112
            cases e112
            obtain ⟨ce112,hce112,hMe112,hcc112⟩:=Kd.N_get HO_6.out z30 x7_1 p112 (by first|exact q112|exact of_decide_eq_true (by first|(with_reducible assumption)|assumption)|(have e_:=(Kd.N_reads' HO_6.out).1;omega))
            obtain ⟨ua112_1, uc112_1, rfl, ul112_1, ge112_1⟩ := k30_openF hMe112
            have hv112_1 := hcc112 1 _ rfl
            rw [add_field _ _ 1 (by omega)] at hv112_1
            replace hv112_1 := Option.some.inj (hv112_1.symm.trans hx112_1)
            injection hv112_1 with hva_ hvn_ hvc_
            rw [hva_] at ge112_1
            rw [hvc_] at ul112_1
            have HL112_1:=Aside0.mk (show Kd.V k41 41 _ w.heap.size _ _ ((rd_T30 t104 x7_1).f1) from Kd.V_mk ul112_1 ge112_1)
            clear hva_ hvn_ hvc_ ge112_1 ul112_1
            clear hcc112 hce112
            have HR112_1 := Aside0.mk hi112_1
            have HC112_1 := Aside0.mk hl112_1
            clear hi112_1 hl112_1
            replace p112 := eq_true p112
            replace q112 := eq_true q112
            have p114 : 0 ≤ (x7_1 : Int) := of_decide_eq_true (by first | (with_reducible assumption) | assumption)
            have q114:x7_1 < (t104.length:Int):=of_decide_eq_true (by first|(with_reducible assumption)|assumption)
            obtain ⟨ad114,A114_1,c114_1,e114,hx114_0,hx114_1,hl114_1,hi114_1⟩:=at_T30 (Kd.N_reads' HO_6.out).2.2 x7_1 p114 q114
            obtain rfl : ad112 = ad114 := (by injection e114)
            obtain ⟨ce114,hce114,hMe114,hcc114⟩:=Kd.N_get HO_6.out z30 x7_1 p114 (by first|exact q114|exact of_decide_eq_true (by first|(with_reducible assumption)|assumption)|(have e_:=(Kd.N_reads' HO_6.out).1;omega))
            obtain ⟨ua114_1, uc114_1, rfl, ul114_1, ge114_1⟩ := k30_openF hMe114
            have hv114_1 := hcc114 1 _ rfl
            rw [add_field _ _ 1 (by omega)] at hv114_1
            replace hv114_1 := Option.some.inj (hv114_1.symm.trans hx114_1)
            injection hv114_1 with hva_ hvn_ hvc_
            rw [hva_] at ge114_1
            rw [hvc_] at ul114_1
            have HL114_1:=Aside0.mk (show Kd.V k41 41 _ w.heap.size _ _ ((rd_T30 t104 x7_1).f1) from Kd.V_mk ul114_1 ge114_1)
            clear hva_ hvn_ hvc_ ge114_1 ul114_1
            clear hcc114 hce114
            have HR114_1 := Aside0.mk hi114_1
            have HC114_1 := Aside0.mk hl114_1
            clear hi114_1 hl114_1
            replace p114 := eq_true p114
            replace q114 := eq_true q114
            have ea_ := Option.some.inj (hx112_1.symm.trans hx114_1)
            injection ea_ with ea_ en_ ec_
            subst ea_
            subst ec_
            clear en_
            refine start_ (n:=13) (S:=fun w'=>w'.cell? (ad112.add ((x7_1).toNat * 2)) = some (.int .i64 ((rd_T30 t104 x7_1).f0))∧w'.cell? ⟨(ad112.add ((x7_1).toNat * 2)).block,(ad112.add ((x7_1).toNat * 2)).off + 1,none⟩ = some (.slice A112_1 ((rd_T30 t104 x7_1).f1).length c112_1)∧w'.cell? (ad112.add ((x7_1).toNat * 2)) = some (.int .i64 ((rd_T30 t104 x7_1).f0))∧w'.cell? ⟨(ad112.add ((x7_1).toNat * 2)).block,(ad112.add ((x7_1).toNat * 2)).off + 1,none⟩ = some (.slice A112_1 ((rd_T30 t104 x7_1).f1).length c112_1)) (ds:=[]) #[false,false,false,false,false,false,false,false,false,false,false,false,false] (by kernel_rfl) rfl rfl ⟨hx112_0,hx112_1,hx114_0,hx114_1⟩ (fun hHeld=>?_);refine with_tabW payrolllaw11_WorktimeMinutes.tab6 payrolllaw11_WorktimeMinutes.bits6 (fun HT_ HW_=>?_)
            generalize wr.drew = w13 at HO_6 HB HL112_1 HL114_1 HR112_1 HR114_1 hx112_0 hx112_1 hx114_0 hx114_1 hHeld ⊢
            refine pure_ (i:=0) (N:=some 18) (v:=?_) (a':=?_) #[true,false,false,false,false,false,false,false,false,false,false,false,false] rfl rfl (any_of HT_.out (by kernel_rfl)) (fun _ _ _ h=>h) (Or.inl ⟨by rfl,?_⟩) ?_ ?_
            rotate_left
            · intro w'
              go_simp
              with_reducible rfl
            rotate_left
            · simp only [Act.put, List.setIfInBounds_toArray, List.set_cons_zero, List.set_cons_succ, i64_w, i32_w]
              rfl
            refine pure_ (i:=1) (N:=some 19) (v:=?_) (a':=?_) #[true,true,false,false,false,false,false,false,false,false,false,false,false] rfl rfl (any_of HT_.out (by kernel_rfl)) (fun _ _ _ h=>h) (Or.inl ⟨by rfl,?_⟩) ?_ ?_
            rotate_left
            · intro w'
              go_simp
              with_reducible rfl
            rotate_left
            · simp only [Act.put, List.setIfInBounds_toArray, List.set_cons_zero, List.set_cons_succ, i64_w, i32_w]
              rfl
            refine pure_ (i:=2) (N:=some 20) (v:=?_) (a':=?_) #[true,true,true,false,false,false,false,false,false,false,false,false,false] rfl rfl (any_of HT_.out (by kernel_rfl)) (fun _ _ _ h=>h) (Or.inl ⟨by rfl,?_⟩) ?_ ?_
            rotate_left
            · intro w'
              go_simp
              with_reducible rfl
            rotate_left
            · simp only [Act.put, List.setIfInBounds_toArray, List.set_cons_zero, List.set_cons_succ, i64_w, i32_w]
              rfl
            refine pure_ (i:=3) (N:=some 21) (v:=?_) (a':=?_) #[true,true,true,true,false,false,false,false,false,false,false,false,false] rfl rfl (any_of HT_.out (by kernel_rfl)) (fun _ _ _ h=>h) (Or.inl ⟨by rfl,?_⟩) ?_ ?_
            rotate_left
            · intro w'
              go_simp
              with_reducible rfl
            rotate_left
            · simp only [Act.put, List.setIfInBounds_toArray, List.set_cons_zero, List.set_cons_succ, i64_w, i32_w]
              rfl
            refine pure_ (i:=6) (N:=some 24) (v:=?_) (a':=?_) #[true,true,true,true,false,false,true,false,false,false,false,false,false] rfl rfl (any_of HT_.out (by kernel_rfl)) (fun _ _ _ h=>h) (Or.inl ⟨by rfl,?_⟩) ?_ ?_
            rotate_left
            · intro w'
              go_simp
              with_reducible rfl
            rotate_left
            · simp only [Act.put, List.setIfInBounds_toArray, List.set_cons_zero, List.set_cons_succ, i64_w, i32_w]
              rfl
            refine pure_ (i:=7) (N:=some 25) (v:=?_) (a':=?_) #[true,true,true,true,false,false,true,true,false,false,false,false,false] rfl rfl (any_of HT_.out (by kernel_rfl)) (fun _ _ _ h=>h) (Or.inl ⟨by rfl,?_⟩) ?_ ?_
            rotate_left
            · intro w'
              go_simp
              with_reducible rfl
            rotate_left
            · simp only [Act.put, List.setIfInBounds_toArray, List.set_cons_zero, List.set_cons_succ, i64_w, i32_w]
              rfl
            refine pure_ (i:=8) (N:=some 26) (v:=?_) (a':=?_) #[true,true,true,true,false,false,true,true,true,false,false,false,false] rfl rfl (any_of HT_.out (by kernel_rfl)) (fun _ _ _ h=>h) (Or.inl ⟨by rfl,?_⟩) ?_ ?_
            rotate_left
            · intro w'
              go_simp
              with_reducible rfl
            rotate_left
            · simp only [Act.put, List.setIfInBounds_toArray, List.set_cons_zero, List.set_cons_succ, i64_w, i32_w]
              rfl
            refine pure_ (i:=9) (N:=some 27) (v:=?_) (a':=?_) #[true,true,true,true,false,false,true,true,true,true,false,false,false] rfl rfl (any_of HT_.out (by kernel_rfl)) (fun _ _ _ h=>h) (Or.inl ⟨by rfl,?_⟩) ?_ ?_
            rotate_left
            · intro w'
              go_simp
              with_reducible rfl
            rotate_left
            · simp only [Act.put, List.setIfInBounds_toArray, List.set_cons_zero, List.set_cons_succ, i64_w, i32_w]
              rfl
            refine take_ (i:=4) (N:=some 22) (v:=?_) (a':=?_) #[true,true,true,true,true,false,true,true,true,true,false,false,false] rfl rfl (take_ofW HT_.out HW_.out (by kernel_rfl)) (fun _ _ _ h=>h) (Or.inl ⟨by rfl,?_⟩) hHeld ?_ ?_
            rotate_left
            · rintro w' ⟨s0, s1, s2, s3⟩
              go_simp
              with_reducible rfl
            rotate_left
            · simp only [Act.put, List.setIfInBounds_toArray, List.set_cons_zero, List.set_cons_succ, i64_w, i32_w]
              rfl
            refine take_ (i:=10) (N:=some 28) (v:=?_) (a':=?_) #[true,true,true,true,true,false,true,true,true,true,true,false,false] rfl rfl (take_ofW HT_.out HW_.out (by kernel_rfl)) (fun _ _ _ h=>h) (Or.inl ⟨by rfl,?_⟩) hHeld ?_ ?_
            rotate_left
            · rintro w' ⟨s0, s1, s2, s3⟩
              go_simp
              with_reducible rfl
            rotate_left
            · simp only [Act.put, List.setIfInBounds_toArray, List.set_cons_zero, List.set_cons_succ, i64_w, i32_w]
              rfl
            refine one_ (i:=5) (N:=some 23) #[true,true,true,true,true,true,true,true,true,true,true,false,false] rfl rfl (one_of HT_.out (by kernel_rfl)) (by decide) (fun K hK=>?_)
            refine goes_ Try.func8 (by kernel_rfl) rfl #[.slice A112_1 ((rd_T30 t104 x7_1).f1).length c112_1] (by rfl) rfl rfl (by (try simp only[List.map_toArray,List.map_cons,List.map_nil]);first|done|rfl|(simp only[List.length_drop,List.length_take];rfl)) ?_
            with_reducible refine (worktime_Minutes.calls k1 _ _ ((rd_T30 t104 x7_1).f1) t113 _ ?side1 ?side2 A9.out).mono ?_
            (case side1=>repeat (first|exact(by repeat (first|(with_reducible exact HR112_1.out)|(with_reducible refine Kd.C_alloc ?_ _)|(with_reducible refine Kd.C_drewN ?_ _)|(with_reducible refine Kd.C_drew ?_)|exact HR112_1.out))|(with_reducible refine Kd.C_alloc ?_ _)|(with_reducible refine Kd.C_drewN ?_ _)|(with_reducible refine Kd.C_drew ?_)))
            (case side2 => exact HC112_1.out)
            rintro e w14 ⟨rfl, hb⟩
            have HS0_ := (hb.cell (World.block_lt_of_cell? _ _ (hHeld.1))).trans (hHeld.1)
            have HS1_ := (hb.cell (World.block_lt_of_cell? _ _ (hHeld.2.1))).trans (hHeld.2.1)
            have HS2_ := (hb.cell (World.block_lt_of_cell? _ _ (hHeld.2.2.1))).trans (hHeld.2.2.1)
            have HS3_ := (hb.cell (World.block_lt_of_cell? _ _ (hHeld.2.2.2))).trans (hHeld.2.2.2)
            refine ⟨_, rfl, ?_⟩
            have n0_:=Aside0.mk (Kd.N_below (by (with_reducible repeat (first|apply Kd.N_alloc|apply Kd.N_drewN|apply Kd.N_drew));exact HO_6.out) hb)
            have n1_:=Aside0.mk (Kd.V_below (by (with_reducible repeat (first|apply Kd.V_alloc|apply Kd.V_drewN|apply Kd.V_drew));exact HL112_1.out) hb)
            have n2_:=Aside0.mk (Kd.V_below (by (with_reducible repeat (first|apply Kd.V_alloc|apply Kd.V_drewN|apply Kd.V_drew));exact HL114_1.out) hb)
            have n3_:=Aside0.mk (Kd.C_below (by repeat (first|(with_reducible exact HR112_1.out)|(with_reducible refine Kd.C_alloc ?_ _)|(with_reducible refine Kd.C_drewN ?_ _)|(with_reducible refine Kd.C_drew ?_)|exact HR112_1.out)) hb)
            have n4_:=Aside0.mk (Kd.C_below (by repeat (first|(with_reducible exact HR114_1.out)|(with_reducible refine Kd.C_alloc ?_ _)|(with_reducible refine Kd.C_drewN ?_ _)|(with_reducible refine Kd.C_drew ?_)|exact HR114_1.out)) hb)
            have n5_:=Aside0.mk (below_step (by repeat (first|(with_reducible first|exact HB.out|apply below_alloc|apply pw_below_drewN|apply below_drew1)|exact HB.out)) hb)
            clear HO_6
            clear HL112_1
            clear HL114_1
            clear HR112_1
            clear HR114_1
            clear HB
            have HO_6 := n0_
            have HL112_1 := n1_
            have HL114_1 := n2_
            have HR112_1 := n3_
            have HR114_1 := n4_
            have HB := n5_
            clear n0_ n1_ n2_ n3_ n4_ n5_
            (try clear hb)
            (try clear hb2)
            (try clear hk)
            (try clear hi)
            refine hK.out _ _ ⟨HS0_, HS1_, HS2_, HS3_⟩ (fun hHeld => ?_)
            clear hK K
            refine norm_ (a' := ?_) ?_ ?_
            rotate_left
            · show Act.put _ (some 23) _ = _
              simp only [Act.put, List.setIfInBounds_toArray, List.set_cons_zero, List.set_cons_succ, i64_w, i32_w]
              rfl
            refine one_ (i:=11) (N:=some 29) #[true,true,true,true,true,true,true,true,true,true,true,true,false] rfl rfl (one_of HT_.out (by kernel_rfl)) (by decide) (fun K hK=>?_)
            refine goes_ Try.func9 (by kernel_rfl) rfl #[.slice A112_1 ((rd_T30 t104 x7_1).f1).length c112_1] (by rfl) rfl rfl (by (try simp only[List.map_toArray,List.map_cons,List.map_nil]);first|done|rfl|(simp only[List.length_drop,List.length_take];rfl)) ?_
            with_reducible refine (payrollgen_Minutes.calls k1 _ _ ((rd_T30 t104 x7_1).f1) t115 _ ?side1 ?side2 A10.out).mono ?_
            (case side1=>repeat (first|exact(by repeat (first|(with_reducible exact HR114_1.out)|(with_reducible refine Kd.C_alloc ?_ _)|(with_reducible refine Kd.C_drewN ?_ _)|(with_reducible refine Kd.C_drew ?_)|exact HR114_1.out))|(with_reducible refine Kd.C_alloc ?_ _)|(with_reducible refine Kd.C_drewN ?_ _)|(with_reducible refine Kd.C_drew ?_)))
            (case side2 => exact HC114_1.out)
            rintro e w15 ⟨rfl, hb⟩
            have HS0_ := (hb.cell (World.block_lt_of_cell? _ _ (hHeld.1))).trans (hHeld.1)
            have HS1_ := (hb.cell (World.block_lt_of_cell? _ _ (hHeld.2.1))).trans (hHeld.2.1)
            have HS2_ := (hb.cell (World.block_lt_of_cell? _ _ (hHeld.2.2.1))).trans (hHeld.2.2.1)
            have HS3_ := (hb.cell (World.block_lt_of_cell? _ _ (hHeld.2.2.2))).trans (hHeld.2.2.2)
            refine ⟨_, rfl, ?_⟩
            have n0_:=Aside0.mk (Kd.N_below (by (with_reducible repeat (first|apply Kd.N_alloc|apply Kd.N_drewN|apply Kd.N_drew));exact HO_6.out) hb)
            have n1_:=Aside0.mk (Kd.V_below (by (with_reducible repeat (first|apply Kd.V_alloc|apply Kd.V_drewN|apply Kd.V_drew));exact HL112_1.out) hb)
            have n2_:=Aside0.mk (Kd.V_below (by (with_reducible repeat (first|apply Kd.V_alloc|apply Kd.V_drewN|apply Kd.V_drew));exact HL114_1.out) hb)
            have n3_:=Aside0.mk (Kd.C_below (by repeat (first|(with_reducible exact HR112_1.out)|(with_reducible refine Kd.C_alloc ?_ _)|(with_reducible refine Kd.C_drewN ?_ _)|(with_reducible refine Kd.C_drew ?_)|exact HR112_1.out)) hb)
            have n4_:=Aside0.mk (Kd.C_below (by repeat (first|(with_reducible exact HR114_1.out)|(with_reducible refine Kd.C_alloc ?_ _)|(with_reducible refine Kd.C_drewN ?_ _)|(with_reducible refine Kd.C_drew ?_)|exact HR114_1.out)) hb)
            have n5_:=Aside0.mk (below_step (by repeat (first|(with_reducible first|exact HB.out|apply below_alloc|apply pw_below_drewN|apply below_drew1)|exact HB.out)) hb)
            clear HO_6
            clear HL112_1
            clear HL114_1
            clear HR112_1
            clear HR114_1
            clear HB
            have HO_6 := n0_
            have HL112_1 := n1_
            have HL114_1 := n2_
            have HR112_1 := n3_
            have HR114_1 := n4_
            have HB := n5_
            clear n0_ n1_ n2_ n3_ n4_ n5_
            (try clear hb)
            (try clear hb2)
            (try clear hk)
            (try clear hi)
            refine hK.out _ _ ⟨HS0_, HS1_, HS2_, HS3_⟩ (fun hHeld => ?_)
            clear hK K
            refine norm_ (a' := ?_) ?_ ?_
            rotate_left
            · show Act.put _ (some 29) _ = _
              simp only [Act.put, List.setIfInBounds_toArray, List.set_cons_zero, List.set_cons_succ, i64_w, i32_w]
              rfl
            refine pure_ (i:=12) (N:=some 30) (v:=?_) (a':=?_) #[true,true,true,true,true,true,true,true,true,true,true,true,true] rfl rfl (any_of HT_.out (by kernel_rfl)) (fun _ _ _ h=>h) (Or.inl ⟨by rfl,?_⟩) ?_ ?_
            rotate_left
            · intro w'
              go_simp
              with_reducible rfl
            rotate_left
            · simp only [Act.put, List.setIfInBounds_toArray, List.set_cons_zero, List.set_cons_succ, i64_w, i32_w]
              rfl
            refine done_ (done_of HT_.out (by kernel_rfl)) ?_
            try go_wp2
            go_roundg k1
            case measure => have := HK1.out; omega
            case rel=>exact⟨(wrap64 (x7_1 + 1)),(by first|rfl|(simp;done)|(simp[*];done)),H',⟨by have:=HK1.out;omega⟩,⟨by (with_reducible repeat (first|apply Kd.N_alloc|apply Kd.N_drewN|apply Kd.N_drew));exact HO_6.out⟩,⟨by repeat (first|(with_reducible first|exact HB.out|apply below_alloc|apply pw_below_drewN|apply below_drew1)|exact HB.out)⟩⟩
          · rw [if_neg c11] at H
            have c11b0 : (t113 == t115) = false := beq_eq_false_iff_ne.mpr c11
            have c11b1 : (t113 != t115) = true := bne_iff_ne.mpr c11
            exact absurd (H.trans (congrArg some HRT.out)) (by simp)
        · rw [if_neg c8] at H
          exact absurd H (by simp)
      · rw [if_neg c7] at H
        have c7b0 : decide (x7_1 < (t104.length : Int)) = false := decide_eq_false c7
        clear c7
        by_cases c16 : (l1.length : Int) > 2000
        · rw [if_pos c16] at H
          have c16b0 : decide (2000 < (l1.length : Int)) = true := decide_eq_true c16
          have c16b1 : decide (2000 < l1.length) = true := decide_eq_true (by omega)
          clear c16
          replace H := Option.bind_eq_some_iff.mp H
          obtain ⟨t108, A170, H⟩ := H
          replace H : (some t108) = some r := H
          have A17 := Aside0.mk A170
          clear A170
          obtain rfl := Option.some.inj H
          obtain ⟨Ao18, co18, eo18⟩ := Kd.N_slice HO_6.out
          subst eo18
          go_wp2_with (first|(go_at_call 11;(with_reducible refine(payrolllaw11_sane.calls k1  t108 _ HRT.out A17.out).mono ?_);rintro e w19 ⟨rfl,hb⟩;have n0_:=Aside0.mk (Kd.N_below (by (with_reducible repeat (first|apply Kd.N_alloc|apply Kd.N_drewN|apply Kd.N_drew));exact HO_6.out) hb);have n1_:=Aside0.mk (below_step (by repeat (first|(with_reducible first|exact HB.out|apply below_alloc|apply pw_below_drewN|apply below_drew1)|exact HB.out)) hb);clear HO_6;clear HB;have HO_6:=n0_;have HB:=n1_;clear n0_ n1_;(try clear hb);(try clear hb2);(try clear hk);(try clear hi)))
          go_ret
          exact⟨by first|rfl|(simp[errW_none,errW_some] <;> rfl)|(simp[*,errW_none,errW_some] <;> rfl),by repeat (first|(with_reducible first|exact HB.out|apply below_alloc|apply pw_below_drewN|apply below_drew1)|exact HB.out)⟩
        · rw [if_neg c16] at H
          have c16b0 : decide (2000 < (l1.length : Int)) = false := decide_eq_false c16
          have c16b1 : decide (2000 < l1.length) = false := decide_eq_false (by omega)
          clear c16
          replace H := Option.bind_eq_some_iff.mp H
          obtain ⟨t109, A200, H⟩ := H
          replace H:((payrollref11_Minutes.f k1 l1).bind fun t110=>(if t109 = t110 then ((payrolllaw11_sane.f k1).bind fun t111=>(some t111)) else (some false))) = some r:=H
          have A20 := Aside0.mk A200
          clear A200
          replace H := Option.bind_eq_some_iff.mp H
          obtain ⟨t110, A210, H⟩ := H
          replace H:(if t109 = t110 then ((payrolllaw11_sane.f k1).bind fun t111=>(some t111)) else (some false)) = some r:=H
          have A21 := Aside0.mk A210
          clear A210
          by_cases c22 : t109 = t110
          · rw [if_pos c22] at H
            have c22b0 : (t109 == t110) = true := beq_iff_eq.mpr c22
            have c22b1 : (t109 != t110) = false := bne_eq_false_iff_eq.mpr c22
            clear c22
            replace H := Option.bind_eq_some_iff.mp H
            obtain ⟨t111, A230, H⟩ := H
            replace H : (some t111) = some r := H
            have A23 := Aside0.mk A230
            clear A230
            obtain rfl := Option.some.inj H
            obtain ⟨Ao24, co24, eo24⟩ := Kd.N_slice HO_6.out
            subst eo24
            go_wp2_with (first|(go_at_call 8;(with_reducible refine(worktime_Minutes.calls k1 _ _ l1 t109 _ ?side1 ?side2 A20.out).mono ?_);(case side1=>repeat (first|exact(Kd.C_below HR1.out HB.out)|(with_reducible refine Kd.C_alloc ?_ _)|(with_reducible refine Kd.C_drewN ?_ _)|(with_reducible refine Kd.C_drew ?_)));(case side2=>exact HC1.out);rintro e w25 ⟨rfl,hb⟩;have n0_:=Aside0.mk (Kd.N_below (by (with_reducible repeat (first|apply Kd.N_alloc|apply Kd.N_drewN|apply Kd.N_drew));exact HO_6.out) hb);have n1_:=Aside0.mk (below_step (by repeat (first|(with_reducible first|exact HB.out|apply below_alloc|apply pw_below_drewN|apply below_drew1)|exact HB.out)) hb);clear HO_6;clear HB;have HO_6:=n0_;have HB:=n1_;clear n0_ n1_;(try clear hb);(try clear hb2);(try clear hk);(try clear hi))|(go_at_call 10;(with_reducible refine(payrollref11_Minutes.calls k1 _ _ l1 t110 _ ?side1 ?side2 A21.out).mono ?_);(case side1=>repeat (first|exact(Kd.C_below HR1.out HB.out)|(with_reducible refine Kd.C_alloc ?_ _)|(with_reducible refine Kd.C_drewN ?_ _)|(with_reducible refine Kd.C_drew ?_)));(case side2=>exact HC1.out);rintro e w26 ⟨rfl,hb⟩;have n0_:=Aside0.mk (Kd.N_below (by (with_reducible repeat (first|apply Kd.N_alloc|apply Kd.N_drewN|apply Kd.N_drew));exact HO_6.out) hb);have n1_:=Aside0.mk (below_step (by repeat (first|(with_reducible first|exact HB.out|apply below_alloc|apply pw_below_drewN|apply below_drew1)|exact HB.out)) hb);clear HO_6;clear HB;have HO_6:=n0_;have HB:=n1_;clear n0_ n1_;(try clear hb);(try clear hb2);(try clear hk);(try clear hi))|(go_at_call 11;(with_reducible refine(payrolllaw11_sane.calls k1  t111 _ HRT.out A23.out).mono ?_);rintro e w27 ⟨rfl,hb⟩;have n0_:=Aside0.mk (Kd.N_below (by (with_reducible repeat (first|apply Kd.N_alloc|apply Kd.N_drewN|apply Kd.N_drew));exact HO_6.out) hb);have n1_:=Aside0.mk (below_step (by repeat (first|(with_reducible first|exact HB.out|apply below_alloc|apply pw_below_drewN|apply below_drew1)|exact HB.out)) hb);clear HO_6;clear HB;have HO_6:=n0_;have HB:=n1_;clear n0_ n1_;(try clear hb);(try clear hb2);(try clear hk);(try clear hi)))
            go_ret
            exact⟨by first|rfl|(simp[errW_none,errW_some] <;> rfl)|(simp[*,errW_none,errW_some] <;> rfl),by repeat (first|(with_reducible first|exact HB.out|apply below_alloc|apply pw_below_drewN|apply below_drew1)|exact HB.out)⟩
          · rw [if_neg c22] at H
            have c22b0 : (t109 == t110) = false := beq_eq_false_iff_ne.mpr c22
            have c22b1 : (t109 != t110) = true := bne_iff_ne.mpr c22
            exact absurd (H.trans (congrArg some HRT.out)) (by simp)
theorem payrolllaw11_WorktimeMinutes.opens41 : Opens Try.prog k41 41 := Opens.struct (fun a => ⟨a.1, a.2⟩) (fun _ => rfl) Try.underlying41 (by kernel_rfl) (OpensF.cons rfl (Opens.int Try.underlying3 (by kernel_rfl)) (OpensF.last rfl (Opens.int Try.underlying3 (by kernel_rfl))))
def payrolllaw11_WorktimeMinutes.Pure : Prop := ∀ (l0 : List Int) (l1 : List (S41)), l0.length ≤ maxLen → l0.length * 8 ≤ 140737488351232 → (∀ x ∈ l0, (Lit.int .i64 x).wf = true) → ∃ k, payrolllaw11_WorktimeMinutes.f k l0 l1 = some true
theorem payrolllaw11_WorktimeMinutes.walk (P : payrolllaw11_WorktimeMinutes.Pure) (a0 : Option Addr) (len0 cap0 : Nat) (z0 : List Int) (a1 : Option Addr) (cap1 : Nat) (l1 : List (S41)) (w : World) (w0 : (a0 = none ∧ len0 = 0 ∧ cap0 = 0 ∧ z0 = []) ∨ ∃ x, a0 = some x ∧ len0 ≤ cap0 ∧ cap0 ≤ maxLen ∧ z0.length = cap0 ∧ (∀ i, i < z0.length → w.cell? (x.add i) = some (.int .i64 (z0.getD i 0))) ∧ ∀ n ∈ z0, (Lit.int .i64 n).wf = true) (y0 : len0 * 8 ≤ 140737488351232) (w1 : Kd.C k41 w a1 l1.length l1) (y1 : l1.length ≤ cap1) :
    Calls Try.prog 3 #[.slice a0 len0 cap0, .slice a1 l1.length cap1] w fun e w' => e = .returned (.bool true) ∧ Below w.heap.size w w' := by
  obtain ⟨l0, rfl, hr0, hm0, hw0, hc0⟩ := ReadsInt.ofRowC w0
  obtain ⟨k, h⟩ := P l0 l1 hm0 y0 hw0
  refine(payrolllaw11_WorktimeMinutes.calls k _ _ l0 _ _ l1 true w (Kd.C_of_reads (d:=(0:Int)) (h1:=fun _=>rfl) hr0) hc0 w1 y1 rfl h).mono ?_
  rintro e w' ⟨rfl, hd⟩
  exact ⟨rfl, hd⟩
end Go.Proofs.Ythdohkabcpdpdaa.M
