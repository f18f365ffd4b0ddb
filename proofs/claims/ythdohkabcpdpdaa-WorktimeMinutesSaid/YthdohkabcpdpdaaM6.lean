import Derived.Test.YthdohkabcpdpdaaM0
import Derived.Test.YthdohkabcpdpdaaM5
namespace Go.Proofs.Ythdohkabcpdpdaa.M
open Go.RowKit Go.Proofs.YthdohkabcpdpdaaW.PrintWords Go.Proofs.YthdohkabcpdpdaaW.PrintLast Go.Proofs.YthdohkabcpdpdaaW.PrintMore
attribute [local go_sem] max2_int min2_int max_two min_two max_three min_three max_four min_four   -- for this text's walks alone
set_option linter.unusedVariables false
set_option linter.unusedSimpArgs false
def worktime_Minutes.l0 : Nat → Int → List (S41) → Int → Int → Option (Int)
  | 0, _, _, _, _ => none
  | k + 1, x3, x10, x11, x12 => if x12 < x11 then (if 0 ≤ x12 then (if x12 < (x10.length : Int) then ((worktime_valid.f ((rd_T41 x10 x12).f0) ((rd_T41 x10 x12).f1)).bind fun t107 => (if t107 = true then (worktime_Minutes.l0 k (wrap64 (x3 + (wrap64 (((rd_T41 x10 x12).f1) - ((rd_T41 x10 x12).f0))))) x10 x11 (wrap64 (x12 + 1))) else (worktime_Minutes.l0 k x3 x10 x11 (wrap64 (x12 + 1))))) else (none)) else (none)) else (some x3)
def worktime_Minutes.f (k : Nat) (l0 : List (S41)) : Option (Int) := if 0 ≤ (mn (l0.length : Int) 1024) then (if (mn (l0.length : Int) 1024) ≤ (l0.length : Int) then ((some (l0.take ((mn (l0.length : Int) 1024) : Int).toNat : List (S41))).bind fun y101 => (worktime_Minutes.l0 k 0 y101 (y101.length : Int) 0)) else (none)) else (none)
theorem worktime_Minutes.mono_l : ∀ k, (∀ y0 y1 y2 y3, LeO (worktime_Minutes.l0 k y0 y1 y2 y3) (worktime_Minutes.l0 (k + 1) y0 y1 y2 y3))
  | 0 => fun _ _ _ _ r h => by simp [worktime_Minutes.l0] at h
  | k + 1 => by
    have ih0 := worktime_Minutes.mono_l k
    · intro y0 y1 y2 y3
      unfold worktime_Minutes.l0
      repeat' first
      | (with_reducible exact ih0 _ _ _ _)
      | (with_reducible exact LeO.refl _)
      | (with_reducible exact LeO.none _)
      | (with_reducible refine LeO.ite ?_ ?_)
      | (with_reducible refine LeO.bind ?_ (fun _ => ?_))
      | exact ih0 _ _ _ _
      | exact LeO.none _
      | refine LeO.ite ?_ ?_
      | refine LeO.bind ?_ (fun _ => ?_)
theorem worktime_Minutes.mono : ∀ a0 k, LeO (worktime_Minutes.f k a0) (worktime_Minutes.f (k + 1) a0) := by
  intro a0 k
  have ih0 := worktime_Minutes.mono_l k
  unfold worktime_Minutes.f
  repeat' first
      | (with_reducible exact ih0 _ _ _ _)
      | (with_reducible exact LeO.refl _)
      | (with_reducible exact LeO.none _)
      | (with_reducible refine LeO.ite ?_ ?_)
      | (with_reducible refine LeO.bind ?_ (fun _ => ?_))
      | exact ih0 _ _ _ _
      | exact LeO.none _
      | refine LeO.ite ?_ ?_
      | refine LeO.bind ?_ (fun _ => ?_)
set_option maxHeartbeats 8000000 in
set_option maxRecDepth 100000 in
theorem worktime_Minutes.calls (k : Nat) (A0 : Option Addr) (c0 : Nat) (l0 : List (S41)) (r : Int) (w : World) (hr0 : Kd.C k41 w A0 l0.length l0) (hc0 : l0.length ≤ c0) (h : worktime_Minutes.f k l0 = some r) :
    Calls Try.prog 8 #[.slice A0 l0.length c0] w fun e w' => e = .returned (.int .i64 r) ∧ Below w.heap.size w w' := by
  have hu41 := Try.underlying41
  have HR0 := Aside0.mk hr0
  have HC0 := Aside0.mk hc0
  clear hr0 hc0
  have HB := Aside0.mk (Below.refl w.heap.size w)
  have H:(if 0≤(mn (l0.length:Int) 1024) then (if (mn (l0.length:Int) 1024)≤(l0.length:Int) then ((some (l0.take ((mn (l0.length:Int) 1024):Int).toNat:List (S41))).bind fun y101=>(worktime_Minutes.l0 k 0 y101 (y101.length:Int) 0)) else (none)) else (none)) = some r:=h
  clear h
  obtain ⟨ji2, hji2⟩ : ∃ j_ : Int, (mn (l0.length : Int) 1024) = j_ := ⟨_, rfl⟩
  replace H:(if 0≤(ji2) then (if (ji2)≤(l0.length:Int) then ((some (l0.take ((ji2):Int).toNat:List (S41))).bind fun y101=>(worktime_Minutes.l0 k 0 y101 (y101.length:Int) 0)) else (none)) else (none)) = some r:=by first|(rw[hji2] at H;exact H)|(simp only[hji2] at H ⊢;exact H)
  (try (have hji2h : ji2 ≤ 1024 := by (rw [← hji2]; unfold mn; (repeat' split) <;> omega)))
  (try (have hji2g : ji2 ≤ 64 := by omega))
  (try (have hji2l : 0 ≤ ji2 := by (rw [← hji2]; unfold mn; (repeat' split) <;> omega)))
  (try (have hji2m : 0 ≤ ji2 := by omega))
  have hji2_ : (if 1024 < (l0.length : Int) then 1024 else (l0.length : Int)) = ji2 := hji2
  by_cases c3 : 0 ≤ (ji2)
  · rw [if_pos c3] at H
    have c3b0 := eq_true c3
    have c3b1 : decide (0 ≤ (ji2)) = true := decide_eq_true c3
    clear c3
    by_cases c4 : (ji2) ≤ (l0.length : Int)
    · rw [if_pos c4] at H
      have c4b0 := eq_true c4
      have c4b1 : decide ((ji2) ≤ (l0.length : Int)) = true := decide_eq_true c4
      clear c4
      obtain ⟨y101, hy101⟩ : ∃ y_ : List (S41), y_ = (l0.take ((ji2) : Int).toNat) := ⟨_, rfl⟩
      replace H:(worktime_Minutes.l0 k 0 y101 (y101.length:Int) 0) = some r:=by first|(rw[hy101];with_reducible exact H)|(have H2_:=(Option.bind_some _ _).symm.trans H;rw[hy101];with_reducible exact H2_)|(have H2_:=(Option.bind_some _ _).symm.trans H;with_reducible exact H2_)|with_reducible exact H|(rw[hy101];exact H)|exact H
      have Ny101 := Aside0.mk hy101
      clear hy101
      have H' := Aside0.mk H
      clear H
      have q5:((ji2):Int)≤((l0.length:Int):Int):=of_decide_eq_true (by first|(with_reducible assumption)|assumption)
      obtain ⟨i05, hi05, _, hsz5, _⟩ := info_parts info41
      have hroom5 : l0.length ≤ c0 := HC0.out
      have hC5 : Kd.C k41 _ A0 l0.length l0 := HR0.out
      have hcut5:=cut_to (P:=Try.prog) 23 41 .i64 Try.underlying23 hi05 A0 l0.length c0 (ji2) (of_decide_eq_true (by first|(with_reducible assumption)|assumption)) q5 hroom5
      have hr5 := Kd.C_take (m := ((ji2) : Int).toNat) hC5 (by omega)
      have hy5 : y101.length = ((ji2) : Int).toNat := (by rw [Ny101.out, List.length_take]; omega)
      rw [← Ny101.out] at hr5
      rw [← hy5] at hcut5
      have HR104 := Aside0.mk hr5
      have HC104 := Aside0.mk (show y101.length ≤ c0 from by omega)
      clear hr5 hC5 hroom5 hi05 hsz5
      have KY5 := Aside0.mk hy5
      clear hy5
      replace q5 := eq_true q5
      go_enter Try.func8, Try.ntmps8
      go_wp2
      go_loopg [3,12] k (fun kq v3 v12 w'=>∃ (x3_1:Int) (x12_1:Int),v3 = .int .i64 x3_1∧v12 = .int .i64 x12_1∧Aside0 (worktime_Minutes.l0 kq x3_1 y101 (y101.length:Int) x12_1 = some r)∧Aside0 (kq≤k)∧Aside0 (Below w.heap.size w w'))
      case atStart=>exact⟨(0),(0),(by first|rfl|(simp;done)|(simp[*];done)),(by first|rfl|(simp;done)|(simp[*];done)),H',⟨Nat.le_refl _⟩,⟨by repeat (first|(with_reducible first|exact HB.out|apply below_alloc|apply pw_below_drewN|apply below_drew1)|exact HB.out)⟩⟩
      case round =>
        clear H'
        try clear p2
        try clear c3
        try clear c3b0
        try clear c3b1
        try clear c4
        try clear c4b0
        try clear c4b1
        try clear q5
        try clear q5
        obtain ⟨x3_1, x12_1, rfl, rfl, HA, HK1, HB⟩ := hrel
        cases gk with
        | zero => exact absurd HA.out (by simp [worktime_Minutes.l0])
        | succ k1 =>
          have H := HA.out
          clear HA
          simp only [worktime_Minutes.l0] at H
          by_cases c6 : x12_1 < (y101.length : Int)
          · rw [if_pos c6] at H
            have c6b0 : decide (x12_1 < (y101.length : Int)) = true := decide_eq_true c6
            clear c6
            by_cases c7 : 0 ≤ x12_1
            · rw [if_pos c7] at H
              have c7b0 : decide (0 ≤ x12_1) = true := decide_eq_true c7
              clear c7
              by_cases c8 : x12_1 < (y101.length : Int)
              · rw [if_pos c8] at H
                have c8b0 : decide (x12_1 < (y101.length : Int)) = true := decide_eq_true c8
                clear c8
                replace H := Option.bind_eq_some_iff.mp H
                obtain ⟨t107, A90, H⟩ := H
                replace H:(if t107 = true then (worktime_Minutes.l0 k1 (wrap64 (x3_1 + (wrap64 (((rd_T41 y101 x12_1).f1) - ((rd_T41 y101 x12_1).f0))))) y101 (y101.length:Int) (wrap64 (x12_1 + 1))) else (worktime_Minutes.l0 k1 x3_1 y101 (y101.length:Int) (wrap64 (x12_1 + 1)))) = some r:=H
                have A9 := Aside0.mk A90
                clear A90
                by_cases c10 : t107 = true
                · subst c10
                  have H1:(worktime_Minutes.l0 k1 (wrap64 (x3_1 + (wrap64 (((rd_T41 y101 x12_1).f1) - ((rd_T41 y101 x12_1).f0))))) y101 (y101.length:Int) (wrap64 (x12_1 + 1))) = some r:=by rw[if_pos rfl] at H;exact H
                  clear H
                  have H := H1
                  clear H1
                  have H' := Aside0.mk H
                  clear H
                  have p105:0≤(x12_1:Int):=of_decide_eq_true (by first|(with_reducible assumption)|assumption)
                  have q105:x12_1 < (y101.length:Int):=of_decide_eq_true (by first|(with_reducible assumption)|assumption)
                  obtain ⟨ad105, e105, hx105_0, hx105_1⟩ := at_T41 HR104.out x12_1 p105 q105
                  cases e105
                  replace hx105_0 := (HB.out.cell (World.block_lt_of_cell? w _ hx105_0)).trans hx105_0
                  replace hx105_1 := (HB.out.cell (World.block_lt_of_cell? w _ hx105_1)).trans hx105_1
                  replace p105 := eq_true p105
                  replace q105 := eq_true q105
                  go_wp2_with (first|((with_reducible refine gate_dst (N:=5) rfl ?_);refine box_event ?hg (N:=5) ?hd (cs:=#[.int .i64 0,.int .i64 0]) (t:=41) ?hr ?_;(case hd=>rfl);(case hg=>rfl);(case hr=>first|(go_simp;done)|(go_simp;rfl));intro gb106 hg w11 hbox hb;have n0_:=Aside0.mk (below_step (by repeat (first|(with_reducible first|exact HB.out|apply below_alloc|apply pw_below_drewN|apply below_drew1)|exact HB.out)) hb);have n1_:=Aside0.mk (hbox);have n2_:=Aside0.mk ((by rw[hg];exact(below_size (by repeat (first|(with_reducible first|exact HB.out|apply below_alloc|apply pw_below_drewN|apply below_drew1)|exact HB.out))):w.heap.size≤gb106));have n3_:=Aside0.mk ((by rw[hg];exact(below_size (by repeat (first|(with_reducible first|exact HB.out|apply below_alloc|apply pw_below_drewN|apply below_drew1)|exact HB.out))):w.heap.size≤gb106));clear HB;have HB:=n0_;have BK106:=n1_;have GW106:=n2_;have GE106:=n3_;clear n0_ n1_ n2_ n3_;clear hb hbox hg;have hcz12_0:w11.cell? ⟨gb106,0,none⟩ = some (.int .i64 0):=(blk_cell BK106.out 0).trans rfl;have hcz12_1:w11.cell? ⟨gb106,1,none⟩ = some (.int .i64 0):=(blk_cell BK106.out 1).trans rfl;have hfz12_0:=blk_frozen BK106.out 0;have hfz12_1:=blk_frozen BK106.out 1)|((with_reducible refine gate_callee (f:=19) rfl ?_);refine goesL_ (some 17) rfl rfl Try.func19 (by kernel_rfl) rfl #[.agg #[.int .i64 ((rd_T41 y101 x12_1).f0),.int .i64 ((rd_T41 y101 x12_1).f1)]] rfl (by (try simp only[List.map_toArray,List.map_cons,List.map_nil]);first|done|rfl|(simp only[List.length_drop,List.length_take];rfl)) ?_;(with_reducible refine(worktime_valid.calls ((rd_T41 y101 x12_1).f0) ((rd_T41 y101 x12_1).f1) true _ A9.out).mono ?_);rintro e w13 ⟨rfl,hb⟩;refine⟨_,rfl,?_⟩;have n0_:=Aside0.mk (blk_below (g:=gb106) (o:=.cells #[.int .i64 ((rd_T41 y101 x12_1).f0),.int .i64 ((rd_T41 y101 x12_1).f1)] 41 (0,0)) (by (with_reducible repeat (first|refine blk_drewN ?_ _|refine blk_drew ?_|refine blk_alloc ?_ _));refine blk_put (cs:=#[.int .i64 ((rd_T41 y101 x12_1).f0),.int .i64 0]) ?_ 1 _ rfl;(with_reducible repeat (first|refine blk_drewN ?_ _|refine blk_drew ?_|refine blk_alloc ?_ _));refine blk_put (cs:=#[.int .i64 0,.int .i64 0]) ?_ 0 _ rfl;(with_reducible repeat (first|refine blk_drewN ?_ _|refine blk_drew ?_|refine blk_alloc ?_ _));exact BK106.out) hb);have n1_:=Aside0.mk (below_step (by repeat (first|(with_reducible first|exact HB.out|apply below_alloc|apply pw_below_drewN|apply below_drew1|refine below_set ?_ GE106.out)|exact HB.out)) hb);clear BK106;clear HB;have BK106:=n0_;have HB:=n1_;clear n0_ n1_;(try clear hb);(try clear hb2);(try clear hk);(try clear hi);have hcz14_0:w13.cell? ⟨gb106,0,none⟩ = some (.int .i64 ((rd_T41 y101 x12_1).f0)):=(blk_cell BK106.out 0).trans rfl;have hcz14_1:w13.cell? ⟨gb106,1,none⟩ = some (.int .i64 ((rd_T41 y101 x12_1).f1)):=(blk_cell BK106.out 1).trans rfl;have hfz14_0:=blk_frozen BK106.out 0;have hfz14_1:=blk_frozen BK106.out 1))
                  go_roundg k1
                  case measure => have := HK1.out; omega
                  case rel=>exact⟨(wrap64 (x3_1 + (wrap64 (((rd_T41 y101 x12_1).f1) - ((rd_T41 y101 x12_1).f0))))),(wrap64 (x12_1 + 1)),(by first|rfl|(simp;done)|(simp[*];done)),(by first|rfl|(simp;done)|(simp[*];done)),H',⟨by have:=HK1.out;omega⟩,⟨by repeat (first|(with_reducible first|exact HB.out|apply below_alloc|apply pw_below_drewN|apply below_drew1|refine below_set ?_ GE106.out)|exact HB.out)⟩⟩
                · replace c10 := Bool.eq_false_iff.mpr c10
                  subst c10
                  have H1:(worktime_Minutes.l0 k1 x3_1 y101 (y101.length:Int) (wrap64 (x12_1 + 1))) = some r:=by rw[if_neg (show ¬ (false = true) by decide)] at H;exact H
                  clear H
                  have H := H1
                  clear H1
                  have H' := Aside0.mk H
                  clear H
                  have p105:0≤(x12_1:Int):=of_decide_eq_true (by first|(with_reducible assumption)|assumption)
                  have q105:x12_1 < (y101.length:Int):=of_decide_eq_true (by first|(with_reducible assumption)|assumption)
                  obtain ⟨ad105, e105, hx105_0, hx105_1⟩ := at_T41 HR104.out x12_1 p105 q105
                  cases e105
                  replace hx105_0 := (HB.out.cell (World.block_lt_of_cell? w _ hx105_0)).trans hx105_0
                  replace hx105_1 := (HB.out.cell (World.block_lt_of_cell? w _ hx105_1)).trans hx105_1
                  replace p105 := eq_true p105
                  replace q105 := eq_true q105
                  go_wp2_with (first|((with_reducible refine gate_dst (N:=5) rfl ?_);refine box_event ?hg (N:=5) ?hd (cs:=#[.int .i64 0,.int .i64 0]) (t:=41) ?hr ?_;(case hd=>rfl);(case hg=>rfl);(case hr=>first|(go_simp;done)|(go_simp;rfl));intro gb106 hg w15 hbox hb;have n0_:=Aside0.mk (below_step (by repeat (first|(with_reducible first|exact HB.out|apply below_alloc|apply pw_below_drewN|apply below_drew1)|exact HB.out)) hb);have n1_:=Aside0.mk (hbox);have n2_:=Aside0.mk ((by rw[hg];exact(below_size (by repeat (first|(with_reducible first|exact HB.out|apply below_alloc|apply pw_below_drewN|apply below_drew1)|exact HB.out))):w.heap.size≤gb106));have n3_:=Aside0.mk ((by rw[hg];exact(below_size (by repeat (first|(with_reducible first|exact HB.out|apply below_alloc|apply pw_below_drewN|apply below_drew1)|exact HB.out))):w.heap.size≤gb106));clear HB;have HB:=n0_;have BK106:=n1_;have GW106:=n2_;have GE106:=n3_;clear n0_ n1_ n2_ n3_;clear hb hbox hg;have hcz16_0:w15.cell? ⟨gb106,0,none⟩ = some (.int .i64 0):=(blk_cell BK106.out 0).trans rfl;have hcz16_1:w15.cell? ⟨gb106,1,none⟩ = some (.int .i64 0):=(blk_cell BK106.out 1).trans rfl;have hfz16_0:=blk_frozen BK106.out 0;have hfz16_1:=blk_frozen BK106.out 1)|((with_reducible refine gate_callee (f:=19) rfl ?_);refine goesL_ (some 17) rfl rfl Try.func19 (by kernel_rfl) rfl #[.agg #[.int .i64 ((rd_T41 y101 x12_1).f0),.int .i64 ((rd_T41 y101 x12_1).f1)]] rfl (by (try simp only[List.map_toArray,List.map_cons,List.map_nil]);first|done|rfl|(simp only[List.length_drop,List.length_take];rfl)) ?_;(with_reducible refine(worktime_valid.calls ((rd_T41 y101 x12_1).f0) ((rd_T41 y101 x12_1).f1) false _ A9.out).mono ?_);rintro e w17 ⟨rfl,hb⟩;refine⟨_,rfl,?_⟩;have n0_:=Aside0.mk (blk_below (g:=gb106) (o:=.cells #[.int .i64 ((rd_T41 y101 x12_1).f0),.int .i64 ((rd_T41 y101 x12_1).f1)] 41 (0,0)) (by (with_reducible repeat (first|refine blk_drewN ?_ _|refine blk_drew ?_|refine blk_alloc ?_ _));refine blk_put (cs:=#[.int .i64 ((rd_T41 y101 x12_1).f0),.int .i64 0]) ?_ 1 _ rfl;(with_reducible repeat (first|refine blk_drewN ?_ _|refine blk_drew ?_|refine blk_alloc ?_ _));refine blk_put (cs:=#[.int .i64 0,.int .i64 0]) ?_ 0 _ rfl;(with_reducible repeat (first|refine blk_drewN ?_ _|refine blk_drew ?_|refine blk_alloc ?_ _));exact BK106.out) hb);have n1_:=Aside0.mk (below_step (by repeat (first|(with_reducible first|exact HB.out|apply below_alloc|apply pw_below_drewN|apply below_drew1|refine below_set ?_ GE106.out)|exact HB.out)) hb);clear BK106;clear HB;have BK106:=n0_;have HB:=n1_;clear n0_ n1_;(try clear hb);(try clear hb2);(try clear hk);(try clear hi)))
                  go_roundg k1
                  case measure => have := HK1.out; omega
                  case rel=>exact⟨(x3_1),(wrap64 (x12_1 + 1)),(by first|rfl|(simp;done)|(simp[*];done)),(by first|rfl|(simp;done)|(simp[*];done)),H',⟨by have:=HK1.out;omega⟩,⟨by repeat (first|(with_reducible first|exact HB.out|apply below_alloc|apply pw_below_drewN|apply below_drew1|refine below_set ?_ GE106.out)|exact HB.out)⟩⟩
              · rw [if_neg c8] at H
                exact absurd H (by simp)
            · rw [if_neg c7] at H
              exact absurd H (by simp)
          · rw [if_neg c6] at H
            have c6b0 : decide (x12_1 < (y101.length : Int)) = false := decide_eq_false c6
            clear c6
            obtain rfl := Option.some.inj H
            go_wp2
            go_ret
            exact⟨by first|rfl|(simp[errW_none,errW_some] <;> rfl)|(simp only[← hji2];first|rfl|(simp[errW_none,errW_some] <;> rfl))|(simp[*,errW_none,errW_some] <;> rfl),by repeat (first|(with_reducible first|exact HB.out|apply below_alloc|apply pw_below_drewN|apply below_drew1)|exact HB.out)⟩
    · rw [if_neg c4] at H
      exact absurd H (by simp)
  · rw [if_neg c3] at H
    exact absurd H (by simp)
def payrollref9_IsInterval.f (a0_0 : Int) (a0_1 : Int) : Option (Bool) := if a0_0 ≥ 0 then (if a0_0 < a0_1 then (some (decide (a0_1 ≤ 120968640))) else (some false)) else (some false)
set_option maxHeartbeats 8000000 in
set_option maxRecDepth 100000 in
theorem payrollref9_IsInterval.calls (a0_0 : Int) (a0_1 : Int) (r : Bool) (w : World) (h : payrollref9_IsInterval.f a0_0 a0_1 = some r) :
    Calls Try.prog 20 #[.agg #[.int .i64 a0_0, .int .i64 a0_1]] w fun e w' => e = .returned (.bool r) ∧ Below w.heap.size w w' := by
  have hu41 := Try.underlying41
  have HB := Aside0.mk (Below.refl w.heap.size w)
  have H:(if a0_0 ≥ 0 then (if a0_0 < a0_1 then (some (decide (a0_1≤120968640))) else (some false)) else (some false)) = some r:=h
  clear h
  by_cases c2 : a0_0 ≥ 0
  · rw [if_pos c2] at H
    have c2b0 : decide (0 ≤ a0_0) = true := decide_eq_true c2
    clear c2
    by_cases c3 : a0_0 < a0_1
    · rw [if_pos c3] at H
      have c3b0 : decide (a0_0 < a0_1) = true := decide_eq_true c3
      clear c3
      obtain rfl := Option.some.inj H
      go_enter Try.func20, Try.ntmps20
      go_wp2_with (first|((with_reducible refine gate_dst (N:=1) rfl ?_);refine box_event ?hg (N:=1) ?hd (cs:=#[.int .i64 a0_0,.int .i64 a0_1]) (t:=41) ?hr ?_;(case hd=>rfl);(case hg=>rfl);(case hr=>first|(go_simp;done)|(go_simp;rfl));intro gb101 hg w4 hbox hb;have n0_:=Aside0.mk (below_step (by repeat (first|(with_reducible first|exact HB.out|apply below_alloc|apply pw_below_drewN|apply below_drew1)|exact HB.out)) hb);have n1_:=Aside0.mk (hbox);have n2_:=Aside0.mk ((by rw[hg];exact(below_size (by repeat (first|(with_reducible first|exact HB.out|apply below_alloc|apply pw_below_drewN|apply below_drew1)|exact HB.out))):w.heap.size≤gb101));have n3_:=Aside0.mk ((by rw[hg];exact(below_size (by repeat (first|(with_reducible first|exact HB.out|apply below_alloc|apply pw_below_drewN|apply below_drew1)|exact HB.out))):w.heap.size≤gb101));clear HB;have HB:=n0_;have BK101:=n1_;have GW101:=n2_;have GE101:=n3_;clear n0_ n1_ n2_ n3_;clear hb hbox hg;have hcz5_0:w4.cell? ⟨gb101,0,none⟩ = some (.int .i64 a0_0):=(blk_cell BK101.out 0).trans rfl;have hcz5_1:w4.cell? ⟨gb101,1,none⟩ = some (.int .i64 a0_1):=(blk_cell BK101.out 1).trans rfl;have hfz5_0:=blk_frozen BK101.out 0;have hfz5_1:=blk_frozen BK101.out 1))
      go_ret
      exact⟨by first|rfl|(simp[errW_none,errW_some] <;> rfl)|(simp[*,errW_none,errW_some] <;> rfl),by repeat (first|(with_reducible first|exact HB.out|apply below_alloc|apply pw_below_drewN|apply below_drew1|refine below_set ?_ GE101.out)|exact HB.out)⟩
    · rw [if_neg c3] at H
      have c3b0 : decide (a0_0 < a0_1) = false := decide_eq_false c3
      clear c3
      obtain rfl := Option.some.inj H
      go_enter Try.func20, Try.ntmps20
      go_wp2_with (first|((with_reducible refine gate_dst (N:=1) rfl ?_);refine box_event ?hg (N:=1) ?hd (cs:=#[.int .i64 a0_0,.int .i64 a0_1]) (t:=41) ?hr ?_;(case hd=>rfl);(case hg=>rfl);(case hr=>first|(go_simp;done)|(go_simp;rfl));intro gb101 hg w6 hbox hb;have n0_:=Aside0.mk (below_step (by repeat (first|(with_reducible first|exact HB.out|apply below_alloc|apply pw_below_drewN|apply below_drew1)|exact HB.out)) hb);have n1_:=Aside0.mk (hbox);have n2_:=Aside0.mk ((by rw[hg];exact(below_size (by repeat (first|(with_reducible first|exact HB.out|apply below_alloc|apply pw_below_drewN|apply below_drew1)|exact HB.out))):w.heap.size≤gb101));have n3_:=Aside0.mk ((by rw[hg];exact(below_size (by repeat (first|(with_reducible first|exact HB.out|apply below_alloc|apply pw_below_drewN|apply below_drew1)|exact HB.out))):w.heap.size≤gb101));clear HB;have HB:=n0_;have BK101:=n1_;have GW101:=n2_;have GE101:=n3_;clear n0_ n1_ n2_ n3_;clear hb hbox hg;have hcz7_0:w6.cell? ⟨gb101,0,none⟩ = some (.int .i64 a0_0):=(blk_cell BK101.out 0).trans rfl;have hcz7_1:w6.cell? ⟨gb101,1,none⟩ = some (.int .i64 a0_1):=(blk_cell BK101.out 1).trans rfl;have hfz7_0:=blk_frozen BK101.out 0;have hfz7_1:=blk_frozen BK101.out 1))
      go_ret
      exact⟨by first|rfl|(simp[errW_none,errW_some] <;> rfl)|(simp[*,errW_none,errW_some] <;> rfl),by repeat (first|(with_reducible first|exact HB.out|apply below_alloc|apply pw_below_drewN|apply below_drew1|refine below_set ?_ GE101.out)|exact HB.out)⟩
  · rw [if_neg c2] at H
    have c2b0 : decide (0 ≤ a0_0) = false := decide_eq_false c2
    clear c2
    obtain rfl := Option.some.inj H
    go_enter Try.func20, Try.ntmps20
    go_wp2_with (first|((with_reducible refine gate_dst (N:=1) rfl ?_);refine box_event ?hg (N:=1) ?hd (cs:=#[.int .i64 a0_0,.int .i64 a0_1]) (t:=41) ?hr ?_;(case hd=>rfl);(case hg=>rfl);(case hr=>first|(go_simp;done)|(go_simp;rfl));intro gb101 hg w8 hbox hb;have n0_:=Aside0.mk (below_step (by repeat (first|(with_reducible first|exact HB.out|apply below_alloc|apply pw_below_drewN|apply below_drew1)|exact HB.out)) hb);have n1_:=Aside0.mk (hbox);have n2_:=Aside0.mk ((by rw[hg];exact(below_size (by repeat (first|(with_reducible first|exact HB.out|apply below_alloc|apply pw_below_drewN|apply below_drew1)|exact HB.out))):w.heap.size≤gb101));have n3_:=Aside0.mk ((by rw[hg];exact(below_size (by repeat (first|(with_reducible first|exact HB.out|apply below_alloc|apply pw_below_drewN|apply below_drew1)|exact HB.out))):w.heap.size≤gb101));clear HB;have HB:=n0_;have BK101:=n1_;have GW101:=n2_;have GE101:=n3_;clear n0_ n1_ n2_ n3_;clear hb hbox hg;have hcz9_0:w8.cell? ⟨gb101,0,none⟩ = some (.int .i64 a0_0):=(blk_cell BK101.out 0).trans rfl;have hcz9_1:w8.cell? ⟨gb101,1,none⟩ = some (.int .i64 a0_1):=(blk_cell BK101.out 1).trans rfl;have hfz9_0:=blk_frozen BK101.out 0;have hfz9_1:=blk_frozen BK101.out 1))
    go_ret
    exact⟨by first|rfl|(simp[errW_none,errW_some] <;> rfl)|(simp[*,errW_none,errW_some] <;> rfl),by repeat (first|(with_reducible first|exact HB.out|apply below_alloc|apply pw_below_drewN|apply below_drew1|refine below_set ?_ GE101.out)|exact HB.out)⟩
def payrollgen_Minutes.l0 : Nat → List (S41) → Int → Int → Option (Int)
  | 0, _, _, _ => none
  | k + 1, x0, x3, x4 => if x4 < (x0.length : Int) then (if 0 ≤ x4 then ((payrollref9_IsInterval.f ((rd_T41 x0 x4).f0) ((rd_T41 x0 x4).f1)).bind fun t102 => (if t102 = true then (payrollgen_Minutes.l0 k x0 (wrap64 (x3 + (wrap64 (((rd_T41 x0 x4).f1) - ((rd_T41 x0 x4).f0))))) (wrap64 (x4 + 1))) else (payrollgen_Minutes.l0 k x0 x3 (wrap64 (x4 + 1))))) else (none)) else (some x3)
def payrollgen_Minutes.f (k : Nat) (l0 : List (S41)) : Option (Int) := payrollgen_Minutes.l0 k l0 0 0
theorem payrollgen_Minutes.mono_l : ∀ k, (∀ y0 y1 y2, LeO (payrollgen_Minutes.l0 k y0 y1 y2) (payrollgen_Minutes.l0 (k + 1) y0 y1 y2))
  | 0 => fun _ _ _ r h => by simp [payrollgen_Minutes.l0] at h
  | k + 1 => by
    have ih0 := payrollgen_Minutes.mono_l k
    · intro y0 y1 y2
      unfold payrollgen_Minutes.l0
      repeat' first
      | (with_reducible exact ih0 _ _ _)
      | (with_reducible exact LeO.refl _)
      | (with_reducible exact LeO.none _)
      | (with_reducible refine LeO.ite ?_ ?_)
      | (with_reducible refine LeO.bind ?_ (fun _ => ?_))
      | exact ih0 _ _ _
      | exact LeO.none _
      | refine LeO.ite ?_ ?_
      | refine LeO.bind ?_ (fun _ => ?_)
theorem payrollgen_Minutes.mono : ∀ a0 k, LeO (payrollgen_Minutes.f k a0) (payrollgen_Minutes.f (k + 1) a0) := by
  intro a0 k
  have ih0 := payrollgen_Minutes.mono_l k
  unfold payrollgen_Minutes.f
  repeat' first
      | (with_reducible exact ih0 _ _ _)
      | (with_reducible exact LeO.refl _)
      | (with_reducible exact LeO.none _)
      | (with_reducible refine LeO.ite ?_ ?_)
      | (with_reducible refine LeO.bind ?_ (fun _ => ?_))
      | exact ih0 _ _ _
      | exact LeO.none _
      | refine LeO.ite ?_ ?_
      | refine LeO.bind ?_ (fun _ => ?_)
set_option maxHeartbeats 8000000 in
set_option maxRecDepth 100000 in
theorem payrollgen_Minutes.calls (k : Nat) (A0 : Option Addr) (c0 : Nat) (l0 : List (S41)) (r : Int) (w : World) (hr0 : Kd.C k41 w A0 l0.length l0) (hc0 : l0.length ≤ c0) (h : payrollgen_Minutes.f k l0 = some r) :
    Calls Try.prog 9 #[.slice A0 l0.length c0] w fun e w' => e = .returned (.int .i64 r) ∧ Below w.heap.size w w' := by
  have hu41 := Try.underlying41
  have HR0 := Aside0.mk hr0
  have HC0 := Aside0.mk hc0
  clear hr0 hc0
  have HB := Aside0.mk (Below.refl w.heap.size w)
  have H : (payrollgen_Minutes.l0 k l0 0 0) = some r := h
  clear h
  have H' := Aside0.mk H
  clear H
  go_enter Try.func9, Try.ntmps9
  go_wp2
  repeat (go_quiet (fail); try go_wp2)
  go_loopg [3,4] k (fun kq v3 v4 w'=>∃ (x3_1:Int) (x4_1:Int),v3 = .int .i64 x3_1∧v4 = .int .i64 x4_1∧Aside0 (payrollgen_Minutes.l0 kq l0 x3_1 x4_1 = some r)∧Aside0 (kq≤k)∧Aside0 (Below w.heap.size w w'))
  case atStart=>exact⟨(0),(0),(by first|rfl|(simp;done)|(simp[*];done)),(by first|rfl|(simp;done)|(simp[*];done)),H',⟨Nat.le_refl _⟩,⟨by repeat (first|(with_reducible first|exact HB.out|apply below_alloc|apply pw_below_drewN|apply below_drew1)|exact HB.out)⟩⟩
  case round =>
    clear H'
    obtain ⟨x3_1, x4_1, rfl, rfl, HA, HK1, HB⟩ := hrel
    cases gk with
    | zero => exact absurd HA.out (by simp [payrollgen_Minutes.l0])
    | succ k1 =>
      have H := HA.out
      clear HA
      simp only [payrollgen_Minutes.l0] at H
      by_cases c2 : x4_1 < (l0.length : Int)
      · rw [if_pos c2] at H
        have c2b0 : decide (x4_1 < (l0.length : Int)) = true := decide_eq_true c2
        clear c2
        by_cases c3 : 0 ≤ x4_1
        · rw [if_pos c3] at H
          have c3b0 : decide (0 ≤ x4_1) = true := decide_eq_true c3
          clear c3
          replace H := Option.bind_eq_some_iff.mp H
          obtain ⟨t102, A40, H⟩ := H
          replace H:(if t102 = true then (payrollgen_Minutes.l0 k1 l0 (wrap64 (x3_1 + (wrap64 (((rd_T41 l0 x4_1).f1) - ((rd_T41 l0 x4_1).f0))))) (wrap64 (x4_1 + 1))) else (payrollgen_Minutes.l0 k1 l0 x3_1 (wrap64 (x4_1 + 1)))) = some r:=H
          have A4 := Aside0.mk A40
          clear A40
          by_cases c5 : t102 = true
          · subst c5
            have H1:(payrollgen_Minutes.l0 k1 l0 (wrap64 (x3_1 + (wrap64 (((rd_T41 l0 x4_1).f1) - ((rd_T41 l0 x4_1).f0))))) (wrap64 (x4_1 + 1))) = some r:=by rw[if_pos rfl] at H;exact H
            clear H
            have H := H1
            clear H1
            have H' := Aside0.mk H
            clear H
            have p101 : 0 ≤ (x4_1 : Int) := of_decide_eq_true (by first | (with_reducible assumption) | assumption)
            have q101:x4_1 < (l0.length:Int):=of_decide_eq_true (by first|(with_reducible assumption)|assumption)
            obtain ⟨ad101, e101, hx101_0, hx101_1⟩ := at_T41 HR0.out x4_1 p101 q101
            cases e101
            replace hx101_0 := (HB.out.cell (World.block_lt_of_cell? w _ hx101_0)).trans hx101_0
            replace hx101_1 := (HB.out.cell (World.block_lt_of_cell? w _ hx101_1)).trans hx101_1
            replace p101 := eq_true p101
            replace q101 := eq_true q101
            go_wp2_with (first|(go_at_call 20;(with_reducible refine(payrollref9_IsInterval.calls ((rd_T41 l0 x4_1).f0) ((rd_T41 l0 x4_1).f1) true _ A4.out).mono ?_);rintro e w6 ⟨rfl,hb⟩;have n0_:=Aside0.mk (below_step (by repeat (first|(with_reducible first|exact HB.out|apply below_alloc|apply pw_below_drewN|apply below_drew1)|exact HB.out)) hb);clear HB;have HB:=n0_;clear n0_;(try clear hb);(try clear hb2);(try clear hk);(try clear hi);have p103:0≤(x4_1:Int):=of_decide_eq_true (by first|(with_reducible assumption)|assumption);have q103:x4_1 < (l0.length:Int):=of_decide_eq_true (by first|(with_reducible assumption)|assumption);obtain ⟨ad103,e103,hx103_0,hx103_1⟩:=at_T41 HR0.out x4_1 p103 q103;obtain rfl:ad101 = ad103:=(by injection e103);replace hx103_0:=(HB.out.cell (World.block_lt_of_cell? w _ hx103_0)).trans hx103_0;replace hx103_1:=(HB.out.cell (World.block_lt_of_cell? w _ hx103_1)).trans hx103_1;replace p103:=eq_true p103;replace q103:=eq_true q103;have p104:0≤(x4_1:Int):=of_decide_eq_true (by first|(with_reducible assumption)|assumption);have q104:x4_1 < (l0.length:Int):=of_decide_eq_true (by first|(with_reducible assumption)|assumption);obtain ⟨ad104,e104,hx104_0,hx104_1⟩:=at_T41 HR0.out x4_1 p104 q104;obtain rfl:ad101 = ad104:=(by injection e104);replace hx104_0:=(HB.out.cell (World.block_lt_of_cell? w _ hx104_0)).trans hx104_0;replace hx104_1:=(HB.out.cell (World.block_lt_of_cell? w _ hx104_1)).trans hx104_1;replace p104:=eq_true p104;replace q104:=eq_true q104))
            repeat (go_quiet (first|(go_at_call 20;(with_reducible refine(payrollref9_IsInterval.calls ((rd_T41 l0 x4_1).f0) ((rd_T41 l0 x4_1).f1) true _ A4.out).mono ?_);rintro e w6 ⟨rfl,hb⟩;have n0_:=Aside0.mk (below_step (by repeat (first|(with_reducible first|exact HB.out|apply below_alloc|apply pw_below_drewN|apply below_drew1)|exact HB.out)) hb);clear HB;have HB:=n0_;clear n0_;(try clear hb);(try clear hb2);(try clear hk);(try clear hi);have p103:0≤(x4_1:Int):=of_decide_eq_true (by first|(with_reducible assumption)|assumption);have q103:x4_1 < (l0.length:Int):=of_decide_eq_true (by first|(with_reducible assumption)|assumption);obtain ⟨ad103,e103,hx103_0,hx103_1⟩:=at_T41 HR0.out x4_1 p103 q103;obtain rfl:ad101 = ad103:=(by injection e103);replace hx103_0:=(HB.out.cell (World.block_lt_of_cell? w _ hx103_0)).trans hx103_0;replace hx103_1:=(HB.out.cell (World.block_lt_of_cell? w _ hx103_1)).trans hx103_1;replace p103:=eq_true p103;replace q103:=eq_true q103;have p104:0≤(x4_1:Int):=of_decide_eq_true (by first|(with_reducible assumption)|assumption);have q104:x4_1 < (l0.length:Int):=of_decide_eq_true (by first|(with_reducible assumption)|assumption);obtain ⟨ad104,e104,hx104_0,hx104_1⟩:=at_T41 HR0.out x4_1 p104 q104;obtain rfl:ad101 = ad104:=(by injection e104);replace hx104_0:=(HB.out.cell (World.block_lt_of_cell? w _ hx104_0)).trans hx104_0;replace hx104_1:=(HB.out.cell (World.block_lt_of_cell? w _ hx104_1)).trans hx104_1;replace p104:=eq_true p104;replace q104:=eq_true q104));try go_wp2_with (first|(go_at_call 20;(with_reducible refine(payrollref9_IsInterval.calls ((rd_T41 l0 x4_1).f0) ((rd_T41 l0 x4_1).f1) true _ A4.out).mono ?_);rintro e w6 ⟨rfl,hb⟩;have n0_:=Aside0.mk (below_step (by repeat (first|(with_reducible first|exact HB.out|apply below_alloc|apply pw_below_drewN|apply below_drew1)|exact HB.out)) hb);clear HB;have HB:=n0_;clear n0_;(try clear hb);(try clear hb2);(try clear hk);(try clear hi);have p103:0≤(x4_1:Int):=of_decide_eq_true (by first|(with_reducible assumption)|assumption);have q103:x4_1 < (l0.length:Int):=of_decide_eq_true (by first|(with_reducible assumption)|assumption);obtain ⟨ad103,e103,hx103_0,hx103_1⟩:=at_T41 HR0.out x4_1 p103 q103;obtain rfl:ad101 = ad103:=(by injection e103);replace hx103_0:=(HB.out.cell (World.block_lt_of_cell? w _ hx103_0)).trans hx103_0;replace hx103_1:=(HB.out.cell (World.block_lt_of_cell? w _ hx103_1)).trans hx103_1;replace p103:=eq_true p103;replace q103:=eq_true q103;have p104:0≤(x4_1:Int):=of_decide_eq_true (by first|(with_reducible assumption)|assumption);have q104:x4_1 < (l0.length:Int):=of_decide_eq_true (by first|(with_reducible assumption)|assumption);obtain ⟨ad104,e104,hx104_0,hx104_1⟩:=at_T41 HR0.out x4_1 p104 q104;obtain rfl:ad101 = ad104:=(by injection e104);replace hx104_0:=(HB.out.cell (World.block_lt_of_cell? w _ hx104_0)).trans hx104_0;replace hx104_1:=(HB.out.cell (World.block_lt_of_cell? w _ hx104_1)).trans hx104_1;replace p104:=eq_true p104;replace q104:=eq_true q104)))
            go_roundg k1
            case measure => have := HK1.out; omega
            case rel=>exact⟨(wrap64 (x3_1 + (wrap64 (((rd_T41 l0 x4_1).f1) - ((rd_T41 l0 x4_1).f0))))),(wrap64 (x4_1 + 1)),(by first|rfl|(simp;done)|(simp[*];done)),(by first|rfl|(simp;done)|(simp[*];done)),H',⟨by have:=HK1.out;omega⟩,⟨by repeat (first|(with_reducible first|exact HB.out|apply below_alloc|apply pw_below_drewN|apply below_drew1)|exact HB.out)⟩⟩
          · replace c5 := Bool.eq_false_iff.mpr c5
            subst c5
            have H1:(payrollgen_Minutes.l0 k1 l0 x3_1 (wrap64 (x4_1 + 1))) = some r:=by rw[if_neg (show ¬ (false = true) by decide)] at H;exact H
            clear H
            have H := H1
            clear H1
            have H' := Aside0.mk H
            clear H
            have p101 : 0 ≤ (x4_1 : Int) := of_decide_eq_true (by first | (with_reducible assumption) | assumption)
            have q101:x4_1 < (l0.length:Int):=of_decide_eq_true (by first|(with_reducible assumption)|assumption)
            obtain ⟨ad101, e101, hx101_0, hx101_1⟩ := at_T41 HR0.out x4_1 p101 q101
            cases e101
            replace hx101_0 := (HB.out.cell (World.block_lt_of_cell? w _ hx101_0)).trans hx101_0
            replace hx101_1 := (HB.out.cell (World.block_lt_of_cell? w _ hx101_1)).trans hx101_1
            replace p101 := eq_true p101
            replace q101 := eq_true q101
            go_wp2_with (first|(go_at_call 20;(with_reducible refine(payrollref9_IsInterval.calls ((rd_T41 l0 x4_1).f0) ((rd_T41 l0 x4_1).f1) false _ A4.out).mono ?_);rintro e w7 ⟨rfl,hb⟩;have n0_:=Aside0.mk (below_step (by repeat (first|(with_reducible first|exact HB.out|apply below_alloc|apply pw_below_drewN|apply below_drew1)|exact HB.out)) hb);clear HB;have HB:=n0_;clear n0_;(try clear hb);(try clear hb2);(try clear hk);(try clear hi)))
            repeat (go_quiet (first|(go_at_call 20;(with_reducible refine(payrollref9_IsInterval.calls ((rd_T41 l0 x4_1).f0) ((rd_T41 l0 x4_1).f1) false _ A4.out).mono ?_);rintro e w7 ⟨rfl,hb⟩;have n0_:=Aside0.mk (below_step (by repeat (first|(with_reducible first|exact HB.out|apply below_alloc|apply pw_below_drewN|apply below_drew1)|exact HB.out)) hb);clear HB;have HB:=n0_;clear n0_;(try clear hb);(try clear hb2);(try clear hk);(try clear hi)));try go_wp2_with (first|(go_at_call 20;(with_reducible refine(payrollref9_IsInterval.calls ((rd_T41 l0 x4_1).f0) ((rd_T41 l0 x4_1).f1) false _ A4.out).mono ?_);rintro e w7 ⟨rfl,hb⟩;have n0_:=Aside0.mk (below_step (by repeat (first|(with_reducible first|exact HB.out|apply below_alloc|apply pw_below_drewN|apply below_drew1)|exact HB.out)) hb);clear HB;have HB:=n0_;clear n0_;(try clear hb);(try clear hb2);(try clear hk);(try clear hi))))
            go_roundg k1
            case measure => have := HK1.out; omega
            case rel=>exact⟨(x3_1),(wrap64 (x4_1 + 1)),(by first|rfl|(simp;done)|(simp[*];done)),(by first|rfl|(simp;done)|(simp[*];done)),H',⟨by have:=HK1.out;omega⟩,⟨by repeat (first|(with_reducible first|exact HB.out|apply below_alloc|apply pw_below_drewN|apply below_drew1)|exact HB.out)⟩⟩
        · rw [if_neg c3] at H
          exact absurd H (by simp)
      · rw [if_neg c2] at H
        have c2b0 : decide (x4_1 < (l0.length : Int)) = false := decide_eq_false c2
        clear c2
        obtain rfl := Option.some.inj H
        go_wp2
        repeat (go_quiet (fail); try go_wp2)
        go_ret
        exact⟨by first|rfl|(simp[errW_none,errW_some] <;> rfl)|(simp[*,errW_none,errW_some] <;> rfl),by repeat (first|(with_reducible first|exact HB.out|apply below_alloc|apply pw_below_drewN|apply below_drew1)|exact HB.out)⟩
mutual
def payrollref11_Minutes.l0 : Nat → List (S41) → Int → Int → Option (Int)
  | 0, _, _, _ => none
  | k + 1, x0, x3, x4 => if x4 < (x0.length : Int) then (payrollref11_Minutes.j1 k x0 x3 x4 (decide (x4 < 1024))) else (payrollref11_Minutes.j1 k x0 x3 x4 false)
def payrollref11_Minutes.j1 : Nat → List (S41) → Int → Int → Bool → Option (Int)
  | 0, _, _, _, _ => none
  | k + 1, x0, x3, x4, x12 => if x12 = true then (if 0 ≤ x4 then (if x4 < (x0.length : Int) then ((payrollref9_IsInterval.f ((rd_T41 x0 x4).f0) ((rd_T41 x0 x4).f1)).bind fun t102 => (if t102 = true then (payrollref11_Minutes.l0 k x0 (wrap64 (x3 + (wrap64 (((rd_T41 x0 x4).f1) - ((rd_T41 x0 x4).f0))))) (wrap64 (x4 + 1))) else (payrollref11_Minutes.l0 k x0 x3 (wrap64 (x4 + 1))))) else (none)) else (none)) else (some x3)
end
def payrollref11_Minutes.f (k : Nat) (l0 : List (S41)) : Option (Int) := payrollref11_Minutes.l0 k l0 0 0
theorem payrollref11_Minutes.mono_l : ∀ k, (∀ y0 y1 y2, LeO (payrollref11_Minutes.l0 k y0 y1 y2) (payrollref11_Minutes.l0 (k + 1) y0 y1 y2)) ∧ (∀ y0 y1 y2 y3, LeO (payrollref11_Minutes.j1 k y0 y1 y2 y3) (payrollref11_Minutes.j1 (k + 1) y0 y1 y2 y3))
  | 0 => ⟨fun _ _ _ r h => by simp [payrollref11_Minutes.l0] at h, fun _ _ _ _ r h => by simp [payrollref11_Minutes.j1] at h⟩
  | k + 1 => by
    obtain ⟨ih0, ih1⟩ := payrollref11_Minutes.mono_l k
    refine ⟨?_, ?_⟩
    · intro y0 y1 y2
      unfold payrollref11_Minutes.l0
      repeat' first
      | (with_reducible exact ih0 _ _ _)
      | (with_reducible exact ih1 _ _ _ _)
      | (with_reducible exact LeO.refl _)
      | (with_reducible exact LeO.none _)
      | (with_reducible refine LeO.ite ?_ ?_)
      | (with_reducible refine LeO.bind ?_ (fun _ => ?_))
      | exact ih0 _ _ _
      | exact ih1 _ _ _ _
      | exact LeO.none _
      | refine LeO.ite ?_ ?_
      | refine LeO.bind ?_ (fun _ => ?_)
    · intro y0 y1 y2 y3
      unfold payrollref11_Minutes.j1
      repeat' first
      | (with_reducible exact ih0 _ _ _)
      | (with_reducible exact ih1 _ _ _ _)
      | (with_reducible exact LeO.refl _)
      | (with_reducible exact LeO.none _)
      | (with_reducible refine LeO.ite ?_ ?_)
      | (with_reducible refine LeO.bind ?_ (fun _ => ?_))
      | exact ih0 _ _ _
      | exact ih1 _ _ _ _
      | exact LeO.none _
      | refine LeO.ite ?_ ?_
      | refine LeO.bind ?_ (fun _ => ?_)
theorem payrollref11_Minutes.mono : ∀ a0 k, LeO (payrollref11_Minutes.f k a0) (payrollref11_Minutes.f (k + 1) a0) := by
  intro a0 k
  obtain ⟨ih0, ih1⟩ := payrollref11_Minutes.mono_l k
  unfold payrollref11_Minutes.f
  repeat' first
      | (with_reducible exact ih0 _ _ _)
      | (with_reducible exact ih1 _ _ _ _)
      | (with_reducible exact LeO.refl _)
      | (with_reducible exact LeO.none _)
      | (with_reducible refine LeO.ite ?_ ?_)
      | (with_reducible refine LeO.bind ?_ (fun _ => ?_))
      | exact ih0 _ _ _
      | exact ih1 _ _ _ _
      | exact LeO.none _
      | refine LeO.ite ?_ ?_
      | refine LeO.bind ?_ (fun _ => ?_)
set_option maxHeartbeats 8000000 in
set_option maxRecDepth 100000 in
theorem payrollref11_Minutes.calls (k : Nat) (A0 : Option Addr) (c0 : Nat) (l0 : List (S41)) (r : Int) (w : World) (hr0 : Kd.C k41 w A0 l0.length l0) (hc0 : l0.length ≤ c0) (h : payrollref11_Minutes.f k l0 = some r) :
    Calls Try.prog 10 #[.slice A0 l0.length c0] w fun e w' => e = .returned (.int .i64 r) ∧ Below w.heap.size w w' := by
  have hu41 := Try.underlying41
  have HR0 := Aside0.mk hr0
  have HC0 := Aside0.mk hc0
  clear hr0 hc0
  have HB := Aside0.mk (Below.refl w.heap.size w)
  have H : (payrollref11_Minutes.l0 k l0 0 0) = some r := h
  clear h
  have H' := Aside0.mk H
  clear H
  go_enter Try.func10, Try.ntmps10
  go_wp2
  repeat (go_quiet (fail); try go_wp2)
  go_loopg [3,4] k (fun kq v3 v4 w'=>∃ (x3_1:Int) (x4_1:Int),v3 = .int .i64 x3_1∧v4 = .int .i64 x4_1∧Aside0 (payrollref11_Minutes.l0 kq l0 x3_1 x4_1 = some r)∧Aside0 (kq≤k)∧Aside0 (Below w.heap.size w w'))
  case atStart=>exact⟨(0),(0),(by first|rfl|(simp;done)|(simp[*];done)),(by first|rfl|(simp;done)|(simp[*];done)),H',⟨Nat.le_refl _⟩,⟨by repeat (first|(with_reducible first|exact HB.out|apply below_alloc|apply pw_below_drewN|apply below_drew1)|exact HB.out)⟩⟩
  case round =>
    clear H'
    try clear c1
    obtain ⟨x3_1, x4_1, rfl, rfl, HA, HK1, HB⟩ := hrel
    cases gk with
    | zero => exact absurd HA.out (by simp [payrollref11_Minutes.l0])
    | succ k1 =>
      have H := HA.out
      clear HA
      simp only [payrollref11_Minutes.l0] at H
      have HC2 := Aside0.mk H
      clear H
      go_upto_region 3 with (fail)
      repeat (go_quiet (fail); go_upto_region 3 with (fail))
      go_cut [12] (fun v12 wc=>∃ (kq:Nat) (x12_1:Bool),v12 = .bool x12_1∧Aside0 (payrollref11_Minutes.j1 kq l0 x3_1 x4_1 x12_1 = some r)∧Aside0 (kq≤k1)∧Aside0 (Below w.heap.size w wc))
      case first =>
        have H := HC2.out
        clear HC2
        by_cases c3 : x4_1 < (l0.length : Int)
        · rw [if_pos c3] at H
          have c3b0 : decide (x4_1 < (l0.length : Int)) = true := decide_eq_true c3
          clear c3
          (first | rw [c3b0] | (simp only [i64_w, i32_w]; rw [c3b0]) | skip)
          have H' := Aside0.mk H
          clear H
          go_wp2
          repeat (go_quiet (fail); try go_wp2)
          go_meet
          case rel=>exact⟨_,(decide (x4_1 < 1024)),(by first|rfl|(simp;done)|(simp[*];done)),H',⟨by have:=HK1.out;first|omega|exact Nat.le_refl _⟩,⟨by repeat (first|(with_reducible first|exact HB.out|apply below_alloc|apply pw_below_drewN|apply below_drew1)|exact HB.out)⟩⟩
        · rw [if_neg c3] at H
          have c3b0 : decide (x4_1 < (l0.length : Int)) = false := decide_eq_false c3
          clear c3
          (first | rw [c3b0] | (simp only [i64_w, i32_w]; rw [c3b0]) | skip)
          have H' := Aside0.mk H
          clear H
          go_wp2
          repeat (go_quiet (fail); try go_wp2)
          go_meet
          case rel=>exact⟨_,(false),(by first|rfl|(simp;done)|(simp[*];done)),H',⟨by have:=HK1.out;first|omega|exact Nat.le_refl _⟩,⟨by repeat (first|(with_reducible first|exact HB.out|apply below_alloc|apply pw_below_drewN|apply below_drew1)|exact HB.out)⟩⟩
      case rest =>
        clear HC2
        try clear c1
        try clear p2
        try clear c3
        try clear c3b0
        obtain ⟨kq, x12_1, rfl, HA, HJ1, HB⟩ := hcut
        cases kq with
        | zero => exact absurd HA.out (by simp [payrollref11_Minutes.j1])
        | succ kj1 =>
          have H := HA.out
          clear HA
          simp only [payrollref11_Minutes.j1] at H
          by_cases c4 : x12_1 = true
          · subst c4
            have H1:(if 0≤x4_1 then (if x4_1 < (l0.length:Int) then ((payrollref9_IsInterval.f ((rd_T41 l0 x4_1).f0) ((rd_T41 l0 x4_1).f1)).bind fun t102=>(if t102 = true then (payrollref11_Minutes.l0 kj1 l0 (wrap64 (x3_1 + (wrap64 (((rd_T41 l0 x4_1).f1) - ((rd_T41 l0 x4_1).f0))))) (wrap64 (x4_1 + 1))) else (payrollref11_Minutes.l0 kj1 l0 x3_1 (wrap64 (x4_1 + 1))))) else (none)) else (none)) = some r:=by rw[if_pos rfl] at H;exact H
            clear H
            have H := H1
            clear H1
            by_cases c5 : 0 ≤ x4_1
            · rw [if_pos c5] at H
              have c5b0 : decide (0 ≤ x4_1) = true := decide_eq_true c5
              clear c5
              by_cases c6 : x4_1 < (l0.length : Int)
              · rw [if_pos c6] at H
                have c6b0 : decide (x4_1 < (l0.length : Int)) = true := decide_eq_true c6
                clear c6
                replace H := Option.bind_eq_some_iff.mp H
                obtain ⟨t102, A70, H⟩ := H
                replace H:(if t102 = true then (payrollref11_Minutes.l0 kj1 l0 (wrap64 (x3_1 + (wrap64 (((rd_T41 l0 x4_1).f1) - ((rd_T41 l0 x4_1).f0))))) (wrap64 (x4_1 + 1))) else (payrollref11_Minutes.l0 kj1 l0 x3_1 (wrap64 (x4_1 + 1)))) = some r:=H
                have A7 := Aside0.mk A70
                clear A70
                by_cases c8 : t102 = true
                · subst c8
                  have H1:(payrollref11_Minutes.l0 kj1 l0 (wrap64 (x3_1 + (wrap64 (((rd_T41 l0 x4_1).f1) - ((rd_T41 l0 x4_1).f0))))) (wrap64 (x4_1 + 1))) = some r:=by rw[if_pos rfl] at H;exact H
                  clear H
                  have H := H1
                  clear H1
                  have H' := Aside0.mk H
                  clear H
                  have p101:0≤(x4_1:Int):=of_decide_eq_true (by first|(with_reducible assumption)|assumption)
                  have q101:x4_1 < (l0.length:Int):=of_decide_eq_true (by first|(with_reducible assumption)|assumption)
                  obtain ⟨ad101, e101, hx101_0, hx101_1⟩ := at_T41 HR0.out x4_1 p101 q101
                  cases e101
                  replace hx101_0 := (HB.out.cell (World.block_lt_of_cell? w _ hx101_0)).trans hx101_0
                  replace hx101_1 := (HB.out.cell (World.block_lt_of_cell? w _ hx101_1)).trans hx101_1
                  replace p101 := eq_true p101
                  replace q101 := eq_true q101
                  go_wp2_with (first|(go_at_call 20;(with_reducible refine(payrollref9_IsInterval.calls ((rd_T41 l0 x4_1).f0) ((rd_T41 l0 x4_1).f1) true _ A7.out).mono ?_);rintro e w9 ⟨rfl,hb⟩;have n0_:=Aside0.mk (below_step (by repeat (first|(with_reducible first|exact HB.out|apply below_alloc|apply pw_below_drewN|apply below_drew1)|exact HB.out)) hb);clear HB;have HB:=n0_;clear n0_;(try clear hb);(try clear hb2);(try clear hk);(try clear hi);have p103:0≤(x4_1:Int):=of_decide_eq_true (by first|(with_reducible assumption)|assumption);have q103:x4_1 < (l0.length:Int):=of_decide_eq_true (by first|(with_reducible assumption)|assumption);obtain ⟨ad103,e103,hx103_0,hx103_1⟩:=at_T41 HR0.out x4_1 p103 q103;obtain rfl:ad101 = ad103:=(by injection e103);replace hx103_0:=(HB.out.cell (World.block_lt_of_cell? w _ hx103_0)).trans hx103_0;replace hx103_1:=(HB.out.cell (World.block_lt_of_cell? w _ hx103_1)).trans hx103_1;replace p103:=eq_true p103;replace q103:=eq_true q103;have p104:0≤(x4_1:Int):=of_decide_eq_true (by first|(with_reducible assumption)|assumption);have q104:x4_1 < (l0.length:Int):=of_decide_eq_true (by first|(with_reducible assumption)|assumption);obtain ⟨ad104,e104,hx104_0,hx104_1⟩:=at_T41 HR0.out x4_1 p104 q104;obtain rfl:ad101 = ad104:=(by injection e104);replace hx104_0:=(HB.out.cell (World.block_lt_of_cell? w _ hx104_0)).trans hx104_0;replace hx104_1:=(HB.out.cell (World.block_lt_of_cell? w _ hx104_1)).trans hx104_1;replace p104:=eq_true p104;replace q104:=eq_true q104))
                  repeat (go_quiet (first|(go_at_call 20;(with_reducible refine(payrollref9_IsInterval.calls ((rd_T41 l0 x4_1).f0) ((rd_T41 l0 x4_1).f1) true _ A7.out).mono ?_);rintro e w9 ⟨rfl,hb⟩;have n0_:=Aside0.mk (below_step (by repeat (first|(with_reducible first|exact HB.out|apply below_alloc|apply pw_below_drewN|apply below_drew1)|exact HB.out)) hb);clear HB;have HB:=n0_;clear n0_;(try clear hb);(try clear hb2);(try clear hk);(try clear hi);have p103:0≤(x4_1:Int):=of_decide_eq_true (by first|(with_reducible assumption)|assumption);have q103:x4_1 < (l0.length:Int):=of_decide_eq_true (by first|(with_reducible assumption)|assumption);obtain ⟨ad103,e103,hx103_0,hx103_1⟩:=at_T41 HR0.out x4_1 p103 q103;obtain rfl:ad101 = ad103:=(by injection e103);replace hx103_0:=(HB.out.cell (World.block_lt_of_cell? w _ hx103_0)).trans hx103_0;replace hx103_1:=(HB.out.cell (World.block_lt_of_cell? w _ hx103_1)).trans hx103_1;replace p103:=eq_true p103;replace q103:=eq_true q103;have p104:0≤(x4_1:Int):=of_decide_eq_true (by first|(with_reducible assumption)|assumption);have q104:x4_1 < (l0.length:Int):=of_decide_eq_true (by first|(with_reducible assumption)|assumption);obtain ⟨ad104,e104,hx104_0,hx104_1⟩:=at_T41 HR0.out x4_1 p104 q104;obtain rfl:ad101 = ad104:=(by injection e104);replace hx104_0:=(HB.out.cell (World.block_lt_of_cell? w _ hx104_0)).trans hx104_0;replace hx104_1:=(HB.out.cell (World.block_lt_of_cell? w _ hx104_1)).trans hx104_1;replace p104:=eq_true p104;replace q104:=eq_true q104));try go_wp2_with (first|(go_at_call 20;(with_reducible refine(payrollref9_IsInterval.calls ((rd_T41 l0 x4_1).f0) ((rd_T41 l0 x4_1).f1) true _ A7.out).mono ?_);rintro e w9 ⟨rfl,hb⟩;have n0_:=Aside0.mk (below_step (by repeat (first|(with_reducible first|exact HB.out|apply below_alloc|apply pw_below_drewN|apply below_drew1)|exact HB.out)) hb);clear HB;have HB:=n0_;clear n0_;(try clear hb);(try clear hb2);(try clear hk);(try clear hi);have p103:0≤(x4_1:Int):=of_decide_eq_true (by first|(with_reducible assumption)|assumption);have q103:x4_1 < (l0.length:Int):=of_decide_eq_true (by first|(with_reducible assumption)|assumption);obtain ⟨ad103,e103,hx103_0,hx103_1⟩:=at_T41 HR0.out x4_1 p103 q103;obtain rfl:ad101 = ad103:=(by injection e103);replace hx103_0:=(HB.out.cell (World.block_lt_of_cell? w _ hx103_0)).trans hx103_0;replace hx103_1:=(HB.out.cell (World.block_lt_of_cell? w _ hx103_1)).trans hx103_1;replace p103:=eq_true p103;replace q103:=eq_true q103;have p104:0≤(x4_1:Int):=of_decide_eq_true (by first|(with_reducible assumption)|assumption);have q104:x4_1 < (l0.length:Int):=of_decide_eq_true (by first|(with_reducible assumption)|assumption);obtain ⟨ad104,e104,hx104_0,hx104_1⟩:=at_T41 HR0.out x4_1 p104 q104;obtain rfl:ad101 = ad104:=(by injection e104);replace hx104_0:=(HB.out.cell (World.block_lt_of_cell? w _ hx104_0)).trans hx104_0;replace hx104_1:=(HB.out.cell (World.block_lt_of_cell? w _ hx104_1)).trans hx104_1;replace p104:=eq_true p104;replace q104:=eq_true q104)))
                  go_roundg kj1
                  case measure => have := HK1.out; have := HJ1.out; omega
                  case rel=>exact⟨(wrap64 (x3_1 + (wrap64 (((rd_T41 l0 x4_1).f1) - ((rd_T41 l0 x4_1).f0))))),(wrap64 (x4_1 + 1)),(by first|rfl|(simp;done)|(simp[*];done)),(by first|rfl|(simp;done)|(simp[*];done)),H',⟨by have:=HK1.out;have:=HJ1.out;omega⟩,⟨by repeat (first|(with_reducible first|exact HB.out|apply below_alloc|apply pw_below_drewN|apply below_drew1)|exact HB.out)⟩⟩
                · replace c8 := Bool.eq_false_iff.mpr c8
                  subst c8
                  have H1:(payrollref11_Minutes.l0 kj1 l0 x3_1 (wrap64 (x4_1 + 1))) = some r:=by rw[if_neg (show ¬ (false = true) by decide)] at H;exact H
                  clear H
                  have H := H1
                  clear H1
                  have H' := Aside0.mk H
                  clear H
                  have p101:0≤(x4_1:Int):=of_decide_eq_true (by first|(with_reducible assumption)|assumption)
                  have q101:x4_1 < (l0.length:Int):=of_decide_eq_true (by first|(with_reducible assumption)|assumption)
                  obtain ⟨ad101, e101, hx101_0, hx101_1⟩ := at_T41 HR0.out x4_1 p101 q101
                  cases e101
                  replace hx101_0 := (HB.out.cell (World.block_lt_of_cell? w _ hx101_0)).trans hx101_0
                  replace hx101_1 := (HB.out.cell (World.block_lt_of_cell? w _ hx101_1)).trans hx101_1
                  replace p101 := eq_true p101
                  replace q101 := eq_true q101
                  go_wp2_with (first|(go_at_call 20;(with_reducible refine(payrollref9_IsInterval.calls ((rd_T41 l0 x4_1).f0) ((rd_T41 l0 x4_1).f1) false _ A7.out).mono ?_);rintro e w10 ⟨rfl,hb⟩;have n0_:=Aside0.mk (below_step (by repeat (first|(with_reducible first|exact HB.out|apply below_alloc|apply pw_below_drewN|apply below_drew1)|exact HB.out)) hb);clear HB;have HB:=n0_;clear n0_;(try clear hb);(try clear hb2);(try clear hk);(try clear hi)))
                  repeat (go_quiet (first|(go_at_call 20;(with_reducible refine(payrollref9_IsInterval.calls ((rd_T41 l0 x4_1).f0) ((rd_T41 l0 x4_1).f1) false _ A7.out).mono ?_);rintro e w10 ⟨rfl,hb⟩;have n0_:=Aside0.mk (below_step (by repeat (first|(with_reducible first|exact HB.out|apply below_alloc|apply pw_below_drewN|apply below_drew1)|exact HB.out)) hb);clear HB;have HB:=n0_;clear n0_;(try clear hb);(try clear hb2);(try clear hk);(try clear hi)));try go_wp2_with (first|(go_at_call 20;(with_reducible refine(payrollref9_IsInterval.calls ((rd_T41 l0 x4_1).f0) ((rd_T41 l0 x4_1).f1) false _ A7.out).mono ?_);rintro e w10 ⟨rfl,hb⟩;have n0_:=Aside0.mk (below_step (by repeat (first|(with_reducible first|exact HB.out|apply below_alloc|apply pw_below_drewN|apply below_drew1)|exact HB.out)) hb);clear HB;have HB:=n0_;clear n0_;(try clear hb);(try clear hb2);(try clear hk);(try clear hi))))
                  go_roundg kj1
                  case measure => have := HK1.out; have := HJ1.out; omega
                  case rel=>exact⟨(x3_1),(wrap64 (x4_1 + 1)),(by first|rfl|(simp;done)|(simp[*];done)),(by first|rfl|(simp;done)|(simp[*];done)),H',⟨by have:=HK1.out;have:=HJ1.out;omega⟩,⟨by repeat (first|(with_reducible first|exact HB.out|apply below_alloc|apply pw_below_drewN|apply below_drew1)|exact HB.out)⟩⟩
              · rw [if_neg c6] at H
                exact absurd H (by simp)
            · rw [if_neg c5] at H
              exact absurd H (by simp)
          · replace c4 := Bool.eq_false_iff.mpr c4
            subst c4
            have H1 : (some x3_1) = some r := by rw [if_neg (show ¬ (false = true) by decide)] at H; exact H
            clear H
            have H := H1
            clear H1
            obtain rfl := Option.some.inj H
            go_wp2
            repeat (go_quiet (fail); try go_wp2)
            go_ret
            exact⟨by first|rfl|(simp[errW_none,errW_some] <;> rfl)|(simp[*,errW_none,errW_some] <;> rfl),by repeat (first|(with_reducible first|exact HB.out|apply below_alloc|apply pw_below_drewN|apply below_drew1)|exact HB.out)⟩
end Go.Proofs.Ythdohkabcpdpdaa.M
