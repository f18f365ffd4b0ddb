import Derived.Test.YthdohkabcpdpdaaM0
namespace Go.Proofs.Ythdohkabcpdpdaa.M
open Go.RowKit Go.Proofs.YthdohkabcpdpdaaW.PrintWords Go.Proofs.YthdohkabcpdpdaaW.PrintLast Go.Proofs.YthdohkabcpdpdaaW.PrintMore
attribute [local go_sem] max2_int min2_int max_two min_two max_three min_three max_four min_four   -- for this text's walks alone
set_option linter.unusedVariables false
set_option linter.unusedSimpArgs false
def presence_ordered.l0 : Nat → List (S41) → Int → Int → List (S41) → Int → Int → Option (Bool)
  | 0, _, _, _, _, _, _ => none
  | k + 1, x0, x1, x2, x9, x10, x11 => if x11 < x10 then (if 0 ≤ x11 then (if x11 < (x9.length : Int) then (if ((rd_T41 x9 x11).f0) < x1 then (some false) else (if ((rd_T41 x9 x11).f1) ≤ ((rd_T41 x9 x11).f0) then (some false) else (if ((rd_T41 x9 x11).f1) > x2 then (some false) else (presence_ordered.l0 k x0 ((rd_T41 x9 x11).f1) x2 x9 x10 (wrap64 (x11 + 1)))))) else (none)) else (none)) else (some (decide ((x0.length : Int) ≤ 1024)))
def presence_ordered.f (k : Nat) (l0 : List (S41)) (a1 : Int) (a2 : Int) : Option (Bool) := presence_ordered.l0 k l0 a1 a2 l0 (l0.length : Int) 0
theorem presence_ordered.mono_l : ∀ k, (∀ y0 y1 y2 y3 y4 y5, LeO (presence_ordered.l0 k y0 y1 y2 y3 y4 y5) (presence_ordered.l0 (k + 1) y0 y1 y2 y3 y4 y5))
  | 0 => fun _ _ _ _ _ _ r h => by simp [presence_ordered.l0] at h
  | k + 1 => by
    have ih0 := presence_ordered.mono_l k
    · intro y0 y1 y2 y3 y4 y5
      unfold presence_ordered.l0
      repeat' first
      | (with_reducible exact ih0 _ _ _ _ _ _)
      | (with_reducible exact LeO.refl _)
      | (with_reducible exact LeO.none _)
      | (with_reducible refine LeO.ite ?_ ?_)
      | (with_reducible refine LeO.bind ?_ (fun _ => ?_))
      | exact ih0 _ _ _ _ _ _
      | exact LeO.none _
      | refine LeO.ite ?_ ?_
      | refine LeO.bind ?_ (fun _ => ?_)
theorem presence_ordered.mono : ∀ a0 a1 a2 k, LeO (presence_ordered.f k a0 a1 a2) (presence_ordered.f (k + 1) a0 a1 a2) := by
  intro a0 a1 a2 k
  have ih0 := presence_ordered.mono_l k
  unfold presence_ordered.f
  repeat' first
      | (with_reducible exact ih0 _ _ _ _ _ _)
      | (with_reducible exact LeO.refl _)
      | (with_reducible exact LeO.none _)
      | (with_reducible refine LeO.ite ?_ ?_)
      | (with_reducible refine LeO.bind ?_ (fun _ => ?_))
      | exact ih0 _ _ _ _ _ _
      | exact LeO.none _
      | refine LeO.ite ?_ ?_
      | refine LeO.bind ?_ (fun _ => ?_)
set_option maxHeartbeats 8000000 in
set_option maxRecDepth 100000 in
theorem presence_ordered.calls (k : Nat) (A0 : Option Addr) (c0 : Nat) (l0 : List (S41)) (a1 : Int) (a2 : Int) (r : Bool) (w : World) (hr0 : Kd.C k41 w A0 l0.length l0) (hc0 : l0.length ≤ c0) (h : presence_ordered.f k l0 a1 a2 = some r) :
    Calls Try.prog 30 #[.slice A0 l0.length c0, .int .i64 a1, .int .i64 a2] w fun e w' => e = .returned (.bool r) ∧ Below w.heap.size w w' := by
  have hu41 := Try.underlying41
  have HR0 := Aside0.mk hr0
  have HC0 := Aside0.mk hc0
  clear hr0 hc0
  have HB := Aside0.mk (Below.refl w.heap.size w)
  have H : (presence_ordered.l0 k l0 a1 a2 l0 (l0.length : Int) 0) = some r := h
  clear h
  have H' := Aside0.mk H
  clear H
  go_enter Try.func30, Try.ntmps30
  go_wp2
  go_loopg [1,11] k (fun kq v1 v11 w'=>∃ (x1_1:Int) (x11_1:Int),v1 = .int .i64 x1_1∧v11 = .int .i64 x11_1∧Aside0 (presence_ordered.l0 kq l0 x1_1 a2 l0 (l0.length:Int) x11_1 = some r)∧Aside0 (kq≤k)∧Aside0 (Below w.heap.size w w'))
  case atStart=>exact⟨(a1),(0),(by first|rfl|(simp;done)|(simp[*];done)),(by first|rfl|(simp;done)|(simp[*];done)),H',⟨Nat.le_refl _⟩,⟨by repeat (first|(with_reducible first|exact HB.out|apply below_alloc|apply pw_below_drewN|apply below_drew1)|exact HB.out)⟩⟩
  case round =>
    clear H'
    try clear p2
    try clear c3
    obtain ⟨x1_1, x11_1, rfl, rfl, HA, HK1, HB⟩ := hrel
    cases gk with
    | zero => exact absurd HA.out (by simp [presence_ordered.l0])
    | succ k1 =>
      have H := HA.out
      clear HA
      simp only [presence_ordered.l0] at H
      by_cases c4 : x11_1 < (l0.length : Int)
      · rw [if_pos c4] at H
        have c4b0 : decide (x11_1 < (l0.length : Int)) = true := decide_eq_true c4
        clear c4
        by_cases c5 : 0 ≤ x11_1
        · rw [if_pos c5] at H
          have c5b0 : decide (0 ≤ x11_1) = true := decide_eq_true c5
          clear c5
          by_cases c6 : x11_1 < (l0.length : Int)
          · rw [if_pos c6] at H
            have c6b0 : decide (x11_1 < (l0.length : Int)) = true := decide_eq_true c6
            clear c6
            by_cases c7 : ((rd_T41 l0 x11_1).f0) < x1_1
            · rw [if_pos c7] at H
              have c7b0 : decide (((rd_T41 l0 x11_1).f0) < x1_1) = true := decide_eq_true c7
              clear c7
              obtain rfl := Option.some.inj H
              have p101 : 0 ≤ (x11_1 : Int) := of_decide_eq_true (by first | (with_reducible assumption) | assumption)
              have q101:x11_1 < (l0.length:Int):=of_decide_eq_true (by first|(with_reducible assumption)|assumption)
              obtain ⟨ad101, e101, hx101_0, hx101_1⟩ := at_T41 HR0.out x11_1 p101 q101
              cases e101
              replace hx101_0 := (HB.out.cell (World.block_lt_of_cell? w _ hx101_0)).trans hx101_0
              replace hx101_1 := (HB.out.cell (World.block_lt_of_cell? w _ hx101_1)).trans hx101_1
              replace p101 := eq_true p101
              replace q101 := eq_true q101
              go_wp2_with (first|((with_reducible refine gate_dst (N:=8) rfl ?_);refine box_event ?hg (N:=8) ?hd (cs:=#[.int .i64 0,.int .i64 0]) (t:=41) ?hr ?_;(case hd=>rfl);(case hg=>rfl);(case hr=>first|(go_simp;done)|(go_simp;rfl));intro gb102 hg w8 hbox hb;have n0_:=Aside0.mk (below_step (by repeat (first|(with_reducible first|exact HB.out|apply below_alloc|apply pw_below_drewN|apply below_drew1)|exact HB.out)) hb);have n1_:=Aside0.mk (hbox);have n2_:=Aside0.mk ((by rw[hg];exact(below_size (by repeat (first|(with_reducible first|exact HB.out|apply below_alloc|apply pw_below_drewN|apply below_drew1)|exact HB.out))):w.heap.size≤gb102));have n3_:=Aside0.mk ((by rw[hg];exact(below_size (by repeat (first|(with_reducible first|exact HB.out|apply below_alloc|apply pw_below_drewN|apply below_drew1)|exact HB.out))):w.heap.size≤gb102));clear HB;have HB:=n0_;have BK102:=n1_;have GW102:=n2_;have GE102:=n3_;clear n0_ n1_ n2_ n3_;clear hb hbox hg;have hcz9_0:w8.cell? ⟨gb102,0,none⟩ = some (.int .i64 0):=(blk_cell BK102.out 0).trans rfl;have hcz9_1:w8.cell? ⟨gb102,1,none⟩ = some (.int .i64 0):=(blk_cell BK102.out 1).trans rfl;have hfz9_0:=blk_frozen BK102.out 0;have hfz9_1:=blk_frozen BK102.out 1))
              go_ret
              exact⟨by first|rfl|(simp[errW_none,errW_some] <;> rfl)|(simp[*,errW_none,errW_some] <;> rfl),by repeat (first|(with_reducible first|exact HB.out|apply below_alloc|apply pw_below_drewN|apply below_drew1|refine below_set ?_ GE102.out)|exact HB.out)⟩
            · rw [if_neg c7] at H
              have c7b0 : decide (((rd_T41 l0 x11_1).f0) < x1_1) = false := decide_eq_false c7
              clear c7
              by_cases c10 : ((rd_T41 l0 x11_1).f1) ≤ ((rd_T41 l0 x11_1).f0)
              · rw [if_pos c10] at H
                have c10b0 : decide (((rd_T41 l0 x11_1).f1) ≤ ((rd_T41 l0 x11_1).f0)) = true := decide_eq_true c10
                clear c10
                obtain rfl := Option.some.inj H
                have p101 : 0 ≤ (x11_1 : Int) := of_decide_eq_true (by first | (with_reducible assumption) | assumption)
                have q101:x11_1 < (l0.length:Int):=of_decide_eq_true (by first|(with_reducible assumption)|assumption)
                obtain ⟨ad101, e101, hx101_0, hx101_1⟩ := at_T41 HR0.out x11_1 p101 q101
                cases e101
                replace hx101_0 := (HB.out.cell (World.block_lt_of_cell? w _ hx101_0)).trans hx101_0
                replace hx101_1 := (HB.out.cell (World.block_lt_of_cell? w _ hx101_1)).trans hx101_1
                replace p101 := eq_true p101
                replace q101 := eq_true q101
                go_wp2_with (first|((with_reducible refine gate_dst (N:=8) rfl ?_);refine box_event ?hg (N:=8) ?hd (cs:=#[.int .i64 0,.int .i64 0]) (t:=41) ?hr ?_;(case hd=>rfl);(case hg=>rfl);(case hr=>first|(go_simp;done)|(go_simp;rfl));intro gb102 hg w11 hbox hb;have n0_:=Aside0.mk (below_step (by repeat (first|(with_reducible first|exact HB.out|apply below_alloc|apply pw_below_drewN|apply below_drew1)|exact HB.out)) hb);have n1_:=Aside0.mk (hbox);have n2_:=Aside0.mk ((by rw[hg];exact(below_size (by repeat (first|(with_reducible first|exact HB.out|apply below_alloc|apply pw_below_drewN|apply below_drew1)|exact HB.out))):w.heap.size≤gb102));have n3_:=Aside0.mk ((by rw[hg];exact(below_size (by repeat (first|(with_reducible first|exact HB.out|apply below_alloc|apply pw_below_drewN|apply below_drew1)|exact HB.out))):w.heap.size≤gb102));clear HB;have HB:=n0_;have BK102:=n1_;have GW102:=n2_;have GE102:=n3_;clear n0_ n1_ n2_ n3_;clear hb hbox hg;have hcz12_0:w11.cell? ⟨gb102,0,none⟩ = some (.int .i64 0):=(blk_cell BK102.out 0).trans rfl;have hcz12_1:w11.cell? ⟨gb102,1,none⟩ = some (.int .i64 0):=(blk_cell BK102.out 1).trans rfl;have hfz12_0:=blk_frozen BK102.out 0;have hfz12_1:=blk_frozen BK102.out 1))
                go_ret
                exact⟨by first|rfl|(simp[errW_none,errW_some] <;> rfl)|(simp[*,errW_none,errW_some] <;> rfl),by repeat (first|(with_reducible first|exact HB.out|apply below_alloc|apply pw_below_drewN|apply below_drew1|refine below_set ?_ GE102.out)|exact HB.out)⟩
              · rw [if_neg c10] at H
                have c10b0 : decide (((rd_T41 l0 x11_1).f1) ≤ ((rd_T41 l0 x11_1).f0)) = false := decide_eq_false c10
                clear c10
                by_cases c13 : ((rd_T41 l0 x11_1).f1) > a2
                · rw [if_pos c13] at H
                  have c13b0 : decide (a2 < ((rd_T41 l0 x11_1).f1)) = true := decide_eq_true c13
                  clear c13
                  obtain rfl := Option.some.inj H
                  have p101:0≤(x11_1:Int):=of_decide_eq_true (by first|(with_reducible assumption)|assumption)
                  have q101:x11_1 < (l0.length:Int):=of_decide_eq_true (by first|(with_reducible assumption)|assumption)
                  obtain ⟨ad101, e101, hx101_0, hx101_1⟩ := at_T41 HR0.out x11_1 p101 q101
                  cases e101
                  replace hx101_0 := (HB.out.cell (World.block_lt_of_cell? w _ hx101_0)).trans hx101_0
                  replace hx101_1 := (HB.out.cell (World.block_lt_of_cell? w _ hx101_1)).trans hx101_1
                  replace p101 := eq_true p101
                  replace q101 := eq_true q101
                  go_wp2_with (first|((with_reducible refine gate_dst (N:=8) rfl ?_);refine box_event ?hg (N:=8) ?hd (cs:=#[.int .i64 0,.int .i64 0]) (t:=41) ?hr ?_;(case hd=>rfl);(case hg=>rfl);(case hr=>first|(go_simp;done)|(go_simp;rfl));intro gb102 hg w14 hbox hb;have n0_:=Aside0.mk (below_step (by repeat (first|(with_reducible first|exact HB.out|apply below_alloc|apply pw_below_drewN|apply below_drew1)|exact HB.out)) hb);have n1_:=Aside0.mk (hbox);have n2_:=Aside0.mk ((by rw[hg];exact(below_size (by repeat (first|(with_reducible first|exact HB.out|apply below_alloc|apply pw_below_drewN|apply below_drew1)|exact HB.out))):w.heap.size≤gb102));have n3_:=Aside0.mk ((by rw[hg];exact(below_size (by repeat (first|(with_reducible first|exact HB.out|apply below_alloc|apply pw_below_drewN|apply below_drew1)|exact HB.out))):w.heap.size≤gb102));clear HB;have HB:=n0_;have BK102:=n1_;have GW102:=n2_;have GE102:=n3_;clear n0_ n1_ n2_ n3_;clear hb hbox hg;have hcz15_0:w14.cell? ⟨gb102,0,none⟩ = some (.int .i64 0):=(blk_cell BK102.out 0).trans rfl;have hcz15_1:w14.cell? ⟨gb102,1,none⟩ = some (.int .i64 0):=(blk_cell BK102.out 1).trans rfl;have hfz15_0:=blk_frozen BK102.out 0;have hfz15_1:=blk_frozen BK102.out 1))
                  go_ret
                  exact⟨by first|rfl|(simp[errW_none,errW_some] <;> rfl)|(simp[*,errW_none,errW_some] <;> rfl),by repeat (first|(with_reducible first|exact HB.out|apply below_alloc|apply pw_below_drewN|apply below_drew1|refine below_set ?_ GE102.out)|exact HB.out)⟩
                · rw [if_neg c13] at H
                  have c13b0 : decide (a2 < ((rd_T41 l0 x11_1).f1)) = false := decide_eq_false c13
                  clear c13
                  have H' := Aside0.mk H
                  clear H
                  have p101:0≤(x11_1:Int):=of_decide_eq_true (by first|(with_reducible assumption)|assumption)
                  have q101:x11_1 < (l0.length:Int):=of_decide_eq_true (by first|(with_reducible assumption)|assumption)
                  obtain ⟨ad101, e101, hx101_0, hx101_1⟩ := at_T41 HR0.out x11_1 p101 q101
                  cases e101
                  replace hx101_0 := (HB.out.cell (World.block_lt_of_cell? w _ hx101_0)).trans hx101_0
                  replace hx101_1 := (HB.out.cell (World.block_lt_of_cell? w _ hx101_1)).trans hx101_1
                  replace p101 := eq_true p101
                  replace q101 := eq_true q101
                  go_wp2_with (first|((with_reducible refine gate_dst (N:=8) rfl ?_);refine box_event ?hg (N:=8) ?hd (cs:=#[.int .i64 0,.int .i64 0]) (t:=41) ?hr ?_;(case hd=>rfl);(case hg=>rfl);(case hr=>first|(go_simp;done)|(go_simp;rfl));intro gb102 hg w16 hbox hb;have n0_:=Aside0.mk (below_step (by repeat (first|(with_reducible first|exact HB.out|apply below_alloc|apply pw_below_drewN|apply below_drew1)|exact HB.out)) hb);have n1_:=Aside0.mk (hbox);have n2_:=Aside0.mk ((by rw[hg];exact(below_size (by repeat (first|(with_reducible first|exact HB.out|apply below_alloc|apply pw_below_drewN|apply below_drew1)|exact HB.out))):w.heap.size≤gb102));have n3_:=Aside0.mk ((by rw[hg];exact(below_size (by repeat (first|(with_reducible first|exact HB.out|apply below_alloc|apply pw_below_drewN|apply below_drew1)|exact HB.out))):w.heap.size≤gb102));clear HB;have HB:=n0_;have BK102:=n1_;have GW102:=n2_;have GE102:=n3_;clear n0_ n1_ n2_ n3_;clear hb hbox hg;have hcz17_0:w16.cell? ⟨gb102,0,none⟩ = some (.int .i64 0):=(blk_cell BK102.out 0).trans rfl;have hcz17_1:w16.cell? ⟨gb102,1,none⟩ = some (.int .i64 0):=(blk_cell BK102.out 1).trans rfl;have hfz17_0:=blk_frozen BK102.out 0;have hfz17_1:=blk_frozen BK102.out 1))
                  go_roundg k1
                  case measure => have := HK1.out; omega
                  case rel=>exact⟨((rd_T41 l0 x11_1).f1),(wrap64 (x11_1 + 1)),(by first|rfl|(simp;done)|(simp[*];done)),(by first|rfl|(simp;done)|(simp[*];done)),H',⟨by have:=HK1.out;omega⟩,⟨by repeat (first|(with_reducible first|exact HB.out|apply below_alloc|apply pw_below_drewN|apply below_drew1|refine below_set ?_ GE102.out)|exact HB.out)⟩⟩
          · rw [if_neg c6] at H
            exact absurd H (by simp)
        · rw [if_neg c5] at H
          exact absurd H (by simp)
      · rw [if_neg c4] at H
        have c4b0 : decide (x11_1 < (l0.length : Int)) = false := decide_eq_false c4
        clear c4
        obtain rfl := Option.some.inj H
        go_wp2
        go_ret
        exact⟨by first|rfl|(simp[errW_none,errW_some] <;> rfl)|(simp[*,errW_none,errW_some] <;> rfl),by repeat (first|(with_reducible first|exact HB.out|apply below_alloc|apply pw_below_drewN|apply below_drew1)|exact HB.out)⟩
def presence_Valid.l0 : Nat → Int → List (S48) → Int → Int → Option (Int)
  | 0, _, _, _, _ => none
  | k + 1, x3, x9, x10, x11 => if x11 < x10 then (if 0 ≤ x11 then (if x11 < (x9.length : Int) then ((presence_ordered.f k (([(⟨(rd_T48 x9 x11).f0.f0, (rd_T48 x9 x11).f0.f1⟩ : S41)] : List (S41))) x3 120968640).bind fun t106 => (if t106 = true then ((presence_ordered.f k ((rd_T48 x9 x11).f1) ((rd_T48 x9 x11).f0.f0) ((rd_T48 x9 x11).f0.f1)).bind fun t107 => (if t107 = true then (presence_Valid.l0 k ((rd_T48 x9 x11).f0.f1) x9 x10 (wrap64 (x11 + 1))) else (some 1))) else (some 1))) else (none)) else (none)) else (some 0)
def presence_Valid.f (k : Nat) (l0 : List (S48)) : Option (Int) := if (l0.length : Int) > 1024 then (some 1) else (presence_Valid.l0 k 0 l0 (l0.length : Int) 0)
theorem presence_Valid.mono_l : ∀ k, (∀ y0 y1 y2 y3, LeO (presence_Valid.l0 k y0 y1 y2 y3) (presence_Valid.l0 (k + 1) y0 y1 y2 y3))
  | 0 => fun _ _ _ _ r h => by simp [presence_Valid.l0] at h
  | k + 1 => by
    have ih0 := presence_Valid.mono_l k
    · intro y0 y1 y2 y3
      unfold presence_Valid.l0
      repeat' first
      | (with_reducible exact ih0 _ _ _ _)
      | (with_reducible exact presence_ordered.mono _ _ _ _)
      | (with_reducible exact LeO.refl _)
      | (with_reducible exact LeO.none _)
      | (with_reducible refine LeO.ite ?_ ?_)
      | (with_reducible refine LeO.bind ?_ (fun _ => ?_))
      | exact ih0 _ _ _ _
      | exact presence_ordered.mono _ _ _ _
      | exact LeO.none _
      | refine LeO.ite ?_ ?_
      | refine LeO.bind ?_ (fun _ => ?_)
theorem presence_Valid.mono : ∀ a0 k, LeO (presence_Valid.f k a0) (presence_Valid.f (k + 1) a0) := by
  intro a0 k
  have ih0 := presence_Valid.mono_l k
  unfold presence_Valid.f
  repeat' first
      | (with_reducible exact ih0 _ _ _ _)
      | (with_reducible exact presence_ordered.mono _ _ _ _)
      | (with_reducible exact LeO.refl _)
      | (with_reducible exact LeO.none _)
      | (with_reducible refine LeO.ite ?_ ?_)
      | (with_reducible refine LeO.bind ?_ (fun _ => ?_))
      | exact ih0 _ _ _ _
      | exact presence_ordered.mono _ _ _ _
      | exact LeO.none _
      | refine LeO.ite ?_ ?_
      | refine LeO.bind ?_ (fun _ => ?_)
set_option maxHeartbeats 8000000 in
set_option maxRecDepth 100000 in
theorem presence_Valid.calls (k : Nat) (A0 : Option Addr) (c0 : Nat) (l0 : List (S48)) (r : Int) (w : World) (hr0 : Kd.C k48 w A0 l0.length l0) (hc0 : l0.length ≤ c0) (h : presence_Valid.f k l0 = some r) :
    Calls Try.prog 24 #[.slice A0 l0.length c0] w fun e w' => e = .returned (.int .i64 r) ∧ Below w.heap.size w w' := by
  have hu48 := Try.underlying48
  have hu41 := Try.underlying41
  have HR0 := Aside0.mk hr0
  have HC0 := Aside0.mk hc0
  clear hr0 hc0
  have HB := Aside0.mk (Below.refl w.heap.size w)
  have H : (if (l0.length : Int) > 1024 then (some 1) else (presence_Valid.l0 k 0 l0 (l0.length : Int) 0)) = some r := h
  clear h
  by_cases c2 : (l0.length : Int) > 1024
  · rw [if_pos c2] at H
    have c2b0 : decide (1024 < (l0.length : Int)) = true := decide_eq_true c2
    have c2b1 : decide (1024 < l0.length) = true := decide_eq_true (by omega)
    clear c2
    obtain rfl := Option.some.inj H
    go_enter Try.func24, Try.ntmps24
    go_wp2
    go_ret
    exact⟨by first|rfl|(simp[errW_none,errW_some] <;> rfl)|(simp[*,errW_none,errW_some] <;> rfl),by repeat (first|(with_reducible first|exact HB.out|apply below_alloc|apply pw_below_drewN|apply below_drew1)|exact HB.out)⟩
  · rw [if_neg c2] at H
    have c2b0 : decide (1024 < (l0.length : Int)) = false := decide_eq_false c2
    have c2b1 : decide (1024 < l0.length) = false := decide_eq_false (by omega)
    clear c2
    have H' := Aside0.mk H
    clear H
    go_enter Try.func24, Try.ntmps24
    go_wp2
    go_loopg [3,11] k (fun kq v3 v11 w'=>∃ (x3_1:Int) (x11_1:Int),v3 = .int .i64 x3_1∧v11 = .int .i64 x11_1∧Aside0 (presence_Valid.l0 kq x3_1 l0 (l0.length:Int) x11_1 = some r)∧Aside0 (kq≤k)∧Aside0 (Below w.heap.size w w'))
    case atStart=>exact⟨(0),(0),(by first|rfl|(simp;done)|(simp[*];done)),(by first|rfl|(simp;done)|(simp[*];done)),H',⟨Nat.le_refl _⟩,⟨by repeat (first|(with_reducible first|exact HB.out|apply below_alloc|apply pw_below_drewN|apply below_drew1)|exact HB.out)⟩⟩
    case round =>
      clear H'
      try clear c2
      try clear c2b0
      try clear c2b1
      try clear p2
      obtain ⟨x3_1, x11_1, rfl, rfl, HA, HK1, HB⟩ := hrel
      cases gk with
      | zero => exact absurd HA.out (by simp [presence_Valid.l0])
      | succ k1 =>
        have H := HA.out
        clear HA
        simp only [presence_Valid.l0] at H
        by_cases c3 : x11_1 < (l0.length : Int)
        · rw [if_pos c3] at H
          have c3b0 : decide (x11_1 < (l0.length : Int)) = true := decide_eq_true c3
          clear c3
          by_cases c4 : 0 ≤ x11_1
          · rw [if_pos c4] at H
            have c4b0 : decide (0 ≤ x11_1) = true := decide_eq_true c4
            clear c4
            by_cases c5 : x11_1 < (l0.length : Int)
            · rw [if_pos c5] at H
              have c5b0 : decide (x11_1 < (l0.length : Int)) = true := decide_eq_true c5
              clear c5
              obtain ⟨y103,hy103⟩:∃ y_:List (S41),y_ = (([(⟨(rd_T48 l0 x11_1).f0.f0,(rd_T48 l0 x11_1).f0.f1⟩:S41)]:List (S41))):=⟨_,rfl⟩
              replace H:((presence_ordered.f k1 y103 x3_1 120968640).bind fun t106=>(if t106 = true then ((presence_ordered.f k1 ((rd_T48 l0 x11_1).f1) ((rd_T48 l0 x11_1).f0.f0) ((rd_T48 l0 x11_1).f0.f1)).bind fun t107=>(if t107 = true then (presence_Valid.l0 k1 ((rd_T48 l0 x11_1).f0.f1) l0 (l0.length:Int) (wrap64 (x11_1 + 1))) else (some 1))) else (some 1))) = some r:=by first|(rw[hy103];with_reducible exact H)|(have H2_:=(Option.bind_some _ _).symm.trans H;rw[hy103];with_reducible exact H2_)|(have H2_:=(Option.bind_some _ _).symm.trans H;with_reducible exact H2_)|with_reducible exact H|(rw[hy103];exact H)|exact H
              have Ny103 := Aside0.mk hy103
              clear hy103
              replace H := Option.bind_eq_some_iff.mp H
              obtain ⟨t106, A60, H⟩ := H
              replace H:(if t106 = true then ((presence_ordered.f k1 ((rd_T48 l0 x11_1).f1) ((rd_T48 l0 x11_1).f0.f0) ((rd_T48 l0 x11_1).f0.f1)).bind fun t107=>(if t107 = true then (presence_Valid.l0 k1 ((rd_T48 l0 x11_1).f0.f1) l0 (l0.length:Int) (wrap64 (x11_1 + 1))) else (some 1))) else (some 1)) = some r:=H
              have A6 := Aside0.mk A60
              clear A60
              by_cases c7 : t106 = true
              · subst c7
                have H1:((presence_ordered.f k1 ((rd_T48 l0 x11_1).f1) ((rd_T48 l0 x11_1).f0.f0) ((rd_T48 l0 x11_1).f0.f1)).bind fun t107=>(if t107 = true then (presence_Valid.l0 k1 ((rd_T48 l0 x11_1).f0.f1) l0 (l0.length:Int) (wrap64 (x11_1 + 1))) else (some 1))) = some r:=by rw[if_pos rfl] at H;exact H
                clear H
                have H := H1
                clear H1
                replace H := Option.bind_eq_some_iff.mp H
                obtain ⟨t107, A80, H⟩ := H
                replace H:(if t107 = true then (presence_Valid.l0 k1 ((rd_T48 l0 x11_1).f0.f1) l0 (l0.length:Int) (wrap64 (x11_1 + 1))) else (some 1)) = some r:=H
                have A8 := Aside0.mk A80
                clear A80
                by_cases c9 : t107 = true
                · subst c9
                  have H1:(presence_Valid.l0 k1 ((rd_T48 l0 x11_1).f0.f1) l0 (l0.length:Int) (wrap64 (x11_1 + 1))) = some r:=by rw[if_pos rfl] at H;exact H
                  clear H
                  have H := H1
                  clear H1
                  have H' := Aside0.mk H
                  clear H
                  have p101:0≤(x11_1:Int):=of_decide_eq_true (by first|(with_reducible assumption)|assumption)
                  have q101:x11_1 < (l0.length:Int):=of_decide_eq_true (by first|(with_reducible assumption)|assumption)
                  obtain ⟨ad101,A101_2,c101_2,e101,hx101_0,hx101_1,hx101_2,hl101_2,hi101_2⟩:=at_T48 HR0.out x11_1 p101 q101
                  cases e101
                  replace hx101_0 := (HB.out.cell (World.block_lt_of_cell? w _ hx101_0)).trans hx101_0
                  replace hx101_1 := (HB.out.cell (World.block_lt_of_cell? w _ hx101_1)).trans hx101_1
                  replace hx101_2 := (HB.out.cell (World.block_lt_of_cell? w _ hx101_2)).trans hx101_2
                  have HR101_2 := Aside0.mk hi101_2
                  have HC101_2 := Aside0.mk hl101_2
                  clear hi101_2 hl101_2
                  replace p101 := eq_true p101
                  replace q101 := eq_true q101
                  go_wp2_with (first|((with_reducible refine gate_dst (N:=5) rfl ?_);refine box_event ?hg (N:=5) ?hd (cs:=#[.int .i64 0,.int .i64 0,.slice none 0 0]) (t:=48) ?hr ?_;(case hd=>rfl);(case hg=>rfl);(case hr=>first|(go_simp;done)|(go_simp;rfl));intro gb102 hg w10 hbox hb;have n0_:=Aside0.mk (below_step (by repeat (first|(with_reducible first|exact HB.out|apply below_alloc|apply pw_below_drewN|apply below_drew1)|exact HB.out)) hb);have n1_:=Aside0.mk (hbox);have n2_:=Aside0.mk ((by rw[hg];exact(below_size (by repeat (first|(with_reducible first|exact HB.out|apply below_alloc|apply pw_below_drewN|apply below_drew1)|exact HB.out))):w.heap.size≤gb102));have n3_:=Aside0.mk ((by rw[hg];exact(below_size (by repeat (first|(with_reducible first|exact HB.out|apply below_alloc|apply pw_below_drewN|apply below_drew1)|exact HB.out))):w.heap.size≤gb102));clear HB;have HB:=n0_;have BK102:=n1_;have GW102:=n2_;have GE102:=n3_;clear n0_ n1_ n2_ n3_;clear hb hbox hg;have hcz11_0:w10.cell? ⟨gb102,0,none⟩ = some (.int .i64 0):=(blk_cell BK102.out 0).trans rfl;have hcz11_1:w10.cell? ⟨gb102,1,none⟩ = some (.int .i64 0):=(blk_cell BK102.out 1).trans rfl;have hcz11_2:w10.cell? ⟨gb102,2,none⟩ = some (.slice none 0 0):=(blk_cell BK102.out 2).trans rfl;have hfz11_0:=blk_frozen BK102.out 0;have hfz11_1:=blk_frozen BK102.out 1;have hfz11_2:=blk_frozen BK102.out 2)|((with_reducible refine gate_dst (N:=17) rfl ?_);refine Kd.R_lit k41 _ 41 ?hg (N:=17) ?hd (xs:=([(⟨(rd_T48 l0 x11_1).f0.f0,(rd_T48 l0 x11_1).f0.f1⟩:S41)]:List (S41))) (inner:=[.int .i64 ((rd_T48 l0 x11_1).f0.f0),.int .i64 ((rd_T48 l0 x11_1).f0.f1)]) (ok:=fun _=>True) (okp:=fun _=>True) ?hr ?hp (fun _ hk=>hk) trivial (Below.refl _ _) (Nat.le_refl _) (by simp) ?_;(case hd=>rfl);(case hg=>rfl);(case hr=>first|(go_simp;done)|(go_simp;rfl));(case hp=>exact(Reps.c2 (show Kd.M k41 _ _ _ (⟨(rd_T48 l0 x11_1).f0.f0,(rd_T48 l0 x11_1).f0.f1⟩:S41) [.int .i64 ((rd_T48 l0 x11_1).f0.f0),.int .i64 ((rd_T48 l0 x11_1).f0.f1)] from (k41_mkM _ _ _ (⟨(rd_T48 l0 x11_1).f0.f0,(rd_T48 l0 x11_1).f0.f1⟩:S41) )) (Reps.none _ _)));intro v104 w12 ho13 hb hg_ hnew_;clear hg_ hnew_;(first|rw[← Ny103.out] at ho13|(simp only[Int.reduceToNat] at ho13;rw[← Ny103.out] at ho13));have n0_:=Aside0.mk (Kd.R_lower ho13 (below_size (by repeat (first|(with_reducible first|exact HB.out|apply below_alloc|apply pw_below_drewN|apply below_drew1|refine below_set ?_ GE102.out)|exact HB.out))));have n1_:=Aside0.mk (blk_below (g:=gb102) (o:=.cells #[.int .i64 ((rd_T48 l0 x11_1).f0.f0),.int .i64 ((rd_T48 l0 x11_1).f0.f1),.slice A101_2 ((rd_T48 l0 x11_1).f1).length c101_2] 48 (0,0)) (by (with_reducible repeat (first|refine blk_drewN ?_ _|refine blk_drew ?_|refine blk_alloc ?_ _));refine blk_put (cs:=#[.int .i64 ((rd_T48 l0 x11_1).f0.f0),.int .i64 ((rd_T48 l0 x11_1).f0.f1),.slice none 0 0]) ?_ 2 _ rfl;(with_reducible repeat (first|refine blk_drewN ?_ _|refine blk_drew ?_|refine blk_alloc ?_ _));refine blk_put (cs:=#[.int .i64 ((rd_T48 l0 x11_1).f0.f0),.int .i64 0,.slice none 0 0]) ?_ 1 _ rfl;(with_reducible repeat (first|refine blk_drewN ?_ _|refine blk_drew ?_|refine blk_alloc ?_ _));refine blk_put (cs:=#[.int .i64 0,.int .i64 0,.slice none 0 0]) ?_ 0 _ rfl;(with_reducible repeat (first|refine blk_drewN ?_ _|refine blk_drew ?_|refine blk_alloc ?_ _));exact BK102.out) hb);have n2_:=Aside0.mk (below_step (by repeat (first|(with_reducible first|exact HB.out|apply below_alloc|apply pw_below_drewN|apply below_drew1|refine below_set ?_ GE102.out)|exact HB.out)) hb);clear BK102;clear HB;have HO105:=n0_;have BK102:=n1_;have HB:=n2_;clear n0_ n1_ n2_;clear hb ho13;obtain ⟨Ao14,co14,eo14⟩:=Kd.R_slice HO105.out;subst eo14)|((with_reducible refine gate_callee (f:=30) rfl ?_);refine goesL_ (some 19) rfl rfl Try.func30 (by kernel_rfl) rfl #[.slice Ao14 y103.length co14,.int .i64 x3_1,.int .i64 120968640] rfl (by (try simp only[List.map_toArray,List.map_cons,List.map_nil]);first|done|rfl|(simp only[List.length_drop,List.length_take];rfl)) ?_;(with_reducible refine(presence_ordered.calls k1 _ _ y103 x3_1 120968640 true _ ?side1 ?side2 A6.out).mono ?_);(case side1=>repeat (first|exact(Kd.R_reads' HO105.out).2.2|(with_reducible refine Kd.C_alloc ?_ _)|(with_reducible refine Kd.C_drewN ?_ _)|(with_reducible refine Kd.C_drew ?_)));(case side2=>exact(Kd.R_reads' HO105.out).2.1);rintro e w15 ⟨rfl,hb⟩;refine⟨_,rfl,?_⟩;have n0_:=Aside0.mk (Kd.R_below (by (with_reducible repeat (first|apply Kd.R_alloc|apply Kd.R_drewN|apply Kd.R_drew));exact HO105.out) hb);have n1_:=Aside0.mk (blk_below (g:=gb102) (o:=.cells #[.int .i64 ((rd_T48 l0 x11_1).f0.f0),.int .i64 ((rd_T48 l0 x11_1).f0.f1),.slice A101_2 ((rd_T48 l0 x11_1).f1).length c101_2] 48 (0,0)) (by (with_reducible repeat (first|refine blk_drewN ?_ _|refine blk_drew ?_|refine blk_alloc ?_ _));exact BK102.out) hb);have n2_:=Aside0.mk (below_step (by repeat (first|(with_reducible first|exact HB.out|apply below_alloc|apply pw_below_drewN|apply below_drew1|refine below_set ?_ GE102.out)|exact HB.out)) hb);clear HO105;clear BK102;clear HB;have HO105:=n0_;have BK102:=n1_;have HB:=n2_;clear n0_ n1_ n2_;(try clear hb);(try clear hb2);(try clear hk);(try clear hi);have hcz16_0:w15.cell? ⟨gb102,0,none⟩ = some (.int .i64 ((rd_T48 l0 x11_1).f0.f0)):=(blk_cell BK102.out 0).trans rfl;have hcz16_1:w15.cell? ⟨gb102,1,none⟩ = some (.int .i64 ((rd_T48 l0 x11_1).f0.f1)):=(blk_cell BK102.out 1).trans rfl;have hcz16_2:w15.cell? ⟨gb102,2,none⟩ = some (.slice A101_2 ((rd_T48 l0 x11_1).f1).length c101_2):=(blk_cell BK102.out 2).trans rfl;have hfz16_0:=blk_frozen BK102.out 0;have hfz16_1:=blk_frozen BK102.out 1;have hfz16_2:=blk_frozen BK102.out 2)|(go_at_call 30;(with_reducible refine(presence_ordered.calls k1 _ _ ((rd_T48 l0 x11_1).f1) ((rd_T48 l0 x11_1).f0.f0) ((rd_T48 l0 x11_1).f0.f1) true _ ?side1 ?side2 A8.out).mono ?_);(case side1=>repeat (first|exact(Kd.C_below HR101_2.out HB.out)|(with_reducible refine Kd.C_alloc ?_ _)|(with_reducible refine Kd.C_drewN ?_ _)|(with_reducible refine Kd.C_drew ?_)));(case side2=>exact HC101_2.out);rintro e w17 ⟨rfl,hb⟩;have n0_:=Aside0.mk (Kd.R_below (by (with_reducible repeat (first|apply Kd.R_alloc|apply Kd.R_drewN|apply Kd.R_drew));exact HO105.out) hb);have n1_:=Aside0.mk (blk_below (g:=gb102) (o:=.cells #[.int .i64 ((rd_T48 l0 x11_1).f0.f0),.int .i64 ((rd_T48 l0 x11_1).f0.f1),.slice A101_2 ((rd_T48 l0 x11_1).f1).length c101_2] 48 (0,0)) (by (with_reducible repeat (first|refine blk_drewN ?_ _|refine blk_drew ?_|refine blk_alloc ?_ _));exact BK102.out) hb);have n2_:=Aside0.mk (below_step (by repeat (first|(with_reducible first|exact HB.out|apply below_alloc|apply pw_below_drewN|apply below_drew1|refine below_set ?_ GE102.out)|exact HB.out)) hb);clear HO105;clear BK102;clear HB;have HO105:=n0_;have BK102:=n1_;have HB:=n2_;clear n0_ n1_ n2_;(try clear hb);(try clear hb2);(try clear hk);(try clear hi);have hcz18_0:w17.cell? ⟨gb102,0,none⟩ = some (.int .i64 ((rd_T48 l0 x11_1).f0.f0)):=(blk_cell BK102.out 0).trans rfl;have hcz18_1:w17.cell? ⟨gb102,1,none⟩ = some (.int .i64 ((rd_T48 l0 x11_1).f0.f1)):=(blk_cell BK102.out 1).trans rfl;have hcz18_2:w17.cell? ⟨gb102,2,none⟩ = some (.slice A101_2 ((rd_T48 l0 x11_1).f1).length c101_2):=(blk_cell BK102.out 2).trans rfl;have hfz18_0:=blk_frozen BK102.out 0;have hfz18_1:=blk_frozen BK102.out 1;have hfz18_2:=blk_frozen BK102.out 2))
                  go_roundg k1
                  case measure => have := HK1.out; omega
                  case rel=>exact⟨((rd_T48 l0 x11_1).f0.f1),(wrap64 (x11_1 + 1)),(by first|rfl|(simp;done)|(simp[*];done)),(by first|rfl|(simp;done)|(simp[*];done)),H',⟨by have:=HK1.out;omega⟩,⟨by repeat (first|(with_reducible first|exact HB.out|apply below_alloc|apply pw_below_drewN|apply below_drew1|refine below_set ?_ GE102.out)|exact HB.out)⟩⟩
                · replace c9 := Bool.eq_false_iff.mpr c9
                  subst c9
                  have H1 : (some 1) = some r := by rw [if_neg (show ¬ (false = true) by decide)] at H; exact H
                  clear H
                  have H := H1
                  clear H1
                  obtain rfl := Option.some.inj H
                  have p101:0≤(x11_1:Int):=of_decide_eq_true (by first|(with_reducible assumption)|assumption)
                  have q101:x11_1 < (l0.length:Int):=of_decide_eq_true (by first|(with_reducible assumption)|assumption)
                  obtain ⟨ad101,A101_2,c101_2,e101,hx101_0,hx101_1,hx101_2,hl101_2,hi101_2⟩:=at_T48 HR0.out x11_1 p101 q101
                  cases e101
                  replace hx101_0 := (HB.out.cell (World.block_lt_of_cell? w _ hx101_0)).trans hx101_0
                  replace hx101_1 := (HB.out.cell (World.block_lt_of_cell? w _ hx101_1)).trans hx101_1
                  replace hx101_2 := (HB.out.cell (World.block_lt_of_cell? w _ hx101_2)).trans hx101_2
                  have HR101_2 := Aside0.mk hi101_2
                  have HC101_2 := Aside0.mk hl101_2
                  clear hi101_2 hl101_2
                  replace p101 := eq_true p101
                  replace q101 := eq_true q101
                  go_wp2_with (first|((with_reducible refine gate_dst (N:=5) rfl ?_);refine box_event ?hg (N:=5) ?hd (cs:=#[.int .i64 0,.int .i64 0,.slice none 0 0]) (t:=48) ?hr ?_;(case hd=>rfl);(case hg=>rfl);(case hr=>first|(go_simp;done)|(go_simp;rfl));intro gb102 hg w19 hbox hb;have n0_:=Aside0.mk (below_step (by repeat (first|(with_reducible first|exact HB.out|apply below_alloc|apply pw_below_drewN|apply below_drew1)|exact HB.out)) hb);have n1_:=Aside0.mk (hbox);have n2_:=Aside0.mk ((by rw[hg];exact(below_size (by repeat (first|(with_reducible first|exact HB.out|apply below_alloc|apply pw_below_drewN|apply below_drew1)|exact HB.out))):w.heap.size≤gb102));have n3_:=Aside0.mk ((by rw[hg];exact(below_size (by repeat (first|(with_reducible first|exact HB.out|apply below_alloc|apply pw_below_drewN|apply below_drew1)|exact HB.out))):w.heap.size≤gb102));clear HB;have HB:=n0_;have BK102:=n1_;have GW102:=n2_;have GE102:=n3_;clear n0_ n1_ n2_ n3_;clear hb hbox hg;have hcz20_0:w19.cell? ⟨gb102,0,none⟩ = some (.int .i64 0):=(blk_cell BK102.out 0).trans rfl;have hcz20_1:w19.cell? ⟨gb102,1,none⟩ = some (.int .i64 0):=(blk_cell BK102.out 1).trans rfl;have hcz20_2:w19.cell? ⟨gb102,2,none⟩ = some (.slice none 0 0):=(blk_cell BK102.out 2).trans rfl;have hfz20_0:=blk_frozen BK102.out 0;have hfz20_1:=blk_frozen BK102.out 1;have hfz20_2:=blk_frozen BK102.out 2)|((with_reducible refine gate_dst (N:=17) rfl ?_);refine Kd.R_lit k41 _ 41 ?hg (N:=17) ?hd (xs:=([(⟨(rd_T48 l0 x11_1).f0.f0,(rd_T48 l0 x11_1).f0.f1⟩:S41)]:List (S41))) (inner:=[.int .i64 ((rd_T48 l0 x11_1).f0.f0),.int .i64 ((rd_T48 l0 x11_1).f0.f1)]) (ok:=fun _=>True) (okp:=fun _=>True) ?hr ?hp (fun _ hk=>hk) trivial (Below.refl _ _) (Nat.le_refl _) (by simp) ?_;(case hd=>rfl);(case hg=>rfl);(case hr=>first|(go_simp;done)|(go_simp;rfl));(case hp=>exact(Reps.c2 (show Kd.M k41 _ _ _ (⟨(rd_T48 l0 x11_1).f0.f0,(rd_T48 l0 x11_1).f0.f1⟩:S41) [.int .i64 ((rd_T48 l0 x11_1).f0.f0),.int .i64 ((rd_T48 l0 x11_1).f0.f1)] from (k41_mkM _ _ _ (⟨(rd_T48 l0 x11_1).f0.f0,(rd_T48 l0 x11_1).f0.f1⟩:S41) )) (Reps.none _ _)));intro v104 w21 ho22 hb hg_ hnew_;clear hg_ hnew_;(first|rw[← Ny103.out] at ho22|(simp only[Int.reduceToNat] at ho22;rw[← Ny103.out] at ho22));have n0_:=Aside0.mk (Kd.R_lower ho22 (below_size (by repeat (first|(with_reducible first|exact HB.out|apply below_alloc|apply pw_below_drewN|apply below_drew1|refine below_set ?_ GE102.out)|exact HB.out))));have n1_:=Aside0.mk (blk_below (g:=gb102) (o:=.cells #[.int .i64 ((rd_T48 l0 x11_1).f0.f0),.int .i64 ((rd_T48 l0 x11_1).f0.f1),.slice A101_2 ((rd_T48 l0 x11_1).f1).length c101_2] 48 (0,0)) (by (with_reducible repeat (first|refine blk_drewN ?_ _|refine blk_drew ?_|refine blk_alloc ?_ _));refine blk_put (cs:=#[.int .i64 ((rd_T48 l0 x11_1).f0.f0),.int .i64 ((rd_T48 l0 x11_1).f0.f1),.slice none 0 0]) ?_ 2 _ rfl;(with_reducible repeat (first|refine blk_drewN ?_ _|refine blk_drew ?_|refine blk_alloc ?_ _));refine blk_put (cs:=#[.int .i64 ((rd_T48 l0 x11_1).f0.f0),.int .i64 0,.slice none 0 0]) ?_ 1 _ rfl;(with_reducible repeat (first|refine blk_drewN ?_ _|refine blk_drew ?_|refine blk_alloc ?_ _));refine blk_put (cs:=#[.int .i64 0,.int .i64 0,.slice none 0 0]) ?_ 0 _ rfl;(with_reducible repeat (first|refine blk_drewN ?_ _|refine blk_drew ?_|refine blk_alloc ?_ _));exact BK102.out) hb);have n2_:=Aside0.mk (below_step (by repeat (first|(with_reducible first|exact HB.out|apply below_alloc|apply pw_below_drewN|apply below_drew1|refine below_set ?_ GE102.out)|exact HB.out)) hb);clear BK102;clear HB;have HO105:=n0_;have BK102:=n1_;have HB:=n2_;clear n0_ n1_ n2_;clear hb ho22;obtain ⟨Ao23,co23,eo23⟩:=Kd.R_slice HO105.out;subst eo23)|((with_reducible refine gate_callee (f:=30) rfl ?_);refine goesL_ (some 19) rfl rfl Try.func30 (by kernel_rfl) rfl #[.slice Ao23 y103.length co23,.int .i64 x3_1,.int .i64 120968640] rfl (by (try simp only[List.map_toArray,List.map_cons,List.map_nil]);first|done|rfl|(simp only[List.length_drop,List.length_take];rfl)) ?_;(with_reducible refine(presence_ordered.calls k1 _ _ y103 x3_1 120968640 true _ ?side1 ?side2 A6.out).mono ?_);(case side1=>repeat (first|exact(Kd.R_reads' HO105.out).2.2|(with_reducible refine Kd.C_alloc ?_ _)|(with_reducible refine Kd.C_drewN ?_ _)|(with_reducible refine Kd.C_drew ?_)));(case side2=>exact(Kd.R_reads' HO105.out).2.1);rintro e w24 ⟨rfl,hb⟩;refine⟨_,rfl,?_⟩;have n0_:=Aside0.mk (Kd.R_below (by (with_reducible repeat (first|apply Kd.R_alloc|apply Kd.R_drewN|apply Kd.R_drew));exact HO105.out) hb);have n1_:=Aside0.mk (blk_below (g:=gb102) (o:=.cells #[.int .i64 ((rd_T48 l0 x11_1).f0.f0),.int .i64 ((rd_T48 l0 x11_1).f0.f1),.slice A101_2 ((rd_T48 l0 x11_1).f1).length c101_2] 48 (0,0)) (by (with_reducible repeat (first|refine blk_drewN ?_ _|refine blk_drew ?_|refine blk_alloc ?_ _));exact BK102.out) hb);have n2_:=Aside0.mk (below_step (by repeat (first|(with_reducible first|exact HB.out|apply below_alloc|apply pw_below_drewN|apply below_drew1|refine below_set ?_ GE102.out)|exact HB.out)) hb);clear HO105;clear BK102;clear HB;have HO105:=n0_;have BK102:=n1_;have HB:=n2_;clear n0_ n1_ n2_;(try clear hb);(try clear hb2);(try clear hk);(try clear hi);have hcz25_0:w24.cell? ⟨gb102,0,none⟩ = some (.int .i64 ((rd_T48 l0 x11_1).f0.f0)):=(blk_cell BK102.out 0).trans rfl;have hcz25_1:w24.cell? ⟨gb102,1,none⟩ = some (.int .i64 ((rd_T48 l0 x11_1).f0.f1)):=(blk_cell BK102.out 1).trans rfl;have hcz25_2:w24.cell? ⟨gb102,2,none⟩ = some (.slice A101_2 ((rd_T48 l0 x11_1).f1).length c101_2):=(blk_cell BK102.out 2).trans rfl;have hfz25_0:=blk_frozen BK102.out 0;have hfz25_1:=blk_frozen BK102.out 1;have hfz25_2:=blk_frozen BK102.out 2)|(go_at_call 30;(with_reducible refine(presence_ordered.calls k1 _ _ ((rd_T48 l0 x11_1).f1) ((rd_T48 l0 x11_1).f0.f0) ((rd_T48 l0 x11_1).f0.f1) false _ ?side1 ?side2 A8.out).mono ?_);(case side1=>repeat (first|exact(Kd.C_below HR101_2.out HB.out)|(with_reducible refine Kd.C_alloc ?_ _)|(with_reducible refine Kd.C_drewN ?_ _)|(with_reducible refine Kd.C_drew ?_)));(case side2=>exact HC101_2.out);rintro e w26 ⟨rfl,hb⟩;have n0_:=Aside0.mk (Kd.R_below (by (with_reducible repeat (first|apply Kd.R_alloc|apply Kd.R_drewN|apply Kd.R_drew));exact HO105.out) hb);have n1_:=Aside0.mk (blk_below (g:=gb102) (o:=.cells #[.int .i64 ((rd_T48 l0 x11_1).f0.f0),.int .i64 ((rd_T48 l0 x11_1).f0.f1),.slice A101_2 ((rd_T48 l0 x11_1).f1).length c101_2] 48 (0,0)) (by (with_reducible repeat (first|refine blk_drewN ?_ _|refine blk_drew ?_|refine blk_alloc ?_ _));exact BK102.out) hb);have n2_:=Aside0.mk (below_step (by repeat (first|(with_reducible first|exact HB.out|apply below_alloc|apply pw_below_drewN|apply below_drew1|refine below_set ?_ GE102.out)|exact HB.out)) hb);clear HO105;clear BK102;clear HB;have HO105:=n0_;have BK102:=n1_;have HB:=n2_;clear n0_ n1_ n2_;(try clear hb);(try clear hb2);(try clear hk);(try clear hi)))
                  go_ret
                  exact⟨by first|rfl|(simp[errW_none,errW_some] <;> rfl)|(simp[*,errW_none,errW_some] <;> rfl),by repeat (first|(with_reducible first|exact HB.out|apply below_alloc|apply pw_below_drewN|apply below_drew1|refine below_set ?_ GE102.out)|exact HB.out)⟩
              · replace c7 := Bool.eq_false_iff.mpr c7
                subst c7
                have H1 : (some 1) = some r := by rw [if_neg (show ¬ (false = true) by decide)] at H; exact H
                clear H
                have H := H1
                clear H1
                obtain rfl := Option.some.inj H
                have p101 : 0 ≤ (x11_1 : Int) := of_decide_eq_true (by first | (with_reducible assumption) | assumption)
                have q101:x11_1 < (l0.length:Int):=of_decide_eq_true (by first|(with_reducible assumption)|assumption)
                obtain ⟨ad101,A101_2,c101_2,e101,hx101_0,hx101_1,hx101_2,hl101_2,hi101_2⟩:=at_T48 HR0.out x11_1 p101 q101
                cases e101
                replace hx101_0 := (HB.out.cell (World.block_lt_of_cell? w _ hx101_0)).trans hx101_0
                replace hx101_1 := (HB.out.cell (World.block_lt_of_cell? w _ hx101_1)).trans hx101_1
                replace hx101_2 := (HB.out.cell (World.block_lt_of_cell? w _ hx101_2)).trans hx101_2
                have HR101_2 := Aside0.mk hi101_2
                have HC101_2 := Aside0.mk hl101_2
                clear hi101_2 hl101_2
                replace p101 := eq_true p101
                replace q101 := eq_true q101
                go_wp2_with (first|((with_reducible refine gate_dst (N:=5) rfl ?_);refine box_event ?hg (N:=5) ?hd (cs:=#[.int .i64 0,.int .i64 0,.slice none 0 0]) (t:=48) ?hr ?_;(case hd=>rfl);(case hg=>rfl);(case hr=>first|(go_simp;done)|(go_simp;rfl));intro gb102 hg w27 hbox hb;have n0_:=Aside0.mk (below_step (by repeat (first|(with_reducible first|exact HB.out|apply below_alloc|apply pw_below_drewN|apply below_drew1)|exact HB.out)) hb);have n1_:=Aside0.mk (hbox);have n2_:=Aside0.mk ((by rw[hg];exact(below_size (by repeat (first|(with_reducible first|exact HB.out|apply below_alloc|apply pw_below_drewN|apply below_drew1)|exact HB.out))):w.heap.size≤gb102));have n3_:=Aside0.mk ((by rw[hg];exact(below_size (by repeat (first|(with_reducible first|exact HB.out|apply below_alloc|apply pw_below_drewN|apply below_drew1)|exact HB.out))):w.heap.size≤gb102));clear HB;have HB:=n0_;have BK102:=n1_;have GW102:=n2_;have GE102:=n3_;clear n0_ n1_ n2_ n3_;clear hb hbox hg;have hcz28_0:w27.cell? ⟨gb102,0,none⟩ = some (.int .i64 0):=(blk_cell BK102.out 0).trans rfl;have hcz28_1:w27.cell? ⟨gb102,1,none⟩ = some (.int .i64 0):=(blk_cell BK102.out 1).trans rfl;have hcz28_2:w27.cell? ⟨gb102,2,none⟩ = some (.slice none 0 0):=(blk_cell BK102.out 2).trans rfl;have hfz28_0:=blk_frozen BK102.out 0;have hfz28_1:=blk_frozen BK102.out 1;have hfz28_2:=blk_frozen BK102.out 2)|((with_reducible refine gate_dst (N:=17) rfl ?_);refine Kd.R_lit k41 _ 41 ?hg (N:=17) ?hd (xs:=([(⟨(rd_T48 l0 x11_1).f0.f0,(rd_T48 l0 x11_1).f0.f1⟩:S41)]:List (S41))) (inner:=[.int .i64 ((rd_T48 l0 x11_1).f0.f0),.int .i64 ((rd_T48 l0 x11_1).f0.f1)]) (ok:=fun _=>True) (okp:=fun _=>True) ?hr ?hp (fun _ hk=>hk) trivial (Below.refl _ _) (Nat.le_refl _) (by simp) ?_;(case hd=>rfl);(case hg=>rfl);(case hr=>first|(go_simp;done)|(go_simp;rfl));(case hp=>exact(Reps.c2 (show Kd.M k41 _ _ _ (⟨(rd_T48 l0 x11_1).f0.f0,(rd_T48 l0 x11_1).f0.f1⟩:S41) [.int .i64 ((rd_T48 l0 x11_1).f0.f0),.int .i64 ((rd_T48 l0 x11_1).f0.f1)] from (k41_mkM _ _ _ (⟨(rd_T48 l0 x11_1).f0.f0,(rd_T48 l0 x11_1).f0.f1⟩:S41) )) (Reps.none _ _)));intro v104 w29 ho30 hb hg_ hnew_;clear hg_ hnew_;(first|rw[← Ny103.out] at ho30|(simp only[Int.reduceToNat] at ho30;rw[← Ny103.out] at ho30));have n0_:=Aside0.mk (Kd.R_lower ho30 (below_size (by repeat (first|(with_reducible first|exact HB.out|apply below_alloc|apply pw_below_drewN|apply below_drew1|refine below_set ?_ GE102.out)|exact HB.out))));have n1_:=Aside0.mk (blk_below (g:=gb102) (o:=.cells #[.int .i64 ((rd_T48 l0 x11_1).f0.f0),.int .i64 ((rd_T48 l0 x11_1).f0.f1),.slice A101_2 ((rd_T48 l0 x11_1).f1).length c101_2] 48 (0,0)) (by (with_reducible repeat (first|refine blk_drewN ?_ _|refine blk_drew ?_|refine blk_alloc ?_ _));refine blk_put (cs:=#[.int .i64 ((rd_T48 l0 x11_1).f0.f0),.int .i64 ((rd_T48 l0 x11_1).f0.f1),.slice none 0 0]) ?_ 2 _ rfl;(with_reducible repeat (first|refine blk_drewN ?_ _|refine blk_drew ?_|refine blk_alloc ?_ _));refine blk_put (cs:=#[.int .i64 ((rd_T48 l0 x11_1).f0.f0),.int .i64 0,.slice none 0 0]) ?_ 1 _ rfl;(with_reducible repeat (first|refine blk_drewN ?_ _|refine blk_drew ?_|refine blk_alloc ?_ _));refine blk_put (cs:=#[.int .i64 0,.int .i64 0,.slice none 0 0]) ?_ 0 _ rfl;(with_reducible repeat (first|refine blk_drewN ?_ _|refine blk_drew ?_|refine blk_alloc ?_ _));exact BK102.out) hb);have n2_:=Aside0.mk (below_step (by repeat (first|(with_reducible first|exact HB.out|apply below_alloc|apply pw_below_drewN|apply below_drew1|refine below_set ?_ GE102.out)|exact HB.out)) hb);clear BK102;clear HB;have HO105:=n0_;have BK102:=n1_;have HB:=n2_;clear n0_ n1_ n2_;clear hb ho30;obtain ⟨Ao31,co31,eo31⟩:=Kd.R_slice HO105.out;subst eo31)|((with_reducible refine gate_callee (f:=30) rfl ?_);refine goesL_ (some 19) rfl rfl Try.func30 (by kernel_rfl) rfl #[.slice Ao31 y103.length co31,.int .i64 x3_1,.int .i64 120968640] rfl (by (try simp only[List.map_toArray,List.map_cons,List.map_nil]);first|done|rfl|(simp only[List.length_drop,List.length_take];rfl)) ?_;(with_reducible refine(presence_ordered.calls k1 _ _ y103 x3_1 120968640 false _ ?side1 ?side2 A6.out).mono ?_);(case side1=>repeat (first|exact(Kd.R_reads' HO105.out).2.2|(with_reducible refine Kd.C_alloc ?_ _)|(with_reducible refine Kd.C_drewN ?_ _)|(with_reducible refine Kd.C_drew ?_)));(case side2=>exact(Kd.R_reads' HO105.out).2.1);rintro e w32 ⟨rfl,hb⟩;refine⟨_,rfl,?_⟩;have n0_:=Aside0.mk (Kd.R_below (by (with_reducible repeat (first|apply Kd.R_alloc|apply Kd.R_drewN|apply Kd.R_drew));exact HO105.out) hb);have n1_:=Aside0.mk (blk_below (g:=gb102) (o:=.cells #[.int .i64 ((rd_T48 l0 x11_1).f0.f0),.int .i64 ((rd_T48 l0 x11_1).f0.f1),.slice A101_2 ((rd_T48 l0 x11_1).f1).length c101_2] 48 (0,0)) (by (with_reducible repeat (first|refine blk_drewN ?_ _|refine blk_drew ?_|refine blk_alloc ?_ _));exact BK102.out) hb);have n2_:=Aside0.mk (below_step (by repeat (first|(with_reducible first|exact HB.out|apply below_alloc|apply pw_below_drewN|apply below_drew1|refine below_set ?_ GE102.out)|exact HB.out)) hb);clear HO105;clear BK102;clear HB;have HO105:=n0_;have BK102:=n1_;have HB:=n2_;clear n0_ n1_ n2_;(try clear hb);(try clear hb2);(try clear hk);(try clear hi)))
                go_ret
                exact⟨by first|rfl|(simp[errW_none,errW_some] <;> rfl)|(simp[*,errW_none,errW_some] <;> rfl),by repeat (first|(with_reducible first|exact HB.out|apply below_alloc|apply pw_below_drewN|apply below_drew1|refine below_set ?_ GE102.out)|exact HB.out)⟩
            · rw [if_neg c5] at H
              exact absurd H (by simp)
          · rw [if_neg c4] at H
            exact absurd H (by simp)
        · rw [if_neg c3] at H
          have c3b0 : decide (x11_1 < (l0.length : Int)) = false := decide_eq_false c3
          clear c3
          obtain rfl := Option.some.inj H
          go_wp2
          go_ret
          exact⟨by first|rfl|(simp[errW_none,errW_some] <;> rfl)|(simp[*,errW_none,errW_some] <;> rfl),by repeat (first|(with_reducible first|exact HB.out|apply below_alloc|apply pw_below_drewN|apply below_drew1)|exact HB.out)⟩
def worktime_moved.j0 : Nat → Int → Int → Bool → Int → Int → Int → List (S60) → Option (Int)
  | 0, _, _, _, _, _, _, _ => none
  | k + 1, x1, x7, x8, x102000, x102001, x102002, x102003 => if x102001 = 3 then (if (wrap64 (2 * (wrap64 (x1 - x7)))) ≥ x102000 then (if x7 < x1 then (some (wrap64 (x7 + x102000))) else (some x7)) else (some x7)) else (if x8 = true then (if x7 < x1 then (some (wrap64 (x7 + x102000))) else (some x7)) else (some x7))
def worktime_moved.f (k : Nat) (a0_0 : Int) (a0_1 : Int) (a0_2 : Int) (l0_3 : List (S60)) (a1 : Int) (a2 : Bool) : Option (Int) := if a0_1 = 0 then (some a1) else (if a0_0 = 0 then (none) else (if a2 = true then (worktime_moved.j0 k a1 (wrap64 (a1 - (Int.tmod a1 a0_0))) (a0_1 == 2) a0_0 a0_1 a0_2 l0_3) else (worktime_moved.j0 k a1 (wrap64 (a1 - (Int.tmod a1 a0_0))) (a0_1 == 1) a0_0 a0_1 a0_2 l0_3)))
theorem worktime_moved.mono_l : ∀ k, (∀ y0 y1 y2 y3 y4 y5 y6, LeO (worktime_moved.j0 k y0 y1 y2 y3 y4 y5 y6) (worktime_moved.j0 (k + 1) y0 y1 y2 y3 y4 y5 y6))
  | 0 => fun _ _ _ _ _ _ _ r h => by simp [worktime_moved.j0] at h
  | k + 1 => by
    have ih0 := worktime_moved.mono_l k
    · intro y0 y1 y2 y3 y4 y5 y6
      unfold worktime_moved.j0
      repeat' first
      | (with_reducible exact ih0 _ _ _ _ _ _ _)
      | (with_reducible exact LeO.refl _)
      | (with_reducible exact LeO.none _)
      | (with_reducible refine LeO.ite ?_ ?_)
      | (with_reducible refine LeO.bind ?_ (fun _ => ?_))
      | exact ih0 _ _ _ _ _ _ _
      | exact LeO.none _
      | refine LeO.ite ?_ ?_
      | refine LeO.bind ?_ (fun _ => ?_)
theorem worktime_moved.mono : ∀ a0 a1 a2 a3 a4 a5 k, LeO (worktime_moved.f k a0 a1 a2 a3 a4 a5) (worktime_moved.f (k + 1) a0 a1 a2 a3 a4 a5) := by
  intro a0 a1 a2 a3 a4 a5 k
  have ih0 := worktime_moved.mono_l k
  unfold worktime_moved.f
  repeat' first
      | (with_reducible exact ih0 _ _ _ _ _ _ _)
      | (with_reducible exact LeO.refl _)
      | (with_reducible exact LeO.none _)
      | (with_reducible refine LeO.ite ?_ ?_)
      | (with_reducible refine LeO.bind ?_ (fun _ => ?_))
      | exact ih0 _ _ _ _ _ _ _
      | exact LeO.none _
      | refine LeO.ite ?_ ?_
      | refine LeO.bind ?_ (fun _ => ?_)
set_option maxHeartbeats 8000000 in
set_option maxRecDepth 100000 in
theorem worktime_moved.calls (k : Nat) (a0_0 : Int) (a0_1 : Int) (a0_2 : Int) (A0_3 : Option Addr) (c0_3 : Nat) (l0_3 : List (S60)) (a1 : Int) (a2 : Bool) (r : Int) (w : World) (hr0_3 : Kd.C k60 w A0_3 l0_3.length l0_3) (hc0_3 : l0_3.length ≤ c0_3) (h : worktime_moved.f k a0_0 a0_1 a0_2 l0_3 a1 a2 = some r) :
    Calls Try.prog 31 #[.agg #[.int .i64 a0_0, .int .i64 a0_1, .int .i64 a0_2, .slice A0_3 l0_3.length c0_3], .int .i64 a1, .bool a2] w fun e w' => e = .returned (.int .i64 r) ∧ Below w.heap.size w w' := by
  have hu35 := Try.underlying35
  have HR0_3 := Aside0.mk hr0_3
  have HC0_3 := Aside0.mk hc0_3
  clear hr0_3 hc0_3
  have HB := Aside0.mk (Below.refl w.heap.size w)
  have H:(if a0_1 = 0 then (some a1) else (if a0_0 = 0 then (none) else (if a2 = true then (worktime_moved.j0 k a1 (wrap64 (a1 - (Int.tmod a1 a0_0))) (a0_1 == 2) a0_0 a0_1 a0_2 l0_3) else (worktime_moved.j0 k a1 (wrap64 (a1 - (Int.tmod a1 a0_0))) (a0_1 == 1) a0_0 a0_1 a0_2 l0_3)))) = some r:=h
  clear h
  by_cases c4 : a0_1 = 0
  · rw [if_pos c4] at H
    have c4b0 : (a0_1 == 0) = true := beq_iff_eq.mpr c4
    have c4b1 : (a0_1 != 0) = false := bne_eq_false_iff_eq.mpr c4
    clear c4
    obtain rfl := Option.some.inj H
    go_enter Try.func31, Try.ntmps31
    go_wp2_with (first|((with_reducible refine gate_dst (N:=3) rfl ?_);refine box_event ?hg (N:=3) ?hd (cs:=#[.int .i64 a0_0,.int .i64 a0_1,.int .i64 a0_2,.slice A0_3 l0_3.length c0_3]) (t:=35) ?hr ?_;(case hd=>rfl);(case hg=>rfl);(case hr=>first|(go_simp;done)|(go_simp;rfl));intro gb101 hg w5 hbox hb;have n0_:=Aside0.mk (below_step (by repeat (first|(with_reducible first|exact HB.out|apply below_alloc|apply pw_below_drewN|apply below_drew1)|exact HB.out)) hb);have n1_:=Aside0.mk (hbox);have n2_:=Aside0.mk ((by rw[hg];exact(below_size (by repeat (first|(with_reducible first|exact HB.out|apply below_alloc|apply pw_below_drewN|apply below_drew1)|exact HB.out))):w.heap.size≤gb101));have n3_:=Aside0.mk ((by rw[hg];exact(below_size (by repeat (first|(with_reducible first|exact HB.out|apply below_alloc|apply pw_below_drewN|apply below_drew1)|exact HB.out))):w.heap.size≤gb101));clear HB;have HB:=n0_;have BK101:=n1_;have GW101:=n2_;have GE101:=n3_;clear n0_ n1_ n2_ n3_;clear hb hbox hg;have hcz6_0:w5.cell? ⟨gb101,0,none⟩ = some (.int .i64 a0_0):=(blk_cell BK101.out 0).trans rfl;have hcz6_1:w5.cell? ⟨gb101,1,none⟩ = some (.int .i64 a0_1):=(blk_cell BK101.out 1).trans rfl;have hcz6_2:w5.cell? ⟨gb101,2,none⟩ = some (.int .i64 a0_2):=(blk_cell BK101.out 2).trans rfl;have hcz6_3:w5.cell? ⟨gb101,3,none⟩ = some (.slice A0_3 l0_3.length c0_3):=(blk_cell BK101.out 3).trans rfl;have hfz6_0:=blk_frozen BK101.out 0;have hfz6_1:=blk_frozen BK101.out 1;have hfz6_2:=blk_frozen BK101.out 2;have hfz6_3:=blk_frozen BK101.out 3))
    go_ret
    exact⟨by first|rfl|(simp[errW_none,errW_some] <;> rfl)|(simp[*,errW_none,errW_some] <;> rfl),by repeat (first|(with_reducible first|exact HB.out|apply below_alloc|apply pw_below_drewN|apply below_drew1|refine below_set ?_ GE101.out)|exact HB.out)⟩
  · rw [if_neg c4] at H
    have c4b0 : (a0_1 == 0) = false := beq_eq_false_iff_ne.mpr c4
    have c4b1 : (a0_1 != 0) = true := bne_iff_ne.mpr c4
    by_cases c7 : a0_0 = 0
    · rw [if_pos c7] at H
      exact absurd H (by simp)
    · rw [if_neg c7] at H
      have c7b0 : (a0_0 == 0) = false := beq_eq_false_iff_ne.mpr c7
      have c7b1 : (a0_0 != 0) = true := bne_iff_ne.mpr c7
      have HC8 := Aside0.mk H
      clear H
      go_enter Try.func31, Try.ntmps31
      go_upto_if 22 with (first|((with_reducible refine gate_dst (N:=3) rfl ?_);refine box_event ?hg (N:=3) ?hd (cs:=#[.int .i64 a0_0,.int .i64 a0_1,.int .i64 a0_2,.slice A0_3 l0_3.length c0_3]) (t:=35) ?hr ?_;(case hd=>rfl);(case hg=>rfl);(case hr=>first|(go_simp;done)|(go_simp;rfl));intro gb101 hg w9 hbox hb;have n0_:=Aside0.mk (below_step (by repeat (first|(with_reducible first|exact HB.out|apply below_alloc|apply pw_below_drewN|apply below_drew1)|exact HB.out)) hb);have n1_:=Aside0.mk (hbox);have n2_:=Aside0.mk ((by rw[hg];exact(below_size (by repeat (first|(with_reducible first|exact HB.out|apply below_alloc|apply pw_below_drewN|apply below_drew1)|exact HB.out))):w.heap.size≤gb101));have n3_:=Aside0.mk ((by rw[hg];exact(below_size (by repeat (first|(with_reducible first|exact HB.out|apply below_alloc|apply pw_below_drewN|apply below_drew1)|exact HB.out))):w.heap.size≤gb101));clear HB;have HB:=n0_;have BK101:=n1_;have GW101:=n2_;have GE101:=n3_;clear n0_ n1_ n2_ n3_;clear hb hbox hg;have hcz10_0:w9.cell? ⟨gb101,0,none⟩ = some (.int .i64 a0_0):=(blk_cell BK101.out 0).trans rfl;have hcz10_1:w9.cell? ⟨gb101,1,none⟩ = some (.int .i64 a0_1):=(blk_cell BK101.out 1).trans rfl;have hcz10_2:w9.cell? ⟨gb101,2,none⟩ = some (.int .i64 a0_2):=(blk_cell BK101.out 2).trans rfl;have hcz10_3:w9.cell? ⟨gb101,3,none⟩ = some (.slice A0_3 l0_3.length c0_3):=(blk_cell BK101.out 3).trans rfl;have hfz10_0:=blk_frozen BK101.out 0;have hfz10_1:=blk_frozen BK101.out 1;have hfz10_2:=blk_frozen BK101.out 2;have hfz10_3:=blk_frozen BK101.out 3))
      (try simp only [Act.put, List.setIfInBounds_toArray, List.set_cons_zero, List.set_cons_succ])
      go_cut [8] (fun v8 wc=>∃ (kq:Nat) (x8_7:Bool),v8 = .bool x8_7∧Aside0 (worktime_moved.j0 kq a1 (wrap64 (a1 - (Int.tmod a1 a0_0))) x8_7 a0_0 a0_1 a0_2 l0_3 = some r)∧Aside0 (kq≤k)∧Aside0 (wc.heap[gb101]? = some (.cells #[.int .i64 a0_0,.int .i64 a0_1,.int .i64 a0_2,(.slice A0_3 l0_3.length c0_3)] 35 (0,0)))∧Aside0 (Below w.heap.size w wc))
      case first =>
        have H := HC8.out
        clear HC8
        by_cases c11 : a2 = true
        · subst c11
          have H1:(worktime_moved.j0 k a1 (wrap64 (a1 - (Int.tmod a1 a0_0))) (a0_1 == 2) a0_0 a0_1 a0_2 l0_3) = some r:=by rw[if_pos rfl] at H;exact H
          clear H
          have H := H1
          clear H1
          have H' := Aside0.mk H
          clear H
          have hcz12_0 : w9.cell? ⟨gb101, 0, none⟩ = some (.int .i64 a0_0) := (blk_cell BK101.out 0).trans rfl
          have hcz12_1 : w9.cell? ⟨gb101, 1, none⟩ = some (.int .i64 a0_1) := (blk_cell BK101.out 1).trans rfl
          have hcz12_2 : w9.cell? ⟨gb101, 2, none⟩ = some (.int .i64 a0_2) := (blk_cell BK101.out 2).trans rfl
          have hcz12_3:w9.cell? ⟨gb101,3,none⟩ = some (.slice A0_3 l0_3.length c0_3):=(blk_cell BK101.out 3).trans rfl
          have hfz12_0 := blk_frozen BK101.out 0
          have hfz12_1 := blk_frozen BK101.out 1
          have hfz12_2 := blk_frozen BK101.out 2
          have hfz12_3 := blk_frozen BK101.out 3
          go_wp2
          go_meet
          case rel=>exact⟨_,((a0_1 == 2)),(by first|rfl|(simp;done)|(simp[*];done)),H',⟨by first|omega|exact Nat.le_refl _⟩,⟨by (with_reducible repeat (first|refine blk_drewN ?_ _|refine blk_drew ?_|refine blk_alloc ?_ _));exact BK101.out⟩,⟨by repeat (first|(with_reducible first|exact HB.out|apply below_alloc|apply pw_below_drewN|apply below_drew1|refine below_set ?_ GE101.out)|exact HB.out)⟩⟩
        · replace c11 := Bool.eq_false_iff.mpr c11
          subst c11
          have H1:(worktime_moved.j0 k a1 (wrap64 (a1 - (Int.tmod a1 a0_0))) (a0_1 == 1) a0_0 a0_1 a0_2 l0_3) = some r:=by rw[if_neg (show ¬ (false = true) by decide)] at H;exact H
          clear H
          have H := H1
          clear H1
          have H' := Aside0.mk H
          clear H
          go_wp2
          go_meet
          case rel=>exact⟨_,((a0_1 == 1)),(by first|rfl|(simp;done)|(simp[*];done)),H',⟨by first|omega|exact Nat.le_refl _⟩,⟨by (with_reducible repeat (first|refine blk_drewN ?_ _|refine blk_drew ?_|refine blk_alloc ?_ _));exact BK101.out⟩,⟨by repeat (first|(with_reducible first|exact HB.out|apply below_alloc|apply pw_below_drewN|apply below_drew1|refine below_set ?_ GE101.out)|exact HB.out)⟩⟩
      case rest =>
        clear HC8
        try clear c1
        try clear p2
        try clear c3
        try clear c4
        try clear c4b0
        try clear c4b1
        try clear p6
        try clear c7
        try clear c7b0
        try clear c7b1
        try clear c11
        try clear hcz10_0
        try clear hcz10_1
        try clear hcz10_2
        try clear hcz10_3
        try clear hcz12_0
        try clear hcz12_1
        try clear hcz12_2
        try clear hcz12_3
        try clear hcz6_0
        try clear hcz6_1
        try clear hcz6_2
        try clear hcz6_3
        try clear hfz10_0
        try clear hfz10_1
        try clear hfz10_2
        try clear hfz10_3
        try clear hfz12_0
        try clear hfz12_1
        try clear hfz12_2
        try clear hfz12_3
        try clear hfz6_0
        try clear hfz6_1
        try clear hfz6_2
        try clear hfz6_3
        obtain ⟨kq, x8_7, rfl, HA, HJ7, BK101, HB⟩ := hcut
        cases kq with
        | zero => exact absurd HA.out (by simp [worktime_moved.j0])
        | succ kj7 =>
          have H := HA.out
          clear HA
          simp only [worktime_moved.j0] at H
          by_cases c13 : a0_1 = 3
          · rw [if_pos c13] at H
            have c13b0 : (a0_1 == 3) = true := beq_iff_eq.mpr c13
            have c13b1 : (a0_1 != 3) = false := bne_eq_false_iff_eq.mpr c13
            clear c13
            by_cases c14 : (wrap64 (2 * (wrap64 (a1 - (wrap64 (a1 - (Int.tmod a1 a0_0))))))) ≥ a0_0
            · rw [if_pos c14] at H
              have c14b0:decide (a0_0≤(wrap64 (2 * (wrap64 (a1 - (wrap64 (a1 - (Int.tmod a1 a0_0)))))))) = true:=decide_eq_true c14
              clear c14
              by_cases c15 : (wrap64 (a1 - (Int.tmod a1 a0_0))) < a1
              · rw [if_pos c15] at H
                have c15b0 : decide ((wrap64 (a1 - (Int.tmod a1 a0_0))) < a1) = true := decide_eq_true c15
                clear c15
                obtain rfl := Option.some.inj H
                have hcz16_0 : wc.cell? ⟨gb101, 0, none⟩ = some (.int .i64 a0_0) := (blk_cell BK101.out 0).trans rfl
                have hcz16_1 : wc.cell? ⟨gb101, 1, none⟩ = some (.int .i64 a0_1) := (blk_cell BK101.out 1).trans rfl
                have hcz16_2 : wc.cell? ⟨gb101, 2, none⟩ = some (.int .i64 a0_2) := (blk_cell BK101.out 2).trans rfl
                have hcz16_3:wc.cell? ⟨gb101,3,none⟩ = some (.slice A0_3 l0_3.length c0_3):=(blk_cell BK101.out 3).trans rfl
                have hfz16_0 := blk_frozen BK101.out 0
                have hfz16_1 := blk_frozen BK101.out 1
                have hfz16_2 := blk_frozen BK101.out 2
                have hfz16_3 := blk_frozen BK101.out 3
                go_wp2
                go_ret
                exact⟨by first|rfl|(simp[errW_none,errW_some] <;> rfl)|(simp[*,errW_none,errW_some] <;> rfl),by repeat (first|(with_reducible first|exact HB.out|apply below_alloc|apply pw_below_drewN|apply below_drew1|refine below_set ?_ GE101.out)|exact HB.out)⟩
              · rw [if_neg c15] at H
                have c15b0 : decide ((wrap64 (a1 - (Int.tmod a1 a0_0))) < a1) = false := decide_eq_false c15
                clear c15
                obtain rfl := Option.some.inj H
                have hcz17_0 : wc.cell? ⟨gb101, 0, none⟩ = some (.int .i64 a0_0) := (blk_cell BK101.out 0).trans rfl
                have hcz17_1 : wc.cell? ⟨gb101, 1, none⟩ = some (.int .i64 a0_1) := (blk_cell BK101.out 1).trans rfl
                have hcz17_2 : wc.cell? ⟨gb101, 2, none⟩ = some (.int .i64 a0_2) := (blk_cell BK101.out 2).trans rfl
                have hcz17_3:wc.cell? ⟨gb101,3,none⟩ = some (.slice A0_3 l0_3.length c0_3):=(blk_cell BK101.out 3).trans rfl
                have hfz17_0 := blk_frozen BK101.out 0
                have hfz17_1 := blk_frozen BK101.out 1
                have hfz17_2 := blk_frozen BK101.out 2
                have hfz17_3 := blk_frozen BK101.out 3
                go_wp2
                go_ret
                exact⟨by first|rfl|(simp[errW_none,errW_some] <;> rfl)|(simp[*,errW_none,errW_some] <;> rfl),by repeat (first|(with_reducible first|exact HB.out|apply below_alloc|apply pw_below_drewN|apply below_drew1|refine below_set ?_ GE101.out)|exact HB.out)⟩
            · rw [if_neg c14] at H
              have c14b0:decide (a0_0≤(wrap64 (2 * (wrap64 (a1 - (wrap64 (a1 - (Int.tmod a1 a0_0)))))))) = false:=decide_eq_false c14
              clear c14
              obtain rfl := Option.some.inj H
              have hcz18_0 : wc.cell? ⟨gb101, 0, none⟩ = some (.int .i64 a0_0) := (blk_cell BK101.out 0).trans rfl
              have hcz18_1 : wc.cell? ⟨gb101, 1, none⟩ = some (.int .i64 a0_1) := (blk_cell BK101.out 1).trans rfl
              have hcz18_2 : wc.cell? ⟨gb101, 2, none⟩ = some (.int .i64 a0_2) := (blk_cell BK101.out 2).trans rfl
              have hcz18_3:wc.cell? ⟨gb101,3,none⟩ = some (.slice A0_3 l0_3.length c0_3):=(blk_cell BK101.out 3).trans rfl
              have hfz18_0 := blk_frozen BK101.out 0
              have hfz18_1 := blk_frozen BK101.out 1
              have hfz18_2 := blk_frozen BK101.out 2
              have hfz18_3 := blk_frozen BK101.out 3
              go_wp2
              go_ret
              exact⟨by first|rfl|(simp[errW_none,errW_some] <;> rfl)|(simp[*,errW_none,errW_some] <;> rfl),by repeat (first|(with_reducible first|exact HB.out|apply below_alloc|apply pw_below_drewN|apply below_drew1|refine below_set ?_ GE101.out)|exact HB.out)⟩
          · rw [if_neg c13] at H
            have c13b0 : (a0_1 == 3) = false := beq_eq_false_iff_ne.mpr c13
            have c13b1 : (a0_1 != 3) = true := bne_iff_ne.mpr c13
            by_cases c19 : x8_7 = true
            · subst c19
              have H1:(if (wrap64 (a1 - (Int.tmod a1 a0_0))) < a1 then (some (wrap64 ((wrap64 (a1 - (Int.tmod a1 a0_0))) + a0_0))) else (some (wrap64 (a1 - (Int.tmod a1 a0_0))))) = some r:=by rw[if_pos rfl] at H;exact H
              clear H
              have H := H1
              clear H1
              by_cases c20 : (wrap64 (a1 - (Int.tmod a1 a0_0))) < a1
              · rw [if_pos c20] at H
                have c20b0 : decide ((wrap64 (a1 - (Int.tmod a1 a0_0))) < a1) = true := decide_eq_true c20
                clear c20
                obtain rfl := Option.some.inj H
                have hcz21_0 : wc.cell? ⟨gb101, 0, none⟩ = some (.int .i64 a0_0) := (blk_cell BK101.out 0).trans rfl
                have hcz21_1 : wc.cell? ⟨gb101, 1, none⟩ = some (.int .i64 a0_1) := (blk_cell BK101.out 1).trans rfl
                have hcz21_2 : wc.cell? ⟨gb101, 2, none⟩ = some (.int .i64 a0_2) := (blk_cell BK101.out 2).trans rfl
                have hcz21_3:wc.cell? ⟨gb101,3,none⟩ = some (.slice A0_3 l0_3.length c0_3):=(blk_cell BK101.out 3).trans rfl
                have hfz21_0 := blk_frozen BK101.out 0
                have hfz21_1 := blk_frozen BK101.out 1
                have hfz21_2 := blk_frozen BK101.out 2
                have hfz21_3 := blk_frozen BK101.out 3
                go_wp2
                go_ret
                exact⟨by first|rfl|(simp[errW_none,errW_some] <;> rfl)|(simp[*,errW_none,errW_some] <;> rfl),by repeat (first|(with_reducible first|exact HB.out|apply below_alloc|apply pw_below_drewN|apply below_drew1|refine below_set ?_ GE101.out)|exact HB.out)⟩
              · rw [if_neg c20] at H
                have c20b0 : decide ((wrap64 (a1 - (Int.tmod a1 a0_0))) < a1) = false := decide_eq_false c20
                clear c20
                obtain rfl := Option.some.inj H
                have hcz22_0 : wc.cell? ⟨gb101, 0, none⟩ = some (.int .i64 a0_0) := (blk_cell BK101.out 0).trans rfl
                have hcz22_1 : wc.cell? ⟨gb101, 1, none⟩ = some (.int .i64 a0_1) := (blk_cell BK101.out 1).trans rfl
                have hcz22_2 : wc.cell? ⟨gb101, 2, none⟩ = some (.int .i64 a0_2) := (blk_cell BK101.out 2).trans rfl
                have hcz22_3:wc.cell? ⟨gb101,3,none⟩ = some (.slice A0_3 l0_3.length c0_3):=(blk_cell BK101.out 3).trans rfl
                have hfz22_0 := blk_frozen BK101.out 0
                have hfz22_1 := blk_frozen BK101.out 1
                have hfz22_2 := blk_frozen BK101.out 2
                have hfz22_3 := blk_frozen BK101.out 3
                go_wp2
                go_ret
                exact⟨by first|rfl|(simp[errW_none,errW_some] <;> rfl)|(simp[*,errW_none,errW_some] <;> rfl),by repeat (first|(with_reducible first|exact HB.out|apply below_alloc|apply pw_below_drewN|apply below_drew1|refine below_set ?_ GE101.out)|exact HB.out)⟩
            · replace c19 := Bool.eq_false_iff.mpr c19
              subst c19
              have H1:(some (wrap64 (a1 - (Int.tmod a1 a0_0)))) = some r:=by rw[if_neg (show ¬ (false = true) by decide)] at H;exact H
              clear H
              have H := H1
              clear H1
              obtain rfl := Option.some.inj H
              have hcz23_0 : wc.cell? ⟨gb101, 0, none⟩ = some (.int .i64 a0_0) := (blk_cell BK101.out 0).trans rfl
              have hcz23_1 : wc.cell? ⟨gb101, 1, none⟩ = some (.int .i64 a0_1) := (blk_cell BK101.out 1).trans rfl
              have hcz23_2 : wc.cell? ⟨gb101, 2, none⟩ = some (.int .i64 a0_2) := (blk_cell BK101.out 2).trans rfl
              have hcz23_3:wc.cell? ⟨gb101,3,none⟩ = some (.slice A0_3 l0_3.length c0_3):=(blk_cell BK101.out 3).trans rfl
              have hfz23_0 := blk_frozen BK101.out 0
              have hfz23_1 := blk_frozen BK101.out 1
              have hfz23_2 := blk_frozen BK101.out 2
              have hfz23_3 := blk_frozen BK101.out 3
              go_wp2
              go_ret
              exact⟨by first|rfl|(simp[errW_none,errW_some] <;> rfl)|(simp[*,errW_none,errW_some] <;> rfl),by repeat (first|(with_reducible first|exact HB.out|apply below_alloc|apply pw_below_drewN|apply below_drew1|refine below_set ?_ GE101.out)|exact HB.out)⟩
def worktime_near.f (a0 : Int) (a1 : Int) (a2 : Int) : Option (Bool) := some (decide ((mx (wrap64 (a0 - a1)) (wrap64 (a1 - a0))) ≤ a2))
set_option maxHeartbeats 8000000 in
set_option maxRecDepth 100000 in
theorem worktime_near.calls (a0 : Int) (a1 : Int) (a2 : Int) (r : Bool) (w : World) (h : worktime_near.f a0 a1 a2 = some r) :
    Calls Try.prog 32 #[.int .i64 a0, .int .i64 a1, .int .i64 a2] w fun e w' => e = .returned (.bool r) ∧ Below w.heap.size w w' := by
  have HB := Aside0.mk (Below.refl w.heap.size w)
  have H : (some (decide ((mx (wrap64 (a0 - a1)) (wrap64 (a1 - a0))) ≤ a2))) = some r := h
  clear h
  obtain ⟨ji4, hji4⟩ : ∃ j_ : Int, (mx (wrap64 (a0 - a1)) (wrap64 (a1 - a0))) = j_ := ⟨_, rfl⟩
  replace H:(some (decide ((ji4)≤a2))) = some r:=by first|(rw[hji4] at H;exact H)|(simp only[hji4] at H ⊢;exact H)
  have hji4_:(if (wrap64 (a0 - a1)) < (wrap64 (a1 - a0)) then (wrap64 (a1 - a0)) else (wrap64 (a0 - a1))) = ji4:=hji4
  obtain rfl := Option.some.inj H
  go_enter Try.func32, Try.ntmps32
  go_wp2
  go_ret
  exact⟨by first|rfl|(simp[errW_none,errW_some] <;> rfl)|(simp only[← hji4];first|rfl|(simp[errW_none,errW_some] <;> rfl))|(simp[*,errW_none,errW_some] <;> rfl),by repeat (first|(with_reducible first|exact HB.out|apply below_alloc|apply pw_below_drewN|apply below_drew1)|exact HB.out)⟩
end Go.Proofs.Ythdohkabcpdpdaa.M
