import Derived.Test.YthdohkabcpdpdaaP0
import Derived.Test.YthdohkabcpdpdaaP4
import Derived.Test.YthdohkabcpdpdaaP15
namespace Go.Proofs.Ythdohkabcpdpdaa.P
open Go.RowKit Go.Proofs.YthdohkabcpdpdaaW.PrintWords Go.Proofs.YthdohkabcpdpdaaW.PrintLast Go.Proofs.YthdohkabcpdpdaaW.PrintMore
attribute [local go_sem] max2_int min2_int max_two min_two max_three min_three max_four min_four   -- for this text's walks alone
set_option linter.unusedVariables false
set_option linter.unusedSimpArgs false
def payrolllaw11_duty.j0 : Nat → Bool → List Int → Int → Int → Int → List (S48) → Option (Int × Int × (List (S48)) × Int × Int × Int)
  | 0, _, _, _, _, _, _ => none
  | k + 1, x17, x1000, x1001, x108000, x108001, x108002 => if x17 = true then (some (x108000, x108001, x108002, 0, 0, x1001)) else (if 0 < (x108002.length : Int) then ((payrollgen_Tape_Pick.f x1000 x1001 (([0, 5, (-5), 20, (-60)] : List Int))).bind fun bt114 => ((payrollgen_Tape_Pick.f x1000 bt114.2 (([480, 300, 510] : List Int))).bind fun bt119 => (some (x108000, x108001, x108002, wrap64 (((rd_T48 x108002 0).f0.f0) + bt114.1), wrap64 ((wrap64 (((rd_T48 x108002 0).f0.f0) + bt114.1)) + bt119.1), bt119.2)))) else (none))
def payrolllaw11_duty.f (k : Nat) (s0_0 : List Int) (s0_1 : Int) : Option (Int × Int × (List (S48)) × Int × Int × Int) := (payrollgen_Tape_Presences.f k s0_0 s0_1 3).bind fun bt103 => (if (bt103.1.length : Int) = 0 then (payrolllaw11_duty.j0 k true s0_0 bt103.2 (-1) 20454 bt103.1) else ((payrollgen_Tape_Next.f s0_0 bt103.2 2).bind fun bt108 => (payrolllaw11_duty.j0 k (bt108.1 == 0) s0_0 bt108.2 (-1) 20454 bt103.1)))
theorem payrolllaw11_duty.mono_l : ∀ k, (∀ y0 y1 y2 y3 y4 y5, LeO (payrolllaw11_duty.j0 k y0 y1 y2 y3 y4 y5) (payrolllaw11_duty.j0 (k + 1) y0 y1 y2 y3 y4 y5))
  | 0 => fun _ _ _ _ _ _ r h => by simp [payrolllaw11_duty.j0] at h
  | k + 1 => by
    have ih0 := payrolllaw11_duty.mono_l k
    · intro y0 y1 y2 y3 y4 y5
      unfold payrolllaw11_duty.j0
      repeat' first
      | (with_reducible exact ih0 _ _ _ _ _ _)
      | (with_reducible exact payrollgen_Tape_Presences.mono _ _ _ _)
      | (with_reducible exact LeO.refl _)
      | (with_reducible exact LeO.none _)
      | (with_reducible refine LeO.ite ?_ ?_)
      | (with_reducible refine LeO.bind ?_ (fun _ => ?_))
      | exact ih0 _ _ _ _ _ _
      | exact payrollgen_Tape_Presences.mono _ _ _ _
      | exact LeO.none _
      | refine LeO.ite ?_ ?_
      | refine LeO.bind ?_ (fun _ => ?_)
theorem payrolllaw11_duty.mono : ∀ a0 a1 k, LeO (payrolllaw11_duty.f k a0 a1) (payrolllaw11_duty.f (k + 1) a0 a1) := by
  intro a0 a1 k
  have ih0 := payrolllaw11_duty.mono_l k
  unfold payrolllaw11_duty.f
  repeat' first
      | (with_reducible exact ih0 _ _ _ _ _ _)
      | (with_reducible exact payrollgen_Tape_Presences.mono _ _ _ _)
      | (with_reducible exact LeO.refl _)
      | (with_reducible exact LeO.none _)
      | (with_reducible refine LeO.ite ?_ ?_)
      | (with_reducible refine LeO.bind ?_ (fun _ => ?_))
      | exact ih0 _ _ _ _ _ _
      | exact payrollgen_Tape_Presences.mono _ _ _ _
      | exact LeO.none _
      | refine LeO.ite ?_ ?_
      | refine LeO.bind ?_ (fun _ => ?_)
def payrolllaw11_duty.T4 : Bool × List (List Nat × List Nat) := (true, [([], []), ([0], [0]), ([1], [1]), ([2], [2]), ([3], [3]), ([4], [4]), ([], []), ([], []), ([6, 7], [6, 7]), ([5, 8], [5, 8]), ([9, 8, 0, 1, 2, 3, 4, 5, 6, 7, 8, 9], [9])])
def payrolllaw11_duty.B4 : List Nat := [0, 1, 3, 7, 15, 31, 0, 0, 192, 511, 1023]
theorem payrolllaw11_duty.tab4 : rtab .any (opsOf Try.f13 4) = payrolllaw11_duty.T4 := by kernel_rfl
theorem payrolllaw11_duty.bits4 : waitsOk payrolllaw11_duty.T4.2 payrolllaw11_duty.B4 = true := by kernel_rfl
def payrolllaw11_duty.T5 : Bool × List (List Nat × List Nat) := (true, [([], []), ([], []), ([], []), ([], []), ([], []), ([3, 4], [3, 4]), ([2, 5], [2, 5]), ([1, 6], [1, 6]), ([0, 5, 0], [0]), ([7, 8, 0, 1, 2, 3, 4, 5, 6, 7, 8], [7])])
def payrolllaw11_duty.B5 : List Nat := [0, 0, 0, 0, 0, 24, 60, 126, 57, 511]
theorem payrolllaw11_duty.tab5 : rtab .any (opsOf Try.f13 5) = payrolllaw11_duty.T5 := by kernel_rfl
theorem payrolllaw11_duty.bits5 : waitsOk payrolllaw11_duty.T5.2 payrolllaw11_duty.B5 = true := by kernel_rfl
set_option maxHeartbeats 8000000 in
set_option maxRecDepth 100000 in
theorem payrolllaw11_duty.calls (k : Nat) (g : Nat) (s0_0 : List Int) (s0_1 : Int) (r1 : Int) (r2 : Int) (r3 : List (S48)) (r4 : Int) (r5 : Int) (r6 : Int) (w0 w : World) (hI : IsS54 w0 w g s0_0 s0_1) (hB : Below w0.heap.size w0 w) (h : payrolllaw11_duty.f k s0_0 s0_1 = some (r1, r2, r3, r4, r5, r6)) :
    Calls Try.prog 13 #[.pointer (some ⟨g, 0, none⟩)] w fun e w' => ∃ v2_ : Value, e = .returned (.tuple #[.agg #[.int .i64 r1, .int .i64 r2, v2_], .agg #[.int .i64 r4, .int .i64 r5]]) ∧ Kd.N k48 48 w' w.heap.size (fun k_ => (w.heap.size ≤ k_)) v2_ r3 ∧ IsS54 w0 w' g s0_0 r6 ∧ Below w0.heap.size w0 w' ∧ KeepBut w w' g none := by
  have hu39 := Try.underlying39
  have hu41 := Try.underlying41
  have HI0 := Aside0.mk hI
  have HK := Aside0.mk (KeepBut.refl w g none)
  have HL := Aside0.mk hB.size
  clear hI
  have HW0 := Aside0.mk hB.size
  have HB := Aside0.mk hB
  clear hB
  have H:((payrollgen_Tape_Presences.f k s0_0 s0_1 3).bind fun bt103=>(if (bt103.1.length:Int) = 0 then (payrolllaw11_duty.j0 k true s0_0 bt103.2 (-1) 20454 bt103.1) else ((payrollgen_Tape_Next.f s0_0 bt103.2 2).bind fun bt108=>(payrolllaw11_duty.j0 k (bt108.1 == 0) s0_0 bt108.2 (-1) 20454 bt103.1)))) = some (r1,r2,r3,r4,r5,r6):=h
  clear h
  replace H := Option.bind_eq_some_iff.mp H
  obtain ⟨⟨t103, t106⟩, A20, H⟩ := H
  replace H:(if (t103.length:Int) = 0 then (payrolllaw11_duty.j0 k true s0_0 t106 (-1) 20454 t103) else ((payrollgen_Tape_Next.f s0_0 t106 2).bind fun bt108=>(payrolllaw11_duty.j0 k (bt108.1 == 0) s0_0 bt108.2 (-1) 20454 t103))) = some (r1,r2,r3,r4,r5,r6):=H
  have A2 := Aside0.mk A20
  clear A20
  have HC3 := Aside0.mk H
  clear H
  go_enter Try.func13, Try.ntmps13
  go_upto_region 2 with (first|((with_reducible refine gate_dst (N:=2) rfl ?_);refine box_event ?hg (N:=2) ?hd (cs:=#[.int .i64 0,.int .i64 0,.slice none 0 0]) (t:=39) ?hr ?_;(case hd=>rfl);(case hg=>rfl);(case hr=>first|(go_simp;done)|(go_simp;rfl));intro gb101 hg w4 hbox hb;have n0_:=Aside0.mk (IsS54.below (by repeat (first|(with_reducible first|exact HI0.out|apply IsS54.alloc|apply IsS54.drewN|apply IsS54.drew|apply IsS54.set_1)|exact HI0.out)) hb);have n1_:=Aside0.mk (KeepBut.trans (by repeat (first|(with_reducible first|exact HK.out|apply KeepBut.set_|apply keep_drewN|apply keep_drew|apply keep_alloc)|exact HK.out)) (KeepBut.of_below hb g none) (.inl rfl));have n2_:=Aside0.mk (below_step (by repeat (first|(with_reducible first|exact HB.out|apply below_alloc|apply pw_below_drewN|apply below_drew1|refine below_set ?_ (IsS54.ge HI0.out))|exact HB.out)) hb);have n3_:=Aside0.mk (hbox);have n4_:=Aside0.mk ((by rw[hg];exact(keep_size (w:=w) (g:=g) (row:=none) (by repeat (first|(with_reducible first|exact HK.out|apply KeepBut.set_|apply keep_drewN|apply keep_drew|apply keep_alloc)|exact HK.out))):w.heap.size≤gb101));have n5_:=Aside0.mk ((Nat.le_trans HW0.out (by rw[hg];exact(keep_size (w:=w) (g:=g) (row:=none) (by repeat (first|(with_reducible first|exact HK.out|apply KeepBut.set_|apply keep_drewN|apply keep_drew|apply keep_alloc)|exact HK.out))):w.heap.size≤gb101):w0.heap.size≤gb101));have n6_:=Aside0.mk ((by rw[hg];exact Nat.ne_of_lt (IsS54.lt (show IsS54 w0 _ g s0_0 s0_1 from by repeat (first|(with_reducible first|exact HI0.out|apply IsS54.alloc|apply IsS54.drewN|apply IsS54.drew|apply IsS54.set_1)|exact HI0.out))):g≠gb101));have n7_:=Aside0.mk ((by rw[hg];exact Nat.ne_of_gt (IsS54.lt (show IsS54 w0 _ g s0_0 s0_1 from by repeat (first|(with_reducible first|exact HI0.out|apply IsS54.alloc|apply IsS54.drewN|apply IsS54.drew|apply IsS54.set_1)|exact HI0.out))):gb101≠g));clear HI0;clear HK;clear HB;have HI0:=n0_;have HK:=n1_;have HB:=n2_;have BK101:=n3_;have GW101:=n4_;have GE101:=n5_;have NB0_101:=n6_;have NB101_0:=n7_;clear n0_ n1_ n2_ n3_ n4_ n5_ n6_ n7_;clear hb hbox hg)|((with_reducible refine gate_dst (N:=3) rfl ?_);refine box_event ?hg (N:=3) ?hd (cs:=#[.int .i64 0,.int .i64 0]) (t:=41) ?hr ?_;(case hd=>rfl);(case hg=>rfl);(case hr=>first|(go_simp;done)|(go_simp;rfl));intro gb102 hg w5 hbox hb;have n0_:=Aside0.mk (IsS54.below (by repeat (first|(with_reducible first|exact HI0.out|apply IsS54.alloc|apply IsS54.drewN|apply IsS54.drew|apply IsS54.set_1|refine IsS54.far ?_ NB0_101.out _)|exact HI0.out)) hb);have n1_:=Aside0.mk (blk_below (g:=gb101) (o:=.cells #[.int .i64 0,.int .i64 0,.slice none 0 0] 39 (0,0)) (by (with_reducible repeat (first|refine blk_drewN ?_ _|refine blk_drew ?_|refine blk_alloc ?_ _));exact BK101.out) hb);have n2_:=Aside0.mk (KeepBut.trans (by repeat (first|(with_reducible first|exact HK.out|apply KeepBut.set_|apply keep_drewN|apply keep_drew|apply keep_alloc|refine keep_far ?_ GW101.out _)|exact HK.out)) (KeepBut.of_below hb g none) (.inl rfl));have n3_:=Aside0.mk (below_step (by repeat (first|(with_reducible first|exact HB.out|apply below_alloc|apply pw_below_drewN|apply below_drew1|refine below_set ?_ (IsS54.ge HI0.out)|refine below_set ?_ GE101.out)|exact HB.out)) hb);have n4_:=Aside0.mk (hbox);have n5_:=Aside0.mk ((by rw[hg];exact(keep_size (w:=w) (g:=g) (row:=none) (by repeat (first|(with_reducible first|exact HK.out|apply KeepBut.set_|apply keep_drewN|apply keep_drew|apply keep_alloc|refine keep_far ?_ GW101.out _)|exact HK.out))):w.heap.size≤gb102));have n6_:=Aside0.mk ((Nat.le_trans HW0.out (by rw[hg];exact(keep_size (w:=w) (g:=g) (row:=none) (by repeat (first|(with_reducible first|exact HK.out|apply KeepBut.set_|apply keep_drewN|apply keep_drew|apply keep_alloc|refine keep_far ?_ GW101.out _)|exact HK.out))):w.heap.size≤gb102):w0.heap.size≤gb102));have n7_:=Aside0.mk ((by rw[hg];exact Nat.ne_of_lt (blk_lt (g:=gb101) (o:=.cells #[.int .i64 0,.int .i64 0,.slice none 0 0] 39 (0,0)) (by (with_reducible repeat (first|refine blk_drewN ?_ _|refine blk_drew ?_|refine blk_alloc ?_ _));exact BK101.out)):gb101≠gb102));have n8_:=Aside0.mk ((by rw[hg];exact Nat.ne_of_gt (blk_lt (g:=gb101) (o:=.cells #[.int .i64 0,.int .i64 0,.slice none 0 0] 39 (0,0)) (by (with_reducible repeat (first|refine blk_drewN ?_ _|refine blk_drew ?_|refine blk_alloc ?_ _));exact BK101.out)):gb102≠gb101));have n9_:=Aside0.mk ((by rw[hg];exact Nat.ne_of_lt (IsS54.lt (show IsS54 w0 _ g s0_0 s0_1 from by repeat (first|(with_reducible first|exact HI0.out|apply IsS54.alloc|apply IsS54.drewN|apply IsS54.drew|apply IsS54.set_1|refine IsS54.far ?_ NB0_101.out _)|exact HI0.out))):g≠gb102));have n10_:=Aside0.mk ((by rw[hg];exact Nat.ne_of_gt (IsS54.lt (show IsS54 w0 _ g s0_0 s0_1 from by repeat (first|(with_reducible first|exact HI0.out|apply IsS54.alloc|apply IsS54.drewN|apply IsS54.drew|apply IsS54.set_1|refine IsS54.far ?_ NB0_101.out _)|exact HI0.out))):gb102≠g));clear HI0;clear BK101;clear HK;clear HB;have HI0:=n0_;have BK101:=n1_;have HK:=n2_;have HB:=n3_;have BK102:=n4_;have GW102:=n5_;have GE102:=n6_;have NB101_102:=n7_;have NB102_101:=n8_;have NB0_102:=n9_;have NB102_0:=n10_;clear n0_ n1_ n2_ n3_ n4_ n5_ n6_ n7_ n8_ n9_ n10_;clear hb hbox hg)|((with_reducible refine gate_callee (f:=22) rfl ?_);refine goesL_ (some 7) rfl rfl Try.func22 (by kernel_rfl) rfl #[.pointer (some ⟨g,0,none⟩),.int .i64 3] rfl (by (try simp only[List.map_toArray,List.map_cons,List.map_nil]);first|done|rfl|(simp only[List.length_drop,List.length_take];rfl)) ?_;(with_reducible refine(payrollgen_Tape_Presences.calls k g s0_0 s0_1 3 t103 t106 w0 _ ?side1 ?side2 A2.out).mono ?_);(case side1=>repeat (first|(with_reducible first|exact HI0.out|apply IsS54.alloc|apply IsS54.drewN|apply IsS54.drew|apply IsS54.set_1|refine IsS54.far ?_ NB0_101.out _|refine IsS54.far ?_ NB0_102.out _)|exact HI0.out));(case side2=>repeat (first|(with_reducible first|exact HB.out|apply below_alloc|apply pw_below_drewN|apply below_drew1|refine below_set ?_ (IsS54.ge HI0.out)|refine below_set ?_ GE101.out|refine below_set ?_ GE102.out)|exact HB.out));rintro e w6 ⟨v104,rfl,ho0,hi,hb,hk⟩;refine⟨_,rfl,?_⟩;have n0_:=Aside0.mk (KeepBut.blk hk (g':=gb101) (o:=.cells #[.int .i64 0,.int .i64 0,.slice none 0 0] 39 (0,0)) (by (with_reducible repeat (first|refine blk_drewN ?_ _|refine blk_drew ?_|refine blk_alloc ?_ _));exact BK101.out) NB101_0.out (by simp));have n1_:=Aside0.mk (KeepBut.blk hk (g':=gb102) (o:=.cells #[.int .i64 0,.int .i64 0] 41 (0,0)) (by (with_reducible repeat (first|refine blk_drewN ?_ _|refine blk_drew ?_|refine blk_alloc ?_ _));exact BK102.out) NB102_0.out (by simp));have n2_:=Aside0.mk (Kd.N_lower (Kd.N_mono (ok':=fun k_=>(w.heap.size≤k_)∧k_≠gb101∧k_≠gb102∧k_≠g) ho0 (fun k_ hk_=>⟨(Nat.le_trans (keep_size (w:=w) (g:=g) (row:=none) (by repeat (first|(with_reducible first|exact HK.out|apply KeepBut.set_|apply keep_drewN|apply keep_drew|apply keep_alloc|refine keep_far ?_ GW101.out _|refine keep_far ?_ GW102.out _)|exact HK.out))) hk_),(Kd.freshB (g:=gb101) (o:=.cells #[.int .i64 0,.int .i64 0,.slice none 0 0] 39 (0,0)) (by (with_reducible repeat (first|refine blk_drewN ?_ _|refine blk_drew ?_|refine blk_alloc ?_ _));exact BK101.out) k_ hk_),(Kd.freshB (g:=gb102) (o:=.cells #[.int .i64 0,.int .i64 0] 41 (0,0)) (by (with_reducible repeat (first|refine blk_drewN ?_ _|refine blk_drew ?_|refine blk_alloc ?_ _));exact BK102.out) k_ hk_),(IsS54.fresh (by repeat (first|(with_reducible first|exact HI0.out|apply IsS54.alloc|apply IsS54.drewN|apply IsS54.drew|apply IsS54.set_1|refine IsS54.far ?_ NB0_101.out _|refine IsS54.far ?_ NB0_102.out _)|exact HI0.out)) k_ hk_)⟩)) (keep_size (w:=w) (g:=g) (row:=none) (by repeat (first|(with_reducible first|exact HK.out|apply KeepBut.set_|apply keep_drewN|apply keep_drew|apply keep_alloc|refine keep_far ?_ GW101.out _|refine keep_far ?_ GW102.out _)|exact HK.out))));have n3_:=Aside0.mk (KeepBut.trans (by repeat (first|(with_reducible first|exact HK.out|apply KeepBut.set_|apply keep_drewN|apply keep_drew|apply keep_alloc|refine keep_far ?_ GW101.out _|refine keep_far ?_ GW102.out _)|exact HK.out)) hk (.inl rfl));have n4_:=Aside0.mk (hb);have n5_:=Aside0.mk (hi);clear BK101;clear BK102;clear HK;clear HB;clear HI0;have BK101:=n0_;have BK102:=n1_;have HO105:=n2_;have HK:=n3_;have HB:=n4_;have HI0:=n5_;clear n0_ n1_ n2_ n3_ n4_ n5_;(try clear hb);(try clear hb2);(try clear hk);(try clear hi);(try clear ho0);obtain ⟨Ao7,co7,eo7⟩:=Kd.N_slice HO105.out;subst eo7)|((with_reducible refine gate_dst (N:=4) rfl ?_);refine box_event ?hg (N:=4) ?hd (cs:=#[.int .i64 0,.int .i64 0,.slice none 0 0]) (t:=39) ?hr ?_;(case hd=>rfl);(case hg=>rfl);(case hr=>first|(go_simp;done)|(go_simp;rfl));intro gb107 hg w8 hbox hb;have n0_:=Aside0.mk (Kd.N_below (Kd.N_elderB (by (with_reducible repeat (first|apply Kd.N_alloc|apply Kd.N_drewN|apply Kd.N_drew));exact HO105.out) gb107 (Nat.le_of_eq hg.symm)) hb);have n1_:=Aside0.mk (IsS54.below (by repeat (first|(with_reducible first|exact HI0.out|apply IsS54.alloc|apply IsS54.drewN|apply IsS54.drew|apply IsS54.set_1|refine IsS54.far ?_ NB0_101.out _|refine IsS54.far ?_ NB0_102.out _)|exact HI0.out)) hb);have n2_:=Aside0.mk (blk_below (g:=gb101) (o:=.cells #[.int .i64 0,.int .i64 0,.slice none 0 0] 39 (0,0)) (by (with_reducible repeat (first|refine blk_drewN ?_ _|refine blk_drew ?_|refine blk_alloc ?_ _));exact BK101.out) hb);have n3_:=Aside0.mk (blk_below (g:=gb102) (o:=.cells #[.int .i64 0,.int .i64 0] 41 (0,0)) (by (with_reducible repeat (first|refine blk_drewN ?_ _|refine blk_drew ?_|refine blk_alloc ?_ _));exact BK102.out) hb);have n4_:=Aside0.mk (KeepBut.trans (by repeat (first|(with_reducible first|exact HK.out|apply KeepBut.set_|apply keep_drewN|apply keep_drew|apply keep_alloc|refine keep_far ?_ GW101.out _|refine keep_far ?_ GW102.out _)|exact HK.out)) (KeepBut.of_below hb g none) (.inl rfl));have n5_:=Aside0.mk (below_step (by repeat (first|(with_reducible first|exact HB.out|apply below_alloc|apply pw_below_drewN|apply below_drew1|refine below_set ?_ (IsS54.ge HI0.out)|refine below_set ?_ GE101.out|refine below_set ?_ GE102.out)|exact HB.out)) hb);have n6_:=Aside0.mk (hbox);have n7_:=Aside0.mk ((by rw[hg];exact(keep_size (w:=w) (g:=g) (row:=none) (by repeat (first|(with_reducible first|exact HK.out|apply KeepBut.set_|apply keep_drewN|apply keep_drew|apply keep_alloc|refine keep_far ?_ GW101.out _|refine keep_far ?_ GW102.out _)|exact HK.out))):w.heap.size≤gb107));have n8_:=Aside0.mk ((Nat.le_trans HW0.out (by rw[hg];exact(keep_size (w:=w) (g:=g) (row:=none) (by repeat (first|(with_reducible first|exact HK.out|apply KeepBut.set_|apply keep_drewN|apply keep_drew|apply keep_alloc|refine keep_far ?_ GW101.out _|refine keep_far ?_ GW102.out _)|exact HK.out))):w.heap.size≤gb107):w0.heap.size≤gb107));have n9_:=Aside0.mk ((by rw[hg];exact Nat.ne_of_lt (blk_lt (g:=gb101) (o:=.cells #[.int .i64 0,.int .i64 0,.slice none 0 0] 39 (0,0)) (by (with_reducible repeat (first|refine blk_drewN ?_ _|refine blk_drew ?_|refine blk_alloc ?_ _));exact BK101.out)):gb101≠gb107));have n10_:=Aside0.mk ((by rw[hg];exact Nat.ne_of_gt (blk_lt (g:=gb101) (o:=.cells #[.int .i64 0,.int .i64 0,.slice none 0 0] 39 (0,0)) (by (with_reducible repeat (first|refine blk_drewN ?_ _|refine blk_drew ?_|refine blk_alloc ?_ _));exact BK101.out)):gb107≠gb101));have n11_:=Aside0.mk ((by rw[hg];exact Nat.ne_of_lt (blk_lt (g:=gb102) (o:=.cells #[.int .i64 0,.int .i64 0] 41 (0,0)) (by (with_reducible repeat (first|refine blk_drewN ?_ _|refine blk_drew ?_|refine blk_alloc ?_ _));exact BK102.out)):gb102≠gb107));have n12_:=Aside0.mk ((by rw[hg];exact Nat.ne_of_gt (blk_lt (g:=gb102) (o:=.cells #[.int .i64 0,.int .i64 0] 41 (0,0)) (by (with_reducible repeat (first|refine blk_drewN ?_ _|refine blk_drew ?_|refine blk_alloc ?_ _));exact BK102.out)):gb107≠gb102));have n13_:=Aside0.mk ((by rw[hg];exact Nat.ne_of_lt (IsS54.lt (show IsS54 w0 _ g s0_0 t106 from by repeat (first|(with_reducible first|exact HI0.out|apply IsS54.alloc|apply IsS54.drewN|apply IsS54.drew|apply IsS54.set_1|refine IsS54.far ?_ NB0_101.out _|refine IsS54.far ?_ NB0_102.out _)|exact HI0.out))):g≠gb107));have n14_:=Aside0.mk ((by rw[hg];exact Nat.ne_of_gt (IsS54.lt (show IsS54 w0 _ g s0_0 t106 from by repeat (first|(with_reducible first|exact HI0.out|apply IsS54.alloc|apply IsS54.drewN|apply IsS54.drew|apply IsS54.set_1|refine IsS54.far ?_ NB0_101.out _|refine IsS54.far ?_ NB0_102.out _)|exact HI0.out))):gb107≠g));clear HO105;clear HI0;clear BK101;clear BK102;clear HK;clear HB;have HO105:=n0_;have HI0:=n1_;have BK101:=n2_;have BK102:=n3_;have HK:=n4_;have HB:=n5_;have BK107:=n6_;have GW107:=n7_;have GE107:=n8_;have NB101_107:=n9_;have NB107_101:=n10_;have NB102_107:=n11_;have NB107_102:=n12_;have NB0_107:=n13_;have NB107_0:=n14_;clear n0_ n1_ n2_ n3_ n4_ n5_ n6_ n7_ n8_ n9_ n10_ n11_ n12_ n13_ n14_;clear hb hbox hg;have hnb9:=NB107_101.out;have hnc9:=NB101_107.out;have hnb10:=NB107_102.out;have hnc10:=NB102_107.out;have hnb11:=NB107_0.out;have hnc11:=NB0_107.out;have hcz12_0:w8.cell? ⟨gb107,0,none⟩ = some (.int .i64 0):=(blk_cell BK107.out 0).trans rfl;have hcz12_1:w8.cell? ⟨gb107,1,none⟩ = some (.int .i64 0):=(blk_cell BK107.out 1).trans rfl;have hcz12_2:w8.cell? ⟨gb107,2,none⟩ = some (.slice none 0 0):=(blk_cell BK107.out 2).trans rfl;have hfz12_0:=blk_frozen BK107.out 0;have hfz12_1:=blk_frozen BK107.out 1;have hfz12_2:=blk_frozen BK107.out 2))
  (try simp only [Act.put, List.setIfInBounds_toArray, List.set_cons_zero, List.set_cons_succ])
  go_cut [17] (fun v17 wc=>∃ (kq:Nat) (x17_2:Bool) (x1001_2:Int),v17 = .bool x17_2∧Aside0 (payrolllaw11_duty.j0 kq x17_2 s0_0 x1001_2 (-1) 20454 t103 = some (r1,r2,r3,r4,r5,r6))∧Aside0 (kq≤k)∧Aside0 (Kd.N k48 48 wc w.heap.size (fun k_=>(w.heap.size≤k_)∧k_≠gb101∧k_≠gb102∧k_≠gb107∧k_≠g) (.slice Ao7 t103.length co7) t103)∧Aside0 (wc.heap[gb101]? = some (.cells #[.int .i64 0,.int .i64 0,(.slice none 0 0)] 39 (0,0)))∧Aside0 (wc.heap[gb102]? = some (.cells #[.int .i64 0,.int .i64 0] 41 (0,0)))∧Aside0 (wc.heap[gb107]? = some (.cells #[.int .i64 (-1),.int .i64 20454,(.slice Ao7 t103.length co7)] 39 (0,0)))∧Aside0 (IsS54 w0 wc g s0_0 x1001_2)∧Aside0 (KeepBut w wc g none)∧Aside0 (Below w0.heap.size w0 wc))
  case first =>
    have H := HC3.out
    clear HC3
    by_cases c13 : (t103.length : Int) = 0
    · rw [if_pos c13] at H
      have c13b0 : ((t103.length : Int) == 0) = true := beq_iff_eq.mpr c13
      have c13b1 : ((t103.length : Int) != 0) = false := bne_eq_false_iff_eq.mpr c13
      clear c13
      (first | rw [c13b0] | (simp only [i64_w, i32_w]; rw [c13b0]) | skip)
      have H' := Aside0.mk H
      clear H
      have hnb14 := NB107_101.out
      have hnc14 := NB101_107.out
      have hnb15 := NB107_102.out
      have hnc15 := NB102_107.out
      have hnb16 := NB107_0.out
      have hnc16 := NB0_107.out
      have hcz17_0 : w8.cell? ⟨gb107, 0, none⟩ = some (.int .i64 0) := (blk_cell BK107.out 0).trans rfl
      have hcz17_1 : w8.cell? ⟨gb107, 1, none⟩ = some (.int .i64 0) := (blk_cell BK107.out 1).trans rfl
      have hcz17_2 : w8.cell? ⟨gb107, 2, none⟩ = some (.slice none 0 0) := (blk_cell BK107.out 2).trans rfl
      have hfz17_0 := blk_frozen BK107.out 0
      have hfz17_1 := blk_frozen BK107.out 1
      have hfz17_2 := blk_frozen BK107.out 2
      go_wp2
      go_meet
      case rel=>exact⟨_,(true),(t106),(by first|rfl|(simp;done)|(simp[*];done)),H',⟨by first|omega|exact Nat.le_refl _⟩,⟨by (with_reducible repeat (first|apply Kd.N_alloc|apply Kd.N_drewN|apply Kd.N_drew));exact Kd.N_mono (Kd.N_far (p:=⟨gb107,2,none⟩) (Kd.N_far (p:=⟨gb107,1,none⟩) (Kd.N_far (p:=⟨gb107,0,none⟩) (Kd.N_mono HO105.out (fun k_ hk=>(⟨hk,hk.2⟩:_∧k_≠gb107))) (fun _ hk=>hk.2) (.int .i64 (-1))) (fun _ hk=>hk.2) (.int .i64 20454)) (fun _ hk=>hk.2) (.slice Ao7 t103.length co7)) (fun _ hk=>⟨hk.1.1.1,⟨hk.1.1.2.1,⟨hk.1.1.2.2.1,⟨hk.1.2,hk.1.1.2.2.2⟩⟩⟩⟩)⟩,⟨by (with_reducible repeat (first|refine blk_drewN ?_ _|refine blk_drew ?_|refine blk_alloc ?_ _));refine blk_far ?_ NB101_107.out _;(with_reducible repeat (first|refine blk_drewN ?_ _|refine blk_drew ?_|refine blk_alloc ?_ _));refine blk_far ?_ NB101_107.out _;(with_reducible repeat (first|refine blk_drewN ?_ _|refine blk_drew ?_|refine blk_alloc ?_ _));refine blk_far ?_ NB101_107.out _;(with_reducible repeat (first|refine blk_drewN ?_ _|refine blk_drew ?_|refine blk_alloc ?_ _));exact BK101.out⟩,⟨by (with_reducible repeat (first|refine blk_drewN ?_ _|refine blk_drew ?_|refine blk_alloc ?_ _));refine blk_far ?_ NB102_107.out _;(with_reducible repeat (first|refine blk_drewN ?_ _|refine blk_drew ?_|refine blk_alloc ?_ _));refine blk_far ?_ NB102_107.out _;(with_reducible repeat (first|refine blk_drewN ?_ _|refine blk_drew ?_|refine blk_alloc ?_ _));refine blk_far ?_ NB102_107.out _;(with_reducible repeat (first|refine blk_drewN ?_ _|refine blk_drew ?_|refine blk_alloc ?_ _));exact BK102.out⟩,⟨by (with_reducible repeat (first|refine blk_drewN ?_ _|refine blk_drew ?_|refine blk_alloc ?_ _));refine blk_put (cs:=#[.int .i64 (-1),.int .i64 20454,.slice none 0 0]) ?_ 2 _ rfl;(with_reducible repeat (first|refine blk_drewN ?_ _|refine blk_drew ?_|refine blk_alloc ?_ _));refine blk_put (cs:=#[.int .i64 (-1),.int .i64 0,.slice none 0 0]) ?_ 1 _ rfl;(with_reducible repeat (first|refine blk_drewN ?_ _|refine blk_drew ?_|refine blk_alloc ?_ _));refine blk_put (cs:=#[.int .i64 0,.int .i64 0,.slice none 0 0]) ?_ 0 _ rfl;(with_reducible repeat (first|refine blk_drewN ?_ _|refine blk_drew ?_|refine blk_alloc ?_ _));exact BK107.out⟩,⟨by repeat (first|(with_reducible first|exact HI0.out|apply IsS54.alloc|apply IsS54.drewN|apply IsS54.drew|apply IsS54.set_1|refine IsS54.far ?_ NB0_101.out _|refine IsS54.far ?_ NB0_102.out _|refine IsS54.far ?_ NB0_107.out _)|exact HI0.out)⟩,⟨by repeat (first|(with_reducible first|exact HK.out|apply KeepBut.set_|apply keep_drewN|apply keep_drew|apply keep_alloc|refine keep_far ?_ GW101.out _|refine keep_far ?_ GW102.out _|refine keep_far ?_ GW107.out _)|exact HK.out)⟩,⟨by repeat (first|(with_reducible first|exact HB.out|apply below_alloc|apply pw_below_drewN|apply below_drew1|refine below_set ?_ (IsS54.ge HI0.out)|refine below_set ?_ GE101.out|refine below_set ?_ GE102.out|refine below_set ?_ GE107.out)|exact HB.out)⟩⟩
    · rw [if_neg c13] at H
      have c13b0 : ((t103.length : Int) == 0) = false := beq_eq_false_iff_ne.mpr c13
      have c13b1 : ((t103.length : Int) != 0) = true := bne_iff_ne.mpr c13
      have c13b2 : ¬ (t103 = []) := fun h_ => c13 (by rw [h_]; rfl)
      (first | rw [c13b0] | (simp only [i64_w, i32_w]; rw [c13b0]) | skip)
      replace H := Option.bind_eq_some_iff.mp H
      obtain ⟨⟨t108, t109⟩, A180, H⟩ := H
      replace H : (payrolllaw11_duty.j0 k (t108 == 0) s0_0 t109 (-1) 20454 t103) = some (r1, r2, r3, r4, r5, r6) := H
      have A18 := Aside0.mk A180
      clear A180
      have H' := Aside0.mk H
      clear H
      have hnb19 := NB107_101.out
      have hnc19 := NB101_107.out
      have hnb20 := NB107_102.out
      have hnc20 := NB102_107.out
      have hnb21 := NB107_0.out
      have hnc21 := NB0_107.out
      have hcz22_0 : w8.cell? ⟨gb107, 0, none⟩ = some (.int .i64 0) := (blk_cell BK107.out 0).trans rfl
      have hcz22_1 : w8.cell? ⟨gb107, 1, none⟩ = some (.int .i64 0) := (blk_cell BK107.out 1).trans rfl
      have hcz22_2 : w8.cell? ⟨gb107, 2, none⟩ = some (.slice none 0 0) := (blk_cell BK107.out 2).trans rfl
      have hfz22_0 := blk_frozen BK107.out 0
      have hfz22_1 := blk_frozen BK107.out 1
      have hfz22_2 := blk_frozen BK107.out 2
      go_wp2_with (first|(go_at_call 17;(with_reducible refine(payrollgen_Tape_Next.calls g s0_0 t106 2 t108 t109 w0 _ ?side1 ?side2 A18.out).mono ?_);(case side1=>repeat (first|(with_reducible first|exact HI0.out|apply IsS54.alloc|apply IsS54.drewN|apply IsS54.drew|apply IsS54.set_1|refine IsS54.far ?_ NB0_101.out _|refine IsS54.far ?_ NB0_102.out _|refine IsS54.far ?_ NB0_107.out _)|exact HI0.out));(case side2=>repeat (first|(with_reducible first|exact HB.out|apply below_alloc|apply pw_below_drewN|apply below_drew1|refine below_set ?_ (IsS54.ge HI0.out)|refine below_set ?_ GE101.out|refine below_set ?_ GE102.out|refine below_set ?_ GE107.out)|exact HB.out));rintro e w23 ⟨rfl,hi,hb,hk⟩;have n0_:=Aside0.mk (KeepBut.blk hk (g':=gb101) (o:=.cells #[.int .i64 0,.int .i64 0,.slice none 0 0] 39 (0,0)) (by (with_reducible repeat (first|refine blk_drewN ?_ _|refine blk_drew ?_|refine blk_alloc ?_ _));refine blk_far ?_ NB101_107.out _;(with_reducible repeat (first|refine blk_drewN ?_ _|refine blk_drew ?_|refine blk_alloc ?_ _));refine blk_far ?_ NB101_107.out _;(with_reducible repeat (first|refine blk_drewN ?_ _|refine blk_drew ?_|refine blk_alloc ?_ _));refine blk_far ?_ NB101_107.out _;(with_reducible repeat (first|refine blk_drewN ?_ _|refine blk_drew ?_|refine blk_alloc ?_ _));exact BK101.out) NB101_0.out (by simp));have n1_:=Aside0.mk (KeepBut.blk hk (g':=gb102) (o:=.cells #[.int .i64 0,.int .i64 0] 41 (0,0)) (by (with_reducible repeat (first|refine blk_drewN ?_ _|refine blk_drew ?_|refine blk_alloc ?_ _));refine blk_far ?_ NB102_107.out _;(with_reducible repeat (first|refine blk_drewN ?_ _|refine blk_drew ?_|refine blk_alloc ?_ _));refine blk_far ?_ NB102_107.out _;(with_reducible repeat (first|refine blk_drewN ?_ _|refine blk_drew ?_|refine blk_alloc ?_ _));refine blk_far ?_ NB102_107.out _;(with_reducible repeat (first|refine blk_drewN ?_ _|refine blk_drew ?_|refine blk_alloc ?_ _));exact BK102.out) NB102_0.out (by simp));have n2_:=Aside0.mk (Kd.N_mono (Kd.N_keep (Kd.N_mono (ok:=fun k_=>((((w.heap.size≤k_))∧(k_≠gb101∧(k_≠gb102∧k_≠g)))∧k_≠gb107)) (by (with_reducible repeat (first|apply Kd.N_alloc|apply Kd.N_drewN|apply Kd.N_drew));exact(Kd.N_mono (Kd.N_far (p:=⟨gb107,2,none⟩) (Kd.N_far (p:=⟨gb107,1,none⟩) (Kd.N_far (p:=⟨gb107,0,none⟩) (Kd.N_mono HO105.out (fun k_ hk=>(⟨hk,hk.2⟩:_∧k_≠gb107))) (fun _ hk=>hk.2) (.int .i64 (-1))) (fun _ hk=>hk.2) (.int .i64 20454)) (fun _ hk=>hk.2) (.slice Ao7 t103.length co7)) (fun _ h_=>h_.1))) (fun k_ hk_=>(⟨hk_,hk_.1.2.2.2⟩:_∧k_≠g))) hk (fun _ h=>h.2)) (fun _ h=>h.1));have n3_:=Aside0.mk (KeepBut.blk hk (g':=gb107) (o:=.cells #[.int .i64 (-1),.int .i64 20454,.slice Ao7 t103.length co7] 39 (0,0)) (by (with_reducible repeat (first|refine blk_drewN ?_ _|refine blk_drew ?_|refine blk_alloc ?_ _));refine blk_put (cs:=#[.int .i64 (-1),.int .i64 20454,.slice none 0 0]) ?_ 2 _ rfl;(with_reducible repeat (first|refine blk_drewN ?_ _|refine blk_drew ?_|refine blk_alloc ?_ _));refine blk_put (cs:=#[.int .i64 (-1),.int .i64 0,.slice none 0 0]) ?_ 1 _ rfl;(with_reducible repeat (first|refine blk_drewN ?_ _|refine blk_drew ?_|refine blk_alloc ?_ _));refine blk_put (cs:=#[.int .i64 0,.int .i64 0,.slice none 0 0]) ?_ 0 _ rfl;(with_reducible repeat (first|refine blk_drewN ?_ _|refine blk_drew ?_|refine blk_alloc ?_ _));exact BK107.out) NB107_0.out (by simp));have n4_:=Aside0.mk (KeepBut.trans (by repeat (first|(with_reducible first|exact HK.out|apply KeepBut.set_|apply keep_drewN|apply keep_drew|apply keep_alloc|refine keep_far ?_ GW101.out _|refine keep_far ?_ GW102.out _|refine keep_far ?_ GW107.out _)|exact HK.out)) hk (.inl rfl));have n5_:=Aside0.mk (hb);have n6_:=Aside0.mk (hi);clear BK101;clear BK102;clear HO105;clear BK107;clear HK;clear HB;clear HI0;have BK101:=n0_;have BK102:=n1_;have HO105:=n2_;have BK107:=n3_;have HK:=n4_;have HB:=n5_;have HI0:=n6_;clear n0_ n1_ n2_ n3_ n4_ n5_ n6_;(try clear hb);(try clear hb2);(try clear hk);(try clear hi)))
      go_meet
      case rel=>exact⟨_,((t108 == 0)),(t109),(by first|rfl|(simp;done)|(simp[*];done)),H',⟨by first|omega|exact Nat.le_refl _⟩,⟨by (with_reducible repeat (first|apply Kd.N_alloc|apply Kd.N_drewN|apply Kd.N_drew));exact Kd.N_mono HO105.out (fun _ hk=>⟨hk.1.1,⟨hk.1.2.1,⟨hk.1.2.2.1,⟨hk.2,hk.1.2.2.2⟩⟩⟩⟩)⟩,⟨by (with_reducible repeat (first|refine blk_drewN ?_ _|refine blk_drew ?_|refine blk_alloc ?_ _));exact BK101.out⟩,⟨by (with_reducible repeat (first|refine blk_drewN ?_ _|refine blk_drew ?_|refine blk_alloc ?_ _));exact BK102.out⟩,⟨by (with_reducible repeat (first|refine blk_drewN ?_ _|refine blk_drew ?_|refine blk_alloc ?_ _));exact BK107.out⟩,⟨by repeat (first|(with_reducible first|exact HI0.out|apply IsS54.alloc|apply IsS54.drewN|apply IsS54.drew|apply IsS54.set_1|refine IsS54.far ?_ NB0_101.out _|refine IsS54.far ?_ NB0_102.out _|refine IsS54.far ?_ NB0_107.out _)|exact HI0.out)⟩,⟨by repeat (first|(with_reducible first|exact HK.out|apply KeepBut.set_|apply keep_drewN|apply keep_drew|apply keep_alloc|refine keep_far ?_ GW101.out _|refine keep_far ?_ GW102.out _|refine keep_far ?_ GW107.out _)|exact HK.out)⟩,⟨by repeat (first|(with_reducible first|exact HB.out|apply below_alloc|apply pw_below_drewN|apply below_drew1|refine below_set ?_ (IsS54.ge HI0.out)|refine below_set ?_ GE101.out|refine below_set ?_ GE102.out|refine below_set ?_ GE107.out)|exact HB.out)⟩⟩
  case rest =>
    clear HC3
    try clear c1
    try clear c2
    try clear p2
    try clear c9
    try clear c10
    try clear c11
    try clear c13
    try clear c13b0
    try clear c13b1
    try clear c13b2
    try clear c14
    try clear c15
    try clear c16
    try clear c19
    try clear c20
    try clear c21
    try clear c22
    try clear hcz12_0
    try clear hcz12_1
    try clear hcz12_2
    try clear hcz17_0
    try clear hcz17_1
    try clear hcz17_2
    try clear hcz22_0
    try clear hcz22_1
    try clear hcz22_2
    try clear hfz12_0
    try clear hfz12_1
    try clear hfz12_2
    try clear hfz17_0
    try clear hfz17_1
    try clear hfz17_2
    try clear hfz22_0
    try clear hfz22_1
    try clear hfz22_2
    obtain ⟨kq, x17_2, x1001_2, rfl, HA, HJ2, HO_108002, BK101, BK102, BK107, HI0, HK, HB⟩ := hcut
    cases kq with
    | zero => exact absurd HA.out (by simp [payrolllaw11_duty.j0])
    | succ kj2 =>
      have H := HA.out
      clear HA
      simp only [payrolllaw11_duty.j0] at H
      by_cases c24 : x17_2 = true
      · subst c24
        have H1:(some ((-1),20454,t103,0,0,x1001_2)) = some (r1,r2,r3,r4,r5,r6):=by rw[if_pos rfl] at H;exact H
        clear H
        have H := H1
        clear H1
        simp only [Option.some.injEq, Prod.mk.injEq] at H
        obtain ⟨rfl, rfl, rfl, rfl, rfl, rfl⟩ := H
        have hnb25 := NB107_101.out
        have hnc25 := NB101_107.out
        have hnb26 := NB107_102.out
        have hnc26 := NB102_107.out
        have hnb27 := NB107_0.out
        have hnc27 := NB0_107.out
        have hcz28_0 : wc.cell? ⟨gb107, 0, none⟩ = some (.int .i64 (-1)) := (blk_cell BK107.out 0).trans rfl
        have hcz28_1 : wc.cell? ⟨gb107, 1, none⟩ = some (.int .i64 20454) := (blk_cell BK107.out 1).trans rfl
        have hcz28_2 : wc.cell? ⟨gb107, 2, none⟩ = some (.slice Ao7 t103.length co7) := (blk_cell BK107.out 2).trans rfl
        have hfz28_0 := blk_frozen BK107.out 0
        have hfz28_1 := blk_frozen BK107.out 1
        have hfz28_2 := blk_frozen BK107.out 2
        have hnb29 := NB101_102.out
        have hnc29 := NB102_101.out
        have hnb30 := NB101_0.out
        have hnc30 := NB0_101.out
        have hcz31_0 : wc.cell? ⟨gb101, 0, none⟩ = some (.int .i64 0) := (blk_cell BK101.out 0).trans rfl
        have hcz31_1 : wc.cell? ⟨gb101, 1, none⟩ = some (.int .i64 0) := (blk_cell BK101.out 1).trans rfl
        have hcz31_2 : wc.cell? ⟨gb101, 2, none⟩ = some (.slice none 0 0) := (blk_cell BK101.out 2).trans rfl
        have hfz31_0 := blk_frozen BK101.out 0
        have hfz31_1 := blk_frozen BK101.out 1
        have hfz31_2 := blk_frozen BK101.out 2
        have hnb32 := NB102_0.out
        have hnc32 := NB0_102.out
        have hcz33_0 : wc.cell? ⟨gb102, 0, none⟩ = some (.int .i64 0) := (blk_cell BK102.out 0).trans rfl
        have hcz33_1 : wc.cell? ⟨gb102, 1, none⟩ = some (.int .i64 0) := (blk_cell BK102.out 1).trans rfl
        have hfz33_0 := blk_frozen BK102.out 0
        have hfz33_1 := blk_frozen BK102.out 1
        go_wp2
        refine bodyPost_ret (results_cc rfl _ _ gb101 gb102 39 41 #[.int .i64 (-1),.int .i64 20454,.slice Ao7 t103.length co7] #[.int .i64 0,.int .i64 0] (0,0) (0,0) _ _ rfl (by (with_reducible repeat (first|refine blk_drewN ?_ _|refine blk_drew ?_|refine blk_alloc ?_ _));refine blk_far ?_ NB101_102.out _;(with_reducible repeat (first|refine blk_drewN ?_ _|refine blk_drew ?_|refine blk_alloc ?_ _));refine blk_far ?_ NB101_102.out _;(with_reducible repeat (first|refine blk_drewN ?_ _|refine blk_drew ?_|refine blk_alloc ?_ _));refine blk_put (cs:=#[.int .i64 (-1),.int .i64 20454,.slice none 0 0]) ?_ 2 _ rfl;(with_reducible repeat (first|refine blk_drewN ?_ _|refine blk_drew ?_|refine blk_alloc ?_ _));refine blk_put (cs:=#[.int .i64 (-1),.int .i64 0,.slice none 0 0]) ?_ 1 _ rfl;(with_reducible repeat (first|refine blk_drewN ?_ _|refine blk_drew ?_|refine blk_alloc ?_ _));refine blk_put (cs:=#[.int .i64 0,.int .i64 0,.slice none 0 0]) ?_ 0 _ rfl;(with_reducible repeat (first|refine blk_drewN ?_ _|refine blk_drew ?_|refine blk_alloc ?_ _));exact BK101.out) Try.underlying39 rfl (by kernel_rfl) rfl (by (with_reducible repeat (first|refine blk_drewN ?_ _|refine blk_drew ?_|refine blk_alloc ?_ _));refine blk_put (cs:=#[.int .i64 0,.int .i64 0]) ?_ 1 _ rfl;(with_reducible repeat (first|refine blk_drewN ?_ _|refine blk_drew ?_|refine blk_alloc ?_ _));refine blk_put (cs:=#[.int .i64 0,.int .i64 0]) ?_ 0 _ rfl;(with_reducible repeat (first|refine blk_drewN ?_ _|refine blk_drew ?_|refine blk_alloc ?_ _));refine blk_far ?_ NB102_101.out _;(with_reducible repeat (first|refine blk_drewN ?_ _|refine blk_drew ?_|refine blk_alloc ?_ _));refine blk_far ?_ NB102_101.out _;(with_reducible repeat (first|refine blk_drewN ?_ _|refine blk_drew ?_|refine blk_alloc ?_ _));refine blk_far ?_ NB102_101.out _;(with_reducible repeat (first|refine blk_drewN ?_ _|refine blk_drew ?_|refine blk_alloc ?_ _));exact BK102.out) Try.underlying41 rfl (by kernel_rfl)) rfl ?_
        exact⟨_,by first|rfl|(simp[errW_none,errW_some] <;> rfl)|(simp[*,errW_none,errW_some] <;> rfl),by (with_reducible repeat (first|apply Kd.N_alloc|apply Kd.N_drewN|apply Kd.N_drew));exact Kd.N_mono (Kd.N_far (p:=⟨gb102,1,none⟩) (Kd.N_far (p:=⟨gb102,0,none⟩) (Kd.N_far (p:=⟨gb101,2,none⟩) (Kd.N_far (p:=⟨gb101,1,none⟩) (Kd.N_far (p:=⟨gb101,0,none⟩) (Kd.N_mono (Kd.N_mono HO_108002.out (fun k_ hk=>(⟨hk,hk.2.1⟩:_∧k_≠gb101))) (fun k_ hk=>(⟨hk,hk.1.2.2.1⟩:_∧k_≠gb102))) (fun _ hk=>hk.1.2) (.int .i64 (-1))) (fun _ hk=>hk.1.2) (.int .i64 20454)) (fun _ hk=>hk.1.2) (.slice Ao7 t103.length co7)) (fun _ hk=>hk.2) (.int .i64 0)) (fun _ hk=>hk.2) (.int .i64 0)) (fun _ hk=>hk.1.1.1),by repeat (first|(with_reducible first|exact HI0.out|apply IsS54.alloc|apply IsS54.drewN|apply IsS54.drew|apply IsS54.set_1|refine IsS54.far ?_ NB0_101.out _|refine IsS54.far ?_ NB0_102.out _|refine IsS54.far ?_ NB0_107.out _)|exact HI0.out),by repeat (first|(with_reducible first|exact HB.out|apply below_alloc|apply pw_below_drewN|apply below_drew1|refine below_set ?_ (IsS54.ge HI0.out)|refine below_set ?_ GE101.out|refine below_set ?_ GE102.out|refine below_set ?_ GE107.out)|exact HB.out),by repeat (first|(with_reducible first|exact HK.out|apply KeepBut.set_|apply keep_drewN|apply keep_drew|apply keep_alloc|refine keep_far ?_ GW101.out _|refine keep_far ?_ GW102.out _|refine keep_far ?_ GW107.out _)|exact HK.out)⟩
      · replace c24 := Bool.eq_false_iff.mpr c24
        subst c24
        have H1:(if 0 < (t103.length:Int) then ((payrollgen_Tape_Pick.f s0_0 x1001_2 (([0,5,(-5),20,(-60)]:List Int))).bind fun bt114=>((payrollgen_Tape_Pick.f s0_0 bt114.2 (([480,300,510]:List Int))).bind fun bt119=>(some ((-1),20454,t103,wrap64 (((rd_T48 t103 0).f0.f0) + bt114.1),wrap64 ((wrap64 (((rd_T48 t103 0).f0.f0) + bt114.1)) + bt119.1),bt119.2)))) else (none)) = some (r1,r2,r3,r4,r5,r6):=by rw[if_neg (show ¬ (false = true) by decide)] at H;exact H
        clear H
        have H := H1
        clear H1
        by_cases c34 : 0 < (t103.length : Int)
        · rw [if_pos c34] at H
          have c34b0 : decide (0 < (t103.length : Int)) = true := decide_eq_true c34
          have c34b1 : decide (0 < t103.length) = true := decide_eq_true (by omega)
          clear c34
          obtain ⟨y111, hy111⟩ : ∃ y_ : List Int, y_ = (([0, 5, (-5), 20, (-60)] : List Int)) := ⟨_, rfl⟩
          replace H:((payrollgen_Tape_Pick.f s0_0 x1001_2 y111).bind fun bt114=>((payrollgen_Tape_Pick.f s0_0 bt114.2 (([480,300,510]:List Int))).bind fun bt119=>(some ((-1),20454,t103,wrap64 (((rd_T48 t103 0).f0.f0) + bt114.1),wrap64 ((wrap64 (((rd_T48 t103 0).f0.f0) + bt114.1)) + bt119.1),bt119.2)))) = some (r1,r2,r3,r4,r5,r6):=by first|(rw[hy111];with_reducible exact H)|(have H2_:=(Option.bind_some _ _).symm.trans H;rw[hy111];with_reducible exact H2_)|(have H2_:=(Option.bind_some _ _).symm.trans H;with_reducible exact H2_)|with_reducible exact H|(rw[hy111];exact H)|exact H
          have Ny111 := Aside0.mk hy111
          clear hy111
          replace H := Option.bind_eq_some_iff.mp H
          obtain ⟨⟨t114, t115⟩, A350, H⟩ := H
          replace H:((payrollgen_Tape_Pick.f s0_0 t115 (([480,300,510]:List Int))).bind fun bt119=>(some ((-1),20454,t103,wrap64 (((rd_T48 t103 0).f0.f0) + t114),wrap64 ((wrap64 (((rd_T48 t103 0).f0.f0) + t114)) + bt119.1),bt119.2))) = some (r1,r2,r3,r4,r5,r6):=H
          have A35 := Aside0.mk A350
          clear A350
          obtain ⟨y116, hy116⟩ : ∃ y_ : List Int, y_ = (([480, 300, 510] : List Int)) := ⟨_, rfl⟩
          replace H:((payrollgen_Tape_Pick.f s0_0 t115 y116).bind fun bt119=>(some ((-1),20454,t103,wrap64 (((rd_T48 t103 0).f0.f0) + t114),wrap64 ((wrap64 (((rd_T48 t103 0).f0.f0) + t114)) + bt119.1),bt119.2))) = some (r1,r2,r3,r4,r5,r6):=by first|(rw[hy116];with_reducible exact H)|(have H2_:=(Option.bind_some _ _).symm.trans H;rw[hy116];with_reducible exact H2_)|(have H2_:=(Option.bind_some _ _).symm.trans H;with_reducible exact H2_)|with_reducible exact H|(rw[hy116];exact H)|exact H
          have Ny116 := Aside0.mk hy116
          clear hy116
          replace H := Option.bind_eq_some_iff.mp H
          obtain ⟨⟨t119, t120⟩, A360, H⟩ := H
          replace H:(some ((-1),20454,t103,wrap64 (((rd_T48 t103 0).f0.f0) + t114),wrap64 ((wrap64 (((rd_T48 t103 0).f0.f0) + t114)) + t119),t120)) = some (r1,r2,r3,r4,r5,r6):=H
          have A36 := Aside0.mk A360
          clear A360
          simp only [Option.some.injEq, Prod.mk.injEq] at H
          obtain ⟨rfl, rfl, rfl, rfl, rfl, rfl⟩ := H
          try go_wp2
          have n0_ := Aside0.mk (Kd.N_drew HO_108002.out)
          have n1_ := Aside0.mk (blk_drew BK101.out)
          have n2_ := Aside0.mk (blk_drew BK102.out)
          have n3_ := Aside0.mk (blk_drew BK107.out)
          have n4_ := Aside0.mk (IsS54.drew HI0.out)
          have n5_ := Aside0.mk (keep_drew HK.out)
          have n6_ := Aside0.mk (below_drew1 HB.out)
          clear HO_108002
          clear BK101
          clear BK102
          clear BK107
          clear HI0
          clear HK
          clear HB
          have HO_108002 := n0_
          have BK101 := n1_
          have BK102 := n2_
          have BK107 := n3_
          have HI0 := n4_
          have HK := n5_
          have HB := n6_
          clear n0_ n1_ n2_ n3_ n4_ n5_ n6_
          have p110 : 0 ≤ (0 : Int) := (by omega)
          have q110 : 0 < (t103.length : Int) := of_decide_eq_true (by first | (with_reducible assumption) | assumption)
          obtain ⟨ad110,A110_2,c110_2,e110,hx110_0,hx110_1,hx110_2,hl110_2,hi110_2⟩:=at_T48 (Kd.N_reads' HO_108002.out).2.2 0 p110 q110
          cases e110
          obtain ⟨ce110,hce110,hMe110,hcc110⟩:=Kd.N_get HO_108002.out z48 0 p110 (by first|exact q110|exact of_decide_eq_true (by first|(with_reducible assumption)|assumption)|(have e_:=(Kd.N_reads' HO_108002.out).1;omega))
          obtain ⟨ua110_2, uc110_2, rfl, ul110_2, ge110_2⟩ := k48_openF hMe110
          have hv110_2 := hcc110 2 _ rfl
          rw [add_field _ _ 2 (by omega)] at hv110_2
          replace hv110_2 := Option.some.inj (hv110_2.symm.trans hx110_2)
          injection hv110_2 with hva_ hvn_ hvc_
          rw [hva_] at ge110_2
          rw [hvc_] at ul110_2
          have HL110_2:=Aside0.mk (show Kd.V k41 41 _ w.heap.size _ _ ((rd_T48 t103 0).f1) from Kd.V_mk ul110_2 ge110_2)
          clear hva_ hvn_ hvc_ ge110_2 ul110_2
          clear hcc110 hce110
          have qi110 : (0 < t103.length) = True := eq_true (by omega)
          (try rw [show ((0 : Int)).toNat = 0 from rfl] at hx110_0)
          (try rw [show 0 * 3 = 0 from rfl] at hx110_0)
          (try rw [Addr.add_zero'] at hx110_0)
          (try rw [show ((0 : Int)).toNat = 0 from rfl] at hx110_1)
          (try rw [show 0 * 3 = 0 from rfl] at hx110_1)
          (try rw [Addr.add_zero'] at hx110_1)
          (try rw [show ((0 : Int)).toNat = 0 from rfl] at hx110_2)
          (try rw [show 0 * 3 = 0 from rfl] at hx110_2)
          (try rw [Addr.add_zero'] at hx110_2)
          have HR110_2 := Aside0.mk hi110_2
          have HC110_2 := Aside0.mk hl110_2
          clear hi110_2 hl110_2
          replace p110 := eq_true p110
          replace q110 := eq_true q110
          refine start_ (n:=11) (S:=fun w'=>w'.cell? ⟨gb107,0,none⟩ = some (.int .i64 (-1))∧w'.cell? ⟨gb107,1,none⟩ = some (.int .i64 20454)∧w'.cell? ⟨gb107,2,none⟩ = some (.slice (some ad110) t103.length co7)∧w'.cell? ad110 = some (.int .i64 ((rd_T48 t103 0).f0.f0))∧w'.cell? ⟨ad110.block,ad110.off + 1,none⟩ = some (.int .i64 ((rd_T48 t103 0).f0.f1))∧w'.cell? ⟨ad110.block,ad110.off + 2,none⟩ = some (.slice A110_2 ((rd_T48 t103 0).f1).length c110_2)) (ds:=[]) #[false,false,false,false,false,false,false,false,false,false,false] (by kernel_rfl) rfl rfl ⟨(blk_cell BK107.out 0).trans rfl,(blk_cell BK107.out 1).trans rfl,(blk_cell BK107.out 2).trans rfl,hx110_0,hx110_1,hx110_2⟩ (fun hHeld=>?_);refine with_tabW payrolllaw11_duty.tab4 payrolllaw11_duty.bits4 (fun HT_ HW_=>?_)
          generalize wc.drew = w37 at HO_108002 BK101 BK102 BK107 HI0 HK HB HL110_2 HR110_2 hx110_0 hx110_1 hx110_2 hHeld ⊢
          refine pure_ (i:=0) (N:=some 20) (v:=?_) (a':=?_) #[true,false,false,false,false,false,false,false,false,false,false] rfl rfl (any_of HT_.out (by kernel_rfl)) (fun _ _ _ h=>h) (Or.inl ⟨by rfl,?_⟩) ?_ ?_
          rotate_left
          · intro w'
            go_simp
            with_reducible rfl
          rotate_left
          · simp only [Act.put, List.setIfInBounds_toArray, List.set_cons_zero, List.set_cons_succ, i64_w, i32_w]
            rfl
          refine pure_ (i:=6) (N:=some 26) (v:=?_) (a':=?_) #[true,false,false,false,false,false,true,false,false,false,false] rfl rfl (any_of HT_.out (by kernel_rfl)) (fun _ _ _ h=>h) (Or.inl ⟨by rfl,?_⟩) ?_ ?_
          rotate_left
          · intro w'
            go_simp
            with_reducible rfl
          rotate_left
          · simp only [Act.put, List.setIfInBounds_toArray, List.set_cons_zero, List.set_cons_succ, i64_w, i32_w]
            rfl
          refine take_ (i:=1) (N:=some 21) (v:=?_) (a':=?_) #[true,true,false,false,false,false,true,false,false,false,false] rfl rfl (take_ofW HT_.out HW_.out (by kernel_rfl)) (fun _ _ _ h=>h) (Or.inl ⟨by rfl,?_⟩) hHeld ?_ ?_
          rotate_left
          · rintro w' ⟨s0, s1, s2, s3, s4, s5⟩
            go_simp
            with_reducible rfl
          rotate_left
          · simp only [Act.put, List.setIfInBounds_toArray, List.set_cons_zero, List.set_cons_succ, i64_w, i32_w]
            rfl
          refine pure_ (i:=2) (N:=some 22) (v:=?_) (a':=?_) #[true,true,true,false,false,false,true,false,false,false,false] rfl rfl (any_of HT_.out (by kernel_rfl)) (fun _ _ _ h=>h) (Or.inl ⟨by rfl,?_⟩) ?_ ?_
          rotate_left
          · intro w'
            go_simp
            with_reducible rfl
          rotate_left
          · simp only [Act.put, List.setIfInBounds_toArray, List.set_cons_zero, List.set_cons_succ, i64_w, i32_w]
            rfl
          refine pure_ (i:=3) (N:=some 23) (v:=?_) (a':=?_) #[true,true,true,true,false,false,true,false,false,false,false] rfl rfl (any_of HT_.out (by kernel_rfl)) (fun _ _ _ h=>h) (Or.inl ⟨by rfl,?_⟩) ?_ ?_
          rotate_left
          · intro w'
            go_simp
            with_reducible rfl
          rotate_left
          · simp only [Act.put, List.setIfInBounds_toArray, List.set_cons_zero, List.set_cons_succ, i64_w, i32_w]
            rfl
          refine pure_ (i:=4) (N:=some 24) (v:=?_) (a':=?_) #[true,true,true,true,true,false,true,false,false,false,false] rfl rfl (any_of HT_.out (by kernel_rfl)) (fun _ _ _ h=>h) (Or.inl ⟨by rfl,?_⟩) ?_ ?_
          rotate_left
          · intro w'
            go_simp
            with_reducible rfl
          rotate_left
          · simp only [Act.put, List.setIfInBounds_toArray, List.set_cons_zero, List.set_cons_succ, i64_w, i32_w]
            rfl
          refine take_ (i:=5) (N:=some 25) (v:=?_) (a':=?_) #[true,true,true,true,true,true,true,false,false,false,false] rfl rfl (take_ofW HT_.out HW_.out (by kernel_rfl)) (fun _ _ _ h=>h) (Or.inl ⟨by rfl,?_⟩) hHeld ?_ ?_
          rotate_left
          · rintro w' ⟨s0, s1, s2, s3, s4, s5⟩
            go_simp
            with_reducible rfl
          rotate_left
          · simp only [Act.put, List.setIfInBounds_toArray, List.set_cons_zero, List.set_cons_succ, i64_w, i32_w]
            rfl
          refine one_ (i:=7) (N:=some 27) #[true,true,true,true,true,true,true,true,false,false,false] rfl rfl (one_of HT_.out (by kernel_rfl)) (by decide) (fun K hK=>?_)
          refine Kd.R_lit_step (Kd.int .i64) _ 3 ?hg (N:=27) ?hd (xs:=([0,5,(-5),20,(-60)]:List Int)) (inner:=[.int .i64 0,.int .i64 5,.int .i64 (-5),.int .i64 20,.int .i64 (-60)]) (ok:=fun _=>True) (okp:=fun _=>True) ?hr ?hp (fun _ hk=>hk) trivial (Below.refl _ _) (Nat.le_refl _) (by simp) ?_;(case hd=>rfl);(case hg=>rfl);(case hr=>first|(go_simp;done)|(go_simp;rfl));(case hp=>exact(Reps.one (show Kd.M (Kd.int .i64) _ _ _ 0 [.int .i64 0] from rfl) (Reps.one (show Kd.M (Kd.int .i64) _ _ _ 5 [.int .i64 5] from rfl) (Reps.one (show Kd.M (Kd.int .i64) _ _ _ (-5) [.int .i64 (-5)] from rfl) (Reps.one (show Kd.M (Kd.int .i64) _ _ _ 20 [.int .i64 20] from rfl) (Reps.one (show Kd.M (Kd.int .i64) _ _ _ (-60) [.int .i64 (-60)] from rfl) (Reps.none _ _)))))))
          intro v112 w38 ho39 hb hg_ hnew_
          have HS3_ := (hb.cell (World.block_lt_of_cell? _ _ (hHeld.2.2.2.1))).trans (hHeld.2.2.2.1)
          have HS4_ := (hb.cell (World.block_lt_of_cell? _ _ (hHeld.2.2.2.2.1))).trans (hHeld.2.2.2.2.1)
          have HS5_ := (hb.cell (World.block_lt_of_cell? _ _ (hHeld.2.2.2.2.2))).trans (hHeld.2.2.2.2.2)
          clear hg_ hnew_
          (first | rw [← Ny111.out] at ho39 | (simp only [Int.reduceToNat] at ho39; rw [← Ny111.out] at ho39))
          have n0_:=Aside0.mk (Kd.N_elder' (by (with_reducible repeat (first|apply Kd.N_alloc|apply Kd.N_drewN|apply Kd.N_drew));exact HO_108002.out) (Kd.R_base ho39) hb)
          have n1_:=Aside0.mk (Kd.V_elder' (by (with_reducible repeat (first|apply Kd.V_alloc|apply Kd.V_drewN|apply Kd.V_drew));exact HL110_2.out) (Kd.R_base ho39) hb)
          have n2_:=Aside0.mk (Kd.R_lower (Kd.R_newM (M:=fun k_=>(w.heap.size≤k_)) ho39 (keep_size (w:=w) (g:=g) (row:=none) (by repeat (first|(with_reducible first|exact HK.out|apply KeepBut.set_|apply keep_drewN|apply keep_drew|apply keep_alloc|refine keep_far ?_ GW101.out _|refine keep_far ?_ GW102.out _|refine keep_far ?_ GW107.out _)|exact HK.out))) (fun k_ h_=>h_)) (keep_size (w:=w) (g:=g) (row:=none) (by repeat (first|(with_reducible first|exact HK.out|apply KeepBut.set_|apply keep_drewN|apply keep_drew|apply keep_alloc|refine keep_far ?_ GW101.out _|refine keep_far ?_ GW102.out _|refine keep_far ?_ GW107.out _)|exact HK.out))))
          have n3_:=Aside0.mk (blk_below (g:=gb101) (o:=.cells #[.int .i64 0,.int .i64 0,.slice none 0 0] 39 (0,0)) (by (with_reducible repeat (first|refine blk_drewN ?_ _|refine blk_drew ?_|refine blk_alloc ?_ _));exact BK101.out) hb)
          have n4_:=Aside0.mk (blk_below (g:=gb102) (o:=.cells #[.int .i64 0,.int .i64 0] 41 (0,0)) (by (with_reducible repeat (first|refine blk_drewN ?_ _|refine blk_drew ?_|refine blk_alloc ?_ _));exact BK102.out) hb)
          have n5_:=Aside0.mk (blk_below (g:=gb107) (o:=.cells #[.int .i64 (-1),.int .i64 20454,.slice (some ad110) t103.length co7] 39 (0,0)) (by (with_reducible repeat (first|refine blk_drewN ?_ _|refine blk_drew ?_|refine blk_alloc ?_ _));exact BK107.out) hb)
          have n6_:=Aside0.mk (IsS54.below (by repeat (first|(with_reducible first|exact HI0.out|apply IsS54.alloc|apply IsS54.drewN|apply IsS54.drew|apply IsS54.set_1|refine IsS54.far ?_ NB0_101.out _|refine IsS54.far ?_ NB0_102.out _|refine IsS54.far ?_ NB0_107.out _)|exact HI0.out)) hb)
          have n7_:=Aside0.mk (Kd.C_below (by repeat (first|(with_reducible exact HR110_2.out)|(with_reducible refine Kd.C_alloc ?_ _)|(with_reducible refine Kd.C_drewN ?_ _)|(with_reducible refine Kd.C_drew ?_)|exact HR110_2.out)) hb)
          have n8_:=Aside0.mk (KeepBut.trans (by repeat (first|(with_reducible first|exact HK.out|apply KeepBut.set_|apply keep_drewN|apply keep_drew|apply keep_alloc|refine keep_far ?_ GW101.out _|refine keep_far ?_ GW102.out _|refine keep_far ?_ GW107.out _)|exact HK.out)) (KeepBut.of_below hb g none) (.inl rfl))
          have n9_:=Aside0.mk (below_step (by repeat (first|(with_reducible first|exact HB.out|apply below_alloc|apply pw_below_drewN|apply below_drew1|refine below_set ?_ (IsS54.ge HI0.out)|refine below_set ?_ GE101.out|refine below_set ?_ GE102.out|refine below_set ?_ GE107.out)|exact HB.out)) hb)
          clear HO_108002
          clear HL110_2
          clear BK101
          clear BK102
          clear BK107
          clear HI0
          clear HR110_2
          clear HK
          clear HB
          have HO_108002 := n0_
          have HL110_2 := n1_
          have HO113 := n2_
          have BK101 := n3_
          have BK102 := n4_
          have BK107 := n5_
          have HI0 := n6_
          have HR110_2 := n7_
          have HK := n8_
          have HB := n9_
          clear n0_ n1_ n2_ n3_ n4_ n5_ n6_ n7_ n8_ n9_
          clear hb ho39
          obtain ⟨Ao40, co40, eo40⟩ := Kd.R_slice HO113.out
          (first|subst eo40|(injection eo40 with f1_ f2_ f3_;have f4_:=f1_.symm;have f5_:=f3_.symm;clear f1_ f2_ f3_;subst f4_;subst f5_))
          refine hK.out _ _ ⟨(blk_cell BK107.out 0).trans rfl,(blk_cell BK107.out 1).trans rfl,(blk_cell BK107.out 2).trans rfl,HS3_,HS4_,HS5_⟩ (fun hHeld=>?_)
          clear hK K
          refine norm_ (a' := ?_) ?_ ?_
          rotate_left
          · show Act.put _ (some 27) _ = _
            simp only [Act.put, List.setIfInBounds_toArray, List.set_cons_zero, List.set_cons_succ, i64_w, i32_w]
            rfl
          refine one_ (i:=8) (N:=some 28) #[true,true,true,true,true,true,true,true,true,false,false] rfl rfl (one_of HT_.out (by kernel_rfl)) (by decide) (fun K hK=>?_)
          refine goes_ Try.func18 (by kernel_rfl) rfl #[.pointer (some ⟨g,0,none⟩),.slice Ao40 y111.length co40] (by rfl) rfl rfl (by (try simp only[List.map_toArray,List.map_cons,List.map_nil]);first|done|rfl|(simp only[List.length_drop,List.length_take];rfl)) ?_
          with_reducible refine (payrollgen_Tape_Pick.calls g s0_0 x1001_2 _ _ y111 t114 t115 w0 _ ?side1 ?side2 ?side3 ?side4 ?side5 A35.out).mono ?_
          (case side1=>repeat (first|(with_reducible first|exact HI0.out|apply IsS54.alloc|apply IsS54.drewN|apply IsS54.drew|apply IsS54.set_1|refine IsS54.far ?_ NB0_101.out _|refine IsS54.far ?_ NB0_102.out _|refine IsS54.far ?_ NB0_107.out _)|exact HI0.out))
          (case side2=>repeat (first|(with_reducible first|exact HB.out|apply below_alloc|apply pw_below_drewN|apply below_drew1|refine below_set ?_ (IsS54.ge HI0.out)|refine below_set ?_ GE101.out|refine below_set ?_ GE102.out|refine below_set ?_ GE107.out)|exact HB.out))
          (case side3=>repeat (first|exact(Kd.R_reads' HO113.out).2.2|(with_reducible refine Kd.C_alloc ?_ _)|(with_reducible refine Kd.C_drewN ?_ _)|(with_reducible refine Kd.C_drew ?_)))
          (case side4 => exact (Kd.R_reads' HO113.out).2.1)
          (case side5 => exact far_slice (IsS54.own_ne HI0.out HO113.out (by decide)))
          rintro e w41 ⟨rfl, hi, hb, hk⟩
          have HS3_:=keep_cell hk (hHeld.2.2.2.1) (by first|(rw[add_block];exact Kd.own_blk (IsS54.own_neN HI0.out HO_108002.out (by decide)))|(show (Addr.add _ _).block≠_;rw[add_block];exact Kd.own_blk (IsS54.own_neN HI0.out HO_108002.out (by decide)))|exact Kd.own_blk (IsS54.own_neN HI0.out HO_108002.out (by decide))|exact(fun h_=>Kd.own_blk (IsS54.own_neN HI0.out HO_108002.out (by decide)) h_))
          have HS4_:=keep_cell hk (hHeld.2.2.2.2.1) (by first|(rw[add_block];exact Kd.own_blk (IsS54.own_neN HI0.out HO_108002.out (by decide)))|(show (Addr.add _ _).block≠_;rw[add_block];exact Kd.own_blk (IsS54.own_neN HI0.out HO_108002.out (by decide)))|exact Kd.own_blk (IsS54.own_neN HI0.out HO_108002.out (by decide))|exact(fun h_=>Kd.own_blk (IsS54.own_neN HI0.out HO_108002.out (by decide)) h_))
          have HS5_:=keep_cell hk (hHeld.2.2.2.2.2) (by first|(rw[add_block];exact Kd.own_blk (IsS54.own_neN HI0.out HO_108002.out (by decide)))|(show (Addr.add _ _).block≠_;rw[add_block];exact Kd.own_blk (IsS54.own_neN HI0.out HO_108002.out (by decide)))|exact Kd.own_blk (IsS54.own_neN HI0.out HO_108002.out (by decide))|exact(fun h_=>Kd.own_blk (IsS54.own_neN HI0.out HO_108002.out (by decide)) h_))
          refine ⟨_, rfl, ?_⟩
          have n0_:=Aside0.mk (Kd.N_mono (Kd.N_keep (Kd.N_mono (ok:=fun k_=>((((w.heap.size≤k_))∧(k_≠gb101∧(k_≠gb102∧(k_≠gb107∧k_≠g))))∧some k_≠(.slice Ao40 y111.length co40:Value).ownBlock)) (by (with_reducible repeat (first|apply Kd.N_alloc|apply Kd.N_drewN|apply Kd.N_drew));exact HO_108002.out) (fun k_ hk_=>(⟨hk_,hk_.1.2.2.2.2⟩:_∧k_≠g))) hk (fun _ h=>h.2)) (fun _ h=>h.1))
          have n1_:=Aside0.mk (KeepBut.blk hk (g':=gb101) (o:=.cells #[.int .i64 0,.int .i64 0,.slice none 0 0] 39 (0,0)) (by (with_reducible repeat (first|refine blk_drewN ?_ _|refine blk_drew ?_|refine blk_alloc ?_ _));exact BK101.out) NB101_0.out (by simp))
          have n2_:=Aside0.mk (KeepBut.blk hk (g':=gb102) (o:=.cells #[.int .i64 0,.int .i64 0] 41 (0,0)) (by (with_reducible repeat (first|refine blk_drewN ?_ _|refine blk_drew ?_|refine blk_alloc ?_ _));exact BK102.out) NB102_0.out (by simp))
          have n3_:=Aside0.mk (KeepBut.blk hk (g':=gb107) (o:=.cells #[.int .i64 (-1),.int .i64 20454,.slice (some ad110) t103.length co7] 39 (0,0)) (by (with_reducible repeat (first|refine blk_drewN ?_ _|refine blk_drew ?_|refine blk_alloc ?_ _));exact BK107.out) NB107_0.out (by simp))
          have n4_:=Aside0.mk (Kd.V_mono (Kd.V_keep (Kd.V_mono (ok:=fun k_=>(((((w.heap.size≤k_))∧(k_≠gb101∧(k_≠gb102∧(k_≠gb107∧k_≠g))))∧some k_≠(.slice (some ad110) t103.length co7:Value).ownBlock)∧some k_≠(.slice Ao40 y111.length co40:Value).ownBlock)) (by (with_reducible repeat (first|apply Kd.V_alloc|apply Kd.V_drewN|apply Kd.V_drew));exact HL110_2.out) (fun k_ hk_=>(⟨hk_,hk_.1.1.2.2.2.2⟩:_∧k_≠g))) hk (fun _ h=>h.2)) (fun _ h=>h.1))
          have n5_:=Aside0.mk (Kd.R_mono (Kd.R_keep (IsS54.apart (show IsS54 w0 _ g s0_0 x1001_2 from by repeat (first|(with_reducible first|exact HI0.out|apply IsS54.alloc|apply IsS54.drewN|apply IsS54.drew|apply IsS54.set_1|refine IsS54.far ?_ NB0_101.out _|refine IsS54.far ?_ NB0_102.out _|refine IsS54.far ?_ NB0_107.out _)|exact HI0.out)) (by (with_reducible repeat (first|apply Kd.R_alloc|apply Kd.R_drewN|apply Kd.R_drew));exact HO113.out) (by decide)) hk (fun _ h=>h.2)) (fun _ h=>h.1))
          have n6_:=Aside0.mk (KeepBut.trans (by repeat (first|(with_reducible first|exact HK.out|apply KeepBut.set_|apply keep_drewN|apply keep_drew|apply keep_alloc|refine keep_far ?_ GW101.out _|refine keep_far ?_ GW102.out _|refine keep_far ?_ GW107.out _)|exact HK.out)) hk (.inl rfl))
          have n7_ := Aside0.mk (hb)
          have n8_ := Aside0.mk (hi)
          clear HO_108002
          clear BK101
          clear BK102
          clear BK107
          clear HL110_2
          clear HO113
          clear HK
          clear HB
          clear HI0
          have HO_108002 := n0_
          have BK101 := n1_
          have BK102 := n2_
          have BK107 := n3_
          have HL110_2 := n4_
          have HO113 := n5_
          have HK := n6_
          have HB := n7_
          have HI0 := n8_
          clear n0_ n1_ n2_ n3_ n4_ n5_ n6_ n7_ n8_
          (try clear hb)
          (try clear hb2)
          (try clear hk)
          (try clear hi)
          refine hK.out _ _ ⟨(blk_cell BK107.out 0).trans rfl,(blk_cell BK107.out 1).trans rfl,(blk_cell BK107.out 2).trans rfl,HS3_,HS4_,HS5_⟩ (fun hHeld=>?_)
          clear hK K
          refine norm_ (a' := ?_) ?_ ?_
          rotate_left
          · show Act.put _ (some 28) _ = _
            simp only [Act.put, List.setIfInBounds_toArray, List.set_cons_zero, List.set_cons_succ, i64_w, i32_w]
            rfl
          refine pure_ (i:=9) (N:=some 29) (v:=?_) (a':=?_) #[true,true,true,true,true,true,true,true,true,true,false] rfl rfl (any_of HT_.out (by kernel_rfl)) (fun _ _ _ h=>h) (Or.inl ⟨by rfl,?_⟩) ?_ ?_
          rotate_left
          · intro w'
            go_simp
            with_reducible rfl
          rotate_left
          · simp only [Act.put, List.setIfInBounds_toArray, List.set_cons_zero, List.set_cons_succ, i64_w, i32_w]
            rfl
          refine pure_ (i:=10) (N:=some 5) (v:=?_) (a':=?_) #[true,true,true,true,true,true,true,true,true,true,true] rfl rfl (any_of HT_.out (by kernel_rfl)) (fun _ _ _ h=>h) (Or.inl ⟨by rfl,?_⟩) ?_ ?_
          rotate_left
          · intro w'
            go_simp
            with_reducible rfl
          rotate_left
          · simp only [Act.put, List.setIfInBounds_toArray, List.set_cons_zero, List.set_cons_succ, i64_w, i32_w]
            rfl
          refine done_ (done_of HT_.out (by kernel_rfl)) ?_
          try go_wp2
          have n0_ := Aside0.mk (Kd.N_drew HO_108002.out)
          have n1_ := Aside0.mk (Kd.V_drew HL110_2.out)
          have n2_ := Aside0.mk (Kd.R_drew HO113.out)
          have n3_ := Aside0.mk (blk_drew BK101.out)
          have n4_ := Aside0.mk (blk_drew BK102.out)
          have n5_ := Aside0.mk (blk_drew BK107.out)
          have n6_ := Aside0.mk (IsS54.drew HI0.out)
          have n7_ := Aside0.mk (keep_drew HK.out)
          have n8_ := Aside0.mk (below_drew1 HB.out)
          clear HO_108002
          clear HL110_2
          clear HO113
          clear BK101
          clear BK102
          clear BK107
          clear HI0
          clear HK
          clear HB
          have HO_108002 := n0_
          have HL110_2 := n1_
          have HO113 := n2_
          have BK101 := n3_
          have BK102 := n4_
          have BK107 := n5_
          have HI0 := n6_
          have HK := n7_
          have HB := n8_
          clear n0_ n1_ n2_ n3_ n4_ n5_ n6_ n7_ n8_
          refine start_ (n:=10) (S:=fun w'=>w'.cell? ⟨gb107,0,none⟩ = some (.int .i64 (-1))∧w'.cell? ⟨gb107,1,none⟩ = some (.int .i64 20454)∧w'.cell? ⟨gb107,2,none⟩ = some (.slice (some ad110) t103.length co7)) (ds:=[]) #[false,false,false,false,false,false,false,false,false,false] (by kernel_rfl) rfl rfl ⟨(blk_cell BK107.out 0).trans rfl,(blk_cell BK107.out 1).trans rfl,(blk_cell BK107.out 2).trans rfl⟩ (fun hHeld=>?_);refine with_tabW payrolllaw11_duty.tab5 payrolllaw11_duty.bits5 (fun HT_ HW_=>?_)
          generalize w41.drew = w42 at HO_108002 HL110_2 HO113 BK101 BK102 BK107 HI0 HK HB hHeld ⊢
          refine pure_ (i:=1) (N:=some 31) (v:=?_) (a':=?_) #[false,true,false,false,false,false,false,false,false,false] rfl rfl (any_of HT_.out (by kernel_rfl)) (fun _ _ _ h=>h) (Or.inl ⟨by rfl,?_⟩) ?_ ?_
          rotate_left
          · intro w'
            go_simp
            with_reducible rfl
          rotate_left
          · simp only [Act.put, List.setIfInBounds_toArray, List.set_cons_zero, List.set_cons_succ, i64_w, i32_w]
            rfl
          refine pure_ (i:=2) (N:=some 32) (v:=?_) (a':=?_) #[false,true,true,false,false,false,false,false,false,false] rfl rfl (any_of HT_.out (by kernel_rfl)) (fun _ _ _ h=>h) (Or.inl ⟨by rfl,?_⟩) ?_ ?_
          rotate_left
          · intro w'
            go_simp
            with_reducible rfl
          rotate_left
          · simp only [Act.put, List.setIfInBounds_toArray, List.set_cons_zero, List.set_cons_succ, i64_w, i32_w]
            rfl
          refine pure_ (i:=3) (N:=some 33) (v:=?_) (a':=?_) #[false,true,true,true,false,false,false,false,false,false] rfl rfl (any_of HT_.out (by kernel_rfl)) (fun _ _ _ h=>h) (Or.inl ⟨by rfl,?_⟩) ?_ ?_
          rotate_left
          · intro w'
            go_simp
            with_reducible rfl
          rotate_left
          · simp only [Act.put, List.setIfInBounds_toArray, List.set_cons_zero, List.set_cons_succ, i64_w, i32_w]
            rfl
          refine take_ (i:=0) (N:=some 30) (v:=?_) (a':=?_) #[true,true,true,true,false,false,false,false,false,false] rfl rfl (take_ofW HT_.out HW_.out (by kernel_rfl)) (fun _ _ _ h=>h) (Or.inl ⟨by rfl,?_⟩) hHeld ?_ ?_
          rotate_left
          · rintro w' ⟨s0, s1, s2⟩
            go_simp
            with_reducible rfl
          rotate_left
          · simp only [Act.put, List.setIfInBounds_toArray, List.set_cons_zero, List.set_cons_succ, i64_w, i32_w]
            rfl
          refine one_ (i:=4) (N:=some 34) #[true,true,true,true,true,false,false,false,false,false] rfl rfl (one_of HT_.out (by kernel_rfl)) (by decide) (fun K hK=>?_)
          refine Kd.R_lit_step (Kd.int .i64) _ 3 ?hg (N:=34) ?hd (xs:=([480,300,510]:List Int)) (inner:=[.int .i64 480,.int .i64 300,.int .i64 510]) (ok:=fun _=>True) (okp:=fun _=>True) ?hr ?hp (fun _ hk=>hk) trivial (Below.refl _ _) (Nat.le_refl _) (by simp) ?_;(case hd=>rfl);(case hg=>rfl);(case hr=>first|(go_simp;done)|(go_simp;rfl));(case hp=>exact(Reps.one (show Kd.M (Kd.int .i64) _ _ _ 480 [.int .i64 480] from rfl) (Reps.one (show Kd.M (Kd.int .i64) _ _ _ 300 [.int .i64 300] from rfl) (Reps.one (show Kd.M (Kd.int .i64) _ _ _ 510 [.int .i64 510] from rfl) (Reps.none _ _)))))
          intro v117 w43 ho44 hb hg_ hnew_
          clear hg_ hnew_
          (first | rw [← Ny116.out] at ho44 | (simp only [Int.reduceToNat] at ho44; rw [← Ny116.out] at ho44))
          have n0_:=Aside0.mk (Kd.N_elder' (by (with_reducible repeat (first|apply Kd.N_alloc|apply Kd.N_drewN|apply Kd.N_drew));exact HO_108002.out) (Kd.R_base ho44) hb)
          have n1_:=Aside0.mk (Kd.V_elder' (by (with_reducible repeat (first|apply Kd.V_alloc|apply Kd.V_drewN|apply Kd.V_drew));exact HL110_2.out) (Kd.R_base ho44) hb)
          have n2_:=Aside0.mk (Kd.R_elder' (by (with_reducible repeat (first|apply Kd.R_alloc|apply Kd.R_drewN|apply Kd.R_drew));exact HO113.out) (Kd.R_base ho44) hb)
          have n3_:=Aside0.mk (Kd.R_lower (Kd.R_new' (Kd.R_newM (M:=fun k_=>(w.heap.size≤k_)) ho44 (keep_size (w:=w) (g:=g) (row:=none) (by repeat (first|(with_reducible first|exact HK.out|apply KeepBut.set_|apply keep_drewN|apply keep_drew|apply keep_alloc|refine keep_far ?_ GW101.out _|refine keep_far ?_ GW102.out _|refine keep_far ?_ GW107.out _)|exact HK.out))) (fun k_ h_=>h_)) (Kd.R_lt (by (with_reducible repeat (first|apply Kd.R_alloc|apply Kd.R_drewN|apply Kd.R_drew));exact HO113.out))) (keep_size (w:=w) (g:=g) (row:=none) (by repeat (first|(with_reducible first|exact HK.out|apply KeepBut.set_|apply keep_drewN|apply keep_drew|apply keep_alloc|refine keep_far ?_ GW101.out _|refine keep_far ?_ GW102.out _|refine keep_far ?_ GW107.out _)|exact HK.out))))
          have n4_:=Aside0.mk (blk_below (g:=gb101) (o:=.cells #[.int .i64 0,.int .i64 0,.slice none 0 0] 39 (0,0)) (by (with_reducible repeat (first|refine blk_drewN ?_ _|refine blk_drew ?_|refine blk_alloc ?_ _));exact BK101.out) hb)
          have n5_:=Aside0.mk (blk_below (g:=gb102) (o:=.cells #[.int .i64 0,.int .i64 0] 41 (0,0)) (by (with_reducible repeat (first|refine blk_drewN ?_ _|refine blk_drew ?_|refine blk_alloc ?_ _));exact BK102.out) hb)
          have n6_:=Aside0.mk (blk_below (g:=gb107) (o:=.cells #[.int .i64 (-1),.int .i64 20454,.slice (some ad110) t103.length co7] 39 (0,0)) (by (with_reducible repeat (first|refine blk_drewN ?_ _|refine blk_drew ?_|refine blk_alloc ?_ _));exact BK107.out) hb)
          have n7_:=Aside0.mk (IsS54.below (by repeat (first|(with_reducible first|exact HI0.out|apply IsS54.alloc|apply IsS54.drewN|apply IsS54.drew|apply IsS54.set_1|refine IsS54.far ?_ NB0_101.out _|refine IsS54.far ?_ NB0_102.out _|refine IsS54.far ?_ NB0_107.out _)|exact HI0.out)) hb)
          have n8_:=Aside0.mk (KeepBut.trans (by repeat (first|(with_reducible first|exact HK.out|apply KeepBut.set_|apply keep_drewN|apply keep_drew|apply keep_alloc|refine keep_far ?_ GW101.out _|refine keep_far ?_ GW102.out _|refine keep_far ?_ GW107.out _)|exact HK.out)) (KeepBut.of_below hb g none) (.inl rfl))
          have n9_:=Aside0.mk (below_step (by repeat (first|(with_reducible first|exact HB.out|apply below_alloc|apply pw_below_drewN|apply below_drew1|refine below_set ?_ (IsS54.ge HI0.out)|refine below_set ?_ GE101.out|refine below_set ?_ GE102.out|refine below_set ?_ GE107.out)|exact HB.out)) hb)
          clear HO_108002
          clear HL110_2
          clear HO113
          clear BK101
          clear BK102
          clear BK107
          clear HI0
          clear HK
          clear HB
          have HO_108002 := n0_
          have HL110_2 := n1_
          have HO113 := n2_
          have HO118 := n3_
          have BK101 := n4_
          have BK102 := n5_
          have BK107 := n6_
          have HI0 := n7_
          have HK := n8_
          have HB := n9_
          clear n0_ n1_ n2_ n3_ n4_ n5_ n6_ n7_ n8_ n9_
          clear hb ho44
          obtain ⟨Ao45, co45, eo45⟩ := Kd.R_slice HO118.out
          (first|subst eo45|(injection eo45 with f1_ f2_ f3_;have f4_:=f1_.symm;have f5_:=f3_.symm;clear f1_ f2_ f3_;subst f4_;subst f5_))
          refine hK.out _ _ ⟨(blk_cell BK107.out 0).trans rfl,(blk_cell BK107.out 1).trans rfl,(blk_cell BK107.out 2).trans rfl⟩ (fun hHeld=>?_)
          clear hK K
          refine norm_ (a' := ?_) ?_ ?_
          rotate_left
          · show Act.put _ (some 34) _ = _
            simp only [Act.put, List.setIfInBounds_toArray, List.set_cons_zero, List.set_cons_succ, i64_w, i32_w]
            rfl
          refine one_ (i:=5) (N:=some 35) #[true,true,true,true,true,true,false,false,false,false] rfl rfl (one_of HT_.out (by kernel_rfl)) (by decide) (fun K hK=>?_)
          refine goes_ Try.func18 (by kernel_rfl) rfl #[.pointer (some ⟨g,0,none⟩),.slice Ao45 y116.length co45] (by rfl) rfl rfl (by (try simp only[List.map_toArray,List.map_cons,List.map_nil]);first|done|rfl|(simp only[List.length_drop,List.length_take];rfl)) ?_
          with_reducible refine (payrollgen_Tape_Pick.calls g s0_0 t115 _ _ y116 t119 t120 w0 _ ?side1 ?side2 ?side3 ?side4 ?side5 A36.out).mono ?_
          (case side1=>repeat (first|(with_reducible first|exact HI0.out|apply IsS54.alloc|apply IsS54.drewN|apply IsS54.drew|apply IsS54.set_1|refine IsS54.far ?_ NB0_101.out _|refine IsS54.far ?_ NB0_102.out _|refine IsS54.far ?_ NB0_107.out _)|exact HI0.out))
          (case side2=>repeat (first|(with_reducible first|exact HB.out|apply below_alloc|apply pw_below_drewN|apply below_drew1|refine below_set ?_ (IsS54.ge HI0.out)|refine below_set ?_ GE101.out|refine below_set ?_ GE102.out|refine below_set ?_ GE107.out)|exact HB.out))
          (case side3=>repeat (first|exact(Kd.R_reads' HO118.out).2.2|(with_reducible refine Kd.C_alloc ?_ _)|(with_reducible refine Kd.C_drewN ?_ _)|(with_reducible refine Kd.C_drew ?_)))
          (case side4 => exact (Kd.R_reads' HO118.out).2.1)
          (case side5 => exact far_slice (IsS54.own_ne HI0.out HO118.out (by decide)))
          rintro e w46 ⟨rfl, hi, hb, hk⟩
          refine ⟨_, rfl, ?_⟩
          have n0_:=Aside0.mk (Kd.N_mono (Kd.N_keep (Kd.N_mono (ok:=fun k_=>(((((w.heap.size≤k_))∧(k_≠gb101∧(k_≠gb102∧(k_≠gb107∧k_≠g))))∧some k_≠(.slice Ao40 y111.length co40:Value).ownBlock)∧some k_≠(.slice Ao45 y116.length co45:Value).ownBlock)) (by (with_reducible repeat (first|apply Kd.N_alloc|apply Kd.N_drewN|apply Kd.N_drew));exact HO_108002.out) (fun k_ hk_=>(⟨hk_,hk_.1.1.2.2.2.2⟩:_∧k_≠g))) hk (fun _ h=>h.2)) (fun _ h=>h.1))
          have n1_:=Aside0.mk (KeepBut.blk hk (g':=gb101) (o:=.cells #[.int .i64 0,.int .i64 0,.slice none 0 0] 39 (0,0)) (by (with_reducible repeat (first|refine blk_drewN ?_ _|refine blk_drew ?_|refine blk_alloc ?_ _));exact BK101.out) NB101_0.out (by simp))
          have n2_:=Aside0.mk (KeepBut.blk hk (g':=gb102) (o:=.cells #[.int .i64 0,.int .i64 0] 41 (0,0)) (by (with_reducible repeat (first|refine blk_drewN ?_ _|refine blk_drew ?_|refine blk_alloc ?_ _));exact BK102.out) NB102_0.out (by simp))
          have n3_:=Aside0.mk (KeepBut.blk hk (g':=gb107) (o:=.cells #[.int .i64 (-1),.int .i64 20454,.slice (some ad110) t103.length co7] 39 (0,0)) (by (with_reducible repeat (first|refine blk_drewN ?_ _|refine blk_drew ?_|refine blk_alloc ?_ _));exact BK107.out) NB107_0.out (by simp))
          have n4_:=Aside0.mk (Kd.V_mono (Kd.V_keep (Kd.V_mono (ok:=fun k_=>((((((w.heap.size≤k_))∧(k_≠gb101∧(k_≠gb102∧(k_≠gb107∧k_≠g))))∧some k_≠(.slice (some ad110) t103.length co7:Value).ownBlock)∧some k_≠(.slice Ao40 y111.length co40:Value).ownBlock)∧some k_≠(.slice Ao45 y116.length co45:Value).ownBlock)) (by (with_reducible repeat (first|apply Kd.V_alloc|apply Kd.V_drewN|apply Kd.V_drew));exact HL110_2.out) (fun k_ hk_=>(⟨hk_,hk_.1.1.1.2.2.2.2⟩:_∧k_≠g))) hk (fun _ h=>h.2)) (fun _ h=>h.1))
          have n5_:=Aside0.mk (Kd.R_mono (Kd.R_keep (IsS54.apart (show IsS54 w0 _ g s0_0 t115 from by repeat (first|(with_reducible first|exact HI0.out|apply IsS54.alloc|apply IsS54.drewN|apply IsS54.drew|apply IsS54.set_1|refine IsS54.far ?_ NB0_101.out _|refine IsS54.far ?_ NB0_102.out _|refine IsS54.far ?_ NB0_107.out _)|exact HI0.out)) (by (with_reducible repeat (first|apply Kd.R_alloc|apply Kd.R_drewN|apply Kd.R_drew));exact HO113.out) (by decide)) hk (fun _ h=>h.2)) (fun _ h=>h.1))
          have n6_:=Aside0.mk (Kd.R_mono (Kd.R_keep (IsS54.apart (show IsS54 w0 _ g s0_0 t115 from by repeat (first|(with_reducible first|exact HI0.out|apply IsS54.alloc|apply IsS54.drewN|apply IsS54.drew|apply IsS54.set_1|refine IsS54.far ?_ NB0_101.out _|refine IsS54.far ?_ NB0_102.out _|refine IsS54.far ?_ NB0_107.out _)|exact HI0.out)) (by (with_reducible repeat (first|apply Kd.R_alloc|apply Kd.R_drewN|apply Kd.R_drew));exact HO118.out) (by decide)) hk (fun _ h=>h.2)) (fun _ h=>h.1))
          have n7_:=Aside0.mk (KeepBut.trans (by repeat (first|(with_reducible first|exact HK.out|apply KeepBut.set_|apply keep_drewN|apply keep_drew|apply keep_alloc|refine keep_far ?_ GW101.out _|refine keep_far ?_ GW102.out _|refine keep_far ?_ GW107.out _)|exact HK.out)) hk (.inl rfl))
          have n8_ := Aside0.mk (hb)
          have n9_ := Aside0.mk (hi)
          clear HO_108002
          clear BK101
          clear BK102
          clear BK107
          clear HL110_2
          clear HO113
          clear HO118
          clear HK
          clear HB
          clear HI0
          have HO_108002 := n0_
          have BK101 := n1_
          have BK102 := n2_
          have BK107 := n3_
          have HL110_2 := n4_
          have HO113 := n5_
          have HO118 := n6_
          have HK := n7_
          have HB := n8_
          have HI0 := n9_
          clear n0_ n1_ n2_ n3_ n4_ n5_ n6_ n7_ n8_ n9_
          (try clear hb)
          (try clear hb2)
          (try clear hk)
          (try clear hi)
          refine hK.out _ _ ⟨(blk_cell BK107.out 0).trans rfl,(blk_cell BK107.out 1).trans rfl,(blk_cell BK107.out 2).trans rfl⟩ (fun hHeld=>?_)
          clear hK K
          refine norm_ (a' := ?_) ?_ ?_
          rotate_left
          · show Act.put _ (some 35) _ = _
            simp only [Act.put, List.setIfInBounds_toArray, List.set_cons_zero, List.set_cons_succ, i64_w, i32_w]
            rfl
          refine pure_ (i:=6) (N:=some 36) (v:=?_) (a':=?_) #[true,true,true,true,true,true,true,false,false,false] rfl rfl (any_of HT_.out (by kernel_rfl)) (fun _ _ _ h=>h) (Or.inl ⟨by rfl,?_⟩) ?_ ?_
          rotate_left
          · intro w'
            go_simp
            with_reducible rfl
          rotate_left
          · simp only [Act.put, List.setIfInBounds_toArray, List.set_cons_zero, List.set_cons_succ, i64_w, i32_w]
            rfl
          refine pure_ (i:=7) (N:=some 37) (v:=?_) (a':=?_) #[true,true,true,true,true,true,true,true,false,false] rfl rfl (any_of HT_.out (by kernel_rfl)) (fun _ _ _ h=>h) (Or.inl ⟨by rfl,?_⟩) ?_ ?_
          rotate_left
          · intro w'
            go_simp
            with_reducible rfl
          rotate_left
          · simp only [Act.put, List.setIfInBounds_toArray, List.set_cons_zero, List.set_cons_succ, i64_w, i32_w]
            rfl
          refine one_ (i:=8) (N:=none) #[true,true,true,true,true,true,true,true,true,false] rfl rfl (one_of HT_.out (by kernel_rfl)) (by decide) (fun K hK=>?_)
          have hs47 : w46.cell? ⟨gb101, 0, none⟩ = some (.int .i64 0) := (blk_cell BK101.out 0).trans rfl
          have hfs47 := blk_frozen BK101.out 0
          have hns47_1 := NB102_101.out
          have hns47_2 := NB107_101.out
          have hms47_1 := NB101_102.out
          have hms47_2 := NB101_107.out
          have hs48 : w46.cell? ⟨gb101, 1, none⟩ = some (.int .i64 0) := (blk_cell BK101.out 1).trans rfl
          have hfs48 := blk_frozen BK101.out 1
          have hns48_1 := NB102_101.out
          have hns48_2 := NB107_101.out
          have hms48_1 := NB101_102.out
          have hms48_2 := NB101_107.out
          have hs49 : w46.cell? ⟨gb101, 2, none⟩ = some (.slice none 0 0) := (blk_cell BK101.out 2).trans rfl
          have hfs49 := blk_frozen BK101.out 2
          have hns49_1 := NB102_101.out
          have hns49_2 := NB107_101.out
          have hms49_1 := NB101_102.out
          have hms49_2 := NB101_107.out
          refine skip_ (w1 := ?_) (by rfl) rfl ?_ ?_
          rotate_left
          · go_simp
            rfl
          refine hK.out _ _ ⟨((cell_far (p:=⟨gb101,_,none⟩) NB107_101.out _).trans (((cell_far (p:=⟨gb101,_,none⟩) NB107_101.out _).trans (((cell_far (p:=⟨gb101,_,none⟩) NB107_101.out _).trans (hHeld.1)))))),((cell_far (p:=⟨gb101,_,none⟩) NB107_101.out _).trans (((cell_far (p:=⟨gb101,_,none⟩) NB107_101.out _).trans (((cell_far (p:=⟨gb101,_,none⟩) NB107_101.out _).trans (hHeld.2.1)))))),((cell_far (p:=⟨gb101,_,none⟩) NB107_101.out _).trans (((cell_far (p:=⟨gb101,_,none⟩) NB107_101.out _).trans (((cell_far (p:=⟨gb101,_,none⟩) NB107_101.out _).trans (hHeld.2.2))))))⟩ (fun hHeld=>?_)
          clear hK K
          refine one_ (i:=9) (N:=none) #[true,true,true,true,true,true,true,true,true,true] rfl rfl (one_of HT_.out (by kernel_rfl)) (by decide) (fun K hK=>?_)
          have hs50 : w46.cell? ⟨gb102, 0, none⟩ = some (.int .i64 0) := (blk_cell BK102.out 0).trans rfl
          have hfs50 := blk_frozen BK102.out 0
          have hns50_0 := NB101_102.out
          have hns50_2 := NB107_102.out
          have hms50_0 := NB102_101.out
          have hms50_2 := NB102_107.out
          have hs51 : w46.cell? ⟨gb102, 1, none⟩ = some (.int .i64 0) := (blk_cell BK102.out 1).trans rfl
          have hfs51 := blk_frozen BK102.out 1
          have hns51_0 := NB101_102.out
          have hns51_2 := NB107_102.out
          have hms51_0 := NB102_101.out
          have hms51_2 := NB102_107.out
          refine skip_ (w1 := ?_) (by rfl) rfl ?_ ?_
          rotate_left
          · go_simp
            rfl
          refine hK.out _ _ ⟨((cell_far (p:=⟨gb102,_,none⟩) NB107_102.out _).trans (((cell_far (p:=⟨gb102,_,none⟩) NB107_102.out _).trans (hHeld.1)))),((cell_far (p:=⟨gb102,_,none⟩) NB107_102.out _).trans (((cell_far (p:=⟨gb102,_,none⟩) NB107_102.out _).trans (hHeld.2.1)))),((cell_far (p:=⟨gb102,_,none⟩) NB107_102.out _).trans (((cell_far (p:=⟨gb102,_,none⟩) NB107_102.out _).trans (hHeld.2.2))))⟩ (fun hHeld=>?_)
          clear hK K
          refine done_ (done_of HT_.out (by kernel_rfl)) ?_
          try go_wp2
          refine bodyPost_ret (results_cc rfl _ _ gb101 gb102 39 41 #[.int .i64 (-1),.int .i64 20454,.slice (some ad110) t103.length co7] #[.int .i64 (wrap64 (((rd_T48 t103 0).f0.f0) + t114)),.int .i64 (wrap64 ((wrap64 (((rd_T48 t103 0).f0.f0) + t114)) + t119))] (0,0) (0,0) _ _ rfl (by (with_reducible repeat (first|refine blk_drewN ?_ _|refine blk_drew ?_|refine blk_alloc ?_ _));refine blk_far ?_ NB101_102.out _;(with_reducible repeat (first|refine blk_drewN ?_ _|refine blk_drew ?_|refine blk_alloc ?_ _));refine blk_far ?_ NB101_102.out _;(with_reducible repeat (first|refine blk_drewN ?_ _|refine blk_drew ?_|refine blk_alloc ?_ _));refine blk_put (cs:=#[.int .i64 (-1),.int .i64 20454,.slice none 0 0]) ?_ 2 _ rfl;(with_reducible repeat (first|refine blk_drewN ?_ _|refine blk_drew ?_|refine blk_alloc ?_ _));refine blk_put (cs:=#[.int .i64 (-1),.int .i64 0,.slice none 0 0]) ?_ 1 _ rfl;(with_reducible repeat (first|refine blk_drewN ?_ _|refine blk_drew ?_|refine blk_alloc ?_ _));refine blk_put (cs:=#[.int .i64 0,.int .i64 0,.slice none 0 0]) ?_ 0 _ rfl;(with_reducible repeat (first|refine blk_drewN ?_ _|refine blk_drew ?_|refine blk_alloc ?_ _));exact BK101.out) Try.underlying39 rfl (by kernel_rfl) rfl (by (with_reducible repeat (first|refine blk_drewN ?_ _|refine blk_drew ?_|refine blk_alloc ?_ _));refine blk_put (cs:=#[.int .i64 (wrap64 (((rd_T48 t103 0).f0.f0) + t114)),.int .i64 0]) ?_ 1 _ rfl;(with_reducible repeat (first|refine blk_drewN ?_ _|refine blk_drew ?_|refine blk_alloc ?_ _));refine blk_put (cs:=#[.int .i64 0,.int .i64 0]) ?_ 0 _ rfl;(with_reducible repeat (first|refine blk_drewN ?_ _|refine blk_drew ?_|refine blk_alloc ?_ _));refine blk_far ?_ NB102_101.out _;(with_reducible repeat (first|refine blk_drewN ?_ _|refine blk_drew ?_|refine blk_alloc ?_ _));refine blk_far ?_ NB102_101.out _;(with_reducible repeat (first|refine blk_drewN ?_ _|refine blk_drew ?_|refine blk_alloc ?_ _));refine blk_far ?_ NB102_101.out _;(with_reducible repeat (first|refine blk_drewN ?_ _|refine blk_drew ?_|refine blk_alloc ?_ _));exact BK102.out) Try.underlying41 rfl (by kernel_rfl)) rfl ?_
          exact⟨_,by first|rfl|(simp[errW_none,errW_some] <;> rfl)|(simp[*,errW_none,errW_some] <;> rfl),by (with_reducible repeat (first|apply Kd.N_alloc|apply Kd.N_drewN|apply Kd.N_drew));exact Kd.N_mono (Kd.N_far (p:=⟨gb102,1,none⟩) (Kd.N_far (p:=⟨gb102,0,none⟩) (Kd.N_far (p:=⟨gb101,2,none⟩) (Kd.N_far (p:=⟨gb101,1,none⟩) (Kd.N_far (p:=⟨gb101,0,none⟩) (Kd.N_mono (Kd.N_mono HO_108002.out (fun k_ hk=>(⟨hk,hk.1.1.2.1⟩:_∧k_≠gb101))) (fun k_ hk=>(⟨hk,hk.1.1.1.2.2.1⟩:_∧k_≠gb102))) (fun _ hk=>hk.1.2) (.int .i64 (-1))) (fun _ hk=>hk.1.2) (.int .i64 20454)) (fun _ hk=>hk.1.2) (.slice (some ad110) t103.length co7)) (fun _ hk=>hk.2) (.int .i64 (wrap64 (((rd_T48 t103 0).f0.f0) + t114)))) (fun _ hk=>hk.2) (.int .i64 (wrap64 ((wrap64 (((rd_T48 t103 0).f0.f0) + t114)) + t119)))) (fun _ hk=>hk.1.1.1.1.1),by repeat (first|(with_reducible first|exact HI0.out|apply IsS54.alloc|apply IsS54.drewN|apply IsS54.drew|apply IsS54.set_1|refine IsS54.far ?_ NB0_101.out _|refine IsS54.far ?_ NB0_102.out _|refine IsS54.far ?_ NB0_107.out _)|exact HI0.out),by repeat (first|(with_reducible first|exact HB.out|apply below_alloc|apply pw_below_drewN|apply below_drew1|refine below_set ?_ (IsS54.ge HI0.out)|refine below_set ?_ GE101.out|refine below_set ?_ GE102.out|refine below_set ?_ GE107.out)|exact HB.out),by repeat (first|(with_reducible first|exact HK.out|apply KeepBut.set_|apply keep_drewN|apply keep_drew|apply keep_alloc|refine keep_far ?_ GW101.out _|refine keep_far ?_ GW102.out _|refine keep_far ?_ GW107.out _)|exact HK.out)⟩
        · rw [if_neg c34] at H
          exact absurd H (by simp)
end Go.Proofs.Ythdohkabcpdpdaa.P
