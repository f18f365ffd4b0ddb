import Derived.Test.YthdohkabcpdpdaaP0
import Derived.Test.YthdohkabcpdpdaaP4
namespace Go.Proofs.Ythdohkabcpdpdaa.P
open Go.RowKit Go.Proofs.YthdohkabcpdpdaaW.PrintWords Go.Proofs.YthdohkabcpdpdaaW.PrintLast Go.Proofs.YthdohkabcpdpdaaW.PrintMore
attribute [local go_sem] max2_int min2_int max_two min_two max_three min_three max_four min_four   -- for this text's walks alone
set_option linter.unusedVariables false
set_option linter.unusedSimpArgs false
mutual
def payrollgen_Tape_Presences.l0 : Nat → Int → List (S48) → Int → List Int → Int → Option ((List (S48)) × Int)
  | 0, _, _, _, _, _ => none
  | k + 1, x5, x6, x7, x1000, x1001 => if x7 > 0 then ((payrollgen_Tape_Pick.f x1000 x1001 (([480, 1, 300, 545, 90] : List Int))).bind fun bt111 => ((payrollgen_Tape_Next.f x1000 bt111.2 3).bind fun bt114 => (payrollgen_Tape_Presences.l1 k x6 x7 x5 bt114.1 x1000 bt114.2 x5 (wrap64 (x5 + bt111.1)) ([] : List (S41))))) else (some (x6, x1001))
def payrollgen_Tape_Presences.l1 : Nat → List (S48) → Int → Int → Int → List Int → Int → Int → Int → List (S41) → Option ((List (S48)) × Int)
  | 0, _, _, _, _, _, _, _, _, _ => none
  | k + 1, x6, x7, x9, x10, x1000, x1001, x114000, x114001, x114002 => if x10 > 0 then ((payrollgen_Tape_Pick.f x1000 x1001 (([0, 60, 120, 7] : List Int))).bind fun bt130 => ((payrollgen_Tape_Pick.f x1000 bt130.2 (([15, 30, 45] : List Int))).bind fun bt135 => (if (wrap64 ((wrap64 (x9 + bt130.1)) + bt135.1)) ≤ x114001 then ((some (([(⟨wrap64 (x9 + bt130.1), wrap64 ((wrap64 (x9 + bt130.1)) + bt135.1)⟩ : S41)] : List (S41)) : List (S41))).bind fun y137 => (if x114002.length + y137.length < 8796093022208 then (payrollgen_Tape_Presences.l1 k x6 x7 (wrap64 ((wrap64 (x9 + bt130.1)) + bt135.1)) (wrap64 (x10 - 1)) x1000 bt135.2 x114000 x114001 (x114002 ++ y137)) else (none))) else (payrollgen_Tape_Presences.l1 k x6 x7 x9 (wrap64 (x10 - 1)) x1000 bt135.2 x114000 x114001 x114002)))) else ((some (([(⟨(⟨x114000, x114001⟩ : S41), x114002⟩ : S48)] : List (S48)) : List (S48))).bind fun y116 => (if x6.length + y116.length < 3518437208883 then ((payrollgen_Tape_Pick.f x1000 x1001 (([0, 15, 960, 480, 1] : List Int))).bind fun bt125 => (payrollgen_Tape_Presences.l0 k (wrap64 (x114001 + bt125.1)) (x6 ++ y116) (wrap64 (x7 - 1)) x1000 bt125.2)) else (none)))
end
def payrollgen_Tape_Presences.f (k : Nat) (s0_0 : List Int) (s0_1 : Int) (a1 : Int) : Option ((List (S48)) × Int) := (payrollgen_Tape_Pick.f s0_0 s0_1 (([0, 420, 470, 480] : List Int))).bind fun bt104 => ((payrollgen_Tape_Next.f s0_0 bt104.2 (wrap64 (a1 + 1))).bind fun bt106 => (payrollgen_Tape_Presences.l0 k (wrap64 (29453760 + bt104.1)) ([] : List (S48)) bt106.1 s0_0 bt106.2))
theorem payrollgen_Tape_Presences.mono_l : ∀ k, (∀ y0 y1 y2 y3 y4, LeO (payrollgen_Tape_Presences.l0 k y0 y1 y2 y3 y4) (payrollgen_Tape_Presences.l0 (k + 1) y0 y1 y2 y3 y4)) ∧ (∀ y0 y1 y2 y3 y4 y5 y6 y7 y8, LeO (payrollgen_Tape_Presences.l1 k y0 y1 y2 y3 y4 y5 y6 y7 y8) (payrollgen_Tape_Presences.l1 (k + 1) y0 y1 y2 y3 y4 y5 y6 y7 y8))
  | 0 => ⟨fun _ _ _ _ _ r h => by simp [payrollgen_Tape_Presences.l0] at h, fun _ _ _ _ _ _ _ _ _ r h => by simp [payrollgen_Tape_Presences.l1] at h⟩
  | k + 1 => by
    obtain ⟨ih0, ih1⟩ := payrollgen_Tape_Presences.mono_l k
    refine ⟨?_, ?_⟩
    · intro y0 y1 y2 y3 y4
      unfold payrollgen_Tape_Presences.l0
      repeat' first
      | (with_reducible exact ih0 _ _ _ _ _)
      | (with_reducible exact ih1 _ _ _ _ _ _ _ _ _)
      | (with_reducible exact LeO.refl _)
      | (with_reducible exact LeO.none _)
      | (with_reducible refine LeO.ite ?_ ?_)
      | (with_reducible refine LeO.bind ?_ (fun _ => ?_))
      | exact ih0 _ _ _ _ _
      | exact ih1 _ _ _ _ _ _ _ _ _
      | exact LeO.none _
      | refine LeO.ite ?_ ?_
      | refine LeO.bind ?_ (fun _ => ?_)
    · intro y0 y1 y2 y3 y4 y5 y6 y7 y8
      unfold payrollgen_Tape_Presences.l1
      repeat' first
      | (with_reducible exact ih0 _ _ _ _ _)
      | (with_reducible exact ih1 _ _ _ _ _ _ _ _ _)
      | (with_reducible exact LeO.refl _)
      | (with_reducible exact LeO.none _)
      | (with_reducible refine LeO.ite ?_ ?_)
      | (with_reducible refine LeO.bind ?_ (fun _ => ?_))
      | exact ih0 _ _ _ _ _
      | exact ih1 _ _ _ _ _ _ _ _ _
      | exact LeO.none _
      | refine LeO.ite ?_ ?_
      | refine LeO.bind ?_ (fun _ => ?_)
theorem payrollgen_Tape_Presences.mono : ∀ a0 a1 a2 k, LeO (payrollgen_Tape_Presences.f k a0 a1 a2) (payrollgen_Tape_Presences.f (k + 1) a0 a1 a2) := by
  intro a0 a1 a2 k
  obtain ⟨ih0, ih1⟩ := payrollgen_Tape_Presences.mono_l k
  unfold payrollgen_Tape_Presences.f
  repeat' first
      | (with_reducible exact ih0 _ _ _ _ _)
      | (with_reducible exact ih1 _ _ _ _ _ _ _ _ _)
      | (with_reducible exact LeO.refl _)
      | (with_reducible exact LeO.none _)
      | (with_reducible refine LeO.ite ?_ ?_)
      | (with_reducible refine LeO.bind ?_ (fun _ => ?_))
      | exact ih0 _ _ _ _ _
      | exact ih1 _ _ _ _ _ _ _ _ _
      | exact LeO.none _
      | refine LeO.ite ?_ ?_
      | refine LeO.bind ?_ (fun _ => ?_)
def payrollgen_Tape_Presences.T15 : Bool × List (List Nat × List Nat) := (true, [([], []), ([], []), ([1], [1]), ([0, 2], [0, 2]), ([], []), ([4], [4]), ([5], [5]), ([], []), ([], []), ([7, 8, 3], [7, 8]), ([6, 9], [6, 9]), ([3, 9, 0, 1, 2, 3], [0, 3]), ([10, 11, 0, 1, 2, 3, 4, 5, 6, 7, 8, 9, 10, 11], [10])])
def payrollgen_Tape_Presences.B15 : List Nat := [0, 0, 2, 7, 0, 16, 48, 0, 0, 399, 1023, 911, 4095]
theorem payrollgen_Tape_Presences.tab15 : rtab .any (opsOf Try.f22 15) = payrollgen_Tape_Presences.T15 := by kernel_rfl
theorem payrollgen_Tape_Presences.bits15 : waitsOk payrollgen_Tape_Presences.T15.2 payrollgen_Tape_Presences.B15 = true := by kernel_rfl
set_option maxHeartbeats 8000000 in
set_option maxRecDepth 100000 in
theorem payrollgen_Tape_Presences.calls (k : Nat) (g : Nat) (s0_0 : List Int) (s0_1 : Int) (a1 : Int) (r1 : List (S48)) (r2 : Int) (w0 w : World) (hI : IsS54 w0 w g s0_0 s0_1) (hB : Below w0.heap.size w0 w) (h : payrollgen_Tape_Presences.f k s0_0 s0_1 a1 = some (r1, r2)) :
    Calls Try.prog 22 #[.pointer (some ⟨g, 0, none⟩), .int .i64 a1] w fun e w' => ∃ v0_ : Value, e = .returned (v0_) ∧ Kd.N k48 48 w' w.heap.size (fun k_ => (w.heap.size ≤ k_)) v0_ r1 ∧ IsS54 w0 w' g s0_0 r2 ∧ Below w0.heap.size w0 w' ∧ KeepBut w w' g none := by
  have hu41 := Try.underlying41
  have hu48 := Try.underlying48
  have HI0 := Aside0.mk hI
  have HK := Aside0.mk (KeepBut.refl w g none)
  have HL := Aside0.mk hB.size
  clear hI
  have HW0 := Aside0.mk hB.size
  have HB := Aside0.mk hB
  clear hB
  have H:((payrollgen_Tape_Pick.f s0_0 s0_1 (([0,420,470,480]:List Int))).bind fun bt104=>((payrollgen_Tape_Next.f s0_0 bt104.2 (wrap64 (a1 + 1))).bind fun bt106=>(payrollgen_Tape_Presences.l0 k (wrap64 (29453760 + bt104.1)) ([]:List (S48)) bt106.1 s0_0 bt106.2))) = some (r1,r2):=h
  clear h
  obtain ⟨y101, hy101⟩ : ∃ y_ : List Int, y_ = (([0, 420, 470, 480] : List Int)) := ⟨_, rfl⟩
  replace H:((payrollgen_Tape_Pick.f s0_0 s0_1 y101).bind fun bt104=>((payrollgen_Tape_Next.f s0_0 bt104.2 (wrap64 (a1 + 1))).bind fun bt106=>(payrollgen_Tape_Presences.l0 k (wrap64 (29453760 + bt104.1)) ([]:List (S48)) bt106.1 s0_0 bt106.2))) = some (r1,r2):=by first|(rw[hy101];with_reducible exact H)|(have H2_:=(Option.bind_some _ _).symm.trans H;rw[hy101];with_reducible exact H2_)|(have H2_:=(Option.bind_some _ _).symm.trans H;with_reducible exact H2_)|with_reducible exact H|(rw[hy101];exact H)|exact H
  have Ny101 := Aside0.mk hy101
  clear hy101
  replace H := Option.bind_eq_some_iff.mp H
  obtain ⟨⟨t104, t105⟩, A30, H⟩ := H
  replace H:((payrollgen_Tape_Next.f s0_0 t105 (wrap64 (a1 + 1))).bind fun bt106=>(payrollgen_Tape_Presences.l0 k (wrap64 (29453760 + t104)) ([]:List (S48)) bt106.1 s0_0 bt106.2)) = some (r1,r2):=H
  have A3 := Aside0.mk A30
  clear A30
  replace H := Option.bind_eq_some_iff.mp H
  obtain ⟨⟨t106, t107⟩, A40, H⟩ := H
  replace H:(payrollgen_Tape_Presences.l0 k (wrap64 (29453760 + t104)) ([]:List (S48)) t106 s0_0 t107) = some (r1,r2):=H
  have A4 := Aside0.mk A40
  clear A40
  have H' := Aside0.mk H
  clear H
  go_enter Try.func22, Try.ntmps22
  go_wp2_with (first|((with_reducible refine gate_dst (N:=14) rfl ?_);refine Kd.R_lit (Kd.int .i64) _ 3 ?hg (N:=14) ?hd (xs:=([0,420,470,480]:List Int)) (inner:=[.int .i64 0,.int .i64 420,.int .i64 470,.int .i64 480]) (ok:=fun _=>True) (okp:=fun _=>True) ?hr ?hp (fun _ hk=>hk) trivial (Below.refl _ _) (Nat.le_refl _) (by simp) ?_;(case hd=>rfl);(case hg=>rfl);(case hr=>first|(go_simp;done)|(go_simp;rfl));(case hp=>exact(Reps.one (show Kd.M (Kd.int .i64) _ _ _ 0 [.int .i64 0] from rfl) (Reps.one (show Kd.M (Kd.int .i64) _ _ _ 420 [.int .i64 420] from rfl) (Reps.one (show Kd.M (Kd.int .i64) _ _ _ 470 [.int .i64 470] from rfl) (Reps.one (show Kd.M (Kd.int .i64) _ _ _ 480 [.int .i64 480] from rfl) (Reps.none _ _))))));intro v102 w5 ho6 hb hg_ hnew_;clear hg_ hnew_;(first|rw[← Ny101.out] at ho6|(simp only[Int.reduceToNat] at ho6;rw[← Ny101.out] at ho6));have n0_:=Aside0.mk (Kd.R_lower (Kd.R_newM (M:=fun k_=>(w.heap.size≤k_)) ho6 (keep_size (w:=w) (g:=g) (row:=none) (by repeat (first|(with_reducible first|exact HK.out|apply KeepBut.set_|apply keep_drewN|apply keep_drew|apply keep_alloc)|exact HK.out))) (fun k_ h_=>h_)) (keep_size (w:=w) (g:=g) (row:=none) (by repeat (first|(with_reducible first|exact HK.out|apply KeepBut.set_|apply keep_drewN|apply keep_drew|apply keep_alloc)|exact HK.out))));have n1_:=Aside0.mk (IsS54.below (by repeat (first|(with_reducible first|exact HI0.out|apply IsS54.alloc|apply IsS54.drewN|apply IsS54.drew|apply IsS54.set_1)|exact HI0.out)) hb);have n2_:=Aside0.mk (KeepBut.trans (by repeat (first|(with_reducible first|exact HK.out|apply KeepBut.set_|apply keep_drewN|apply keep_drew|apply keep_alloc)|exact HK.out)) (KeepBut.of_below hb g none) (.inl rfl));have n3_:=Aside0.mk (below_step (by repeat (first|(with_reducible first|exact HB.out|apply below_alloc|apply pw_below_drewN|apply below_drew1|refine below_set ?_ (IsS54.ge HI0.out))|exact HB.out)) hb);clear HI0;clear HK;clear HB;have HO103:=n0_;have HI0:=n1_;have HK:=n2_;have HB:=n3_;clear n0_ n1_ n2_ n3_;clear hb ho6;obtain ⟨Ao7,co7,eo7⟩:=Kd.R_slice HO103.out;subst eo7)|((with_reducible refine gate_callee (f:=18) rfl ?_);refine goesL_ (some 15) rfl rfl Try.func18 (by kernel_rfl) rfl #[.pointer (some ⟨g,0,none⟩),.slice Ao7 y101.length co7] rfl (by (try simp only[List.map_toArray,List.map_cons,List.map_nil]);first|done|rfl|(simp only[List.length_drop,List.length_take];rfl)) ?_;(with_reducible refine(payrollgen_Tape_Pick.calls g s0_0 s0_1 _ _ y101 t104 t105 w0 _ ?side1 ?side2 ?side3 ?side4 ?side5 A3.out).mono ?_);(case side1=>repeat (first|(with_reducible first|exact HI0.out|apply IsS54.alloc|apply IsS54.drewN|apply IsS54.drew|apply IsS54.set_1)|exact HI0.out));(case side2=>repeat (first|(with_reducible first|exact HB.out|apply below_alloc|apply pw_below_drewN|apply below_drew1|refine below_set ?_ (IsS54.ge HI0.out))|exact HB.out));(case side3=>repeat (first|exact(Kd.R_reads' HO103.out).2.2|(with_reducible refine Kd.C_alloc ?_ _)|(with_reducible refine Kd.C_drewN ?_ _)|(with_reducible refine Kd.C_drew ?_)));(case side4=>exact(Kd.R_reads' HO103.out).2.1);(case side5=>exact far_slice (IsS54.own_ne HI0.out HO103.out (by decide)));rintro e w8 ⟨rfl,hi,hb,hk⟩;refine⟨_,rfl,?_⟩;have n0_:=Aside0.mk (Kd.R_mono (Kd.R_keep (IsS54.apart (show IsS54 w0 _ g s0_0 s0_1 from by repeat (first|(with_reducible first|exact HI0.out|apply IsS54.alloc|apply IsS54.drewN|apply IsS54.drew|apply IsS54.set_1)|exact HI0.out)) (by (with_reducible repeat (first|apply Kd.R_alloc|apply Kd.R_drewN|apply Kd.R_drew));exact HO103.out) (by decide)) hk (fun _ h=>h.2)) (fun _ h=>h.1));have n1_:=Aside0.mk (KeepBut.trans (by repeat (first|(with_reducible first|exact HK.out|apply KeepBut.set_|apply keep_drewN|apply keep_drew|apply keep_alloc)|exact HK.out)) hk (.inl rfl));have n2_:=Aside0.mk (hb);have n3_:=Aside0.mk (hi);clear HO103;clear HK;clear HB;clear HI0;have HO103:=n0_;have HK:=n1_;have HB:=n2_;have HI0:=n3_;clear n0_ n1_ n2_ n3_;(try clear hb);(try clear hb2);(try clear hk);(try clear hi))|((with_reducible refine gate_callee (f:=17) rfl ?_);refine goesL_ (some 20) rfl rfl Try.func17 (by kernel_rfl) rfl #[.pointer (some ⟨g,0,none⟩),.int .i64 (wrap64 (a1 + 1))] rfl (by (try simp only[List.map_toArray,List.map_cons,List.map_nil]);first|done|rfl|(simp only[List.length_drop,List.length_take];rfl)) ?_;(with_reducible refine(payrollgen_Tape_Next.calls g s0_0 t105 (wrap64 (a1 + 1)) t106 t107 w0 _ ?side1 ?side2 A4.out).mono ?_);(case side1=>repeat (first|(with_reducible first|exact HI0.out|apply IsS54.alloc|apply IsS54.drewN|apply IsS54.drew|apply IsS54.set_1)|exact HI0.out));(case side2=>repeat (first|(with_reducible first|exact HB.out|apply below_alloc|apply pw_below_drewN|apply below_drew1|refine below_set ?_ (IsS54.ge HI0.out))|exact HB.out));rintro e w9 ⟨rfl,hi,hb,hk⟩;refine⟨_,rfl,?_⟩;have n0_:=Aside0.mk (Kd.R_mono (Kd.R_keep (IsS54.apart (show IsS54 w0 _ g s0_0 t105 from by repeat (first|(with_reducible first|exact HI0.out|apply IsS54.alloc|apply IsS54.drewN|apply IsS54.drew|apply IsS54.set_1)|exact HI0.out)) (by (with_reducible repeat (first|apply Kd.R_alloc|apply Kd.R_drewN|apply Kd.R_drew));exact HO103.out) (by decide)) hk (fun _ h=>h.2)) (fun _ h=>h.1));have n1_:=Aside0.mk (KeepBut.trans (by repeat (first|(with_reducible first|exact HK.out|apply KeepBut.set_|apply keep_drewN|apply keep_drew|apply keep_alloc)|exact HK.out)) hk (.inl rfl));have n2_:=Aside0.mk (hb);have n3_:=Aside0.mk (hi);clear HO103;clear HK;clear HB;clear HI0;have HO103:=n0_;have HK:=n1_;have HB:=n2_;have HI0:=n3_;clear n0_ n1_ n2_ n3_;(try clear hb);(try clear hb2);(try clear hk);(try clear hi)))
  go_loopg [5,6,7] k (fun kq v5 v6 v7 w'=>∃ (x5_1:Int) (x6_1:List (S48)) (x7_1:Int) (x1001_1:Int),v5 = .int .i64 x5_1∧v7 = .int .i64 x7_1∧Aside0 (payrollgen_Tape_Presences.l0 kq x5_1 x6_1 x7_1 s0_0 x1001_1 = some (r1,r2))∧Aside0 (kq≤k)∧Aside0 (Kd.N k48 48 w' w.heap.size (fun k_=>(w.heap.size≤k_)∧k_≠g) v6 x6_1)∧Aside0 (IsS54 w0 w' g s0_0 x1001_1)∧Aside0 (KeepBut w w' g none)∧Aside0 (Below w0.heap.size w0 w'))
  case atStart=>exact⟨(wrap64 (29453760 + t104)),(([]:List (S48))),(t106),(t107),(by first|rfl|(simp;done)|(simp[*];done)),(by first|rfl|(simp;done)|(simp[*];done)),H',⟨Nat.le_refl _⟩,⟨by first|exact Kd.S_nil _ _ _ _ _|exact Kd.N_nil _ _ _ _ _|exact Kd.V_nil _ _ _ _ _|exact Kd.Q_nil _ _ _ _ _|exact Kd.R_nil _ _ _ _ _⟩,⟨by repeat (first|(with_reducible first|exact HI0.out|apply IsS54.alloc|apply IsS54.drewN|apply IsS54.drew|apply IsS54.set_1)|exact HI0.out)⟩,⟨by repeat (first|(with_reducible first|exact HK.out|apply KeepBut.set_|apply keep_drewN|apply keep_drew|apply keep_alloc)|exact HK.out)⟩,⟨by repeat (first|(with_reducible first|exact HB.out|apply below_alloc|apply pw_below_drewN|apply below_drew1|refine below_set ?_ (IsS54.ge HI0.out))|exact HB.out)⟩⟩
  case round =>
    clear H'
    try clear c1
    try clear c2
    try clear p2
    try clear p6
    obtain ⟨x5_1, x6_1, x7_1, x1001_1, rfl, rfl, HA, HK1, HO_6, HI0, HK, HB⟩ := hrel
    cases gk with
    | zero => exact absurd HA.out (by simp [payrollgen_Tape_Presences.l0])
    | succ k1 =>
      have H := HA.out
      clear HA
      simp only [payrollgen_Tape_Presences.l0] at H
      by_cases c10 : x7_1 > 0
      · rw [if_pos c10] at H
        have c10b0 : decide (0 < x7_1) = true := decide_eq_true c10
        clear c10
        obtain ⟨y108, hy108⟩ : ∃ y_ : List Int, y_ = (([480, 1, 300, 545, 90] : List Int)) := ⟨_, rfl⟩
        replace H:((payrollgen_Tape_Pick.f s0_0 x1001_1 y108).bind fun bt111=>((payrollgen_Tape_Next.f s0_0 bt111.2 3).bind fun bt114=>(payrollgen_Tape_Presences.l1 k1 x6_1 x7_1 x5_1 bt114.1 s0_0 bt114.2 x5_1 (wrap64 (x5_1 + bt111.1)) ([]:List (S41))))) = some (r1,r2):=by first|(rw[hy108];with_reducible exact H)|(have H2_:=(Option.bind_some _ _).symm.trans H;rw[hy108];with_reducible exact H2_)|(have H2_:=(Option.bind_some _ _).symm.trans H;with_reducible exact H2_)|with_reducible exact H|(rw[hy108];exact H)|exact H
        have Ny108 := Aside0.mk hy108
        clear hy108
        replace H := Option.bind_eq_some_iff.mp H
        obtain ⟨⟨t111, t112⟩, A110, H⟩ := H
        replace H:((payrollgen_Tape_Next.f s0_0 t112 3).bind fun bt114=>(payrollgen_Tape_Presences.l1 k1 x6_1 x7_1 x5_1 bt114.1 s0_0 bt114.2 x5_1 (wrap64 (x5_1 + t111)) ([]:List (S41)))) = some (r1,r2):=H
        have A11 := Aside0.mk A110
        clear A110
        replace H := Option.bind_eq_some_iff.mp H
        obtain ⟨⟨t114, t115⟩, A120, H⟩ := H
        replace H:(payrollgen_Tape_Presences.l1 k1 x6_1 x7_1 x5_1 t114 s0_0 t115 x5_1 (wrap64 (x5_1 + t111)) ([]:List (S41))) = some (r1,r2):=H
        have A12 := Aside0.mk A120
        clear A120
        have H' := Aside0.mk H
        clear H
        go_wp2_with (first|((with_reducible refine gate_dst (N:=28) rfl ?_);refine Kd.R_lit (Kd.int .i64) _ 3 ?hg (N:=28) ?hd (xs:=([480,1,300,545,90]:List Int)) (inner:=[.int .i64 480,.int .i64 1,.int .i64 300,.int .i64 545,.int .i64 90]) (ok:=fun _=>True) (okp:=fun _=>True) ?hr ?hp (fun _ hk=>hk) trivial (Below.refl _ _) (Nat.le_refl _) (by simp) ?_;(case hd=>rfl);(case hg=>rfl);(case hr=>first|(go_simp;done)|(go_simp;rfl));(case hp=>exact(Reps.one (show Kd.M (Kd.int .i64) _ _ _ 480 [.int .i64 480] from rfl) (Reps.one (show Kd.M (Kd.int .i64) _ _ _ 1 [.int .i64 1] from rfl) (Reps.one (show Kd.M (Kd.int .i64) _ _ _ 300 [.int .i64 300] from rfl) (Reps.one (show Kd.M (Kd.int .i64) _ _ _ 545 [.int .i64 545] from rfl) (Reps.one (show Kd.M (Kd.int .i64) _ _ _ 90 [.int .i64 90] from rfl) (Reps.none _ _)))))));intro v109 w13 ho14 hb hg_ hnew_;clear hg_ hnew_;(first|rw[← Ny108.out] at ho14|(simp only[Int.reduceToNat] at ho14;rw[← Ny108.out] at ho14));have n0_:=Aside0.mk (Kd.N_elder' (by (with_reducible repeat (first|apply Kd.N_alloc|apply Kd.N_drewN|apply Kd.N_drew));exact HO_6.out) (Kd.R_base ho14) hb);have n1_:=Aside0.mk (Kd.R_lower (Kd.R_newM (M:=fun k_=>(w.heap.size≤k_)) ho14 (keep_size (w:=w) (g:=g) (row:=none) (by repeat (first|(with_reducible first|exact HK.out|apply KeepBut.set_|apply keep_drewN|apply keep_drew|apply keep_alloc)|exact HK.out))) (fun k_ h_=>h_)) (keep_size (w:=w) (g:=g) (row:=none) (by repeat (first|(with_reducible first|exact HK.out|apply KeepBut.set_|apply keep_drewN|apply keep_drew|apply keep_alloc)|exact HK.out))));have n2_:=Aside0.mk (IsS54.below (by repeat (first|(with_reducible first|exact HI0.out|apply IsS54.alloc|apply IsS54.drewN|apply IsS54.drew|apply IsS54.set_1)|exact HI0.out)) hb);have n3_:=Aside0.mk (KeepBut.trans (by repeat (first|(with_reducible first|exact HK.out|apply KeepBut.set_|apply keep_drewN|apply keep_drew|apply keep_alloc)|exact HK.out)) (KeepBut.of_below hb g none) (.inl rfl));have n4_:=Aside0.mk (below_step (by repeat (first|(with_reducible first|exact HB.out|apply below_alloc|apply pw_below_drewN|apply below_drew1|refine below_set ?_ (IsS54.ge HI0.out))|exact HB.out)) hb);clear HO_6;clear HI0;clear HK;clear HB;have HO_6:=n0_;have HO110:=n1_;have HI0:=n2_;have HK:=n3_;have HB:=n4_;clear n0_ n1_ n2_ n3_ n4_;clear hb ho14;obtain ⟨Ao15,co15,eo15⟩:=Kd.R_slice HO110.out;subst eo15)|((with_reducible refine gate_callee (f:=18) rfl ?_);refine goesL_ (some 29) rfl rfl Try.func18 (by kernel_rfl) rfl #[.pointer (some ⟨g,0,none⟩),.slice Ao15 y108.length co15] rfl (by (try simp only[List.map_toArray,List.map_cons,List.map_nil]);first|done|rfl|(simp only[List.length_drop,List.length_take];rfl)) ?_;(with_reducible refine(payrollgen_Tape_Pick.calls g s0_0 x1001_1 _ _ y108 t111 t112 w0 _ ?side1 ?side2 ?side3 ?side4 ?side5 A11.out).mono ?_);(case side1=>repeat (first|(with_reducible first|exact HI0.out|apply IsS54.alloc|apply IsS54.drewN|apply IsS54.drew|apply IsS54.set_1)|exact HI0.out));(case side2=>repeat (first|(with_reducible first|exact HB.out|apply below_alloc|apply pw_below_drewN|apply below_drew1|refine below_set ?_ (IsS54.ge HI0.out))|exact HB.out));(case side3=>repeat (first|exact(Kd.R_reads' HO110.out).2.2|(with_reducible refine Kd.C_alloc ?_ _)|(with_reducible refine Kd.C_drewN ?_ _)|(with_reducible refine Kd.C_drew ?_)));(case side4=>exact(Kd.R_reads' HO110.out).2.1);(case side5=>exact far_slice (IsS54.own_ne HI0.out HO110.out (by decide)));rintro e w16 ⟨rfl,hi,hb,hk⟩;refine⟨_,rfl,?_⟩;have n0_:=Aside0.mk (Kd.N_mono (Kd.N_keep (Kd.N_mono (ok:=fun k_=>((((w.heap.size≤k_))∧k_≠g)∧some k_≠(.slice Ao15 y108.length co15:Value).ownBlock)) (by (with_reducible repeat (first|apply Kd.N_alloc|apply Kd.N_drewN|apply Kd.N_drew));exact HO_6.out) (fun k_ hk_=>(⟨hk_,hk_.1.2⟩:_∧k_≠g))) hk (fun _ h=>h.2)) (fun _ h=>h.1));have n1_:=Aside0.mk (Kd.R_mono (Kd.R_keep (IsS54.apart (show IsS54 w0 _ g s0_0 x1001_1 from by repeat (first|(with_reducible first|exact HI0.out|apply IsS54.alloc|apply IsS54.drewN|apply IsS54.drew|apply IsS54.set_1)|exact HI0.out)) (by (with_reducible repeat (first|apply Kd.R_alloc|apply Kd.R_drewN|apply Kd.R_drew));exact HO110.out) (by decide)) hk (fun _ h=>h.2)) (fun _ h=>h.1));have n2_:=Aside0.mk (KeepBut.trans (by repeat (first|(with_reducible first|exact HK.out|apply KeepBut.set_|apply keep_drewN|apply keep_drew|apply keep_alloc)|exact HK.out)) hk (.inl rfl));have n3_:=Aside0.mk (hb);have n4_:=Aside0.mk (hi);clear HO_6;clear HO110;clear HK;clear HB;clear HI0;have HO_6:=n0_;have HO110:=n1_;have HK:=n2_;have HB:=n3_;have HI0:=n4_;clear n0_ n1_ n2_ n3_ n4_;(try clear hb);(try clear hb2);(try clear hk);(try clear hi))|((with_reducible refine gate_dst (N:=8) rfl ?_);refine box_event ?hg (N:=8) ?hd (cs:=#[.int .i64 0,.int .i64 0,.slice none 0 0]) (t:=48) ?hr ?_;(case hd=>rfl);(case hg=>rfl);(case hr=>first|(go_simp;done)|(go_simp;rfl));intro gb113 hg w17 hbox hb;have n0_:=Aside0.mk (Kd.N_below (Kd.N_elderB (by (with_reducible repeat (first|apply Kd.N_alloc|apply Kd.N_drewN|apply Kd.N_drew));exact HO_6.out) gb113 (Nat.le_of_eq hg.symm)) hb);have n1_:=Aside0.mk (Kd.R_below (by (with_reducible repeat (first|apply Kd.R_alloc|apply Kd.R_drewN|apply Kd.R_drew));exact HO110.out) hb);have n2_:=Aside0.mk (IsS54.below (by repeat (first|(with_reducible first|exact HI0.out|apply IsS54.alloc|apply IsS54.drewN|apply IsS54.drew|apply IsS54.set_1)|exact HI0.out)) hb);have n3_:=Aside0.mk (KeepBut.trans (by repeat (first|(with_reducible first|exact HK.out|apply KeepBut.set_|apply keep_drewN|apply keep_drew|apply keep_alloc)|exact HK.out)) (KeepBut.of_below hb g none) (.inl rfl));have n4_:=Aside0.mk (below_step (by repeat (first|(with_reducible first|exact HB.out|apply below_alloc|apply pw_below_drewN|apply below_drew1|refine below_set ?_ (IsS54.ge HI0.out))|exact HB.out)) hb);have n5_:=Aside0.mk (hbox);have n6_:=Aside0.mk ((by rw[hg];exact(keep_size (w:=w) (g:=g) (row:=none) (by repeat (first|(with_reducible first|exact HK.out|apply KeepBut.set_|apply keep_drewN|apply keep_drew|apply keep_alloc)|exact HK.out))):w.heap.size≤gb113));have n7_:=Aside0.mk ((Nat.le_trans HW0.out (by rw[hg];exact(keep_size (w:=w) (g:=g) (row:=none) (by repeat (first|(with_reducible first|exact HK.out|apply KeepBut.set_|apply keep_drewN|apply keep_drew|apply keep_alloc)|exact HK.out))):w.heap.size≤gb113):w0.heap.size≤gb113));have n8_:=Aside0.mk ((by rw[hg];exact Nat.ne_of_lt (IsS54.lt (show IsS54 w0 _ g s0_0 t112 from by repeat (first|(with_reducible first|exact HI0.out|apply IsS54.alloc|apply IsS54.drewN|apply IsS54.drew|apply IsS54.set_1)|exact HI0.out))):g≠gb113));have n9_:=Aside0.mk ((by rw[hg];exact Nat.ne_of_gt (IsS54.lt (show IsS54 w0 _ g s0_0 t112 from by repeat (first|(with_reducible first|exact HI0.out|apply IsS54.alloc|apply IsS54.drewN|apply IsS54.drew|apply IsS54.set_1)|exact HI0.out))):gb113≠g));clear HO_6;clear HO110;clear HI0;clear HK;clear HB;have HO_6:=n0_;have HO110:=n1_;have HI0:=n2_;have HK:=n3_;have HB:=n4_;have BK113:=n5_;have GW113:=n6_;have GE113:=n7_;have NB0_113:=n8_;have NB113_0:=n9_;clear n0_ n1_ n2_ n3_ n4_ n5_ n6_ n7_ n8_ n9_;clear hb hbox hg;have hnb18:=NB113_0.out;have hnc18:=NB0_113.out;have hcz19_0:w17.cell? ⟨gb113,0,none⟩ = some (.int .i64 0):=(blk_cell BK113.out 0).trans rfl;have hcz19_1:w17.cell? ⟨gb113,1,none⟩ = some (.int .i64 0):=(blk_cell BK113.out 1).trans rfl;have hcz19_2:w17.cell? ⟨gb113,2,none⟩ = some (.slice none 0 0):=(blk_cell BK113.out 2).trans rfl;have hfz19_0:=blk_frozen BK113.out 0;have hfz19_1:=blk_frozen BK113.out 1;have hfz19_2:=blk_frozen BK113.out 2)|((with_reducible refine gate_callee (f:=17) rfl ?_);refine goesL_ (some 37) rfl rfl Try.func17 (by kernel_rfl) rfl #[.pointer (some ⟨g,0,none⟩),.int .i64 3] rfl (by (try simp only[List.map_toArray,List.map_cons,List.map_nil]);first|done|rfl|(simp only[List.length_drop,List.length_take];rfl)) ?_;(with_reducible refine(payrollgen_Tape_Next.calls g s0_0 t112 3 t114 t115 w0 _ ?side1 ?side2 A12.out).mono ?_);(case side1=>repeat (first|(with_reducible first|exact HI0.out|apply IsS54.alloc|apply IsS54.drewN|apply IsS54.drew|apply IsS54.set_1|refine IsS54.far ?_ NB0_113.out _)|exact HI0.out));(case side2=>repeat (first|(with_reducible first|exact HB.out|apply below_alloc|apply pw_below_drewN|apply below_drew1|refine below_set ?_ (IsS54.ge HI0.out)|refine below_set ?_ GE113.out)|exact HB.out));rintro e w20 ⟨rfl,hi,hb,hk⟩;refine⟨_,rfl,?_⟩;have n0_:=Aside0.mk (Kd.N_mono (Kd.N_keep (Kd.N_mono (ok:=fun k_=>(((((w.heap.size≤k_))∧k_≠g)∧some k_≠(.slice Ao15 y108.length co15:Value).ownBlock)∧k_≠gb113)) (by (with_reducible repeat (first|apply Kd.N_alloc|apply Kd.N_drewN|apply Kd.N_drew));exact(Kd.N_mono (Kd.N_far (p:=⟨gb113,2,none⟩) (Kd.N_far (p:=⟨gb113,1,none⟩) (Kd.N_far (p:=⟨gb113,0,none⟩) (Kd.N_mono HO_6.out (fun k_ hk=>(⟨hk,hk.2⟩:_∧k_≠gb113))) (fun _ hk=>hk.2) (.int .i64 x5_1)) (fun _ hk=>hk.2) (.int .i64 (wrap64 (x5_1 + t111)))) (fun _ hk=>hk.2) (.slice none 0 0)) (fun _ h_=>h_.1))) (fun k_ hk_=>(⟨hk_,hk_.1.1.2⟩:_∧k_≠g))) hk (fun _ h=>h.2)) (fun _ h=>h.1));have n1_:=Aside0.mk (Kd.R_mono (Kd.R_keep (IsS54.apart (show IsS54 w0 _ g s0_0 t112 from by repeat (first|(with_reducible first|exact HI0.out|apply IsS54.alloc|apply IsS54.drewN|apply IsS54.drew|apply IsS54.set_1|refine IsS54.far ?_ NB0_113.out _)|exact HI0.out)) (by (with_reducible repeat (first|apply Kd.R_alloc|apply Kd.R_drewN|apply Kd.R_drew));exact(Kd.R_mono (Kd.R_far (p:=⟨gb113,2,none⟩) (Kd.R_far (p:=⟨gb113,1,none⟩) (Kd.R_far (p:=⟨gb113,0,none⟩) (Kd.R_types HO110.out BK113.out (by decide)) (fun _ hk=>hk.2) (.int .i64 x5_1)) (fun _ hk=>hk.2) (.int .i64 (wrap64 (x5_1 + t111)))) (fun _ hk=>hk.2) (.slice none 0 0)) (fun _ h_=>h_.1))) (by decide)) hk (fun _ h=>h.2)) (fun _ h=>h.1));have n2_:=Aside0.mk (KeepBut.blk hk (g':=gb113) (o:=.cells #[.int .i64 x5_1,.int .i64 (wrap64 (x5_1 + t111)),.slice none 0 0] 48 (0,0)) (by (with_reducible repeat (first|refine blk_drewN ?_ _|refine blk_drew ?_|refine blk_alloc ?_ _));refine blk_put (cs:=#[.int .i64 x5_1,.int .i64 (wrap64 (x5_1 + t111)),.slice none 0 0]) ?_ 2 _ rfl;(with_reducible repeat (first|refine blk_drewN ?_ _|refine blk_drew ?_|refine blk_alloc ?_ _));refine blk_put (cs:=#[.int .i64 x5_1,.int .i64 0,.slice none 0 0]) ?_ 1 _ rfl;(with_reducible repeat (first|refine blk_drewN ?_ _|refine blk_drew ?_|refine blk_alloc ?_ _));refine blk_put (cs:=#[.int .i64 0,.int .i64 0,.slice none 0 0]) ?_ 0 _ rfl;(with_reducible repeat (first|refine blk_drewN ?_ _|refine blk_drew ?_|refine blk_alloc ?_ _));exact BK113.out) NB113_0.out (by simp));have n3_:=Aside0.mk (KeepBut.trans (by repeat (first|(with_reducible first|exact HK.out|apply KeepBut.set_|apply keep_drewN|apply keep_drew|apply keep_alloc|refine keep_far ?_ GW113.out _)|exact HK.out)) hk (.inl rfl));have n4_:=Aside0.mk (hb);have n5_:=Aside0.mk (hi);clear HO_6;clear HO110;clear BK113;clear HK;clear HB;clear HI0;have HO_6:=n0_;have HO110:=n1_;have BK113:=n2_;have HK:=n3_;have HB:=n4_;have HI0:=n5_;clear n0_ n1_ n2_ n3_ n4_ n5_;(try clear hb);(try clear hb2);(try clear hk);(try clear hi)))
        go_loopg [9,10] k1 (fun kq v9 v10 w'=>∃ (x9_2:Int) (x10_2:Int) (x1001_2:Int) (x114002_2:List (S41)) (u114002:Value),v9 = .int .i64 x9_2∧v10 = .int .i64 x10_2∧Aside0 (payrollgen_Tape_Presences.l1 kq x6_1 x7_1 x9_2 x10_2 s0_0 x1001_2 x5_1 (wrap64 (x5_1 + t111)) x114002_2 = some (r1,r2))∧Aside0 (kq≤k1)∧Aside0 (Kd.N k48 48 w' w.heap.size (fun k_=>(w.heap.size≤k_)∧some k_≠(u114002:Value).ownBlock∧k_≠gb113∧k_≠g) u6 x6_1)∧Aside0 (Kd.R k41 41 w' w.heap.size (fun k_=>(w.heap.size≤k_)) u114002 x114002_2)∧Aside0 (w'.heap[gb113]? = some (.cells #[.int .i64 x5_1,.int .i64 (wrap64 (x5_1 + t111)),u114002] 48 (0,0)))∧Aside0 (IsS54 w0 w' g s0_0 x1001_2)∧Aside0 (KeepBut w w' g none)∧Aside0 (Below w0.heap.size w0 w'))
        case atStart=>exact⟨(x5_1),(t114),(t115),(([]:List (S41))),(.slice none 0 0),(by first|rfl|(simp;done)|(simp[*];done)),(by first|rfl|(simp;done)|(simp[*];done)),H',⟨Nat.le_refl _⟩,⟨by (with_reducible repeat (first|apply Kd.N_alloc|apply Kd.N_drewN|apply Kd.N_drew));exact Kd.N_mono HO_6.out (fun _ hk=>⟨hk.1.1.1,⟨(by simp[Value.ownBlock]),⟨hk.2,hk.1.1.2⟩⟩⟩)⟩,⟨by first|exact Kd.R_nil _ _ _ _ _|exact Kd.N_nil _ _ _ _ _|exact Kd.V_nil _ _ _ _ _|exact Kd.Q_nil _ _ _ _ _|exact Kd.S_nil _ _ _ _ _⟩,⟨by (with_reducible repeat (first|refine blk_drewN ?_ _|refine blk_drew ?_|refine blk_alloc ?_ _));exact BK113.out⟩,⟨by repeat (first|(with_reducible first|exact HI0.out|apply IsS54.alloc|apply IsS54.drewN|apply IsS54.drew|apply IsS54.set_1|refine IsS54.far ?_ NB0_113.out _)|exact HI0.out)⟩,⟨by repeat (first|(with_reducible first|exact HK.out|apply KeepBut.set_|apply keep_drewN|apply keep_drew|apply keep_alloc|refine keep_far ?_ GW113.out _)|exact HK.out)⟩,⟨by repeat (first|(with_reducible first|exact HB.out|apply below_alloc|apply pw_below_drewN|apply below_drew1|refine below_set ?_ (IsS54.ge HI0.out)|refine below_set ?_ GE113.out)|exact HB.out)⟩⟩
        case round =>
          clear H'
          try clear c1
          try clear c2
          try clear p2
          try clear p6
          try clear c10
          try clear c10b0
          try clear c17
          try clear c18
          try clear hcz19_0
          try clear hcz19_1
          try clear hcz19_2
          try clear hfz19_0
          try clear hfz19_1
          try clear hfz19_2
          try clear p2
          try clear p6
          obtain ⟨x9_2,x10_2,x1001_2,x114002_2,u114002,rfl,rfl,HA,HK2,HO_6,HO_114002,BK113,HI0,HK,HB⟩:=hrel
          cases gk with
          | zero => exact absurd HA.out (by simp [payrollgen_Tape_Presences.l1])
          | succ k2 =>
            have H := HA.out
            clear HA
            simp only [payrollgen_Tape_Presences.l1] at H
            by_cases c21 : x10_2 > 0
            · rw [if_pos c21] at H
              have c21b0 : decide (0 < x10_2) = true := decide_eq_true c21
              clear c21
              obtain ⟨y127, hy127⟩ : ∃ y_ : List Int, y_ = (([0, 60, 120, 7] : List Int)) := ⟨_, rfl⟩
              replace H:((payrollgen_Tape_Pick.f s0_0 x1001_2 y127).bind fun bt130=>((payrollgen_Tape_Pick.f s0_0 bt130.2 (([15,30,45]:List Int))).bind fun bt135=>(if (wrap64 ((wrap64 (x9_2 + bt130.1)) + bt135.1))≤(wrap64 (x5_1 + t111)) then ((some (([(⟨wrap64 (x9_2 + bt130.1),wrap64 ((wrap64 (x9_2 + bt130.1)) + bt135.1)⟩:S41)]:List (S41)):List (S41))).bind fun y137=>(if x114002_2.length + y137.length < 8796093022208 then (payrollgen_Tape_Presences.l1 k2 x6_1 x7_1 (wrap64 ((wrap64 (x9_2 + bt130.1)) + bt135.1)) (wrap64 (x10_2 - 1)) s0_0 bt135.2 x5_1 (wrap64 (x5_1 + t111)) (x114002_2 ++ y137)) else (none))) else (payrollgen_Tape_Presences.l1 k2 x6_1 x7_1 x9_2 (wrap64 (x10_2 - 1)) s0_0 bt135.2 x5_1 (wrap64 (x5_1 + t111)) x114002_2)))) = some (r1,r2):=by first|(rw[hy127];with_reducible exact H)|(have H2_:=(Option.bind_some _ _).symm.trans H;rw[hy127];with_reducible exact H2_)|(have H2_:=(Option.bind_some _ _).symm.trans H;with_reducible exact H2_)|with_reducible exact H|(rw[hy127];exact H)|exact H
              have Ny127 := Aside0.mk hy127
              clear hy127
              replace H := Option.bind_eq_some_iff.mp H
              obtain ⟨⟨t130, t131⟩, A220, H⟩ := H
              replace H:((payrollgen_Tape_Pick.f s0_0 t131 (([15,30,45]:List Int))).bind fun bt135=>(if (wrap64 ((wrap64 (x9_2 + t130)) + bt135.1))≤(wrap64 (x5_1 + t111)) then ((some (([(⟨wrap64 (x9_2 + t130),wrap64 ((wrap64 (x9_2 + t130)) + bt135.1)⟩:S41)]:List (S41)):List (S41))).bind fun y137=>(if x114002_2.length + y137.length < 8796093022208 then (payrollgen_Tape_Presences.l1 k2 x6_1 x7_1 (wrap64 ((wrap64 (x9_2 + t130)) + bt135.1)) (wrap64 (x10_2 - 1)) s0_0 bt135.2 x5_1 (wrap64 (x5_1 + t111)) (x114002_2 ++ y137)) else (none))) else (payrollgen_Tape_Presences.l1 k2 x6_1 x7_1 x9_2 (wrap64 (x10_2 - 1)) s0_0 bt135.2 x5_1 (wrap64 (x5_1 + t111)) x114002_2))) = some (r1,r2):=H
              have A22 := Aside0.mk A220
              clear A220
              obtain ⟨y132, hy132⟩ : ∃ y_ : List Int, y_ = (([15, 30, 45] : List Int)) := ⟨_, rfl⟩
              replace H:((payrollgen_Tape_Pick.f s0_0 t131 y132).bind fun bt135=>(if (wrap64 ((wrap64 (x9_2 + t130)) + bt135.1))≤(wrap64 (x5_1 + t111)) then ((some (([(⟨wrap64 (x9_2 + t130),wrap64 ((wrap64 (x9_2 + t130)) + bt135.1)⟩:S41)]:List (S41)):List (S41))).bind fun y137=>(if x114002_2.length + y137.length < 8796093022208 then (payrollgen_Tape_Presences.l1 k2 x6_1 x7_1 (wrap64 ((wrap64 (x9_2 + t130)) + bt135.1)) (wrap64 (x10_2 - 1)) s0_0 bt135.2 x5_1 (wrap64 (x5_1 + t111)) (x114002_2 ++ y137)) else (none))) else (payrollgen_Tape_Presences.l1 k2 x6_1 x7_1 x9_2 (wrap64 (x10_2 - 1)) s0_0 bt135.2 x5_1 (wrap64 (x5_1 + t111)) x114002_2))) = some (r1,r2):=by first|(rw[hy132];with_reducible exact H)|(have H2_:=(Option.bind_some _ _).symm.trans H;rw[hy132];with_reducible exact H2_)|(have H2_:=(Option.bind_some _ _).symm.trans H;with_reducible exact H2_)|with_reducible exact H|(rw[hy132];exact H)|exact H
              have Ny132 := Aside0.mk hy132
              clear hy132
              replace H := Option.bind_eq_some_iff.mp H
              obtain ⟨⟨t135, t136⟩, A230, H⟩ := H
              replace H:(if (wrap64 ((wrap64 (x9_2 + t130)) + t135))≤(wrap64 (x5_1 + t111)) then ((some (([(⟨wrap64 (x9_2 + t130),wrap64 ((wrap64 (x9_2 + t130)) + t135)⟩:S41)]:List (S41)):List (S41))).bind fun y137=>(if x114002_2.length + y137.length < 8796093022208 then (payrollgen_Tape_Presences.l1 k2 x6_1 x7_1 (wrap64 ((wrap64 (x9_2 + t130)) + t135)) (wrap64 (x10_2 - 1)) s0_0 t136 x5_1 (wrap64 (x5_1 + t111)) (x114002_2 ++ y137)) else (none))) else (payrollgen_Tape_Presences.l1 k2 x6_1 x7_1 x9_2 (wrap64 (x10_2 - 1)) s0_0 t136 x5_1 (wrap64 (x5_1 + t111)) x114002_2)) = some (r1,r2):=H
              have A23 := Aside0.mk A230
              clear A230
              by_cases c24 : (wrap64 ((wrap64 (x9_2 + t130)) + t135)) ≤ (wrap64 (x5_1 + t111))
              · rw [if_pos c24] at H
                have c24b0:decide ((wrap64 ((wrap64 (x9_2 + t130)) + t135))≤(wrap64 (x5_1 + t111))) = true:=decide_eq_true c24
                clear c24
                obtain ⟨y137,hy137⟩:∃ y_:List (S41),y_ = (([(⟨wrap64 (x9_2 + t130),wrap64 ((wrap64 (x9_2 + t130)) + t135)⟩:S41)]:List (S41))):=⟨_,rfl⟩
                replace H:(if x114002_2.length + y137.length < 8796093022208 then (payrollgen_Tape_Presences.l1 k2 x6_1 x7_1 (wrap64 ((wrap64 (x9_2 + t130)) + t135)) (wrap64 (x10_2 - 1)) s0_0 t136 x5_1 (wrap64 (x5_1 + t111)) (x114002_2 ++ y137)) else (none)) = some (r1,r2):=by first|(rw[hy137];with_reducible exact H)|(have H2_:=(Option.bind_some _ _).symm.trans H;rw[hy137];with_reducible exact H2_)|(have H2_:=(Option.bind_some _ _).symm.trans H;with_reducible exact H2_)|with_reducible exact H|(rw[hy137];exact H)|exact H
                have Ny137 := Aside0.mk hy137
                clear hy137
                by_cases c25 : x114002_2.length + y137.length < 8796093022208
                · rw [if_pos c25] at H
                  have LMc25 := Aside0.mk c25
                  clear c25
                  obtain ⟨y140, hy140⟩ : ∃ y_ : List (S41), y_ = (x114002_2 ++ y137) := ⟨_, rfl⟩
                  replace H:(payrollgen_Tape_Presences.l1 k2 x6_1 x7_1 (wrap64 ((wrap64 (x9_2 + t130)) + t135)) (wrap64 (x10_2 - 1)) s0_0 t136 x5_1 (wrap64 (x5_1 + t111)) y140) = some (r1,r2):=by first|(rw[hy140];with_reducible exact H)|(have H2_:=(Option.bind_some _ _).symm.trans H;rw[hy140];with_reducible exact H2_)|(have H2_:=(Option.bind_some _ _).symm.trans H;with_reducible exact H2_)|with_reducible exact H|(rw[hy140];exact H)|exact H
                  have Ny140 := Aside0.mk hy140
                  clear hy140
                  have H' := Aside0.mk H
                  clear H
                  go_wp2_with (first|((with_reducible refine gate_dst (N:=44) rfl ?_);refine Kd.R_lit (Kd.int .i64) _ 3 ?hg (N:=44) ?hd (xs:=([0,60,120,7]:List Int)) (inner:=[.int .i64 0,.int .i64 60,.int .i64 120,.int .i64 7]) (ok:=fun _=>True) (okp:=fun _=>True) ?hr ?hp (fun _ hk=>hk) trivial (Below.refl _ _) (Nat.le_refl _) (by simp) ?_;(case hd=>rfl);(case hg=>rfl);(case hr=>first|(go_simp;done)|(go_simp;rfl));(case hp=>exact(Reps.one (show Kd.M (Kd.int .i64) _ _ _ 0 [.int .i64 0] from rfl) (Reps.one (show Kd.M (Kd.int .i64) _ _ _ 60 [.int .i64 60] from rfl) (Reps.one (show Kd.M (Kd.int .i64) _ _ _ 120 [.int .i64 120] from rfl) (Reps.one (show Kd.M (Kd.int .i64) _ _ _ 7 [.int .i64 7] from rfl) (Reps.none _ _))))));intro v128 w26 ho27 hb hg_ hnew_;clear hg_ hnew_;(first|rw[← Ny127.out] at ho27|(simp only[Int.reduceToNat] at ho27;rw[← Ny127.out] at ho27));have n0_:=Aside0.mk (Kd.N_elder' (by (with_reducible repeat (first|apply Kd.N_alloc|apply Kd.N_drewN|apply Kd.N_drew));exact HO_6.out) (Kd.R_base ho27) hb);have n1_:=Aside0.mk (Kd.R_below (by (with_reducible repeat (first|apply Kd.R_alloc|apply Kd.R_drewN|apply Kd.R_drew));exact HO_114002.out) hb);have n2_:=Aside0.mk (Kd.R_lower (Kd.R_newM (M:=fun k_=>(w.heap.size≤k_)) ho27 (keep_size (w:=w) (g:=g) (row:=none) (by repeat (first|(with_reducible first|exact HK.out|apply KeepBut.set_|apply keep_drewN|apply keep_drew|apply keep_alloc|refine keep_far ?_ GW113.out _)|exact HK.out))) (fun k_ h_=>h_)) (keep_size (w:=w) (g:=g) (row:=none) (by repeat (first|(with_reducible first|exact HK.out|apply KeepBut.set_|apply keep_drewN|apply keep_drew|apply keep_alloc|refine keep_far ?_ GW113.out _)|exact HK.out))));have n3_:=Aside0.mk (blk_below (g:=gb113) (o:=.cells #[.int .i64 x5_1,.int .i64 (wrap64 (x5_1 + t111)),u114002] 48 (0,0)) (by (with_reducible repeat (first|refine blk_drewN ?_ _|refine blk_drew ?_|refine blk_alloc ?_ _));exact BK113.out) hb);have n4_:=Aside0.mk (IsS54.below (by repeat (first|(with_reducible first|exact HI0.out|apply IsS54.alloc|apply IsS54.drewN|apply IsS54.drew|apply IsS54.set_1|refine IsS54.far ?_ NB0_113.out _)|exact HI0.out)) hb);have n5_:=Aside0.mk (KeepBut.trans (by repeat (first|(with_reducible first|exact HK.out|apply KeepBut.set_|apply keep_drewN|apply keep_drew|apply keep_alloc|refine keep_far ?_ GW113.out _)|exact HK.out)) (KeepBut.of_below hb g none) (.inl rfl));have n6_:=Aside0.mk (below_step (by repeat (first|(with_reducible first|exact HB.out|apply below_alloc|apply pw_below_drewN|apply below_drew1|refine below_set ?_ (IsS54.ge HI0.out)|refine below_set ?_ GE113.out)|exact HB.out)) hb);clear HO_6;clear HO_114002;clear BK113;clear HI0;clear HK;clear HB;have HO_6:=n0_;have HO_114002:=n1_;have HO129:=n2_;have BK113:=n3_;have HI0:=n4_;have HK:=n5_;have HB:=n6_;clear n0_ n1_ n2_ n3_ n4_ n5_ n6_;clear hb ho27;obtain ⟨Ao28,co28,eo28⟩:=Kd.R_slice HO129.out;subst eo28)|((with_reducible refine gate_callee (f:=18) rfl ?_);refine goesL_ (some 45) rfl rfl Try.func18 (by kernel_rfl) rfl #[.pointer (some ⟨g,0,none⟩),.slice Ao28 y127.length co28] rfl (by (try simp only[List.map_toArray,List.map_cons,List.map_nil]);first|done|rfl|(simp only[List.length_drop,List.length_take];rfl)) ?_;(with_reducible refine(payrollgen_Tape_Pick.calls g s0_0 x1001_2 _ _ y127 t130 t131 w0 _ ?side1 ?side2 ?side3 ?side4 ?side5 A22.out).mono ?_);(case side1=>repeat (first|(with_reducible first|exact HI0.out|apply IsS54.alloc|apply IsS54.drewN|apply IsS54.drew|apply IsS54.set_1|refine IsS54.far ?_ NB0_113.out _)|exact HI0.out));(case side2=>repeat (first|(with_reducible first|exact HB.out|apply below_alloc|apply pw_below_drewN|apply below_drew1|refine below_set ?_ (IsS54.ge HI0.out)|refine below_set ?_ GE113.out)|exact HB.out));(case side3=>repeat (first|exact(Kd.R_reads' HO129.out).2.2|(with_reducible refine Kd.C_alloc ?_ _)|(with_reducible refine Kd.C_drewN ?_ _)|(with_reducible refine Kd.C_drew ?_)));(case side4=>exact(Kd.R_reads' HO129.out).2.1);(case side5=>exact far_slice (IsS54.own_ne HI0.out HO129.out (by decide)));rintro e w29 ⟨rfl,hi,hb,hk⟩;refine⟨_,rfl,?_⟩;have n0_:=Aside0.mk (Kd.N_mono (Kd.N_keep (Kd.N_mono (ok:=fun k_=>((((w.heap.size≤k_))∧(some k_≠(u114002:Value).ownBlock∧(k_≠gb113∧k_≠g)))∧some k_≠(.slice Ao28 y127.length co28:Value).ownBlock)) (by (with_reducible repeat (first|apply Kd.N_alloc|apply Kd.N_drewN|apply Kd.N_drew));exact HO_6.out) (fun k_ hk_=>(⟨hk_,hk_.1.2.2.2⟩:_∧k_≠g))) hk (fun _ h=>h.2)) (fun _ h=>h.1));have n1_:=Aside0.mk (Kd.R_mono (Kd.R_keep (IsS54.apart (show IsS54 w0 _ g s0_0 x1001_2 from by repeat (first|(with_reducible first|exact HI0.out|apply IsS54.alloc|apply IsS54.drewN|apply IsS54.drew|apply IsS54.set_1|refine IsS54.far ?_ NB0_113.out _)|exact HI0.out)) (by (with_reducible repeat (first|apply Kd.R_alloc|apply Kd.R_drewN|apply Kd.R_drew));exact HO_114002.out) (by decide)) hk (fun _ h=>h.2)) (fun _ h=>h.1));have n2_:=Aside0.mk (KeepBut.blk hk (g':=gb113) (o:=.cells #[.int .i64 x5_1,.int .i64 (wrap64 (x5_1 + t111)),u114002] 48 (0,0)) (by (with_reducible repeat (first|refine blk_drewN ?_ _|refine blk_drew ?_|refine blk_alloc ?_ _));exact BK113.out) NB113_0.out (by simp));have n3_:=Aside0.mk (Kd.R_mono (Kd.R_keep (IsS54.apart (show IsS54 w0 _ g s0_0 x1001_2 from by repeat (first|(with_reducible first|exact HI0.out|apply IsS54.alloc|apply IsS54.drewN|apply IsS54.drew|apply IsS54.set_1|refine IsS54.far ?_ NB0_113.out _)|exact HI0.out)) (by (with_reducible repeat (first|apply Kd.R_alloc|apply Kd.R_drewN|apply Kd.R_drew));exact HO129.out) (by decide)) hk (fun _ h=>h.2)) (fun _ h=>h.1));have n4_:=Aside0.mk (KeepBut.trans (by repeat (first|(with_reducible first|exact HK.out|apply KeepBut.set_|apply keep_drewN|apply keep_drew|apply keep_alloc|refine keep_far ?_ GW113.out _)|exact HK.out)) hk (.inl rfl));have n5_:=Aside0.mk (hb);have n6_:=Aside0.mk (hi);clear HO_6;clear HO_114002;clear BK113;clear HO129;clear HK;clear HB;clear HI0;have HO_6:=n0_;have HO_114002:=n1_;have BK113:=n2_;have HO129:=n3_;have HK:=n4_;have HB:=n5_;have HI0:=n6_;clear n0_ n1_ n2_ n3_ n4_ n5_ n6_;(try clear hb);(try clear hb2);(try clear hk);(try clear hi))|((with_reducible refine gate_dst (N:=49) rfl ?_);refine Kd.R_lit (Kd.int .i64) _ 3 ?hg (N:=49) ?hd (xs:=([15,30,45]:List Int)) (inner:=[.int .i64 15,.int .i64 30,.int .i64 45]) (ok:=fun _=>True) (okp:=fun _=>True) ?hr ?hp (fun _ hk=>hk) trivial (Below.refl _ _) (Nat.le_refl _) (by simp) ?_;(case hd=>rfl);(case hg=>rfl);(case hr=>first|(go_simp;done)|(go_simp;rfl));(case hp=>exact(Reps.one (show Kd.M (Kd.int .i64) _ _ _ 15 [.int .i64 15] from rfl) (Reps.one (show Kd.M (Kd.int .i64) _ _ _ 30 [.int .i64 30] from rfl) (Reps.one (show Kd.M (Kd.int .i64) _ _ _ 45 [.int .i64 45] from rfl) (Reps.none _ _)))));intro v133 w30 ho31 hb hg_ hnew_;clear hg_ hnew_;(first|rw[← Ny132.out] at ho31|(simp only[Int.reduceToNat] at ho31;rw[← Ny132.out] at ho31));have n0_:=Aside0.mk (Kd.N_elder' (by (with_reducible repeat (first|apply Kd.N_alloc|apply Kd.N_drewN|apply Kd.N_drew));exact HO_6.out) (Kd.R_base ho31) hb);have n1_:=Aside0.mk (Kd.R_below (by (with_reducible repeat (first|apply Kd.R_alloc|apply Kd.R_drewN|apply Kd.R_drew));exact HO_114002.out) hb);have n2_:=Aside0.mk (Kd.R_elder' (by (with_reducible repeat (first|apply Kd.R_alloc|apply Kd.R_drewN|apply Kd.R_drew));exact HO129.out) (Kd.R_base ho31) hb);have n3_:=Aside0.mk (Kd.R_lower (Kd.R_new' (Kd.R_newM (M:=fun k_=>(w.heap.size≤k_)) ho31 (keep_size (w:=w) (g:=g) (row:=none) (by repeat (first|(with_reducible first|exact HK.out|apply KeepBut.set_|apply keep_drewN|apply keep_drew|apply keep_alloc|refine keep_far ?_ GW113.out _)|exact HK.out))) (fun k_ h_=>h_)) (Kd.R_lt (by (with_reducible repeat (first|apply Kd.R_alloc|apply Kd.R_drewN|apply Kd.R_drew));exact HO129.out))) (keep_size (w:=w) (g:=g) (row:=none) (by repeat (first|(with_reducible first|exact HK.out|apply KeepBut.set_|apply keep_drewN|apply keep_drew|apply keep_alloc|refine keep_far ?_ GW113.out _)|exact HK.out))));have n4_:=Aside0.mk (blk_below (g:=gb113) (o:=.cells #[.int .i64 x5_1,.int .i64 (wrap64 (x5_1 + t111)),u114002] 48 (0,0)) (by (with_reducible repeat (first|refine blk_drewN ?_ _|refine blk_drew ?_|refine blk_alloc ?_ _));exact BK113.out) hb);have n5_:=Aside0.mk (IsS54.below (by repeat (first|(with_reducible first|exact HI0.out|apply IsS54.alloc|apply IsS54.drewN|apply IsS54.drew|apply IsS54.set_1|refine IsS54.far ?_ NB0_113.out _)|exact HI0.out)) hb);have n6_:=Aside0.mk (KeepBut.trans (by repeat (first|(with_reducible first|exact HK.out|apply KeepBut.set_|apply keep_drewN|apply keep_drew|apply keep_alloc|refine keep_far ?_ GW113.out _)|exact HK.out)) (KeepBut.of_below hb g none) (.inl rfl));have n7_:=Aside0.mk (below_step (by repeat (first|(with_reducible first|exact HB.out|apply below_alloc|apply pw_below_drewN|apply below_drew1|refine below_set ?_ (IsS54.ge HI0.out)|refine below_set ?_ GE113.out)|exact HB.out)) hb);clear HO_6;clear HO_114002;clear HO129;clear BK113;clear HI0;clear HK;clear HB;have HO_6:=n0_;have HO_114002:=n1_;have HO129:=n2_;have HO134:=n3_;have BK113:=n4_;have HI0:=n5_;have HK:=n6_;have HB:=n7_;clear n0_ n1_ n2_ n3_ n4_ n5_ n6_ n7_;clear hb ho31;obtain ⟨Ao32,co32,eo32⟩:=Kd.R_slice HO134.out;subst eo32)|((with_reducible refine gate_callee (f:=18) rfl ?_);refine goesL_ (some 50) rfl rfl Try.func18 (by kernel_rfl) rfl #[.pointer (some ⟨g,0,none⟩),.slice Ao32 y132.length co32] rfl (by (try simp only[List.map_toArray,List.map_cons,List.map_nil]);first|done|rfl|(simp only[List.length_drop,List.length_take];rfl)) ?_;(with_reducible refine(payrollgen_Tape_Pick.calls g s0_0 t131 _ _ y132 t135 t136 w0 _ ?side1 ?side2 ?side3 ?side4 ?side5 A23.out).mono ?_);(case side1=>repeat (first|(with_reducible first|exact HI0.out|apply IsS54.alloc|apply IsS54.drewN|apply IsS54.drew|apply IsS54.set_1|refine IsS54.far ?_ NB0_113.out _)|exact HI0.out));(case side2=>repeat (first|(with_reducible first|exact HB.out|apply below_alloc|apply pw_below_drewN|apply below_drew1|refine below_set ?_ (IsS54.ge HI0.out)|refine below_set ?_ GE113.out)|exact HB.out));(case side3=>repeat (first|exact(Kd.R_reads' HO134.out).2.2|(with_reducible refine Kd.C_alloc ?_ _)|(with_reducible refine Kd.C_drewN ?_ _)|(with_reducible refine Kd.C_drew ?_)));(case side4=>exact(Kd.R_reads' HO134.out).2.1);(case side5=>exact far_slice (IsS54.own_ne HI0.out HO134.out (by decide)));rintro e w33 ⟨rfl,hi,hb,hk⟩;refine⟨_,rfl,?_⟩;have n0_:=Aside0.mk (Kd.N_mono (Kd.N_keep (Kd.N_mono (ok:=fun k_=>(((((w.heap.size≤k_))∧(some k_≠(u114002:Value).ownBlock∧(k_≠gb113∧k_≠g)))∧some k_≠(.slice Ao28 y127.length co28:Value).ownBlock)∧some k_≠(.slice Ao32 y132.length co32:Value).ownBlock)) (by (with_reducible repeat (first|apply Kd.N_alloc|apply Kd.N_drewN|apply Kd.N_drew));exact HO_6.out) (fun k_ hk_=>(⟨hk_,hk_.1.1.2.2.2⟩:_∧k_≠g))) hk (fun _ h=>h.2)) (fun _ h=>h.1));have n1_:=Aside0.mk (Kd.R_mono (Kd.R_keep (IsS54.apart (show IsS54 w0 _ g s0_0 t131 from by repeat (first|(with_reducible first|exact HI0.out|apply IsS54.alloc|apply IsS54.drewN|apply IsS54.drew|apply IsS54.set_1|refine IsS54.far ?_ NB0_113.out _)|exact HI0.out)) (by (with_reducible repeat (first|apply Kd.R_alloc|apply Kd.R_drewN|apply Kd.R_drew));exact HO_114002.out) (by decide)) hk (fun _ h=>h.2)) (fun _ h=>h.1));have n2_:=Aside0.mk (KeepBut.blk hk (g':=gb113) (o:=.cells #[.int .i64 x5_1,.int .i64 (wrap64 (x5_1 + t111)),u114002] 48 (0,0)) (by (with_reducible repeat (first|refine blk_drewN ?_ _|refine blk_drew ?_|refine blk_alloc ?_ _));exact BK113.out) NB113_0.out (by simp));have n3_:=Aside0.mk (Kd.R_mono (Kd.R_keep (IsS54.apart (show IsS54 w0 _ g s0_0 t131 from by repeat (first|(with_reducible first|exact HI0.out|apply IsS54.alloc|apply IsS54.drewN|apply IsS54.drew|apply IsS54.set_1|refine IsS54.far ?_ NB0_113.out _)|exact HI0.out)) (by (with_reducible repeat (first|apply Kd.R_alloc|apply Kd.R_drewN|apply Kd.R_drew));exact HO129.out) (by decide)) hk (fun _ h=>h.2)) (fun _ h=>h.1));have n4_:=Aside0.mk (Kd.R_mono (Kd.R_keep (IsS54.apart (show IsS54 w0 _ g s0_0 t131 from by repeat (first|(with_reducible first|exact HI0.out|apply IsS54.alloc|apply IsS54.drewN|apply IsS54.drew|apply IsS54.set_1|refine IsS54.far ?_ NB0_113.out _)|exact HI0.out)) (by (with_reducible repeat (first|apply Kd.R_alloc|apply Kd.R_drewN|apply Kd.R_drew));exact HO134.out) (by decide)) hk (fun _ h=>h.2)) (fun _ h=>h.1));have n5_:=Aside0.mk (KeepBut.trans (by repeat (first|(with_reducible first|exact HK.out|apply KeepBut.set_|apply keep_drewN|apply keep_drew|apply keep_alloc|refine keep_far ?_ GW113.out _)|exact HK.out)) hk (.inl rfl));have n6_:=Aside0.mk (hb);have n7_:=Aside0.mk (hi);clear HO_6;clear HO_114002;clear BK113;clear HO129;clear HO134;clear HK;clear HB;clear HI0;have HO_6:=n0_;have HO_114002:=n1_;have BK113:=n2_;have HO129:=n3_;have HO134:=n4_;have HK:=n5_;have HB:=n6_;have HI0:=n7_;clear n0_ n1_ n2_ n3_ n4_ n5_ n6_ n7_;(try clear hb);(try clear hb2);(try clear hk);(try clear hi);have hnb34:=NB113_0.out;have hnc34:=NB0_113.out;have hcz35_0:w33.cell? ⟨gb113,0,none⟩ = some (.int .i64 x5_1):=(blk_cell BK113.out 0).trans rfl;have hcz35_1:w33.cell? ⟨gb113,1,none⟩ = some (.int .i64 (wrap64 (x5_1 + t111))):=(blk_cell BK113.out 1).trans rfl;have hcz35_2:w33.cell? ⟨gb113,2,none⟩ = some (u114002):=(blk_cell BK113.out 2).trans rfl;have hfz35_0:=blk_frozen BK113.out 0;have hfz35_1:=blk_frozen BK113.out 1;have hfz35_2:=blk_frozen BK113.out 2)|((with_reducible refine gate_dst (N:=62) rfl ?_);refine Kd.R_lit k41 _ 41 ?hg (N:=62) ?hd (xs:=([(⟨wrap64 (x9_2 + t130),wrap64 ((wrap64 (x9_2 + t130)) + t135)⟩:S41)]:List (S41))) (inner:=[.int .i64 (wrap64 (x9_2 + t130)),.int .i64 (wrap64 ((wrap64 (x9_2 + t130)) + t135))]) (ok:=fun _=>True) (okp:=fun _=>True) ?hr ?hp (fun _ hk=>hk) trivial (Below.refl _ _) (Nat.le_refl _) (by simp) ?_;(case hd=>rfl);(case hg=>rfl);(case hr=>first|(go_simp;done)|(go_simp;rfl));(case hp=>exact(Reps.c2 (show Kd.M k41 _ _ _ (⟨wrap64 (x9_2 + t130),wrap64 ((wrap64 (x9_2 + t130)) + t135)⟩:S41) [.int .i64 (wrap64 (x9_2 + t130)),.int .i64 (wrap64 ((wrap64 (x9_2 + t130)) + t135))] from (k41_mkM _ _ _ (⟨wrap64 (x9_2 + t130),wrap64 ((wrap64 (x9_2 + t130)) + t135)⟩:S41) )) (Reps.none _ _)));intro v138 w36 ho37 hb hg_ hnew_;clear hg_ hnew_;(first|rw[← Ny137.out] at ho37|(simp only[Int.reduceToNat] at ho37;rw[← Ny137.out] at ho37));have n0_:=Aside0.mk (Kd.N_elder' (by (with_reducible repeat (first|apply Kd.N_alloc|apply Kd.N_drewN|apply Kd.N_drew));exact HO_6.out) (Kd.R_base ho37) hb);have n1_:=Aside0.mk (Kd.R_elder' (by (with_reducible repeat (first|apply Kd.R_alloc|apply Kd.R_drewN|apply Kd.R_drew));exact HO_114002.out) (Kd.R_base ho37) hb);have n2_:=Aside0.mk (Kd.R_below (by (with_reducible repeat (first|apply Kd.R_alloc|apply Kd.R_drewN|apply Kd.R_drew));exact HO129.out) hb);have n3_:=Aside0.mk (Kd.R_below (by (with_reducible repeat (first|apply Kd.R_alloc|apply Kd.R_drewN|apply Kd.R_drew));exact HO134.out) hb);have n4_:=Aside0.mk (Kd.R_lower (Kd.R_new' (Kd.R_newM (M:=fun k_=>(w.heap.size≤k_)) ho37 (keep_size (w:=w) (g:=g) (row:=none) (by repeat (first|(with_reducible first|exact HK.out|apply KeepBut.set_|apply keep_drewN|apply keep_drew|apply keep_alloc|refine keep_far ?_ GW113.out _)|exact HK.out))) (fun k_ h_=>h_)) (Kd.R_lt (by (with_reducible repeat (first|apply Kd.R_alloc|apply Kd.R_drewN|apply Kd.R_drew));exact HO_114002.out))) (keep_size (w:=w) (g:=g) (row:=none) (by repeat (first|(with_reducible first|exact HK.out|apply KeepBut.set_|apply keep_drewN|apply keep_drew|apply keep_alloc|refine keep_far ?_ GW113.out _)|exact HK.out))));have n5_:=Aside0.mk (blk_below (g:=gb113) (o:=.cells #[.int .i64 x5_1,.int .i64 (wrap64 (x5_1 + t111)),u114002] 48 (0,0)) (by (with_reducible repeat (first|refine blk_drewN ?_ _|refine blk_drew ?_|refine blk_alloc ?_ _));exact BK113.out) hb);have n6_:=Aside0.mk (IsS54.below (by repeat (first|(with_reducible first|exact HI0.out|apply IsS54.alloc|apply IsS54.drewN|apply IsS54.drew|apply IsS54.set_1|refine IsS54.far ?_ NB0_113.out _)|exact HI0.out)) hb);have n7_:=Aside0.mk (KeepBut.trans (by repeat (first|(with_reducible first|exact HK.out|apply KeepBut.set_|apply keep_drewN|apply keep_drew|apply keep_alloc|refine keep_far ?_ GW113.out _)|exact HK.out)) (KeepBut.of_below hb g none) (.inl rfl));have n8_:=Aside0.mk (below_step (by repeat (first|(with_reducible first|exact HB.out|apply below_alloc|apply pw_below_drewN|apply below_drew1|refine below_set ?_ (IsS54.ge HI0.out)|refine below_set ?_ GE113.out)|exact HB.out)) hb);clear HO_6;clear HO_114002;clear HO129;clear HO134;clear BK113;clear HI0;clear HK;clear HB;have HO_6:=n0_;have HO_114002:=n1_;have HO129:=n2_;have HO134:=n3_;have HO139:=n4_;have BK113:=n5_;have HI0:=n6_;have HK:=n7_;have HB:=n8_;clear n0_ n1_ n2_ n3_ n4_ n5_ n6_ n7_ n8_;clear hb ho37;obtain ⟨Ao39,co39,eo39⟩:=Kd.R_slice HO139.out;subst eo39)|((with_reducible refine gate_builtin (b:=.append) (xs:=#[.tmp 58,.tmp 62]) rfl ?_);at_builtin;refine Kd.R_append_rows k41 w.heap.size rfl (.tmp 58) (.tmp 62) 23 41 (.agg #[(.int .i64 0),(.int .i64 0)]) 16 rfl Try.underlying23 info41 rfl (by decide) (by omega) u114002 x114002_2 y137 _ _ _ (fun k_=>(w.heap.size≤k_)∧some k_≠(.slice Ao39 y137.length co39:Value).ownBlock) (fun _=>False) rfl rfl ?aO ?aR (fun _ _ h=>h) (fun _ h=>h.elim) ?aF (Below.refl _ _) ?aS ?aL ?_;(case aR=>repeat (first|exact(Kd.R_reads' HO139.out).2.2|(with_reducible refine Kd.C_alloc ?_ _)|(with_reducible refine Kd.C_drewN ?_ _)|(with_reducible refine Kd.C_drew ?_)));(case aF=>exact(fun k_ hk=>⟨(Nat.le_trans (keep_size (w:=w) (g:=g) (row:=none) (by repeat (first|(with_reducible first|exact HK.out|apply KeepBut.set_|apply keep_drewN|apply keep_drew|apply keep_alloc|refine keep_far ?_ GW113.out _)|exact HK.out))) hk),Kd.fresh' (Kd.R_lt (by (with_reducible repeat (first|apply Kd.R_alloc|apply Kd.R_drewN|apply Kd.R_drew));exact HO139.out)) k_ hk⟩));(case aO=>exact(by (with_reducible repeat (first|apply Kd.R_alloc|apply Kd.R_drewN|apply Kd.R_drew));exact HO_114002.out));(case aS=>exact(keep_size (w:=w) (g:=g) (row:=none) (by repeat (first|(with_reducible first|exact HK.out|apply KeepBut.set_|apply keep_drewN|apply keep_drew|apply keep_alloc|refine keep_far ?_ GW113.out _)|exact HK.out))));(case aL=>have:=LMc25.out;omega);intro v141 w38 ho hb hg hat;rw[← Ny140.out] at ho;have n0_:=Aside0.mk (Kd.N_afterv (ok:=(fun k_=>(w.heap.size≤k_)∧some k_≠(.slice Ao28 y127.length co28:Value).ownBlock∧some k_≠(.slice Ao32 y132.length co32:Value).ownBlock∧some k_≠(.slice Ao39 y137.length co39:Value).ownBlock∧k_≠gb113∧k_≠g)) (by (with_reducible repeat (first|apply Kd.N_alloc|apply Kd.N_drewN|apply Kd.N_drew));exact Kd.N_mono HO_6.out (fun _ hk=>⟨⟨hk.1.1.1.1,⟨hk.1.1.2,⟨hk.1.2,⟨hk.2,⟨hk.1.1.1.2.2.1,hk.1.1.1.2.2.2⟩⟩⟩⟩⟩,hk.1.1.1.2.1⟩)) hg hat);have n1_:=Aside0.mk (blk_grown (g:=gb113) (o:=.cells #[.int .i64 x5_1,.int .i64 (wrap64 (x5_1 + t111)),u114002] 48 (0,0)) (by (with_reducible repeat (first|refine blk_drewN ?_ _|refine blk_drew ?_|refine blk_alloc ?_ _));exact BK113.out) hg (Kd.R_ne HO_114002.out BK113.out (by decide)));have n2_:=Aside0.mk (IsS54.grown (by repeat (first|(with_reducible first|exact HI0.out|apply IsS54.alloc|apply IsS54.drewN|apply IsS54.drew|apply IsS54.set_1|refine IsS54.far ?_ NB0_113.out _)|exact HI0.out)) hg (IsS54.own_ne HI0.out HO_114002.out (by decide)));have n3_:=Aside0.mk (Kd.R_over' (by (with_reducible repeat (first|apply Kd.R_alloc|apply Kd.R_drewN|apply Kd.R_drew));exact HO129.out) (Kd.R_typed (by (with_reducible repeat (first|apply Kd.R_alloc|apply Kd.R_drewN|apply Kd.R_drew));exact HO_114002.out)) (by decide) hg);have n4_:=Aside0.mk (Kd.R_over' (by (with_reducible repeat (first|apply Kd.R_alloc|apply Kd.R_drewN|apply Kd.R_drew));exact HO134.out) (Kd.R_typed (by (with_reducible repeat (first|apply Kd.R_alloc|apply Kd.R_drewN|apply Kd.R_drew));exact HO_114002.out)) (by decide) hg);have n5_:=Aside0.mk (Kd.R_after (ok:=(fun k_=>(w.heap.size≤k_))) (by (with_reducible repeat (first|apply Kd.R_alloc|apply Kd.R_drewN|apply Kd.R_drew));exact Kd.R_mono HO139.out (fun _ hk=>⟨hk.1.1,hk.2⟩)) hg hat);have n6_:=Aside0.mk (below_weaken (by repeat (first|(with_reducible first|exact HB.out|apply below_alloc|apply pw_below_drewN|apply below_drew1|refine below_set ?_ (IsS54.ge HI0.out)|refine below_set ?_ GE113.out)|exact HB.out)) HL.out hb);have n7_:=Aside0.mk (KeepBut.trans (by repeat (first|(with_reducible first|exact HK.out|apply KeepBut.set_|apply keep_drewN|apply keep_drew|apply keep_alloc|refine keep_far ?_ GW113.out _)|exact HK.out)) (KeepBut.of_grown hg g) (Kd.R_base2 HO_114002.out));have n8_:=Aside0.mk (ho);clear HO_6;clear BK113;clear HI0;clear HO129;clear HO134;clear HO139;clear HB;clear HK;clear HO_114002;have HO_6:=n0_;have BK113:=n1_;have HI0:=n2_;have HO129:=n3_;have HO134:=n4_;have HO139:=n5_;have HB:=n6_;have HK:=n7_;have HO142:=n8_;clear n0_ n1_ n2_ n3_ n4_ n5_ n6_ n7_ n8_;clear ho hb hg hat;obtain ⟨Ao40,co40,eo40⟩:=Kd.R_slice HO142.out;subst eo40;have hcz41_0:w38.cell? ⟨gb113,0,none⟩ = some (.int .i64 x5_1):=(blk_cell BK113.out 0).trans rfl;have hcz41_1:w38.cell? ⟨gb113,1,none⟩ = some (.int .i64 (wrap64 (x5_1 + t111))):=(blk_cell BK113.out 1).trans rfl;have hcz41_2:w38.cell? ⟨gb113,2,none⟩ = some (u114002):=(blk_cell BK113.out 2).trans rfl;have hfz41_0:=blk_frozen BK113.out 0;have hfz41_1:=blk_frozen BK113.out 1;have hfz41_2:=blk_frozen BK113.out 2))
                  go_roundg k2
                  case measure => have := HK1.out; have := HK2.out; omega
                  case rel=>exact⟨(wrap64 ((wrap64 (x9_2 + t130)) + t135)),(wrap64 (x10_2 - 1)),(t136),(y140),(.slice Ao40 y140.length co40),(by first|rfl|(simp;done)|(simp[*];done)),(by first|rfl|(simp;done)|(simp[*];done)),H',⟨by have:=HK1.out;have:=HK2.out;omega⟩,⟨by (with_reducible repeat (first|apply Kd.N_alloc|apply Kd.N_drewN|apply Kd.N_drew));exact Kd.N_mono (Kd.N_far (p:=⟨gb113,2,none⟩) (Kd.N_mono HO_6.out (fun k_ hk=>(⟨hk,hk.1.2.2.2.2.1⟩:_∧k_≠gb113))) (fun _ hk=>hk.2) (.slice Ao40 y140.length co40)) (fun _ hk=>⟨hk.1.1.1,⟨hk.1.2,⟨hk.1.1.2.2.2.2.1,hk.1.1.2.2.2.2.2⟩⟩⟩)⟩,⟨by (with_reducible repeat (first|apply Kd.R_alloc|apply Kd.R_drewN|apply Kd.R_drew));exact Kd.R_mono (Kd.R_far (p:=⟨gb113,2,none⟩) (Kd.R_types HO142.out BK113.out (by decide)) (fun _ hk=>hk.2) (.slice Ao40 y140.length co40)) (fun _ hk=>hk.1.1)⟩,⟨by (with_reducible repeat (first|refine blk_drewN ?_ _|refine blk_drew ?_|refine blk_alloc ?_ _));refine blk_put (cs:=#[.int .i64 x5_1,.int .i64 (wrap64 (x5_1 + t111)),u114002]) ?_ 2 _ rfl;(with_reducible repeat (first|refine blk_drewN ?_ _|refine blk_drew ?_|refine blk_alloc ?_ _));exact BK113.out⟩,⟨by repeat (first|(with_reducible first|exact HI0.out|apply IsS54.alloc|apply IsS54.drewN|apply IsS54.drew|apply IsS54.set_1|refine IsS54.far ?_ NB0_113.out _)|exact HI0.out)⟩,⟨by repeat (first|(with_reducible first|exact HK.out|apply KeepBut.set_|apply keep_drewN|apply keep_drew|apply keep_alloc|refine keep_far ?_ GW113.out _)|exact HK.out)⟩,⟨by repeat (first|(with_reducible first|exact HB.out|apply below_alloc|apply pw_below_drewN|apply below_drew1|refine below_set ?_ (IsS54.ge HI0.out)|refine below_set ?_ GE113.out)|exact HB.out)⟩⟩
                · rw [if_neg c25] at H
                  exact absurd H (by simp)
              · rw [if_neg c24] at H
                have c24b0:decide ((wrap64 ((wrap64 (x9_2 + t130)) + t135))≤(wrap64 (x5_1 + t111))) = false:=decide_eq_false c24
                clear c24
                have H' := Aside0.mk H
                clear H
                go_wp2_with (first|((with_reducible refine gate_dst (N:=44) rfl ?_);refine Kd.R_lit (Kd.int .i64) _ 3 ?hg (N:=44) ?hd (xs:=([0,60,120,7]:List Int)) (inner:=[.int .i64 0,.int .i64 60,.int .i64 120,.int .i64 7]) (ok:=fun _=>True) (okp:=fun _=>True) ?hr ?hp (fun _ hk=>hk) trivial (Below.refl _ _) (Nat.le_refl _) (by simp) ?_;(case hd=>rfl);(case hg=>rfl);(case hr=>first|(go_simp;done)|(go_simp;rfl));(case hp=>exact(Reps.one (show Kd.M (Kd.int .i64) _ _ _ 0 [.int .i64 0] from rfl) (Reps.one (show Kd.M (Kd.int .i64) _ _ _ 60 [.int .i64 60] from rfl) (Reps.one (show Kd.M (Kd.int .i64) _ _ _ 120 [.int .i64 120] from rfl) (Reps.one (show Kd.M (Kd.int .i64) _ _ _ 7 [.int .i64 7] from rfl) (Reps.none _ _))))));intro v128 w42 ho43 hb hg_ hnew_;clear hg_ hnew_;(first|rw[← Ny127.out] at ho43|(simp only[Int.reduceToNat] at ho43;rw[← Ny127.out] at ho43));have n0_:=Aside0.mk (Kd.N_elder' (by (with_reducible repeat (first|apply Kd.N_alloc|apply Kd.N_drewN|apply Kd.N_drew));exact HO_6.out) (Kd.R_base ho43) hb);have n1_:=Aside0.mk (Kd.R_below (by (with_reducible repeat (first|apply Kd.R_alloc|apply Kd.R_drewN|apply Kd.R_drew));exact HO_114002.out) hb);have n2_:=Aside0.mk (Kd.R_lower (Kd.R_newM (M:=fun k_=>(w.heap.size≤k_)) ho43 (keep_size (w:=w) (g:=g) (row:=none) (by repeat (first|(with_reducible first|exact HK.out|apply KeepBut.set_|apply keep_drewN|apply keep_drew|apply keep_alloc|refine keep_far ?_ GW113.out _)|exact HK.out))) (fun k_ h_=>h_)) (keep_size (w:=w) (g:=g) (row:=none) (by repeat (first|(with_reducible first|exact HK.out|apply KeepBut.set_|apply keep_drewN|apply keep_drew|apply keep_alloc|refine keep_far ?_ GW113.out _)|exact HK.out))));have n3_:=Aside0.mk (blk_below (g:=gb113) (o:=.cells #[.int .i64 x5_1,.int .i64 (wrap64 (x5_1 + t111)),u114002] 48 (0,0)) (by (with_reducible repeat (first|refine blk_drewN ?_ _|refine blk_drew ?_|refine blk_alloc ?_ _));exact BK113.out) hb);have n4_:=Aside0.mk (IsS54.below (by repeat (first|(with_reducible first|exact HI0.out|apply IsS54.alloc|apply IsS54.drewN|apply IsS54.drew|apply IsS54.set_1|refine IsS54.far ?_ NB0_113.out _)|exact HI0.out)) hb);have n5_:=Aside0.mk (KeepBut.trans (by repeat (first|(with_reducible first|exact HK.out|apply KeepBut.set_|apply keep_drewN|apply keep_drew|apply keep_alloc|refine keep_far ?_ GW113.out _)|exact HK.out)) (KeepBut.of_below hb g none) (.inl rfl));have n6_:=Aside0.mk (below_step (by repeat (first|(with_reducible first|exact HB.out|apply below_alloc|apply pw_below_drewN|apply below_drew1|refine below_set ?_ (IsS54.ge HI0.out)|refine below_set ?_ GE113.out)|exact HB.out)) hb);clear HO_6;clear HO_114002;clear BK113;clear HI0;clear HK;clear HB;have HO_6:=n0_;have HO_114002:=n1_;have HO129:=n2_;have BK113:=n3_;have HI0:=n4_;have HK:=n5_;have HB:=n6_;clear n0_ n1_ n2_ n3_ n4_ n5_ n6_;clear hb ho43;obtain ⟨Ao44,co44,eo44⟩:=Kd.R_slice HO129.out;subst eo44)|((with_reducible refine gate_callee (f:=18) rfl ?_);refine goesL_ (some 45) rfl rfl Try.func18 (by kernel_rfl) rfl #[.pointer (some ⟨g,0,none⟩),.slice Ao44 y127.length co44] rfl (by (try simp only[List.map_toArray,List.map_cons,List.map_nil]);first|done|rfl|(simp only[List.length_drop,List.length_take];rfl)) ?_;(with_reducible refine(payrollgen_Tape_Pick.calls g s0_0 x1001_2 _ _ y127 t130 t131 w0 _ ?side1 ?side2 ?side3 ?side4 ?side5 A22.out).mono ?_);(case side1=>repeat (first|(with_reducible first|exact HI0.out|apply IsS54.alloc|apply IsS54.drewN|apply IsS54.drew|apply IsS54.set_1|refine IsS54.far ?_ NB0_113.out _)|exact HI0.out));(case side2=>repeat (first|(with_reducible first|exact HB.out|apply below_alloc|apply pw_below_drewN|apply below_drew1|refine below_set ?_ (IsS54.ge HI0.out)|refine below_set ?_ GE113.out)|exact HB.out));(case side3=>repeat (first|exact(Kd.R_reads' HO129.out).2.2|(with_reducible refine Kd.C_alloc ?_ _)|(with_reducible refine Kd.C_drewN ?_ _)|(with_reducible refine Kd.C_drew ?_)));(case side4=>exact(Kd.R_reads' HO129.out).2.1);(case side5=>exact far_slice (IsS54.own_ne HI0.out HO129.out (by decide)));rintro e w45 ⟨rfl,hi,hb,hk⟩;refine⟨_,rfl,?_⟩;have n0_:=Aside0.mk (Kd.N_mono (Kd.N_keep (Kd.N_mono (ok:=fun k_=>((((w.heap.size≤k_))∧(some k_≠(u114002:Value).ownBlock∧(k_≠gb113∧k_≠g)))∧some k_≠(.slice Ao44 y127.length co44:Value).ownBlock)) (by (with_reducible repeat (first|apply Kd.N_alloc|apply Kd.N_drewN|apply Kd.N_drew));exact HO_6.out) (fun k_ hk_=>(⟨hk_,hk_.1.2.2.2⟩:_∧k_≠g))) hk (fun _ h=>h.2)) (fun _ h=>h.1));have n1_:=Aside0.mk (Kd.R_mono (Kd.R_keep (IsS54.apart (show IsS54 w0 _ g s0_0 x1001_2 from by repeat (first|(with_reducible first|exact HI0.out|apply IsS54.alloc|apply IsS54.drewN|apply IsS54.drew|apply IsS54.set_1|refine IsS54.far ?_ NB0_113.out _)|exact HI0.out)) (by (with_reducible repeat (first|apply Kd.R_alloc|apply Kd.R_drewN|apply Kd.R_drew));exact HO_114002.out) (by decide)) hk (fun _ h=>h.2)) (fun _ h=>h.1));have n2_:=Aside0.mk (KeepBut.blk hk (g':=gb113) (o:=.cells #[.int .i64 x5_1,.int .i64 (wrap64 (x5_1 + t111)),u114002] 48 (0,0)) (by (with_reducible repeat (first|refine blk_drewN ?_ _|refine blk_drew ?_|refine blk_alloc ?_ _));exact BK113.out) NB113_0.out (by simp));have n3_:=Aside0.mk (Kd.R_mono (Kd.R_keep (IsS54.apart (show IsS54 w0 _ g s0_0 x1001_2 from by repeat (first|(with_reducible first|exact HI0.out|apply IsS54.alloc|apply IsS54.drewN|apply IsS54.drew|apply IsS54.set_1|refine IsS54.far ?_ NB0_113.out _)|exact HI0.out)) (by (with_reducible repeat (first|apply Kd.R_alloc|apply Kd.R_drewN|apply Kd.R_drew));exact HO129.out) (by decide)) hk (fun _ h=>h.2)) (fun _ h=>h.1));have n4_:=Aside0.mk (KeepBut.trans (by repeat (first|(with_reducible first|exact HK.out|apply KeepBut.set_|apply keep_drewN|apply keep_drew|apply keep_alloc|refine keep_far ?_ GW113.out _)|exact HK.out)) hk (.inl rfl));have n5_:=Aside0.mk (hb);have n6_:=Aside0.mk (hi);clear HO_6;clear HO_114002;clear BK113;clear HO129;clear HK;clear HB;clear HI0;have HO_6:=n0_;have HO_114002:=n1_;have BK113:=n2_;have HO129:=n3_;have HK:=n4_;have HB:=n5_;have HI0:=n6_;clear n0_ n1_ n2_ n3_ n4_ n5_ n6_;(try clear hb);(try clear hb2);(try clear hk);(try clear hi))|((with_reducible refine gate_dst (N:=49) rfl ?_);refine Kd.R_lit (Kd.int .i64) _ 3 ?hg (N:=49) ?hd (xs:=([15,30,45]:List Int)) (inner:=[.int .i64 15,.int .i64 30,.int .i64 45]) (ok:=fun _=>True) (okp:=fun _=>True) ?hr ?hp (fun _ hk=>hk) trivial (Below.refl _ _) (Nat.le_refl _) (by simp) ?_;(case hd=>rfl);(case hg=>rfl);(case hr=>first|(go_simp;done)|(go_simp;rfl));(case hp=>exact(Reps.one (show Kd.M (Kd.int .i64) _ _ _ 15 [.int .i64 15] from rfl) (Reps.one (show Kd.M (Kd.int .i64) _ _ _ 30 [.int .i64 30] from rfl) (Reps.one (show Kd.M (Kd.int .i64) _ _ _ 45 [.int .i64 45] from rfl) (Reps.none _ _)))));intro v133 w46 ho47 hb hg_ hnew_;clear hg_ hnew_;(first|rw[← Ny132.out] at ho47|(simp only[Int.reduceToNat] at ho47;rw[← Ny132.out] at ho47));have n0_:=Aside0.mk (Kd.N_elder' (by (with_reducible repeat (first|apply Kd.N_alloc|apply Kd.N_drewN|apply Kd.N_drew));exact HO_6.out) (Kd.R_base ho47) hb);have n1_:=Aside0.mk (Kd.R_below (by (with_reducible repeat (first|apply Kd.R_alloc|apply Kd.R_drewN|apply Kd.R_drew));exact HO_114002.out) hb);have n2_:=Aside0.mk (Kd.R_elder' (by (with_reducible repeat (first|apply Kd.R_alloc|apply Kd.R_drewN|apply Kd.R_drew));exact HO129.out) (Kd.R_base ho47) hb);have n3_:=Aside0.mk (Kd.R_lower (Kd.R_new' (Kd.R_newM (M:=fun k_=>(w.heap.size≤k_)) ho47 (keep_size (w:=w) (g:=g) (row:=none) (by repeat (first|(with_reducible first|exact HK.out|apply KeepBut.set_|apply keep_drewN|apply keep_drew|apply keep_alloc|refine keep_far ?_ GW113.out _)|exact HK.out))) (fun k_ h_=>h_)) (Kd.R_lt (by (with_reducible repeat (first|apply Kd.R_alloc|apply Kd.R_drewN|apply Kd.R_drew));exact HO129.out))) (keep_size (w:=w) (g:=g) (row:=none) (by repeat (first|(with_reducible first|exact HK.out|apply KeepBut.set_|apply keep_drewN|apply keep_drew|apply keep_alloc|refine keep_far ?_ GW113.out _)|exact HK.out))));have n4_:=Aside0.mk (blk_below (g:=gb113) (o:=.cells #[.int .i64 x5_1,.int .i64 (wrap64 (x5_1 + t111)),u114002] 48 (0,0)) (by (with_reducible repeat (first|refine blk_drewN ?_ _|refine blk_drew ?_|refine blk_alloc ?_ _));exact BK113.out) hb);have n5_:=Aside0.mk (IsS54.below (by repeat (first|(with_reducible first|exact HI0.out|apply IsS54.alloc|apply IsS54.drewN|apply IsS54.drew|apply IsS54.set_1|refine IsS54.far ?_ NB0_113.out _)|exact HI0.out)) hb);have n6_:=Aside0.mk (KeepBut.trans (by repeat (first|(with_reducible first|exact HK.out|apply KeepBut.set_|apply keep_drewN|apply keep_drew|apply keep_alloc|refine keep_far ?_ GW113.out _)|exact HK.out)) (KeepBut.of_below hb g none) (.inl rfl));have n7_:=Aside0.mk (below_step (by repeat (first|(with_reducible first|exact HB.out|apply below_alloc|apply pw_below_drewN|apply below_drew1|refine below_set ?_ (IsS54.ge HI0.out)|refine below_set ?_ GE113.out)|exact HB.out)) hb);clear HO_6;clear HO_114002;clear HO129;clear BK113;clear HI0;clear HK;clear HB;have HO_6:=n0_;have HO_114002:=n1_;have HO129:=n2_;have HO134:=n3_;have BK113:=n4_;have HI0:=n5_;have HK:=n6_;have HB:=n7_;clear n0_ n1_ n2_ n3_ n4_ n5_ n6_ n7_;clear hb ho47;obtain ⟨Ao48,co48,eo48⟩:=Kd.R_slice HO134.out;subst eo48)|((with_reducible refine gate_callee (f:=18) rfl ?_);refine goesL_ (some 50) rfl rfl Try.func18 (by kernel_rfl) rfl #[.pointer (some ⟨g,0,none⟩),.slice Ao48 y132.length co48] rfl (by (try simp only[List.map_toArray,List.map_cons,List.map_nil]);first|done|rfl|(simp only[List.length_drop,List.length_take];rfl)) ?_;(with_reducible refine(payrollgen_Tape_Pick.calls g s0_0 t131 _ _ y132 t135 t136 w0 _ ?side1 ?side2 ?side3 ?side4 ?side5 A23.out).mono ?_);(case side1=>repeat (first|(with_reducible first|exact HI0.out|apply IsS54.alloc|apply IsS54.drewN|apply IsS54.drew|apply IsS54.set_1|refine IsS54.far ?_ NB0_113.out _)|exact HI0.out));(case side2=>repeat (first|(with_reducible first|exact HB.out|apply below_alloc|apply pw_below_drewN|apply below_drew1|refine below_set ?_ (IsS54.ge HI0.out)|refine below_set ?_ GE113.out)|exact HB.out));(case side3=>repeat (first|exact(Kd.R_reads' HO134.out).2.2|(with_reducible refine Kd.C_alloc ?_ _)|(with_reducible refine Kd.C_drewN ?_ _)|(with_reducible refine Kd.C_drew ?_)));(case side4=>exact(Kd.R_reads' HO134.out).2.1);(case side5=>exact far_slice (IsS54.own_ne HI0.out HO134.out (by decide)));rintro e w49 ⟨rfl,hi,hb,hk⟩;refine⟨_,rfl,?_⟩;have n0_:=Aside0.mk (Kd.N_mono (Kd.N_keep (Kd.N_mono (ok:=fun k_=>(((((w.heap.size≤k_))∧(some k_≠(u114002:Value).ownBlock∧(k_≠gb113∧k_≠g)))∧some k_≠(.slice Ao44 y127.length co44:Value).ownBlock)∧some k_≠(.slice Ao48 y132.length co48:Value).ownBlock)) (by (with_reducible repeat (first|apply Kd.N_alloc|apply Kd.N_drewN|apply Kd.N_drew));exact HO_6.out) (fun k_ hk_=>(⟨hk_,hk_.1.1.2.2.2⟩:_∧k_≠g))) hk (fun _ h=>h.2)) (fun _ h=>h.1));have n1_:=Aside0.mk (Kd.R_mono (Kd.R_keep (IsS54.apart (show IsS54 w0 _ g s0_0 t131 from by repeat (first|(with_reducible first|exact HI0.out|apply IsS54.alloc|apply IsS54.drewN|apply IsS54.drew|apply IsS54.set_1|refine IsS54.far ?_ NB0_113.out _)|exact HI0.out)) (by (with_reducible repeat (first|apply Kd.R_alloc|apply Kd.R_drewN|apply Kd.R_drew));exact HO_114002.out) (by decide)) hk (fun _ h=>h.2)) (fun _ h=>h.1));have n2_:=Aside0.mk (KeepBut.blk hk (g':=gb113) (o:=.cells #[.int .i64 x5_1,.int .i64 (wrap64 (x5_1 + t111)),u114002] 48 (0,0)) (by (with_reducible repeat (first|refine blk_drewN ?_ _|refine blk_drew ?_|refine blk_alloc ?_ _));exact BK113.out) NB113_0.out (by simp));have n3_:=Aside0.mk (Kd.R_mono (Kd.R_keep (IsS54.apart (show IsS54 w0 _ g s0_0 t131 from by repeat (first|(with_reducible first|exact HI0.out|apply IsS54.alloc|apply IsS54.drewN|apply IsS54.drew|apply IsS54.set_1|refine IsS54.far ?_ NB0_113.out _)|exact HI0.out)) (by (with_reducible repeat (first|apply Kd.R_alloc|apply Kd.R_drewN|apply Kd.R_drew));exact HO129.out) (by decide)) hk (fun _ h=>h.2)) (fun _ h=>h.1));have n4_:=Aside0.mk (Kd.R_mono (Kd.R_keep (IsS54.apart (show IsS54 w0 _ g s0_0 t131 from by repeat (first|(with_reducible first|exact HI0.out|apply IsS54.alloc|apply IsS54.drewN|apply IsS54.drew|apply IsS54.set_1|refine IsS54.far ?_ NB0_113.out _)|exact HI0.out)) (by (with_reducible repeat (first|apply Kd.R_alloc|apply Kd.R_drewN|apply Kd.R_drew));exact HO134.out) (by decide)) hk (fun _ h=>h.2)) (fun _ h=>h.1));have n5_:=Aside0.mk (KeepBut.trans (by repeat (first|(with_reducible first|exact HK.out|apply KeepBut.set_|apply keep_drewN|apply keep_drew|apply keep_alloc|refine keep_far ?_ GW113.out _)|exact HK.out)) hk (.inl rfl));have n6_:=Aside0.mk (hb);have n7_:=Aside0.mk (hi);clear HO_6;clear HO_114002;clear BK113;clear HO129;clear HO134;clear HK;clear HB;clear HI0;have HO_6:=n0_;have HO_114002:=n1_;have BK113:=n2_;have HO129:=n3_;have HO134:=n4_;have HK:=n5_;have HB:=n6_;have HI0:=n7_;clear n0_ n1_ n2_ n3_ n4_ n5_ n6_ n7_;(try clear hb);(try clear hb2);(try clear hk);(try clear hi);have hnb50:=NB113_0.out;have hnc50:=NB0_113.out;have hcz51_0:w49.cell? ⟨gb113,0,none⟩ = some (.int .i64 x5_1):=(blk_cell BK113.out 0).trans rfl;have hcz51_1:w49.cell? ⟨gb113,1,none⟩ = some (.int .i64 (wrap64 (x5_1 + t111))):=(blk_cell BK113.out 1).trans rfl;have hcz51_2:w49.cell? ⟨gb113,2,none⟩ = some (u114002):=(blk_cell BK113.out 2).trans rfl;have hfz51_0:=blk_frozen BK113.out 0;have hfz51_1:=blk_frozen BK113.out 1;have hfz51_2:=blk_frozen BK113.out 2))
                go_roundg k2
                case measure => have := HK1.out; have := HK2.out; omega
                case rel=>exact⟨(x9_2),(wrap64 (x10_2 - 1)),(t136),(x114002_2),(u114002),(by first|rfl|(simp;done)|(simp[*];done)),(by first|rfl|(simp;done)|(simp[*];done)),H',⟨by have:=HK1.out;have:=HK2.out;omega⟩,⟨by (with_reducible repeat (first|apply Kd.N_alloc|apply Kd.N_drewN|apply Kd.N_drew));exact Kd.N_mono HO_6.out (fun _ hk=>⟨hk.1.1.1,⟨hk.1.1.2.1,⟨hk.1.1.2.2.1,hk.1.1.2.2.2⟩⟩⟩)⟩,⟨by (with_reducible repeat (first|apply Kd.R_alloc|apply Kd.R_drewN|apply Kd.R_drew));exact HO_114002.out⟩,⟨by (with_reducible repeat (first|refine blk_drewN ?_ _|refine blk_drew ?_|refine blk_alloc ?_ _));exact BK113.out⟩,⟨by repeat (first|(with_reducible first|exact HI0.out|apply IsS54.alloc|apply IsS54.drewN|apply IsS54.drew|apply IsS54.set_1|refine IsS54.far ?_ NB0_113.out _)|exact HI0.out)⟩,⟨by repeat (first|(with_reducible first|exact HK.out|apply KeepBut.set_|apply keep_drewN|apply keep_drew|apply keep_alloc|refine keep_far ?_ GW113.out _)|exact HK.out)⟩,⟨by repeat (first|(with_reducible first|exact HB.out|apply below_alloc|apply pw_below_drewN|apply below_drew1|refine below_set ?_ (IsS54.ge HI0.out)|refine below_set ?_ GE113.out)|exact HB.out)⟩⟩
            · rw [if_neg c21] at H
              have c21b0 : decide (0 < x10_2) = false := decide_eq_false c21
              clear c21
              obtain ⟨y116,hy116⟩:∃ y_:List (S48),y_ = (([(⟨(⟨x5_1,(wrap64 (x5_1 + t111))⟩:S41),x114002_2⟩:S48)]:List (S48))):=⟨_,rfl⟩
              replace H:(if x6_1.length + y116.length < 3518437208883 then ((payrollgen_Tape_Pick.f s0_0 x1001_2 (([0,15,960,480,1]:List Int))).bind fun bt125=>(payrollgen_Tape_Presences.l0 k2 (wrap64 ((wrap64 (x5_1 + t111)) + bt125.1)) (x6_1 ++ y116) (wrap64 (x7_1 - 1)) s0_0 bt125.2)) else (none)) = some (r1,r2):=by first|(rw[hy116];with_reducible exact H)|(have H2_:=(Option.bind_some _ _).symm.trans H;rw[hy116];with_reducible exact H2_)|(have H2_:=(Option.bind_some _ _).symm.trans H;with_reducible exact H2_)|with_reducible exact H|(rw[hy116];exact H)|exact H
              have Ny116 := Aside0.mk hy116
              clear hy116
              by_cases c52 : x6_1.length + y116.length < 3518437208883
              · rw [if_pos c52] at H
                have LMc52 := Aside0.mk c52
                clear c52
                obtain ⟨y119, hy119⟩ : ∃ y_ : List (S48), y_ = (x6_1 ++ y116) := ⟨_, rfl⟩
                replace H:((payrollgen_Tape_Pick.f s0_0 x1001_2 (([0,15,960,480,1]:List Int))).bind fun bt125=>(payrollgen_Tape_Presences.l0 k2 (wrap64 ((wrap64 (x5_1 + t111)) + bt125.1)) y119 (wrap64 (x7_1 - 1)) s0_0 bt125.2)) = some (r1,r2):=by first|(rw[hy119];with_reducible exact H)|(have H2_:=(Option.bind_some _ _).symm.trans H;rw[hy119];with_reducible exact H2_)|(have H2_:=(Option.bind_some _ _).symm.trans H;with_reducible exact H2_)|with_reducible exact H|(rw[hy119];exact H)|exact H
                have Ny119 := Aside0.mk hy119
                clear hy119
                obtain ⟨y122, hy122⟩ : ∃ y_ : List Int, y_ = (([0, 15, 960, 480, 1] : List Int)) := ⟨_, rfl⟩
                replace H:((payrollgen_Tape_Pick.f s0_0 x1001_2 y122).bind fun bt125=>(payrollgen_Tape_Presences.l0 k2 (wrap64 ((wrap64 (x5_1 + t111)) + bt125.1)) y119 (wrap64 (x7_1 - 1)) s0_0 bt125.2)) = some (r1,r2):=by first|(rw[hy122];with_reducible exact H)|(have H2_:=(Option.bind_some _ _).symm.trans H;rw[hy122];with_reducible exact H2_)|(have H2_:=(Option.bind_some _ _).symm.trans H;with_reducible exact H2_)|with_reducible exact H|(rw[hy122];exact H)|exact H
                have Ny122 := Aside0.mk hy122
                clear hy122
                replace H := Option.bind_eq_some_iff.mp H
                obtain ⟨⟨t125, t126⟩, A530, H⟩ := H
                replace H:(payrollgen_Tape_Presences.l0 k2 (wrap64 ((wrap64 (x5_1 + t111)) + t125)) y119 (wrap64 (x7_1 - 1)) s0_0 t126) = some (r1,r2):=H
                have A53 := Aside0.mk A530
                clear A530
                have H' := Aside0.mk H
                clear H
                obtain ⟨Ao54, co54, eo54⟩ := Kd.N_slice HO_6.out
                subst eo54
                try go_wp2
                have n0_ := Aside0.mk (Kd.N_drew HO_6.out)
                have n1_ := Aside0.mk (Kd.R_drew HO_114002.out)
                have n2_ := Aside0.mk (blk_drew BK113.out)
                have n3_ := Aside0.mk (IsS54.drew HI0.out)
                have n4_ := Aside0.mk (keep_drew HK.out)
                have n5_ := Aside0.mk (below_drew1 HB.out)
                clear HO_6
                clear HO_114002
                clear BK113
                clear HI0
                clear HK
                clear HB
                have HO_6 := n0_
                have HO_114002 := n1_
                have BK113 := n2_
                have HI0 := n3_
                have HK := n4_
                have HB := n5_
                clear n0_ n1_ n2_ n3_ n4_ n5_
                obtain ⟨Ao56, co56, eo56⟩ := Kd.R_slice HO_114002.out
                (first|subst eo56|(injection eo56 with f1_ f2_ f3_;have f4_:=f1_.symm;have f5_:=f3_.symm;clear f1_ f2_ f3_;subst f4_;subst f5_))
                refine start_ (n:=13) (S:=fun w'=>w'.cell? ⟨gb113,0,none⟩ = some (.int .i64 x5_1)∧w'.cell? ⟨gb113,1,none⟩ = some (.int .i64 (wrap64 (x5_1 + t111)))∧w'.cell? ⟨gb113,2,none⟩ = some (.slice Ao56 x114002_2.length co56)) (ds:=[]) #[false,false,false,false,false,false,false,false,false,false,false,false,false] (by kernel_rfl) rfl rfl ⟨(blk_cell BK113.out 0).trans rfl,(blk_cell BK113.out 1).trans rfl,(blk_cell BK113.out 2).trans rfl⟩ (fun hHeld=>?_);refine with_tabW payrollgen_Tape_Presences.tab15 payrollgen_Tape_Presences.bits15 (fun HT_ HW_=>?_)
                generalize wr.drew = w55 at HO_6 HO_114002 BK113 HI0 HK HB hHeld ⊢
                refine pure_ (i:=0) (N:=some 66) (v:=?_) (a':=?_) #[true,false,false,false,false,false,false,false,false,false,false,false,false] rfl rfl (any_of HT_.out (by kernel_rfl)) (fun _ _ _ h=>h) (Or.inl ⟨by rfl,?_⟩) ?_ ?_
                rotate_left
                · intro w'
                  go_simp
                  with_reducible rfl
                rotate_left
                · simp only [Act.put, List.setIfInBounds_toArray, List.set_cons_zero, List.set_cons_succ, i64_w, i32_w]
                  rfl
                refine pure_ (i:=4) (N:=some 70) (v:=?_) (a':=?_) #[true,false,false,false,true,false,false,false,false,false,false,false,false] rfl rfl (any_of HT_.out (by kernel_rfl)) (fun _ _ _ h=>h) (Or.inl ⟨by rfl,?_⟩) ?_ ?_
                rotate_left
                · intro w'
                  go_simp
                  with_reducible rfl
                rotate_left
                · simp only [Act.put, List.setIfInBounds_toArray, List.set_cons_zero, List.set_cons_succ, i64_w, i32_w]
                  rfl
                refine pure_ (i:=5) (N:=some 71) (v:=?_) (a':=?_) #[true,false,false,false,true,true,false,false,false,false,false,false,false] rfl rfl (any_of HT_.out (by kernel_rfl)) (fun _ _ _ h=>h) (Or.inl ⟨by rfl,?_⟩) ?_ ?_
                rotate_left
                · intro w'
                  go_simp
                  with_reducible rfl
                rotate_left
                · simp only [Act.put, List.setIfInBounds_toArray, List.set_cons_zero, List.set_cons_succ, i64_w, i32_w]
                  rfl
                refine pure_ (i:=7) (N:=some 73) (v:=?_) (a':=?_) #[true,false,false,false,true,true,false,true,false,false,false,false,false] rfl rfl (any_of HT_.out (by kernel_rfl)) (fun _ _ _ h=>h) (Or.inl ⟨by rfl,?_⟩) ?_ ?_
                rotate_left
                · intro w'
                  go_simp
                  with_reducible rfl
                rotate_left
                · simp only [Act.put, List.setIfInBounds_toArray, List.set_cons_zero, List.set_cons_succ, i64_w, i32_w]
                  rfl
                refine take_ (i:=1) (N:=some 67) (v:=?_) (a':=?_) #[true,true,false,false,true,true,false,true,false,false,false,false,false] rfl rfl (take_ofW HT_.out HW_.out (by kernel_rfl)) (fun _ _ _ h=>h) (Or.inl ⟨by rfl,?_⟩) hHeld ?_ ?_
                rotate_left
                · rintro w' ⟨s0, s1, s2⟩
                  go_simp
                  with_reducible rfl
                rotate_left
                · simp only [Act.put, List.setIfInBounds_toArray, List.set_cons_zero, List.set_cons_succ, i64_w, i32_w]
                  rfl
                refine take_ (i:=6) (N:=some 72) (v:=?_) (a':=?_) #[true,true,false,false,true,true,true,true,false,false,false,false,false] rfl rfl (take_ofW HT_.out HW_.out (by kernel_rfl)) (fun _ _ _ h=>h) (Or.inl ⟨by rfl,?_⟩) hHeld ?_ ?_
                rotate_left
                · rintro w' ⟨s0, s1, s2⟩
                  go_simp
                  with_reducible rfl
                rotate_left
                · simp only [Act.put, List.setIfInBounds_toArray, List.set_cons_zero, List.set_cons_succ, i64_w, i32_w]
                  rfl
                refine join_ (σ:=Value × Value × Value) 4 #[true,true,true,true,true,true,true,true,true,false,false,false,false] (fun s_=>[(68,s_.1),(69,s_.2.1),(74,s_.2.2)]) (fun s_ w'=>(w'.cell? ⟨gb113,0,none⟩ = some (.int .i64 x5_1)∧w'.cell? ⟨gb113,1,none⟩ = some (.int .i64 (wrap64 (x5_1 + t111)))∧w'.cell? ⟨gb113,2,none⟩ = some (.slice Ao56 x114002_2.length co56))∧(Kd.N k48 48 w' w.heap.size (fun k_=>(w.heap.size≤k_)∧some k_≠(s_.2.1:Value).ownBlock∧some k_≠(s_.2.2:Value).ownBlock∧k_≠g∧k_≠gb113) s_.1 y116)∧(Kd.N k48 48 w' w.heap.size (fun k_=>(w.heap.size≤k_)∧some k_≠(s_.2.2:Value).ownBlock∧k_≠g∧k_≠gb113) s_.2.1 y119)∧(Kd.R (Kd.int .i64) 3 w' w.heap.size (fun k_=>(w.heap.size≤k_)) s_.2.2 y122)∧(w'.heap[gb113]? = some (.cells #[.int .i64 x5_1,.int .i64 (wrap64 (x5_1 + t111)),.slice Ao56 x114002_2.length co56] 48 (0,0)))∧(IsS54 w0 w' g s0_0 x1001_2)∧(KeepBut w w' g none)∧(Below w0.heap.size w0 w')) ?_ ?_
                rotate_left
                · intro hCont
                  refine two_ (i:=2) (j:=8) (Ni:=some 68) (Nj:=some 74) #[true,true,true,false,true,true,true,true,false,false,false,false,false] #[true,true,false,false,true,true,true,true,true,false,false,false,false] rfl rfl rfl rfl (two_of HT_.out (by kernel_rfl)) (by decide) (by decide) (fun K hK=>?_) (fun K hK=>?_)
                  · skip
                    refine Kd.N_lit_step k48 _ 48 ?hg (N':=68) ?hd (xs:=([(⟨(⟨x5_1,(wrap64 (x5_1 + t111))⟩:S41),x114002_2⟩:S48)]:List (S48))) (inner:=[.int .i64 x5_1,.int .i64 (wrap64 (x5_1 + t111)),.slice Ao56 x114002_2.length co56]) (ok:=(fun k_=>(w.heap.size≤k_)∧some k_≠(.slice Ao54 x6_1.length co54:Value).ownBlock∧k_≠gb113∧k_≠g)) (okp:=(fun k_=>(w.heap.size≤k_)∧some k_≠(.slice Ao54 x6_1.length co54:Value).ownBlock∧k_≠gb113∧k_≠g)) ?hr ?hp (fun _ hk=>hk) ((show ∀ k_,w55.heap.size≤k_ → (fun k_=>(w.heap.size≤k_)∧some k_≠(.slice Ao54 x6_1.length co54:Value).ownBlock∧k_≠gb113∧k_≠g) k_ from fun k_ hk=>⟨(Nat.le_trans (keep_size (w:=w) (g:=g) (row:=none) (by repeat (first|(with_reducible first|exact HK.out|apply KeepBut.set_|apply keep_drewN|apply keep_drew|apply keep_alloc|refine keep_far ?_ GW113.out _)|exact HK.out))) hk),Kd.fresh' (Kd.N_lt (by (with_reducible repeat (first|apply Kd.N_alloc|apply Kd.N_drewN|apply Kd.N_drew));exact HO_6.out)) k_ hk,Kd.freshB (g:=gb113) (o:=.cells #[.int .i64 x5_1,.int .i64 (wrap64 (x5_1 + t111)),.slice Ao56 x114002_2.length co56] 48 (0,0)) (by (with_reducible repeat (first|refine blk_drewN ?_ _|refine blk_drew ?_|refine blk_alloc ?_ _));exact BK113.out) k_ hk,IsS54.fresh (by repeat (first|(with_reducible first|exact HI0.out|apply IsS54.alloc|apply IsS54.drewN|apply IsS54.drew|apply IsS54.set_1|refine IsS54.far ?_ NB0_113.out _)|exact HI0.out)) k_ hk⟩) _ (Nat.le_refl _)) (Below.refl _ _) (Nat.le_refl _) (by simp) ?_;(case hd=>rfl);(case hg=>rfl);(case hr=>first|(go_simp;done)|(go_simp;rfl));(case hp=>exact(Reps.c3 (show Kd.FK k48 _ _ (⟨(⟨x5_1,(wrap64 (x5_1 + t111))⟩:S41),x114002_2⟩:S48) [.int .i64 x5_1,.int .i64 (wrap64 (x5_1 + t111)),.slice Ao56 x114002_2.length co56] from (k48_mkF _ _ (⟨(⟨x5_1,(wrap64 (x5_1 + t111))⟩:S41),x114002_2⟩:S48) (Kd.R_reads' (Kd.R_mono (ok':=(fun k_=>(w.heap.size≤k_)∧some k_≠(.slice Ao54 x6_1.length co54:Value).ownBlock∧k_≠gb113∧k_≠g)) (IsS54.apart HI0.out (Kd.R_types (Kd.R_apart' (HO_114002.out) (Kd.N_typed HO_6.out) (by decide)) BK113.out (by decide)) (by decide)) (fun k_ hk=>⟨hk.1.1.1,⟨hk.1.1.2,⟨hk.1.2,hk.2⟩⟩⟩))).2.1 (Kd.R_F (Kd.R_mono (ok':=(fun k_=>(w.heap.size≤k_)∧some k_≠(.slice Ao54 x6_1.length co54:Value).ownBlock∧k_≠gb113∧k_≠g)) (IsS54.apart HI0.out (Kd.R_types (Kd.R_apart' (HO_114002.out) (Kd.N_typed HO_6.out) (by decide)) BK113.out (by decide)) (by decide)) (fun k_ hk=>⟨hk.1.1.1,⟨hk.1.1.2,⟨hk.1.2,hk.2⟩⟩⟩))))) (Reps.none _ _)))
                    intro v117 w57 ho58 hb hg_ hnew_
                    clear hg_ hnew_
                    (first | rw [← Ny116.out] at ho58 | (simp only [Int.reduceToNat] at ho58; rw [← Ny116.out] at ho58))
                    have n0_:=Aside0.mk (Kd.N_elder' (by (with_reducible repeat (first|apply Kd.N_alloc|apply Kd.N_drewN|apply Kd.N_drew));exact HO_6.out) (Kd.N_base ho58) hb)
                    have n1_:=Aside0.mk (Kd.N_lower ho58 (keep_size (w:=w) (g:=g) (row:=none) (by repeat (first|(with_reducible first|exact HK.out|apply KeepBut.set_|apply keep_drewN|apply keep_drew|apply keep_alloc|refine keep_far ?_ GW113.out _)|exact HK.out))))
                    have n2_:=Aside0.mk (blk_below (g:=gb113) (o:=.cells #[.int .i64 x5_1,.int .i64 (wrap64 (x5_1 + t111)),.slice Ao56 x114002_2.length co56] 48 (0,0)) (by (with_reducible repeat (first|refine blk_drewN ?_ _|refine blk_drew ?_|refine blk_alloc ?_ _));exact BK113.out) hb)
                    have n3_:=Aside0.mk (IsS54.below (by repeat (first|(with_reducible first|exact HI0.out|apply IsS54.alloc|apply IsS54.drewN|apply IsS54.drew|apply IsS54.set_1|refine IsS54.far ?_ NB0_113.out _)|exact HI0.out)) hb)
                    have n4_:=Aside0.mk (KeepBut.trans (by repeat (first|(with_reducible first|exact HK.out|apply KeepBut.set_|apply keep_drewN|apply keep_drew|apply keep_alloc|refine keep_far ?_ GW113.out _)|exact HK.out)) (KeepBut.of_below hb g none) (.inl rfl))
                    have n5_:=Aside0.mk (below_step (by repeat (first|(with_reducible first|exact HB.out|apply below_alloc|apply pw_below_drewN|apply below_drew1|refine below_set ?_ (IsS54.ge HI0.out)|refine below_set ?_ GE113.out)|exact HB.out)) hb)
                    clear HO_6
                    clear BK113
                    clear HI0
                    clear HK
                    clear HB
                    clear HO_114002
                    have HO_6 := n0_
                    have HO118 := n1_
                    have BK113 := n2_
                    have HI0 := n3_
                    have HK := n4_
                    have HB := n5_
                    clear n0_ n1_ n2_ n3_ n4_ n5_
                    clear hb ho58
                    obtain ⟨Ao60, co60, eo60⟩ := Kd.N_slice HO118.out
                    (first|subst eo60|(injection eo60 with f1_ f2_ f3_;have f4_:=f1_.symm;have f5_:=f3_.symm;clear f1_ f2_ f3_;subst f4_;subst f5_))
                    refine hK.out _ _ ⟨(blk_cell BK113.out 0).trans rfl,(blk_cell BK113.out 1).trans rfl,(blk_cell BK113.out 2).trans rfl⟩ (fun hHeld=>?_)
                    clear hK K
                    refine norm_ (a' := ?_) ?_ ?_
                    rotate_left
                    · show Act.put _ (some 68) _ = _
                      simp only[Act.put,List.setIfInBounds_toArray,List.set_cons_zero,List.set_cons_succ,i64_w,i32_w]
                      rfl
                    refine two_ (i:=3) (j:=8) (Ni:=some 69) (Nj:=some 74) #[true,true,true,true,true,true,true,true,false,false,false,false,false] #[true,true,true,false,true,true,true,true,true,false,false,false,false] rfl rfl rfl rfl (two_of HT_.out (by kernel_rfl)) (by decide) (by decide) (fun K hK=>?_) (fun K hK=>?_)
                    · skip
                      refine Kd.N_append_rows_step k48 w.heap.size (by rfl) (.tmp 66) (.tmp 68) 37 48 (.agg #[(.int .i64 0),(.int .i64 0),(.slice none 0 0)]) 40 rfl Try.underlying37 info48 rfl (by decide) (by omega) (.slice Ao54 x6_1.length co54) x6_1 y116 _ _ _ (fun k_=>(w.heap.size≤k_)∧k_≠gb113∧k_≠g) (fun k_=>((fun k_=>(w.heap.size≤k_)∧k_≠gb113∧k_≠g)) k_∧some k_≠(.slice Ao54 x6_1.length co54:Value).ownBlock) rfl rfl ?aO ?aR (fun _ hk=>hk) ?aF (Below.refl _ _) ?aS ?aL ?_
                      (case aR=>exact(by skip;exact Kd.N_F (Kd.N_mono (ok':=(fun k_=>((fun k_=>(w.heap.size≤k_)∧k_≠gb113∧k_≠g)) k_∧some k_≠(.slice Ao54 x6_1.length co54:Value).ownBlock)) (HO118.out) (fun k_ hk=>⟨⟨hk.1,⟨hk.2.2.1,hk.2.2.2⟩⟩,hk.2.1⟩))))
                      (case aF=>exact(fun k_ hk=>⟨(Nat.le_trans (keep_size (w:=w) (g:=g) (row:=none) (by repeat (first|(with_reducible first|exact HK.out|apply KeepBut.set_|apply keep_drewN|apply keep_drew|apply keep_alloc|refine keep_far ?_ GW113.out _)|exact HK.out))) hk),Kd.freshB (g:=gb113) (o:=.cells #[.int .i64 x5_1,.int .i64 (wrap64 (x5_1 + t111)),.slice Ao56 x114002_2.length co56] 48 (0,0)) (by (with_reducible repeat (first|refine blk_drewN ?_ _|refine blk_drew ?_|refine blk_alloc ?_ _));exact BK113.out) k_ hk,IsS54.fresh (by repeat (first|(with_reducible first|exact HI0.out|apply IsS54.alloc|apply IsS54.drewN|apply IsS54.drew|apply IsS54.set_1|refine IsS54.far ?_ NB0_113.out _)|exact HI0.out)) k_ hk⟩))
                      (case aO=>exact(by (with_reducible repeat (first|apply Kd.N_alloc|apply Kd.N_drewN|apply Kd.N_drew));exact Kd.N_mono HO_6.out (fun _ hk=>⟨hk.1.1,⟨hk.1.2.2.1,hk.1.2.2.2⟩⟩)))
                      (case aS=>exact(keep_size (w:=w) (g:=g) (row:=none) (by repeat (first|(with_reducible first|exact HK.out|apply KeepBut.set_|apply keep_drewN|apply keep_drew|apply keep_alloc|refine keep_far ?_ GW113.out _)|exact HK.out))))
                      (case aL => have := LMc52.out; omega)
                      intro v120 w59 ho hb hg hat
                      rw [← Ny119.out] at ho
                      have n0_:=Aside0.mk (blk_grown (g:=gb113) (o:=.cells #[.int .i64 x5_1,.int .i64 (wrap64 (x5_1 + t111)),.slice Ao56 x114002_2.length co56] 48 (0,0)) (by (with_reducible repeat (first|refine blk_drewN ?_ _|refine blk_drew ?_|refine blk_alloc ?_ _));exact BK113.out) hg (Kd.N_away HO_6.out (fun _ hk=>hk.1.2.2.1)))
                      have n1_:=Aside0.mk (IsS54.grown (by repeat (first|(with_reducible first|exact HI0.out|apply IsS54.alloc|apply IsS54.drewN|apply IsS54.drew|apply IsS54.set_1|refine IsS54.far ?_ NB0_113.out _)|exact HI0.out)) hg (IsS54.own_neN HI0.out HO_6.out (by decide)))
                      have n2_:=Aside0.mk (Kd.N_afterv (ok:=(fun k_=>(w.heap.size≤k_)∧k_≠gb113∧k_≠g)) (by (with_reducible repeat (first|apply Kd.N_alloc|apply Kd.N_drewN|apply Kd.N_drew));exact Kd.N_mono HO118.out (fun _ hk=>⟨⟨hk.1,⟨hk.2.2.1,hk.2.2.2⟩⟩,hk.2.1⟩)) hg hat)
                      have n3_:=Aside0.mk (below_weaken (by repeat (first|(with_reducible first|exact HB.out|apply below_alloc|apply pw_below_drewN|apply below_drew1|refine below_set ?_ (IsS54.ge HI0.out)|refine below_set ?_ GE113.out)|exact HB.out)) HL.out hb)
                      have n4_:=Aside0.mk (KeepBut.trans (by repeat (first|(with_reducible first|exact HK.out|apply KeepBut.set_|apply keep_drewN|apply keep_drew|apply keep_alloc|refine keep_far ?_ GW113.out _)|exact HK.out)) (KeepBut.of_grown hg g) (Kd.N_base2 HO_6.out))
                      have n5_ := Aside0.mk (ho)
                      clear BK113
                      clear HI0
                      clear HO118
                      clear HB
                      clear HK
                      clear HO_6
                      have BK113 := n0_
                      have HI0 := n1_
                      have HO118 := n2_
                      have HB := n3_
                      have HK := n4_
                      have HO121 := n5_
                      clear n0_ n1_ n2_ n3_ n4_ n5_
                      clear ho hb hg hat
                      refine hK.out _ _ ⟨(blk_cell BK113.out 0).trans rfl,(blk_cell BK113.out 1).trans rfl,(blk_cell BK113.out 2).trans rfl⟩ (fun hHeld=>?_)
                      clear hK K
                      refine norm_ (a' := ?_) ?_ ?_
                      rotate_left
                      · show Act.put _ (some 69) _ = _
                        simp only[Act.put,List.setIfInBounds_toArray,List.set_cons_zero,List.set_cons_succ,i64_w,i32_w]
                        rfl
                      refine one_ (i:=8) (N:=some 74) #[true,true,true,true,true,true,true,true,true,false,false,false,false] rfl rfl (one_of HT_.out (by kernel_rfl)) (by decide) (fun K hK=>?_)
                      refine Kd.R_lit_step (Kd.int .i64) _ 3 ?hg (N:=74) ?hd (xs:=([0,15,960,480,1]:List Int)) (inner:=[.int .i64 0,.int .i64 15,.int .i64 960,.int .i64 480,.int .i64 1]) (ok:=fun _=>True) (okp:=fun _=>True) ?hr ?hp (fun _ hk=>hk) trivial (Below.refl _ _) (Nat.le_refl _) (by simp) ?_;(case hd=>rfl);(case hg=>rfl);(case hr=>first|(go_simp;done)|(go_simp;rfl));(case hp=>exact(Reps.one (show Kd.M (Kd.int .i64) _ _ _ 0 [.int .i64 0] from rfl) (Reps.one (show Kd.M (Kd.int .i64) _ _ _ 15 [.int .i64 15] from rfl) (Reps.one (show Kd.M (Kd.int .i64) _ _ _ 960 [.int .i64 960] from rfl) (Reps.one (show Kd.M (Kd.int .i64) _ _ _ 480 [.int .i64 480] from rfl) (Reps.one (show Kd.M (Kd.int .i64) _ _ _ 1 [.int .i64 1] from rfl) (Reps.none _ _)))))))
                      intro v123 w61 ho62 hb hg_ hnew_
                      clear hg_ hnew_
                      (first|rw[← Ny122.out] at ho62|(simp only[Int.reduceToNat] at ho62;rw[← Ny122.out] at ho62))
                      have n0_:=Aside0.mk (Kd.N_elder' (by (with_reducible repeat (first|apply Kd.N_alloc|apply Kd.N_drewN|apply Kd.N_drew));exact HO118.out) (Kd.R_base ho62) hb)
                      have n1_:=Aside0.mk (Kd.N_elder' (by (with_reducible repeat (first|apply Kd.N_alloc|apply Kd.N_drewN|apply Kd.N_drew));exact HO121.out) (Kd.R_base ho62) hb)
                      have n2_:=Aside0.mk (Kd.R_lower (Kd.R_newM (M:=fun k_=>(w.heap.size≤k_)) ho62 (keep_size (w:=w) (g:=g) (row:=none) (by repeat (first|(with_reducible first|exact HK.out|apply KeepBut.set_|apply keep_drewN|apply keep_drew|apply keep_alloc|refine keep_far ?_ GW113.out _)|exact HK.out))) (fun k_ h_=>h_)) (keep_size (w:=w) (g:=g) (row:=none) (by repeat (first|(with_reducible first|exact HK.out|apply KeepBut.set_|apply keep_drewN|apply keep_drew|apply keep_alloc|refine keep_far ?_ GW113.out _)|exact HK.out))))
                      have n3_:=Aside0.mk (blk_below (g:=gb113) (o:=.cells #[.int .i64 x5_1,.int .i64 (wrap64 (x5_1 + t111)),.slice Ao56 x114002_2.length co56] 48 (0,0)) (by (with_reducible repeat (first|refine blk_drewN ?_ _|refine blk_drew ?_|refine blk_alloc ?_ _));exact BK113.out) hb)
                      have n4_:=Aside0.mk (IsS54.below (by repeat (first|(with_reducible first|exact HI0.out|apply IsS54.alloc|apply IsS54.drewN|apply IsS54.drew|apply IsS54.set_1|refine IsS54.far ?_ NB0_113.out _)|exact HI0.out)) hb)
                      have n5_:=Aside0.mk (KeepBut.trans (by repeat (first|(with_reducible first|exact HK.out|apply KeepBut.set_|apply keep_drewN|apply keep_drew|apply keep_alloc|refine keep_far ?_ GW113.out _)|exact HK.out)) (KeepBut.of_below hb g none) (.inl rfl))
                      have n6_:=Aside0.mk (below_step (by repeat (first|(with_reducible first|exact HB.out|apply below_alloc|apply pw_below_drewN|apply below_drew1|refine below_set ?_ (IsS54.ge HI0.out)|refine below_set ?_ GE113.out)|exact HB.out)) hb)
                      clear HO118
                      clear HO121
                      clear BK113
                      clear HI0
                      clear HK
                      clear HB
                      have HO118 := n0_
                      have HO121 := n1_
                      have HO124 := n2_
                      have BK113 := n3_
                      have HI0 := n4_
                      have HK := n5_
                      have HB := n6_
                      clear n0_ n1_ n2_ n3_ n4_ n5_ n6_
                      clear hb ho62
                      refine hK.out _ _ ⟨(blk_cell BK113.out 0).trans rfl,(blk_cell BK113.out 1).trans rfl,(blk_cell BK113.out 2).trans rfl⟩ (fun hHeld=>?_)
                      clear hK K
                      refine norm_ (a' := ?_) ?_ ?_
                      rotate_left
                      · show Act.put _ (some 74) _ = _
                        simp only[Act.put,List.setIfInBounds_toArray,List.set_cons_zero,List.set_cons_succ,i64_w,i32_w]
                        rfl
                      exact norm_ (by simp only[putAll,Act.put,List.setIfInBounds_toArray,List.set_cons_zero,List.set_cons_succ]) (hCont (.slice Ao60 y116.length co60,v120,v123) _ ⟨hHeld,(by (with_reducible repeat (first|apply Kd.N_alloc|apply Kd.N_drewN|apply Kd.N_drew));exact Kd.N_mono HO118.out (fun _ hk=>⟨hk.1.1.1,⟨hk.1.2,⟨hk.2,⟨hk.1.1.2.2,hk.1.1.2.1⟩⟩⟩⟩)),(by (with_reducible repeat (first|apply Kd.N_alloc|apply Kd.N_drewN|apply Kd.N_drew));exact Kd.N_mono HO121.out (fun _ hk=>⟨hk.1.1,⟨hk.2,⟨hk.1.2.2,hk.1.2.1⟩⟩⟩)),(by (with_reducible repeat (first|apply Kd.R_alloc|apply Kd.R_drewN|apply Kd.R_drew));exact Kd.R_mono HO124.out (fun _ hk=>hk.1)),(by (with_reducible repeat (first|refine blk_drewN ?_ _|refine blk_drew ?_|refine blk_alloc ?_ _));exact BK113.out),(by repeat (first|(with_reducible first|exact HI0.out|apply IsS54.alloc|apply IsS54.drewN|apply IsS54.drew|apply IsS54.set_1|refine IsS54.far ?_ NB0_113.out _)|exact HI0.out)),(by repeat (first|(with_reducible first|exact HK.out|apply KeepBut.set_|apply keep_drewN|apply keep_drew|apply keep_alloc|refine keep_far ?_ GW113.out _)|exact HK.out)),(by repeat (first|(with_reducible first|exact HB.out|apply below_alloc|apply pw_below_drewN|apply below_drew1|refine below_set ?_ (IsS54.ge HI0.out)|refine below_set ?_ GE113.out)|exact HB.out))⟩)
                    · skip
                      refine Kd.R_lit_step (Kd.int .i64) _ 3 ?hg (N:=74) ?hd (xs:=([0,15,960,480,1]:List Int)) (inner:=[.int .i64 0,.int .i64 15,.int .i64 960,.int .i64 480,.int .i64 1]) (ok:=fun _=>True) (okp:=fun _=>True) ?hr ?hp (fun _ hk=>hk) trivial (Below.refl _ _) (Nat.le_refl _) (by simp) ?_;(case hd=>rfl);(case hg=>rfl);(case hr=>first|(go_simp;done)|(go_simp;rfl));(case hp=>exact(Reps.one (show Kd.M (Kd.int .i64) _ _ _ 0 [.int .i64 0] from rfl) (Reps.one (show Kd.M (Kd.int .i64) _ _ _ 15 [.int .i64 15] from rfl) (Reps.one (show Kd.M (Kd.int .i64) _ _ _ 960 [.int .i64 960] from rfl) (Reps.one (show Kd.M (Kd.int .i64) _ _ _ 480 [.int .i64 480] from rfl) (Reps.one (show Kd.M (Kd.int .i64) _ _ _ 1 [.int .i64 1] from rfl) (Reps.none _ _)))))))
                      intro v123 w59 ho60 hb hg_ hnew_
                      clear hg_ hnew_
                      (first|rw[← Ny122.out] at ho60|(simp only[Int.reduceToNat] at ho60;rw[← Ny122.out] at ho60))
                      have n0_:=Aside0.mk (Kd.N_elder' (by (with_reducible repeat (first|apply Kd.N_alloc|apply Kd.N_drewN|apply Kd.N_drew));exact HO_6.out) (Kd.R_base ho60) hb)
                      have n1_:=Aside0.mk (Kd.N_elder' (by (with_reducible repeat (first|apply Kd.N_alloc|apply Kd.N_drewN|apply Kd.N_drew));exact HO118.out) (Kd.R_base ho60) hb)
                      have n2_:=Aside0.mk (Kd.R_lower (Kd.R_newM (M:=fun k_=>(w.heap.size≤k_)) ho60 (keep_size (w:=w) (g:=g) (row:=none) (by repeat (first|(with_reducible first|exact HK.out|apply KeepBut.set_|apply keep_drewN|apply keep_drew|apply keep_alloc|refine keep_far ?_ GW113.out _)|exact HK.out))) (fun k_ h_=>h_)) (keep_size (w:=w) (g:=g) (row:=none) (by repeat (first|(with_reducible first|exact HK.out|apply KeepBut.set_|apply keep_drewN|apply keep_drew|apply keep_alloc|refine keep_far ?_ GW113.out _)|exact HK.out))))
                      have n3_:=Aside0.mk (blk_below (g:=gb113) (o:=.cells #[.int .i64 x5_1,.int .i64 (wrap64 (x5_1 + t111)),.slice Ao56 x114002_2.length co56] 48 (0,0)) (by (with_reducible repeat (first|refine blk_drewN ?_ _|refine blk_drew ?_|refine blk_alloc ?_ _));exact BK113.out) hb)
                      have n4_:=Aside0.mk (IsS54.below (by repeat (first|(with_reducible first|exact HI0.out|apply IsS54.alloc|apply IsS54.drewN|apply IsS54.drew|apply IsS54.set_1|refine IsS54.far ?_ NB0_113.out _)|exact HI0.out)) hb)
                      have n5_:=Aside0.mk (KeepBut.trans (by repeat (first|(with_reducible first|exact HK.out|apply KeepBut.set_|apply keep_drewN|apply keep_drew|apply keep_alloc|refine keep_far ?_ GW113.out _)|exact HK.out)) (KeepBut.of_below hb g none) (.inl rfl))
                      have n6_:=Aside0.mk (below_step (by repeat (first|(with_reducible first|exact HB.out|apply below_alloc|apply pw_below_drewN|apply below_drew1|refine below_set ?_ (IsS54.ge HI0.out)|refine below_set ?_ GE113.out)|exact HB.out)) hb)
                      clear HO_6
                      clear HO118
                      clear BK113
                      clear HI0
                      clear HK
                      clear HB
                      have HO_6 := n0_
                      have HO118 := n1_
                      have HO124 := n2_
                      have BK113 := n3_
                      have HI0 := n4_
                      have HK := n5_
                      have HB := n6_
                      clear n0_ n1_ n2_ n3_ n4_ n5_ n6_
                      clear hb ho60
                      obtain ⟨Ao62, co62, eo62⟩ := Kd.N_slice HO118.out
                      (first|subst eo62|(injection eo62 with f1_ f2_ f3_;have f4_:=f1_.symm;have f5_:=f3_.symm;clear f1_ f2_ f3_;subst f4_;subst f5_))
                      refine hK.out _ _ ⟨(blk_cell BK113.out 0).trans rfl,(blk_cell BK113.out 1).trans rfl,(blk_cell BK113.out 2).trans rfl⟩ (fun hHeld=>?_)
                      clear hK K
                      refine norm_ (a' := ?_) ?_ ?_
                      rotate_left
                      · show Act.put _ (some 74) _ = _
                        simp only[Act.put,List.setIfInBounds_toArray,List.set_cons_zero,List.set_cons_succ,i64_w,i32_w]
                        rfl
                      refine one_ (i:=3) (N:=some 69) #[true,true,true,true,true,true,true,true,true,false,false,false,false] rfl rfl (one_of HT_.out (by kernel_rfl)) (by decide) (fun K hK=>?_)
                      refine Kd.N_append_rows_step k48 w.heap.size (by rfl) (.tmp 66) (.tmp 68) 37 48 (.agg #[(.int .i64 0),(.int .i64 0),(.slice none 0 0)]) 40 rfl Try.underlying37 info48 rfl (by decide) (by omega) (.slice Ao54 x6_1.length co54) x6_1 y116 _ _ _ (fun k_=>(w.heap.size≤k_)∧some k_≠(v123:Value).ownBlock∧k_≠gb113∧k_≠g) (fun k_=>((fun k_=>(w.heap.size≤k_)∧some k_≠(v123:Value).ownBlock∧k_≠gb113∧k_≠g)) k_∧some k_≠(.slice Ao54 x6_1.length co54:Value).ownBlock) rfl rfl ?aO ?aR (fun _ hk=>hk) ?aF (Below.refl _ _) ?aS ?aL ?_
                      (case aR=>exact(by skip;exact Kd.N_F (Kd.N_mono (ok':=(fun k_=>((fun k_=>(w.heap.size≤k_)∧some k_≠(v123:Value).ownBlock∧k_≠gb113∧k_≠g)) k_∧some k_≠(.slice Ao54 x6_1.length co54:Value).ownBlock)) (HO118.out) (fun k_ hk=>⟨⟨hk.1.1,⟨hk.2,⟨hk.1.2.2.1,hk.1.2.2.2⟩⟩⟩,hk.1.2.1⟩))))
                      (case aF=>exact(fun k_ hk=>⟨(Nat.le_trans (keep_size (w:=w) (g:=g) (row:=none) (by repeat (first|(with_reducible first|exact HK.out|apply KeepBut.set_|apply keep_drewN|apply keep_drew|apply keep_alloc|refine keep_far ?_ GW113.out _)|exact HK.out))) hk),Kd.fresh' (Kd.R_lt (by (with_reducible repeat (first|apply Kd.R_alloc|apply Kd.R_drewN|apply Kd.R_drew));exact HO124.out)) k_ hk,Kd.freshB (g:=gb113) (o:=.cells #[.int .i64 x5_1,.int .i64 (wrap64 (x5_1 + t111)),.slice Ao56 x114002_2.length co56] 48 (0,0)) (by (with_reducible repeat (first|refine blk_drewN ?_ _|refine blk_drew ?_|refine blk_alloc ?_ _));exact BK113.out) k_ hk,IsS54.fresh (by repeat (first|(with_reducible first|exact HI0.out|apply IsS54.alloc|apply IsS54.drewN|apply IsS54.drew|apply IsS54.set_1|refine IsS54.far ?_ NB0_113.out _)|exact HI0.out)) k_ hk⟩))
                      (case aO=>exact(by (with_reducible repeat (first|apply Kd.N_alloc|apply Kd.N_drewN|apply Kd.N_drew));exact Kd.N_mono HO_6.out (fun _ hk=>⟨hk.1.1.1,⟨hk.2,⟨hk.1.1.2.2.1,hk.1.1.2.2.2⟩⟩⟩)))
                      (case aS=>exact(keep_size (w:=w) (g:=g) (row:=none) (by repeat (first|(with_reducible first|exact HK.out|apply KeepBut.set_|apply keep_drewN|apply keep_drew|apply keep_alloc|refine keep_far ?_ GW113.out _)|exact HK.out))))
                      (case aL => have := LMc52.out; omega)
                      intro v120 w61 ho hb hg hat
                      rw [← Ny119.out] at ho
                      have n0_:=Aside0.mk (blk_grown (g:=gb113) (o:=.cells #[.int .i64 x5_1,.int .i64 (wrap64 (x5_1 + t111)),.slice Ao56 x114002_2.length co56] 48 (0,0)) (by (with_reducible repeat (first|refine blk_drewN ?_ _|refine blk_drew ?_|refine blk_alloc ?_ _));exact BK113.out) hg (Kd.N_away HO_6.out (fun _ hk=>hk.1.1.2.2.1)))
                      have n1_:=Aside0.mk (IsS54.grown (by repeat (first|(with_reducible first|exact HI0.out|apply IsS54.alloc|apply IsS54.drewN|apply IsS54.drew|apply IsS54.set_1|refine IsS54.far ?_ NB0_113.out _)|exact HI0.out)) hg (IsS54.own_neN HI0.out HO_6.out (by decide)))
                      have n2_:=Aside0.mk (Kd.N_afterv (ok:=(fun k_=>(w.heap.size≤k_)∧some k_≠(v123:Value).ownBlock∧k_≠gb113∧k_≠g)) (by (with_reducible repeat (first|apply Kd.N_alloc|apply Kd.N_drewN|apply Kd.N_drew));exact Kd.N_mono HO118.out (fun _ hk=>⟨⟨hk.1.1,⟨hk.2,⟨hk.1.2.2.1,hk.1.2.2.2⟩⟩⟩,hk.1.2.1⟩)) hg hat)
                      have n3_:=Aside0.mk (Kd.R_over' (by (with_reducible repeat (first|apply Kd.R_alloc|apply Kd.R_drewN|apply Kd.R_drew));exact HO124.out) (Kd.N_typed (by (with_reducible repeat (first|apply Kd.N_alloc|apply Kd.N_drewN|apply Kd.N_drew));exact HO_6.out)) (by decide) hg)
                      have n4_:=Aside0.mk (below_weaken (by repeat (first|(with_reducible first|exact HB.out|apply below_alloc|apply pw_below_drewN|apply below_drew1|refine below_set ?_ (IsS54.ge HI0.out)|refine below_set ?_ GE113.out)|exact HB.out)) HL.out hb)
                      have n5_:=Aside0.mk (KeepBut.trans (by repeat (first|(with_reducible first|exact HK.out|apply KeepBut.set_|apply keep_drewN|apply keep_drew|apply keep_alloc|refine keep_far ?_ GW113.out _)|exact HK.out)) (KeepBut.of_grown hg g) (Kd.N_base2 HO_6.out))
                      have n6_ := Aside0.mk (ho)
                      clear BK113
                      clear HI0
                      clear HO118
                      clear HO124
                      clear HB
                      clear HK
                      clear HO_6
                      have BK113 := n0_
                      have HI0 := n1_
                      have HO118 := n2_
                      have HO124 := n3_
                      have HB := n4_
                      have HK := n5_
                      have HO121 := n6_
                      clear n0_ n1_ n2_ n3_ n4_ n5_ n6_
                      clear ho hb hg hat
                      refine hK.out _ _ ⟨(blk_cell BK113.out 0).trans rfl,(blk_cell BK113.out 1).trans rfl,(blk_cell BK113.out 2).trans rfl⟩ (fun hHeld=>?_)
                      clear hK K
                      refine norm_ (a' := ?_) ?_ ?_
                      rotate_left
                      · show Act.put _ (some 69) _ = _
                        simp only[Act.put,List.setIfInBounds_toArray,List.set_cons_zero,List.set_cons_succ,i64_w,i32_w]
                        rfl
                      exact norm_ (by simp only[putAll,Act.put,List.setIfInBounds_toArray,List.set_cons_zero,List.set_cons_succ]) (hCont (.slice Ao62 y116.length co62,v120,v123) _ ⟨hHeld,(by (with_reducible repeat (first|apply Kd.N_alloc|apply Kd.N_drewN|apply Kd.N_drew));exact Kd.N_mono HO118.out (fun _ hk=>⟨hk.1.1,⟨hk.2,⟨hk.1.2.1,⟨hk.1.2.2.2,hk.1.2.2.1⟩⟩⟩⟩)),(by (with_reducible repeat (first|apply Kd.N_alloc|apply Kd.N_drewN|apply Kd.N_drew));exact Kd.N_mono HO121.out (fun _ hk=>⟨hk.1,⟨hk.2.1,⟨hk.2.2.2,hk.2.2.1⟩⟩⟩)),(by (with_reducible repeat (first|apply Kd.R_alloc|apply Kd.R_drewN|apply Kd.R_drew));exact Kd.R_mono HO124.out (fun _ hk=>hk.1)),(by (with_reducible repeat (first|refine blk_drewN ?_ _|refine blk_drew ?_|refine blk_alloc ?_ _));exact BK113.out),(by repeat (first|(with_reducible first|exact HI0.out|apply IsS54.alloc|apply IsS54.drewN|apply IsS54.drew|apply IsS54.set_1|refine IsS54.far ?_ NB0_113.out _)|exact HI0.out)),(by repeat (first|(with_reducible first|exact HK.out|apply KeepBut.set_|apply keep_drewN|apply keep_drew|apply keep_alloc|refine keep_far ?_ GW113.out _)|exact HK.out)),(by repeat (first|(with_reducible first|exact HB.out|apply below_alloc|apply pw_below_drewN|apply below_drew1|refine below_set ?_ (IsS54.ge HI0.out)|refine below_set ?_ GE113.out)|exact HB.out))⟩)
                  · skip
                    refine Kd.R_lit_step (Kd.int .i64) _ 3 ?hg (N:=74) ?hd (xs:=([0,15,960,480,1]:List Int)) (inner:=[.int .i64 0,.int .i64 15,.int .i64 960,.int .i64 480,.int .i64 1]) (ok:=fun _=>True) (okp:=fun _=>True) ?hr ?hp (fun _ hk=>hk) trivial (Below.refl _ _) (Nat.le_refl _) (by simp) ?_;(case hd=>rfl);(case hg=>rfl);(case hr=>first|(go_simp;done)|(go_simp;rfl));(case hp=>exact(Reps.one (show Kd.M (Kd.int .i64) _ _ _ 0 [.int .i64 0] from rfl) (Reps.one (show Kd.M (Kd.int .i64) _ _ _ 15 [.int .i64 15] from rfl) (Reps.one (show Kd.M (Kd.int .i64) _ _ _ 960 [.int .i64 960] from rfl) (Reps.one (show Kd.M (Kd.int .i64) _ _ _ 480 [.int .i64 480] from rfl) (Reps.one (show Kd.M (Kd.int .i64) _ _ _ 1 [.int .i64 1] from rfl) (Reps.none _ _)))))))
                    intro v123 w56 ho57 hb hg_ hnew_
                    clear hg_ hnew_
                    (first | rw [← Ny122.out] at ho57 | (simp only [Int.reduceToNat] at ho57; rw [← Ny122.out] at ho57))
                    have n0_:=Aside0.mk (Kd.N_elder' (by (with_reducible repeat (first|apply Kd.N_alloc|apply Kd.N_drewN|apply Kd.N_drew));exact HO_6.out) (Kd.R_base ho57) hb)
                    have n1_:=Aside0.mk (Kd.R_below (by (with_reducible repeat (first|apply Kd.R_alloc|apply Kd.R_drewN|apply Kd.R_drew));exact HO_114002.out) hb)
                    have n2_:=Aside0.mk (Kd.R_lower (Kd.R_newM (M:=fun k_=>(w.heap.size≤k_)) ho57 (keep_size (w:=w) (g:=g) (row:=none) (by repeat (first|(with_reducible first|exact HK.out|apply KeepBut.set_|apply keep_drewN|apply keep_drew|apply keep_alloc|refine keep_far ?_ GW113.out _)|exact HK.out))) (fun k_ h_=>h_)) (keep_size (w:=w) (g:=g) (row:=none) (by repeat (first|(with_reducible first|exact HK.out|apply KeepBut.set_|apply keep_drewN|apply keep_drew|apply keep_alloc|refine keep_far ?_ GW113.out _)|exact HK.out))))
                    have n3_:=Aside0.mk (blk_below (g:=gb113) (o:=.cells #[.int .i64 x5_1,.int .i64 (wrap64 (x5_1 + t111)),(.slice Ao56 x114002_2.length co56)] 48 (0,0)) (by (with_reducible repeat (first|refine blk_drewN ?_ _|refine blk_drew ?_|refine blk_alloc ?_ _));exact BK113.out) hb)
                    have n4_:=Aside0.mk (IsS54.below (by repeat (first|(with_reducible first|exact HI0.out|apply IsS54.alloc|apply IsS54.drewN|apply IsS54.drew|apply IsS54.set_1|refine IsS54.far ?_ NB0_113.out _)|exact HI0.out)) hb)
                    have n5_:=Aside0.mk (KeepBut.trans (by repeat (first|(with_reducible first|exact HK.out|apply KeepBut.set_|apply keep_drewN|apply keep_drew|apply keep_alloc|refine keep_far ?_ GW113.out _)|exact HK.out)) (KeepBut.of_below hb g none) (.inl rfl))
                    have n6_:=Aside0.mk (below_step (by repeat (first|(with_reducible first|exact HB.out|apply below_alloc|apply pw_below_drewN|apply below_drew1|refine below_set ?_ (IsS54.ge HI0.out)|refine below_set ?_ GE113.out)|exact HB.out)) hb)
                    clear HO_6
                    clear HO_114002
                    clear BK113
                    clear HI0
                    clear HK
                    clear HB
                    have HO_6 := n0_
                    have HO_114002 := n1_
                    have HO124 := n2_
                    have BK113 := n3_
                    have HI0 := n4_
                    have HK := n5_
                    have HB := n6_
                    clear n0_ n1_ n2_ n3_ n4_ n5_ n6_
                    clear hb ho57
                    obtain ⟨Ao58, co58, eo58⟩ := Kd.R_slice HO_114002.out
                    (first|subst eo58|(injection eo58 with f1_ f2_ f3_;have f4_:=f1_.symm;have f5_:=f3_.symm;clear f1_ f2_ f3_;subst f4_;subst f5_))
                    refine hK.out _ _ ⟨(blk_cell BK113.out 0).trans rfl,(blk_cell BK113.out 1).trans rfl,(blk_cell BK113.out 2).trans rfl⟩ (fun hHeld=>?_)
                    clear hK K
                    refine norm_ (a' := ?_) ?_ ?_
                    rotate_left
                    · show Act.put _ (some 74) _ = _
                      simp only[Act.put,List.setIfInBounds_toArray,List.set_cons_zero,List.set_cons_succ,i64_w,i32_w]
                      rfl
                    refine one_ (i:=2) (N:=some 68) #[true,true,true,false,true,true,true,true,true,false,false,false,false] rfl rfl (one_of HT_.out (by kernel_rfl)) (by decide) (fun K hK=>?_)
                    refine Kd.N_lit_step k48 _ 48 ?hg (N':=68) ?hd (xs:=([(⟨(⟨x5_1,(wrap64 (x5_1 + t111))⟩:S41),x114002_2⟩:S48)]:List (S48))) (inner:=[.int .i64 x5_1,.int .i64 (wrap64 (x5_1 + t111)),.slice Ao58 x114002_2.length co58]) (ok:=(fun k_=>(w.heap.size≤k_)∧some k_≠(.slice Ao54 x6_1.length co54:Value).ownBlock∧some k_≠(v123:Value).ownBlock∧k_≠gb113∧k_≠g)) (okp:=(fun k_=>(w.heap.size≤k_)∧some k_≠(.slice Ao54 x6_1.length co54:Value).ownBlock∧some k_≠(v123:Value).ownBlock∧k_≠gb113∧k_≠g)) ?hr ?hp (fun _ hk=>hk) ((show ∀ k_,w56.heap.size≤k_ → (fun k_=>(w.heap.size≤k_)∧some k_≠(.slice Ao54 x6_1.length co54:Value).ownBlock∧some k_≠(v123:Value).ownBlock∧k_≠gb113∧k_≠g) k_ from fun k_ hk=>⟨(Nat.le_trans (keep_size (w:=w) (g:=g) (row:=none) (by repeat (first|(with_reducible first|exact HK.out|apply KeepBut.set_|apply keep_drewN|apply keep_drew|apply keep_alloc|refine keep_far ?_ GW113.out _)|exact HK.out))) hk),Kd.fresh' (Kd.N_lt (by (with_reducible repeat (first|apply Kd.N_alloc|apply Kd.N_drewN|apply Kd.N_drew));exact HO_6.out)) k_ hk,Kd.fresh' (Kd.R_lt (by (with_reducible repeat (first|apply Kd.R_alloc|apply Kd.R_drewN|apply Kd.R_drew));exact HO124.out)) k_ hk,Kd.freshB (g:=gb113) (o:=.cells #[.int .i64 x5_1,.int .i64 (wrap64 (x5_1 + t111)),.slice Ao58 x114002_2.length co58] 48 (0,0)) (by (with_reducible repeat (first|refine blk_drewN ?_ _|refine blk_drew ?_|refine blk_alloc ?_ _));exact BK113.out) k_ hk,IsS54.fresh (by repeat (first|(with_reducible first|exact HI0.out|apply IsS54.alloc|apply IsS54.drewN|apply IsS54.drew|apply IsS54.set_1|refine IsS54.far ?_ NB0_113.out _)|exact HI0.out)) k_ hk⟩) _ (Nat.le_refl _)) (Below.refl _ _) (Nat.le_refl _) (by simp) ?_;(case hd=>rfl);(case hg=>rfl);(case hr=>first|(go_simp;done)|(go_simp;rfl));(case hp=>exact(Reps.c3 (show Kd.FK k48 _ _ (⟨(⟨x5_1,(wrap64 (x5_1 + t111))⟩:S41),x114002_2⟩:S48) [.int .i64 x5_1,.int .i64 (wrap64 (x5_1 + t111)),.slice Ao58 x114002_2.length co58] from (k48_mkF _ _ (⟨(⟨x5_1,(wrap64 (x5_1 + t111))⟩:S41),x114002_2⟩:S48) (Kd.R_reads' (Kd.R_mono (ok':=(fun k_=>(w.heap.size≤k_)∧some k_≠(.slice Ao54 x6_1.length co54:Value).ownBlock∧some k_≠(v123:Value).ownBlock∧k_≠gb113∧k_≠g)) (IsS54.apart HI0.out (Kd.R_types (Kd.R_apart' (Kd.R_apart' (HO_114002.out) (Kd.N_typed HO_6.out) (by decide)) (Kd.R_typed HO124.out) (by decide)) BK113.out (by decide)) (by decide)) (fun k_ hk=>⟨hk.1.1.1.1,⟨hk.1.1.1.2,⟨hk.1.1.2,⟨hk.1.2,hk.2⟩⟩⟩⟩))).2.1 (Kd.R_F (Kd.R_mono (ok':=(fun k_=>(w.heap.size≤k_)∧some k_≠(.slice Ao54 x6_1.length co54:Value).ownBlock∧some k_≠(v123:Value).ownBlock∧k_≠gb113∧k_≠g)) (IsS54.apart HI0.out (Kd.R_types (Kd.R_apart' (Kd.R_apart' (HO_114002.out) (Kd.N_typed HO_6.out) (by decide)) (Kd.R_typed HO124.out) (by decide)) BK113.out (by decide)) (by decide)) (fun k_ hk=>⟨hk.1.1.1.1,⟨hk.1.1.1.2,⟨hk.1.1.2,⟨hk.1.2,hk.2⟩⟩⟩⟩))))) (Reps.none _ _)))
                    intro v117 w59 ho60 hb hg_ hnew_
                    clear hg_ hnew_
                    (first | rw [← Ny116.out] at ho60 | (simp only [Int.reduceToNat] at ho60; rw [← Ny116.out] at ho60))
                    have n0_:=Aside0.mk (Kd.N_elder' (by (with_reducible repeat (first|apply Kd.N_alloc|apply Kd.N_drewN|apply Kd.N_drew));exact HO_6.out) (Kd.N_base ho60) hb)
                    have n1_:=Aside0.mk (Kd.R_below (by (with_reducible repeat (first|apply Kd.R_alloc|apply Kd.R_drewN|apply Kd.R_drew));exact HO124.out) hb)
                    have n2_:=Aside0.mk (Kd.N_lower ho60 (keep_size (w:=w) (g:=g) (row:=none) (by repeat (first|(with_reducible first|exact HK.out|apply KeepBut.set_|apply keep_drewN|apply keep_drew|apply keep_alloc|refine keep_far ?_ GW113.out _)|exact HK.out))))
                    have n3_:=Aside0.mk (blk_below (g:=gb113) (o:=.cells #[.int .i64 x5_1,.int .i64 (wrap64 (x5_1 + t111)),.slice Ao58 x114002_2.length co58] 48 (0,0)) (by (with_reducible repeat (first|refine blk_drewN ?_ _|refine blk_drew ?_|refine blk_alloc ?_ _));exact BK113.out) hb)
                    have n4_:=Aside0.mk (IsS54.below (by repeat (first|(with_reducible first|exact HI0.out|apply IsS54.alloc|apply IsS54.drewN|apply IsS54.drew|apply IsS54.set_1|refine IsS54.far ?_ NB0_113.out _)|exact HI0.out)) hb)
                    have n5_:=Aside0.mk (KeepBut.trans (by repeat (first|(with_reducible first|exact HK.out|apply KeepBut.set_|apply keep_drewN|apply keep_drew|apply keep_alloc|refine keep_far ?_ GW113.out _)|exact HK.out)) (KeepBut.of_below hb g none) (.inl rfl))
                    have n6_:=Aside0.mk (below_step (by repeat (first|(with_reducible first|exact HB.out|apply below_alloc|apply pw_below_drewN|apply below_drew1|refine below_set ?_ (IsS54.ge HI0.out)|refine below_set ?_ GE113.out)|exact HB.out)) hb)
                    clear HO_6
                    clear HO124
                    clear BK113
                    clear HI0
                    clear HK
                    clear HB
                    clear HO_114002
                    have HO_6 := n0_
                    have HO124 := n1_
                    have HO118 := n2_
                    have BK113 := n3_
                    have HI0 := n4_
                    have HK := n5_
                    have HB := n6_
                    clear n0_ n1_ n2_ n3_ n4_ n5_ n6_
                    clear hb ho60
                    obtain ⟨Ao62, co62, eo62⟩ := Kd.N_slice HO118.out
                    (first|subst eo62|(injection eo62 with f1_ f2_ f3_;have f4_:=f1_.symm;have f5_:=f3_.symm;clear f1_ f2_ f3_;subst f4_;subst f5_))
                    refine hK.out _ _ ⟨(blk_cell BK113.out 0).trans rfl,(blk_cell BK113.out 1).trans rfl,(blk_cell BK113.out 2).trans rfl⟩ (fun hHeld=>?_)
                    clear hK K
                    refine norm_ (a' := ?_) ?_ ?_
                    rotate_left
                    · show Act.put _ (some 68) _ = _
                      simp only[Act.put,List.setIfInBounds_toArray,List.set_cons_zero,List.set_cons_succ,i64_w,i32_w]
                      rfl
                    refine one_ (i:=3) (N:=some 69) #[true,true,true,true,true,true,true,true,true,false,false,false,false] rfl rfl (one_of HT_.out (by kernel_rfl)) (by decide) (fun K hK=>?_)
                    refine Kd.N_append_rows_step k48 w.heap.size (by rfl) (.tmp 66) (.tmp 68) 37 48 (.agg #[(.int .i64 0),(.int .i64 0),(.slice none 0 0)]) 40 rfl Try.underlying37 info48 rfl (by decide) (by omega) (.slice Ao54 x6_1.length co54) x6_1 y116 _ _ _ (fun k_=>(w.heap.size≤k_)∧some k_≠(v123:Value).ownBlock∧k_≠gb113∧k_≠g) (fun k_=>((fun k_=>(w.heap.size≤k_)∧some k_≠(v123:Value).ownBlock∧k_≠gb113∧k_≠g)) k_∧some k_≠(.slice Ao54 x6_1.length co54:Value).ownBlock) rfl rfl ?aO ?aR (fun _ hk=>hk) ?aF (Below.refl _ _) ?aS ?aL ?_
                    (case aR=>exact(by skip;exact Kd.N_F (Kd.N_mono (ok':=(fun k_=>((fun k_=>(w.heap.size≤k_)∧some k_≠(v123:Value).ownBlock∧k_≠gb113∧k_≠g)) k_∧some k_≠(.slice Ao54 x6_1.length co54:Value).ownBlock)) (HO118.out) (fun k_ hk=>⟨⟨hk.1,⟨hk.2.2.1,⟨hk.2.2.2.1,hk.2.2.2.2⟩⟩⟩,hk.2.1⟩))))
                    (case aF=>exact(fun k_ hk=>⟨(Nat.le_trans (keep_size (w:=w) (g:=g) (row:=none) (by repeat (first|(with_reducible first|exact HK.out|apply KeepBut.set_|apply keep_drewN|apply keep_drew|apply keep_alloc|refine keep_far ?_ GW113.out _)|exact HK.out))) hk),Kd.fresh' (Kd.R_lt (by (with_reducible repeat (first|apply Kd.R_alloc|apply Kd.R_drewN|apply Kd.R_drew));exact HO124.out)) k_ hk,Kd.freshB (g:=gb113) (o:=.cells #[.int .i64 x5_1,.int .i64 (wrap64 (x5_1 + t111)),.slice Ao58 x114002_2.length co58] 48 (0,0)) (by (with_reducible repeat (first|refine blk_drewN ?_ _|refine blk_drew ?_|refine blk_alloc ?_ _));exact BK113.out) k_ hk,IsS54.fresh (by repeat (first|(with_reducible first|exact HI0.out|apply IsS54.alloc|apply IsS54.drewN|apply IsS54.drew|apply IsS54.set_1|refine IsS54.far ?_ NB0_113.out _)|exact HI0.out)) k_ hk⟩))
                    (case aO=>exact(by (with_reducible repeat (first|apply Kd.N_alloc|apply Kd.N_drewN|apply Kd.N_drew));exact Kd.N_mono HO_6.out (fun _ hk=>⟨hk.1.1.1,⟨hk.1.2,⟨hk.1.1.2.2.1,hk.1.1.2.2.2⟩⟩⟩)))
                    (case aS=>exact(keep_size (w:=w) (g:=g) (row:=none) (by repeat (first|(with_reducible first|exact HK.out|apply KeepBut.set_|apply keep_drewN|apply keep_drew|apply keep_alloc|refine keep_far ?_ GW113.out _)|exact HK.out))))
                    (case aL => have := LMc52.out; omega)
                    intro v120 w61 ho hb hg hat
                    rw [← Ny119.out] at ho
                    have n0_:=Aside0.mk (blk_grown (g:=gb113) (o:=.cells #[.int .i64 x5_1,.int .i64 (wrap64 (x5_1 + t111)),.slice Ao58 x114002_2.length co58] 48 (0,0)) (by (with_reducible repeat (first|refine blk_drewN ?_ _|refine blk_drew ?_|refine blk_alloc ?_ _));exact BK113.out) hg (Kd.N_away HO_6.out (fun _ hk=>hk.1.1.2.2.1)))
                    have n1_:=Aside0.mk (IsS54.grown (by repeat (first|(with_reducible first|exact HI0.out|apply IsS54.alloc|apply IsS54.drewN|apply IsS54.drew|apply IsS54.set_1|refine IsS54.far ?_ NB0_113.out _)|exact HI0.out)) hg (IsS54.own_neN HI0.out HO_6.out (by decide)))
                    have n2_:=Aside0.mk (Kd.R_over' (by (with_reducible repeat (first|apply Kd.R_alloc|apply Kd.R_drewN|apply Kd.R_drew));exact HO124.out) (Kd.N_typed (by (with_reducible repeat (first|apply Kd.N_alloc|apply Kd.N_drewN|apply Kd.N_drew));exact HO_6.out)) (by decide) hg)
                    have n3_:=Aside0.mk (Kd.N_afterv (ok:=(fun k_=>(w.heap.size≤k_)∧some k_≠(v123:Value).ownBlock∧k_≠gb113∧k_≠g)) (by (with_reducible repeat (first|apply Kd.N_alloc|apply Kd.N_drewN|apply Kd.N_drew));exact Kd.N_mono HO118.out (fun _ hk=>⟨⟨hk.1,⟨hk.2.2.1,⟨hk.2.2.2.1,hk.2.2.2.2⟩⟩⟩,hk.2.1⟩)) hg hat)
                    have n4_:=Aside0.mk (below_weaken (by repeat (first|(with_reducible first|exact HB.out|apply below_alloc|apply pw_below_drewN|apply below_drew1|refine below_set ?_ (IsS54.ge HI0.out)|refine below_set ?_ GE113.out)|exact HB.out)) HL.out hb)
                    have n5_:=Aside0.mk (KeepBut.trans (by repeat (first|(with_reducible first|exact HK.out|apply KeepBut.set_|apply keep_drewN|apply keep_drew|apply keep_alloc|refine keep_far ?_ GW113.out _)|exact HK.out)) (KeepBut.of_grown hg g) (Kd.N_base2 HO_6.out))
                    have n6_ := Aside0.mk (ho)
                    clear BK113
                    clear HI0
                    clear HO124
                    clear HO118
                    clear HB
                    clear HK
                    clear HO_6
                    have BK113 := n0_
                    have HI0 := n1_
                    have HO124 := n2_
                    have HO118 := n3_
                    have HB := n4_
                    have HK := n5_
                    have HO121 := n6_
                    clear n0_ n1_ n2_ n3_ n4_ n5_ n6_
                    clear ho hb hg hat
                    refine hK.out _ _ ⟨(blk_cell BK113.out 0).trans rfl,(blk_cell BK113.out 1).trans rfl,(blk_cell BK113.out 2).trans rfl⟩ (fun hHeld=>?_)
                    clear hK K
                    refine norm_ (a' := ?_) ?_ ?_
                    rotate_left
                    · show Act.put _ (some 69) _ = _
                      simp only[Act.put,List.setIfInBounds_toArray,List.set_cons_zero,List.set_cons_succ,i64_w,i32_w]
                      rfl
                    exact norm_ (by simp only[putAll,Act.put,List.setIfInBounds_toArray,List.set_cons_zero,List.set_cons_succ]) (hCont (.slice Ao62 y116.length co62,v120,v123) _ ⟨hHeld,(by (with_reducible repeat (first|apply Kd.N_alloc|apply Kd.N_drewN|apply Kd.N_drew));exact Kd.N_mono HO118.out (fun _ hk=>⟨hk.1.1,⟨hk.2,⟨hk.1.2.1,⟨hk.1.2.2.2,hk.1.2.2.1⟩⟩⟩⟩)),(by (with_reducible repeat (first|apply Kd.N_alloc|apply Kd.N_drewN|apply Kd.N_drew));exact Kd.N_mono HO121.out (fun _ hk=>⟨hk.1,⟨hk.2.1,⟨hk.2.2.2,hk.2.2.1⟩⟩⟩)),(by (with_reducible repeat (first|apply Kd.R_alloc|apply Kd.R_drewN|apply Kd.R_drew));exact Kd.R_mono HO124.out (fun _ hk=>hk.1)),(by (with_reducible repeat (first|refine blk_drewN ?_ _|refine blk_drew ?_|refine blk_alloc ?_ _));exact BK113.out),(by repeat (first|(with_reducible first|exact HI0.out|apply IsS54.alloc|apply IsS54.drewN|apply IsS54.drew|apply IsS54.set_1|refine IsS54.far ?_ NB0_113.out _)|exact HI0.out)),(by repeat (first|(with_reducible first|exact HK.out|apply KeepBut.set_|apply keep_drewN|apply keep_drew|apply keep_alloc|refine keep_far ?_ GW113.out _)|exact HK.out)),(by repeat (first|(with_reducible first|exact HB.out|apply below_alloc|apply pw_below_drewN|apply below_drew1|refine below_set ?_ (IsS54.ge HI0.out)|refine below_set ?_ GE113.out)|exact HB.out))⟩)
                rintro ⟨v117, v120, v123⟩ w63 ⟨hS_, h0_, h1_, h2_, h3_, h4_, h5_, h6_⟩
                have n0_:Aside0 (Kd.N k48 48 w63 w.heap.size (fun k_=>(w.heap.size≤k_)∧some k_≠(v120:Value).ownBlock∧some k_≠(v123:Value).ownBlock∧k_≠g∧k_≠gb113) v117 y116):=⟨h0_⟩
                have n1_:Aside0 (Kd.N k48 48 w63 w.heap.size (fun k_=>(w.heap.size≤k_)∧some k_≠(v123:Value).ownBlock∧k_≠g∧k_≠gb113) v120 y119):=⟨h1_⟩
                have n2_:Aside0 (Kd.R (Kd.int .i64) 3 w63 w.heap.size (fun k_=>(w.heap.size≤k_)) v123 y122):=⟨h2_⟩
                have n3_:Aside0 (w63.heap[gb113]? = some (.cells #[.int .i64 x5_1,.int .i64 (wrap64 (x5_1 + t111)),.slice Ao56 x114002_2.length co56] 48 (0,0))):=⟨h3_⟩
                have n4_ : Aside0 (IsS54 w0 w63 g s0_0 x1001_2) := ⟨h4_⟩
                have n5_ : Aside0 (KeepBut w w63 g none) := ⟨h5_⟩
                have n6_ : Aside0 (Below w0.heap.size w0 w63) := ⟨h6_⟩
                clear HO_6
                clear HO_114002
                clear BK113
                clear HI0
                clear HK
                clear HB
                clear h0_ h1_ h2_ h3_ h4_ h5_ h6_
                have HO118 := n0_
                have HO121 := n1_
                have HO124 := n2_
                have BK113 := n3_
                have HI0 := n4_
                have HK := n5_
                have HB := n6_
                clear n0_ n1_ n2_ n3_ n4_ n5_ n6_
                have hHeld:w63.cell? ⟨gb113,0,none⟩ = some (.int .i64 x5_1)∧w63.cell? ⟨gb113,1,none⟩ = some (.int .i64 (wrap64 (x5_1 + t111)))∧w63.cell? ⟨gb113,2,none⟩ = some (.slice Ao56 x114002_2.length co56):=hS_
                obtain ⟨Ao64, co64, eo64⟩ := Kd.R_slice HO124.out
                (first|subst eo64|(injection eo64 with f1_ f2_ f3_;have f4_:=f1_.symm;have f5_:=f3_.symm;clear f1_ f2_ f3_;subst f4_;subst f5_))
                refine norm_ (a' := ?_) ?_ ?_
                rotate_left
                · simp only [putAll, Act.put, List.setIfInBounds_toArray, List.set_cons_zero, List.set_cons_succ]
                  rfl
                refine one_ (i:=9) (N:=some 75) #[true,true,true,true,true,true,true,true,true,true,false,false,false] rfl rfl (one_of HT_.out (by kernel_rfl)) (by decide) (fun K hK=>?_)
                refine goes_ Try.func18 (by kernel_rfl) rfl #[.pointer (some ⟨g,0,none⟩),.slice Ao64 y122.length co64] (by rfl) rfl rfl (by (try simp only[List.map_toArray,List.map_cons,List.map_nil]);first|done|rfl|(simp only[List.length_drop,List.length_take];rfl)) ?_
                with_reducible refine (payrollgen_Tape_Pick.calls g s0_0 x1001_2 _ _ y122 t125 t126 w0 _ ?side1 ?side2 ?side3 ?side4 ?side5 A53.out).mono ?_
                (case side1=>repeat (first|(with_reducible first|exact HI0.out|apply IsS54.alloc|apply IsS54.drewN|apply IsS54.drew|apply IsS54.set_1|refine IsS54.far ?_ NB0_113.out _)|exact HI0.out))
                (case side2=>repeat (first|(with_reducible first|exact HB.out|apply below_alloc|apply pw_below_drewN|apply below_drew1|refine below_set ?_ (IsS54.ge HI0.out)|refine below_set ?_ GE113.out)|exact HB.out))
                (case side3=>repeat (first|exact(Kd.R_reads' HO124.out).2.2|(with_reducible refine Kd.C_alloc ?_ _)|(with_reducible refine Kd.C_drewN ?_ _)|(with_reducible refine Kd.C_drew ?_)))
                (case side4 => exact (Kd.R_reads' HO124.out).2.1)
                (case side5 => exact far_slice (IsS54.own_ne HI0.out HO124.out (by decide)))
                rintro e w65 ⟨rfl, hi, hb, hk⟩
                refine ⟨_, rfl, ?_⟩
                have n0_:=Aside0.mk (KeepBut.blk hk (g':=gb113) (o:=.cells #[.int .i64 x5_1,.int .i64 (wrap64 (x5_1 + t111)),.slice Ao56 x114002_2.length co56] 48 (0,0)) (by (with_reducible repeat (first|refine blk_drewN ?_ _|refine blk_drew ?_|refine blk_alloc ?_ _));exact BK113.out) NB113_0.out (by simp))
                have n1_:=Aside0.mk (Kd.N_mono (Kd.N_keep (Kd.N_mono (ok:=fun k_=>(((w.heap.size≤k_))∧(some k_≠(v120:Value).ownBlock∧(some k_≠(.slice Ao64 y122.length co64:Value).ownBlock∧(k_≠g∧k_≠gb113))))) (by (with_reducible repeat (first|apply Kd.N_alloc|apply Kd.N_drewN|apply Kd.N_drew));exact HO118.out) (fun k_ hk_=>(⟨hk_,hk_.2.2.2.1⟩:_∧k_≠g))) hk (fun _ h=>h.2)) (fun _ h=>h.1))
                have n2_:=Aside0.mk (Kd.N_mono (Kd.N_keep (Kd.N_mono (ok:=fun k_=>(((w.heap.size≤k_))∧(some k_≠(.slice Ao64 y122.length co64:Value).ownBlock∧(k_≠g∧k_≠gb113)))) (by (with_reducible repeat (first|apply Kd.N_alloc|apply Kd.N_drewN|apply Kd.N_drew));exact HO121.out) (fun k_ hk_=>(⟨hk_,hk_.2.2.1⟩:_∧k_≠g))) hk (fun _ h=>h.2)) (fun _ h=>h.1))
                have n3_:=Aside0.mk (Kd.R_mono (Kd.R_keep (IsS54.apart (show IsS54 w0 _ g s0_0 x1001_2 from by repeat (first|(with_reducible first|exact HI0.out|apply IsS54.alloc|apply IsS54.drewN|apply IsS54.drew|apply IsS54.set_1|refine IsS54.far ?_ NB0_113.out _)|exact HI0.out)) (by (with_reducible repeat (first|apply Kd.R_alloc|apply Kd.R_drewN|apply Kd.R_drew));exact HO124.out) (by decide)) hk (fun _ h=>h.2)) (fun _ h=>h.1))
                have n4_:=Aside0.mk (KeepBut.trans (by repeat (first|(with_reducible first|exact HK.out|apply KeepBut.set_|apply keep_drewN|apply keep_drew|apply keep_alloc|refine keep_far ?_ GW113.out _)|exact HK.out)) hk (.inl rfl))
                have n5_ := Aside0.mk (hb)
                have n6_ := Aside0.mk (hi)
                clear BK113
                clear HO118
                clear HO121
                clear HO124
                clear HK
                clear HB
                clear HI0
                have BK113 := n0_
                have HO118 := n1_
                have HO121 := n2_
                have HO124 := n3_
                have HK := n4_
                have HB := n5_
                have HI0 := n6_
                clear n0_ n1_ n2_ n3_ n4_ n5_ n6_
                (try clear hb)
                (try clear hb2)
                (try clear hk)
                (try clear hi)
                refine hK.out _ _ ⟨(blk_cell BK113.out 0).trans rfl,(blk_cell BK113.out 1).trans rfl,(blk_cell BK113.out 2).trans rfl⟩ (fun hHeld=>?_)
                clear hK K
                refine norm_ (a' := ?_) ?_ ?_
                rotate_left
                · show Act.put _ (some 75) _ = _
                  simp only [Act.put, List.setIfInBounds_toArray, List.set_cons_zero, List.set_cons_succ, i64_w, i32_w]
                  rfl
                refine pure_ (i:=10) (N:=some 76) (v:=?_) (a':=?_) #[true,true,true,true,true,true,true,true,true,true,true,false,false] rfl rfl (any_of HT_.out (by kernel_rfl)) (fun _ _ _ h=>h) (Or.inl ⟨by rfl,?_⟩) ?_ ?_
                rotate_left
                · intro w'
                  go_simp
                  with_reducible rfl
                rotate_left
                · simp only [Act.put, List.setIfInBounds_toArray, List.set_cons_zero, List.set_cons_succ, i64_w, i32_w]
                  rfl
                refine pure_ (i:=11) (N:=some 6) (v:=?_) (a':=?_) #[true,true,true,true,true,true,true,true,true,true,true,true,false] rfl rfl (any_of HT_.out (by kernel_rfl)) (fun _ _ _ h=>h) (Or.inl ⟨by rfl,?_⟩) ?_ ?_
                rotate_left
                · intro w'
                  go_simp
                  with_reducible rfl
                rotate_left
                · simp only [Act.put, List.setIfInBounds_toArray, List.set_cons_zero, List.set_cons_succ, i64_w, i32_w]
                  rfl
                refine pure_ (i:=12) (N:=some 5) (v:=?_) (a':=?_) #[true,true,true,true,true,true,true,true,true,true,true,true,true] rfl rfl (any_of HT_.out (by kernel_rfl)) (fun _ _ _ h=>h) (Or.inl ⟨by rfl,?_⟩) ?_ ?_
                rotate_left
                · intro w'
                  go_simp
                  with_reducible rfl
                rotate_left
                · simp only [Act.put, List.setIfInBounds_toArray, List.set_cons_zero, List.set_cons_succ, i64_w, i32_w]
                  rfl
                refine done_ (done_of HT_.out (by kernel_rfl)) ?_
                try go_wp2
                go_roundg k2
                case measure => have := HK1.out; have := HK2.out; omega
                case rel=>exact⟨(wrap64 ((wrap64 (x5_1 + t111)) + t125)),(y119),(wrap64 (x7_1 - 1)),(t126),(by first|rfl|(simp;done)|(simp[*];done)),(by first|rfl|(simp;done)|(simp[*];done)),H',⟨by have:=HK1.out;have:=HK2.out;omega⟩,⟨by (with_reducible repeat (first|apply Kd.N_alloc|apply Kd.N_drewN|apply Kd.N_drew));exact Kd.N_mono HO121.out (fun _ hk=>⟨hk.1,hk.2.2.1⟩)⟩,⟨by repeat (first|(with_reducible first|exact HI0.out|apply IsS54.alloc|apply IsS54.drewN|apply IsS54.drew|apply IsS54.set_1|refine IsS54.far ?_ NB0_113.out _)|exact HI0.out)⟩,⟨by repeat (first|(with_reducible first|exact HK.out|apply KeepBut.set_|apply keep_drewN|apply keep_drew|apply keep_alloc|refine keep_far ?_ GW113.out _)|exact HK.out)⟩,⟨by repeat (first|(with_reducible first|exact HB.out|apply below_alloc|apply pw_below_drewN|apply below_drew1|refine below_set ?_ (IsS54.ge HI0.out)|refine below_set ?_ GE113.out)|exact HB.out)⟩⟩
              · rw [if_neg c52] at H
                exact absurd H (by simp)
      · rw [if_neg c10] at H
        have c10b0 : decide (0 < x7_1) = false := decide_eq_false c10
        clear c10
        simp only [Option.some.injEq, Prod.mk.injEq] at H
        obtain ⟨rfl, rfl⟩ := H
        go_wp2
        go_ret
        exact⟨_,by first|rfl|(simp[errW_none,errW_some] <;> rfl)|(simp[*,errW_none,errW_some] <;> rfl),by (with_reducible repeat (first|apply Kd.N_alloc|apply Kd.N_drewN|apply Kd.N_drew));exact Kd.N_mono HO_6.out (fun _ hk=>hk.1),by repeat (first|(with_reducible first|exact HI0.out|apply IsS54.alloc|apply IsS54.drewN|apply IsS54.drew|apply IsS54.set_1)|exact HI0.out),by repeat (first|(with_reducible first|exact HB.out|apply below_alloc|apply pw_below_drewN|apply below_drew1|refine below_set ?_ (IsS54.ge HI0.out))|exact HB.out),by repeat (first|(with_reducible first|exact HK.out|apply KeepBut.set_|apply keep_drewN|apply keep_drew|apply keep_alloc)|exact HK.out)⟩
end Go.Proofs.Ythdohkabcpdpdaa.P
