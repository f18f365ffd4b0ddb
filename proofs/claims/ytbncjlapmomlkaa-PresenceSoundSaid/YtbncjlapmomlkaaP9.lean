-- Written for this claim by a program of this session (hybrid.py) over the kit's print. Not trusted: Lean checks it.
import Derived.Test.YtbncjlapmomlkaaP0
import Derived.Test.YtbncjlapmomlkaaP2
import Derived.Test.YtbncjlapmomlkaaP5
import Derived.Test.YtbncjlapmomlkaaP6
import Derived.Test.YtbncjlapmomlkaaP7
namespace Go.Proofs.Ytbncjlapmomlkaa.P
open Go.RowKit Go.Proofs.YtbncjlapmomlkaaW.PrintWords Go.Proofs.YtbncjlapmomlkaaW.PrintLast Go.Proofs.YtbncjlapmomlkaaW.PrintMore
attribute [local go_sem] max2_int min2_int max_two min_two max_three min_three max_four min_four   -- for this text's walks alone
set_option linter.unusedVariables false
set_option linter.unusedSimpArgs false

attribute [local go_sem high] eqA62
/-! ### payrolllaw9_sane: function 12 -/
def payrolllaw9_sane.f (k : Nat)  : Option (Bool) := (presence_Pair.f (([(⟨480, 1, (⟨0, 0⟩ : S32)⟩ : S34), (⟨720, 3, (⟨0, 0⟩ : S32)⟩ : S34), (⟨750, 4, (⟨0, 0⟩ : S32)⟩ : S34), (⟨1020, 2, (⟨0, 0⟩ : S32)⟩ : S34)] : List (S34))) 900).bind fun bt104 => ((presence_Pair.f (([(⟨480, 1, (⟨0, 0⟩ : S32)⟩ : S34), (⟨500, 1, (⟨0, 0⟩ : S32)⟩ : S34), (⟨1000, 2, (⟨0, 0⟩ : S32)⟩ : S34)] : List (S34))) 900).bind fun bt114 => (if bt104.2.2 = 0 then (if (bt104.1.length : Int) = 1 then (if (bt104.2.1.length : Int) = 0 then (if 0 < (bt104.1.length : Int) then ((presence_Minutes.f k ((rd_T29 bt104.1 0).f0.f0) ((rd_T29 bt104.1 0).f0.f1) ((rd_T29 bt104.1 0).f1)).bind fun t122 => (if t122 = 510 then (if bt114.2.2 = 0 then (if (bt114.1.length : Int) = 1 then (if 0 < (bt114.1.length : Int) then (if ((rd_T29 bt114.1 0).f0.f0) = 500 then (if (bt114.2.1.length : Int) = 1 then (if 0 < (bt114.2.1.length : Int) then (if (((rd_T62 bt114.2.1 0).f0) == 1 && (((rd_T62 bt114.2.1 0).f1) == 480)) = true then ((presence_Valid.f k bt104.1).bind fun t125 => (some (t125 == 0))) else (some false)) else (none)) else (some false)) else (some false)) else (none)) else (some false)) else (some false)) else (some false))) else (none)) else (some false)) else (some false)) else (some false)))
theorem payrolllaw9_sane.mono : ∀ k, LeO (payrolllaw9_sane.f k ) (payrolllaw9_sane.f (k + 1) ) := by
  intro  k
  unfold payrolllaw9_sane.f
  repeat' first
      | (with_reducible exact presence_Minutes.mono _ _ _ _)
      | (with_reducible exact presence_Valid.mono _ _)
      | (with_reducible exact LeO.refl _)
      | (with_reducible exact LeO.none _)
      | (with_reducible refine LeO.ite ?_ ?_)
      | (with_reducible refine LeO.bind ?_ (fun _ => ?_))
      | exact presence_Minutes.mono _ _ _ _
      | exact presence_Valid.mono _ _
      | exact LeO.none _
      | refine LeO.ite ?_ ?_
      | refine LeO.bind ?_ (fun _ => ?_)
set_option maxHeartbeats 8000000 in
set_option maxRecDepth 100000 in
theorem payrolllaw9_sane.calls (k : Nat)  (r : Bool) (w : World) (hrt : r = true) (h : payrolllaw9_sane.f k  = some r) :
    Calls Try.prog 12 #[] w fun e w' => e = .returned (.bool r) ∧ Below w.heap.size w w' := by
  have HRT := Aside0.mk hrt
  clear hrt
  have hu34 := Try.underlying34
  have hu29 := Try.underlying29
  have hu62 := Try.underlying62
  have HB := Aside0.mk (Below.refl w.heap.size w)
  have H : ((presence_Pair.f (([(⟨480, 1, (⟨0, 0⟩ : S32)⟩ : S34), (⟨720, 3, (⟨0, 0⟩ : S32)⟩ : S34), (⟨750, 4, (⟨0, 0⟩ : S32)⟩ : S34), (⟨1020, 2, (⟨0, 0⟩ : S32)⟩ : S34)] : List (S34))) 900).bind fun bt104 => ((presence_Pair.f (([(⟨480, 1, (⟨0, 0⟩ : S32)⟩ : S34), (⟨500, 1, (⟨0, 0⟩ : S32)⟩ : S34), (⟨1000, 2, (⟨0, 0⟩ : S32)⟩ : S34)] : List (S34))) 900).bind fun bt114 => (if bt104.2.2 = 0 then (if (bt104.1.length : Int) = 1 then (if (bt104.2.1.length : Int) = 0 then (if 0 < (bt104.1.length : Int) then ((presence_Minutes.f k ((rd_T29 bt104.1 0).f0.f0) ((rd_T29 bt104.1 0).f0.f1) ((rd_T29 bt104.1 0).f1)).bind fun t122 => (if t122 = 510 then (if bt114.2.2 = 0 then (if (bt114.1.length : Int) = 1 then (if 0 < (bt114.1.length : Int) then (if ((rd_T29 bt114.1 0).f0.f0) = 500 then (if (bt114.2.1.length : Int) = 1 then (if 0 < (bt114.2.1.length : Int) then (if (((rd_T62 bt114.2.1 0).f0) == 1 && (((rd_T62 bt114.2.1 0).f1) == 480)) = true then ((presence_Valid.f k bt104.1).bind fun t125 => (some (t125 == 0))) else (some false)) else (none)) else (some false)) else (some false)) else (none)) else (some false)) else (some false)) else (some false))) else (none)) else (some false)) else (some false)) else (some false)))) = some r := h
  clear h
  obtain ⟨y101, hy101⟩ : ∃ y_ : List (S34), y_ = (([(⟨480, 1, (⟨0, 0⟩ : S32)⟩ : S34), (⟨720, 3, (⟨0, 0⟩ : S32)⟩ : S34), (⟨750, 4, (⟨0, 0⟩ : S32)⟩ : S34), (⟨1020, 2, (⟨0, 0⟩ : S32)⟩ : S34)] : List (S34))) := ⟨_, rfl⟩
  replace H : ((presence_Pair.f y101 900).bind fun bt104 => ((presence_Pair.f (([(⟨480, 1, (⟨0, 0⟩ : S32)⟩ : S34), (⟨500, 1, (⟨0, 0⟩ : S32)⟩ : S34), (⟨1000, 2, (⟨0, 0⟩ : S32)⟩ : S34)] : List (S34))) 900).bind fun bt114 => (if bt104.2.2 = 0 then (if (bt104.1.length : Int) = 1 then (if (bt104.2.1.length : Int) = 0 then (if 0 < (bt104.1.length : Int) then ((presence_Minutes.f k ((rd_T29 bt104.1 0).f0.f0) ((rd_T29 bt104.1 0).f0.f1) ((rd_T29 bt104.1 0).f1)).bind fun t122 => (if t122 = 510 then (if bt114.2.2 = 0 then (if (bt114.1.length : Int) = 1 then (if 0 < (bt114.1.length : Int) then (if ((rd_T29 bt114.1 0).f0.f0) = 500 then (if (bt114.2.1.length : Int) = 1 then (if 0 < (bt114.2.1.length : Int) then (if (((rd_T62 bt114.2.1 0).f0) == 1 && (((rd_T62 bt114.2.1 0).f1) == 480)) = true then ((presence_Valid.f k bt104.1).bind fun t125 => (some (t125 == 0))) else (some false)) else (none)) else (some false)) else (some false)) else (none)) else (some false)) else (some false)) else (some false))) else (none)) else (some false)) else (some false)) else (some false)))) = some r := by first | (rw [hy101]; with_reducible exact H) | (have H2_ := (Option.bind_some _ _).symm.trans H; rw [hy101]; with_reducible exact H2_) | (have H2_ := (Option.bind_some _ _).symm.trans H; with_reducible exact H2_) | with_reducible exact H | (rw [hy101]; exact H) | exact H
  have Ny101 := Aside0.mk hy101
  clear hy101
  replace H := Option.bind_eq_some_iff.mp H
  obtain ⟨⟨t104, t107, t110⟩, A10, H⟩ := H
  replace H : ((presence_Pair.f (([(⟨480, 1, (⟨0, 0⟩ : S32)⟩ : S34), (⟨500, 1, (⟨0, 0⟩ : S32)⟩ : S34), (⟨1000, 2, (⟨0, 0⟩ : S32)⟩ : S34)] : List (S34))) 900).bind fun bt114 => (if t110 = 0 then (if (t104.length : Int) = 1 then (if (t107.length : Int) = 0 then (if 0 < (t104.length : Int) then ((presence_Minutes.f k ((rd_T29 t104 0).f0.f0) ((rd_T29 t104 0).f0.f1) ((rd_T29 t104 0).f1)).bind fun t122 => (if t122 = 510 then (if bt114.2.2 = 0 then (if (bt114.1.length : Int) = 1 then (if 0 < (bt114.1.length : Int) then (if ((rd_T29 bt114.1 0).f0.f0) = 500 then (if (bt114.2.1.length : Int) = 1 then (if 0 < (bt114.2.1.length : Int) then (if (((rd_T62 bt114.2.1 0).f0) == 1 && (((rd_T62 bt114.2.1 0).f1) == 480)) = true then ((presence_Valid.f k t104).bind fun t125 => (some (t125 == 0))) else (some false)) else (none)) else (some false)) else (some false)) else (none)) else (some false)) else (some false)) else (some false))) else (none)) else (some false)) else (some false)) else (some false))) = some r := H
  have A1 := Aside0.mk A10
  clear A10
  obtain ⟨y111, hy111⟩ : ∃ y_ : List (S34), y_ = (([(⟨480, 1, (⟨0, 0⟩ : S32)⟩ : S34), (⟨500, 1, (⟨0, 0⟩ : S32)⟩ : S34), (⟨1000, 2, (⟨0, 0⟩ : S32)⟩ : S34)] : List (S34))) := ⟨_, rfl⟩
  replace H : ((presence_Pair.f y111 900).bind fun bt114 => (if t110 = 0 then (if (t104.length : Int) = 1 then (if (t107.length : Int) = 0 then (if 0 < (t104.length : Int) then ((presence_Minutes.f k ((rd_T29 t104 0).f0.f0) ((rd_T29 t104 0).f0.f1) ((rd_T29 t104 0).f1)).bind fun t122 => (if t122 = 510 then (if bt114.2.2 = 0 then (if (bt114.1.length : Int) = 1 then (if 0 < (bt114.1.length : Int) then (if ((rd_T29 bt114.1 0).f0.f0) = 500 then (if (bt114.2.1.length : Int) = 1 then (if 0 < (bt114.2.1.length : Int) then (if (((rd_T62 bt114.2.1 0).f0) == 1 && (((rd_T62 bt114.2.1 0).f1) == 480)) = true then ((presence_Valid.f k t104).bind fun t125 => (some (t125 == 0))) else (some false)) else (none)) else (some false)) else (some false)) else (none)) else (some false)) else (some false)) else (some false))) else (none)) else (some false)) else (some false)) else (some false))) = some r := by first | (rw [hy111]; with_reducible exact H) | (have H2_ := (Option.bind_some _ _).symm.trans H; rw [hy111]; with_reducible exact H2_) | (have H2_ := (Option.bind_some _ _).symm.trans H; with_reducible exact H2_) | with_reducible exact H | (rw [hy111]; exact H) | exact H
  have Ny111 := Aside0.mk hy111
  clear hy111
  replace H := Option.bind_eq_some_iff.mp H
  obtain ⟨⟨t114, t117, t120⟩, A20, H⟩ := H
  replace H : (if t110 = 0 then (if (t104.length : Int) = 1 then (if (t107.length : Int) = 0 then (if 0 < (t104.length : Int) then ((presence_Minutes.f k ((rd_T29 t104 0).f0.f0) ((rd_T29 t104 0).f0.f1) ((rd_T29 t104 0).f1)).bind fun t122 => (if t122 = 510 then (if t120 = 0 then (if (t114.length : Int) = 1 then (if 0 < (t114.length : Int) then (if ((rd_T29 t114 0).f0.f0) = 500 then (if (t117.length : Int) = 1 then (if 0 < (t117.length : Int) then (if (((rd_T62 t117 0).f0) == 1 && (((rd_T62 t117 0).f1) == 480)) = true then ((presence_Valid.f k t104).bind fun t125 => (some (t125 == 0))) else (some false)) else (none)) else (some false)) else (some false)) else (none)) else (some false)) else (some false)) else (some false))) else (none)) else (some false)) else (some false)) else (some false)) = some r := H
  have A2 := Aside0.mk A20
  clear A20
  by_cases c3 : t110 = 0
  · rw [if_pos c3] at H
    have c3b0 : (t110 == 0) = true := beq_iff_eq.mpr c3
    have c3b1 : (t110 != 0) = false := bne_eq_false_iff_eq.mpr c3
    clear c3
    by_cases c4 : (t104.length : Int) = 1
    · rw [if_pos c4] at H
      have c4b0 : ((t104.length : Int) == 1) = true := beq_iff_eq.mpr c4
      have c4b1 : ((t104.length : Int) != 1) = false := bne_eq_false_iff_eq.mpr c4
      clear c4
      by_cases c5 : (t107.length : Int) = 0
      · rw [if_pos c5] at H
        have c5b0 : ((t107.length : Int) == 0) = true := beq_iff_eq.mpr c5
        have c5b1 : ((t107.length : Int) != 0) = false := bne_eq_false_iff_eq.mpr c5
        clear c5
        by_cases c6 : 0 < (t104.length : Int)
        · rw [if_pos c6] at H
          have c6b0 : decide (0 < (t104.length : Int)) = true := decide_eq_true c6
          have c6b1 : decide (0 < t104.length) = true := decide_eq_true (by omega)
          clear c6
          replace H := Option.bind_eq_some_iff.mp H
          obtain ⟨t122, A70, H⟩ := H
          replace H : (if t122 = 510 then (if t120 = 0 then (if (t114.length : Int) = 1 then (if 0 < (t114.length : Int) then (if ((rd_T29 t114 0).f0.f0) = 500 then (if (t117.length : Int) = 1 then (if 0 < (t117.length : Int) then (if (((rd_T62 t117 0).f0) == 1 && (((rd_T62 t117 0).f1) == 480)) = true then ((presence_Valid.f k t104).bind fun t125 => (some (t125 == 0))) else (some false)) else (none)) else (some false)) else (some false)) else (none)) else (some false)) else (some false)) else (some false)) = some r := H
          have A7 := Aside0.mk A70
          clear A70
          by_cases c8 : t122 = 510
          · rw [if_pos c8] at H
            have c8b0 : (t122 == 510) = true := beq_iff_eq.mpr c8
            have c8b1 : (t122 != 510) = false := bne_eq_false_iff_eq.mpr c8
            clear c8
            by_cases c9 : t120 = 0
            · rw [if_pos c9] at H
              have c9b0 : (t120 == 0) = true := beq_iff_eq.mpr c9
              have c9b1 : (t120 != 0) = false := bne_eq_false_iff_eq.mpr c9
              clear c9
              by_cases c10 : (t114.length : Int) = 1
              · rw [if_pos c10] at H
                have c10b0 : ((t114.length : Int) == 1) = true := beq_iff_eq.mpr c10
                have c10b1 : ((t114.length : Int) != 1) = false := bne_eq_false_iff_eq.mpr c10
                clear c10
                by_cases c11 : 0 < (t114.length : Int)
                · rw [if_pos c11] at H
                  have c11b0 : decide (0 < (t114.length : Int)) = true := decide_eq_true c11
                  have c11b1 : decide (0 < t114.length) = true := decide_eq_true (by omega)
                  clear c11
                  by_cases c12 : ((rd_T29 t114 0).f0.f0) = 500
                  · rw [if_pos c12] at H
                    have c12b0 : (((rd_T29 t114 0).f0.f0) == 500) = true := beq_iff_eq.mpr c12
                    have c12b1 : (((rd_T29 t114 0).f0.f0) != 500) = false := bne_eq_false_iff_eq.mpr c12
                    clear c12
                    by_cases c13 : (t117.length : Int) = 1
                    · rw [if_pos c13] at H
                      have c13b0 : ((t117.length : Int) == 1) = true := beq_iff_eq.mpr c13
                      have c13b1 : ((t117.length : Int) != 1) = false := bne_eq_false_iff_eq.mpr c13
                      clear c13
                      by_cases c14 : 0 < (t117.length : Int)
                      · rw [if_pos c14] at H
                        have c14b0 : decide (0 < (t117.length : Int)) = true := decide_eq_true c14
                        have c14b1 : decide (0 < t117.length) = true := decide_eq_true (by omega)
                        clear c14
                        by_cases c15 : (((rd_T62 t117 0).f0) == 1 && (((rd_T62 t117 0).f1) == 480)) = true
                        · rw [if_pos c15] at H
                          have c15b0 : (((rd_T62 t117 0).f0) == 1 && (((rd_T62 t117 0).f1) == 480)) = true := c15
                          (try (have c15b1 : decide (((rd_T62 t117 0).f0) = 1 && (((rd_T62 t117 0).f1) == 480)) = true := by simpa using c15))
                          (try (have c15b2 : (((rd_T62 t117 0).f0) == 1 && (((rd_T62 t117 0).f1) == 480)) = true := by simpa using c15))
                          clear c15
                          replace H := Option.bind_eq_some_iff.mp H
                          obtain ⟨t125, A160, H⟩ := H
                          replace H : (some (t125 == 0)) = some r := H
                          have A16 := Aside0.mk A160
                          clear A160
                          obtain rfl := Option.some.inj H
                          go_enter Try.func12, Try.ntmps12
                          go_wp2_with (first | ((with_reducible refine gate_dst (N := 12) rfl ?_); (try (refine gate_guard (by rfl) ?_; dsimp only)); refine Kd.R_lit k34 _ 34 ?hg (N := 12) ?hd (xs := ([(⟨480, 1, (⟨0, 0⟩ : S32)⟩ : S34), (⟨720, 3, (⟨0, 0⟩ : S32)⟩ : S34), (⟨750, 4, (⟨0, 0⟩ : S32)⟩ : S34), (⟨1020, 2, (⟨0, 0⟩ : S32)⟩ : S34)] : List (S34))) (inner := [.int .i64 480, .int .i64 1, .int .i64 0, .int .i64 0, .int .i64 720, .int .i64 3, .int .i64 0, .int .i64 0, .int .i64 750, .int .i64 4, .int .i64 0, .int .i64 0, .int .i64 1020, .int .i64 2, .int .i64 0, .int .i64 0]) (ok := fun _ => True) (okp := fun _ => True) ?hr ?hp (fun _ hk => hk) trivial (Below.refl _ _) (Nat.le_refl _) (by simp) ?_; (case hd => rfl); (case hg => rfl); (case hr => first | (go_simp; done) | (go_simp; rfl)); (case hp => exact (Reps.c4 (show Kd.M k34 _ _ _ (⟨480, 1, (⟨0, 0⟩ : S32)⟩ : S34) [.int .i64 480, .int .i64 1, .int .i64 0, .int .i64 0] from (k34_mkM _ _ _ (⟨480, 1, (⟨0, 0⟩ : S32)⟩ : S34) )) (Reps.c4 (show Kd.M k34 _ _ _ (⟨720, 3, (⟨0, 0⟩ : S32)⟩ : S34) [.int .i64 720, .int .i64 3, .int .i64 0, .int .i64 0] from (k34_mkM _ _ _ (⟨720, 3, (⟨0, 0⟩ : S32)⟩ : S34) )) (Reps.c4 (show Kd.M k34 _ _ _ (⟨750, 4, (⟨0, 0⟩ : S32)⟩ : S34) [.int .i64 750, .int .i64 4, .int .i64 0, .int .i64 0] from (k34_mkM _ _ _ (⟨750, 4, (⟨0, 0⟩ : S32)⟩ : S34) )) (Reps.c4 (show Kd.M k34 _ _ _ (⟨1020, 2, (⟨0, 0⟩ : S32)⟩ : S34) [.int .i64 1020, .int .i64 2, .int .i64 0, .int .i64 0] from (k34_mkM _ _ _ (⟨1020, 2, (⟨0, 0⟩ : S32)⟩ : S34) )) (Reps.none _ _)))))); intro v102 w17 ho18 hb hg_ hnew_; clear hg_ hnew_; (first | rw [← Ny101.out] at ho18 | (simp only [Int.reduceToNat] at ho18; rw [← Ny101.out] at ho18)); have n0_ := Aside0.mk (Kd.R_lower ho18 (below_size (by repeat (first | (with_reducible first | exact HB.out | apply below_alloc | apply pw_below_drewN | apply below_drew1) | exact HB.out)))); have n1_ := Aside0.mk (below_step (by repeat (first | (with_reducible first | exact HB.out | apply below_alloc | apply pw_below_drewN | apply below_drew1) | exact HB.out)) hb); clear HB; have HO103 := n0_; have HB := n1_; clear n0_ n1_; clear hb ho18; obtain ⟨Ao19, co19, eo19⟩ := Kd.R_slice HO103.out; subst eo19) | ((with_reducible refine gate_callee (f := 8) rfl ?_); refine goesL_ (some 13) rfl rfl Try.func8 (by kernel_rfl) rfl #[.slice Ao19 y101.length co19, .int .i64 900] rfl (by (try simp only [List.map_toArray, List.map_cons, List.map_nil]); first | done | rfl | (simp only [List.length_drop, List.length_take]; rfl)) ?_; (with_reducible refine (presence_Pair.calls _ _ y101 900 t104 t107 t110 _ ?side1 ?side2 A1.out).mono ?_); (case side1 => repeat (first | exact (Kd.R_reads' HO103.out).2.2 | (with_reducible refine Kd.C_alloc ?_ _) | (with_reducible refine Kd.C_drewN ?_ _) | (with_reducible refine Kd.C_drew ?_))); (case side2 => exact (Kd.R_reads' HO103.out).2.1); rintro e w20 ⟨v105, v108, rfl, ho0, ho1, hb⟩; refine ⟨_, rfl, ?_⟩; have n0_ := Aside0.mk (Kd.R_below (by (with_reducible repeat (first | apply Kd.R_alloc | apply Kd.R_drewN | apply Kd.R_drew)); exact HO103.out) hb); have n1_ := Aside0.mk (Kd.N_lower (Kd.N_mono (ok' := fun k_ => some k_ ≠ (v108 : Value).ownBlock ∧ some k_ ≠ (.slice Ao19 y101.length co19 : Value).ownBlock) ho0 (fun k_ hk_ => ⟨hk_.2, (Kd.fresh' (Kd.R_lt (by (with_reducible repeat (first | apply Kd.R_alloc | apply Kd.R_drewN | apply Kd.R_drew)); exact HO103.out)) k_ hk_.1)⟩)) (below_size (by repeat (first | (with_reducible first | exact HB.out | apply below_alloc | apply pw_below_drewN | apply below_drew1) | exact HB.out)))); have n2_ := Aside0.mk (Kd.R_lower (Kd.R_mono (ok' := fun k_ => True) ho1 (fun _ hk_ => trivial)) (below_size (by repeat (first | (with_reducible first | exact HB.out | apply below_alloc | apply pw_below_drewN | apply below_drew1) | exact HB.out)))); have n3_ := Aside0.mk (below_step (by repeat (first | (with_reducible first | exact HB.out | apply below_alloc | apply pw_below_drewN | apply below_drew1) | exact HB.out)) hb); clear HO103; clear HB; have HO103 := n0_; have HO106 := n1_; have HO109 := n2_; have HB := n3_; clear n0_ n1_ n2_ n3_; (try clear hb); (try clear hb2); (try clear hk); (try clear hi); (try clear ho0); (try clear ho1)) | ((with_reducible refine gate_dst (N := 21) rfl ?_); (try (refine gate_guard (by rfl) ?_; dsimp only)); refine Kd.R_lit k34 _ 34 ?hg (N := 21) ?hd (xs := ([(⟨480, 1, (⟨0, 0⟩ : S32)⟩ : S34), (⟨500, 1, (⟨0, 0⟩ : S32)⟩ : S34), (⟨1000, 2, (⟨0, 0⟩ : S32)⟩ : S34)] : List (S34))) (inner := [.int .i64 480, .int .i64 1, .int .i64 0, .int .i64 0, .int .i64 500, .int .i64 1, .int .i64 0, .int .i64 0, .int .i64 1000, .int .i64 2, .int .i64 0, .int .i64 0]) (ok := fun _ => True) (okp := fun _ => True) ?hr ?hp (fun _ hk => hk) trivial (Below.refl _ _) (Nat.le_refl _) (by simp) ?_; (case hd => rfl); (case hg => rfl); (case hr => first | (go_simp; done) | (go_simp; rfl)); (case hp => exact (Reps.c4 (show Kd.M k34 _ _ _ (⟨480, 1, (⟨0, 0⟩ : S32)⟩ : S34) [.int .i64 480, .int .i64 1, .int .i64 0, .int .i64 0] from (k34_mkM _ _ _ (⟨480, 1, (⟨0, 0⟩ : S32)⟩ : S34) )) (Reps.c4 (show Kd.M k34 _ _ _ (⟨500, 1, (⟨0, 0⟩ : S32)⟩ : S34) [.int .i64 500, .int .i64 1, .int .i64 0, .int .i64 0] from (k34_mkM _ _ _ (⟨500, 1, (⟨0, 0⟩ : S32)⟩ : S34) )) (Reps.c4 (show Kd.M k34 _ _ _ (⟨1000, 2, (⟨0, 0⟩ : S32)⟩ : S34) [.int .i64 1000, .int .i64 2, .int .i64 0, .int .i64 0] from (k34_mkM _ _ _ (⟨1000, 2, (⟨0, 0⟩ : S32)⟩ : S34) )) (Reps.none _ _))))); intro v112 w21 ho22 hb hg_ hnew_; clear hg_ hnew_; (first | rw [← Ny111.out] at ho22 | (simp only [Int.reduceToNat] at ho22; rw [← Ny111.out] at ho22)); have n0_ := Aside0.mk (Kd.R_elder' (by (with_reducible repeat (first | apply Kd.R_alloc | apply Kd.R_drewN | apply Kd.R_drew)); exact HO103.out) (Kd.R_base ho22) hb); have n1_ := Aside0.mk (Kd.N_elder' (by (with_reducible repeat (first | apply Kd.N_alloc | apply Kd.N_drewN | apply Kd.N_drew)); exact HO106.out) (Kd.R_base ho22) hb); have n2_ := Aside0.mk (Kd.R_below (by (with_reducible repeat (first | apply Kd.R_alloc | apply Kd.R_drewN | apply Kd.R_drew)); exact HO109.out) hb); have n3_ := Aside0.mk (Kd.R_lower (Kd.R_new' ho22 (Kd.R_lt (by (with_reducible repeat (first | apply Kd.R_alloc | apply Kd.R_drewN | apply Kd.R_drew)); exact HO103.out))) (below_size (by repeat (first | (with_reducible first | exact HB.out | apply below_alloc | apply pw_below_drewN | apply below_drew1) | exact HB.out)))); have n4_ := Aside0.mk (below_step (by repeat (first | (with_reducible first | exact HB.out | apply below_alloc | apply pw_below_drewN | apply below_drew1) | exact HB.out)) hb); clear HO103; clear HO106; clear HO109; clear HB; have HO103 := n0_; have HO106 := n1_; have HO109 := n2_; have HO113 := n3_; have HB := n4_; clear n0_ n1_ n2_ n3_ n4_; clear hb ho22; obtain ⟨Ao23, co23, eo23⟩ := Kd.R_slice HO113.out; subst eo23) | ((with_reducible refine gate_callee (f := 8) rfl ?_); refine goesL_ (some 22) rfl rfl Try.func8 (by kernel_rfl) rfl #[.slice Ao23 y111.length co23, .int .i64 900] rfl (by (try simp only [List.map_toArray, List.map_cons, List.map_nil]); first | done | rfl | (simp only [List.length_drop, List.length_take]; rfl)) ?_; (with_reducible refine (presence_Pair.calls _ _ y111 900 t114 t117 t120 _ ?side1 ?side2 A2.out).mono ?_); (case side1 => repeat (first | exact (Kd.R_reads' HO113.out).2.2 | (with_reducible refine Kd.C_alloc ?_ _) | (with_reducible refine Kd.C_drewN ?_ _) | (with_reducible refine Kd.C_drew ?_))); (case side2 => exact (Kd.R_reads' HO113.out).2.1); rintro e w24 ⟨v115, v118, rfl, ho0, ho1, hb⟩; refine ⟨_, rfl, ?_⟩; have n0_ := Aside0.mk (Kd.R_below (by (with_reducible repeat (first | apply Kd.R_alloc | apply Kd.R_drewN | apply Kd.R_drew)); exact HO103.out) hb); have n1_ := Aside0.mk (Kd.N_mono (Kd.N_told (Kd.N_told (Kd.N_old (by (with_reducible repeat (first | apply Kd.N_alloc | apply Kd.N_drewN | apply Kd.N_drew)); exact HO106.out) hb) (Kd.N_base ho0)) (Kd.R_base ho1)) (fun _ h_ => h_.1)); have n2_ := Aside0.mk (Kd.R_elder' (by (with_reducible repeat (first | apply Kd.R_alloc | apply Kd.R_drewN | apply Kd.R_drew)); exact HO109.out) (Kd.R_base ho1) hb); have n3_ := Aside0.mk (Kd.R_below (by (with_reducible repeat (first | apply Kd.R_alloc | apply Kd.R_drewN | apply Kd.R_drew)); exact HO113.out) hb); have n4_ := Aside0.mk (Kd.N_lower (Kd.N_mono (ok' := fun k_ => some k_ ≠ (v118 : Value).ownBlock ∧ some k_ ≠ (.slice Ao19 y101.length co19 : Value).ownBlock ∧ some k_ ≠ (v105 : Value).ownBlock ∧ some k_ ≠ (v108 : Value).ownBlock ∧ some k_ ≠ (.slice Ao23 y111.length co23 : Value).ownBlock) ho0 (fun k_ hk_ => ⟨hk_.2, (Kd.fresh' (Kd.R_lt (by (with_reducible repeat (first | apply Kd.R_alloc | apply Kd.R_drewN | apply Kd.R_drew)); exact HO103.out)) k_ hk_.1), (Kd.fresh' (Kd.N_lt (by (with_reducible repeat (first | apply Kd.N_alloc | apply Kd.N_drewN | apply Kd.N_drew)); exact HO106.out)) k_ hk_.1), (Kd.fresh' (Kd.R_lt (by (with_reducible repeat (first | apply Kd.R_alloc | apply Kd.R_drewN | apply Kd.R_drew)); exact HO109.out)) k_ hk_.1), (Kd.fresh' (Kd.R_lt (by (with_reducible repeat (first | apply Kd.R_alloc | apply Kd.R_drewN | apply Kd.R_drew)); exact HO113.out)) k_ hk_.1)⟩)) (below_size (by repeat (first | (with_reducible first | exact HB.out | apply below_alloc | apply pw_below_drewN | apply below_drew1) | exact HB.out)))); have n5_ := Aside0.mk (Kd.R_lower (Kd.R_new' (Kd.R_mono (ok' := fun k_ => True) ho1 (fun _ hk_ => trivial)) (Kd.R_lt (by (with_reducible repeat (first | apply Kd.R_alloc | apply Kd.R_drewN | apply Kd.R_drew)); exact HO109.out))) (below_size (by repeat (first | (with_reducible first | exact HB.out | apply below_alloc | apply pw_below_drewN | apply below_drew1) | exact HB.out)))); have n6_ := Aside0.mk (below_step (by repeat (first | (with_reducible first | exact HB.out | apply below_alloc | apply pw_below_drewN | apply below_drew1) | exact HB.out)) hb); clear HO103; clear HO106; clear HO109; clear HO113; clear HB; have HO103 := n0_; have HO106 := n1_; have HO109 := n2_; have HO113 := n3_; have HO116 := n4_; have HO119 := n5_; have HB := n6_; clear n0_ n1_ n2_ n3_ n4_ n5_ n6_; (try clear hb); (try clear hb2); (try clear hk); (try clear hi); (try clear ho0); (try clear ho1); obtain ⟨Ao25, co25, eo25⟩ := Kd.N_slice HO106.out; subst eo25; obtain ⟨Ao26, co26, eo26⟩ := Kd.R_slice HO109.out; subst eo26; have p121 : 0 ≤ (0 : Int) := (by omega); have q121 : 0 < (t104.length : Int) := of_decide_eq_true (by first | (with_reducible assumption) | assumption); obtain ⟨ad121, A121_2, c121_2, e121, hx121_0, hx121_1, hx121_2, hl121_2, hi121_2⟩ := at_T29 (Kd.N_reads' HO106.out).2.2 0 p121 q121; cases e121; obtain ⟨ce121, hce121, hMe121, hcc121⟩ := Kd.N_get HO106.out z29 0 p121 (by first | exact q121 | exact of_decide_eq_true (by first | (with_reducible assumption) | assumption) | (have e_ := (Kd.N_reads' HO106.out).1; omega)); obtain ⟨ua121_2, uc121_2, rfl, ul121_2, ge121_2⟩ := k29_openF hMe121; have hv121_2 := hcc121 2 _ rfl; rw [add_field _ _ 2 (by omega)] at hv121_2; replace hv121_2 := Option.some.inj (hv121_2.symm.trans hx121_2); injection hv121_2 with hva_ hvn_ hvc_; rw [hva_] at ge121_2; rw [hvc_] at ul121_2; have HL121_2 := Aside0.mk (show Kd.V k26 26 _ w.heap.size _ _ ((rd_T29 t104 0).f1) from Kd.V_mk ul121_2 ge121_2); clear hva_ hvn_ hvc_ ge121_2 ul121_2; clear hcc121 hce121; have qi121 : (0 < t104.length) = True := eq_true (by omega); (try rw [show ((0 : Int)).toNat = 0 from rfl] at hx121_0); (try rw [show 0 * 3 = 0 from rfl] at hx121_0); (try rw [Addr.add_zero'] at hx121_0); (try rw [show ((0 : Int)).toNat = 0 from rfl] at hx121_1); (try rw [show 0 * 3 = 0 from rfl] at hx121_1); (try rw [Addr.add_zero'] at hx121_1); (try rw [show ((0 : Int)).toNat = 0 from rfl] at hx121_2); (try rw [show 0 * 3 = 0 from rfl] at hx121_2); (try rw [Addr.add_zero'] at hx121_2); have HR121_2 := Aside0.mk hi121_2; have HC121_2 := Aside0.mk hl121_2; clear hi121_2 hl121_2; replace p121 := eq_true p121; replace q121 := eq_true q121) | (go_at_call 10; (with_reducible refine (presence_Minutes.calls k ((rd_T29 t104 0).f0.f0) ((rd_T29 t104 0).f0.f1) (fun k_ => (((((some k_ ≠ (.slice Ao26 t107.length co26 : Value).ownBlock ∧ some k_ ≠ (.slice Ao19 y101.length co19 : Value).ownBlock) ∧ some k_ ≠ (.slice Ao23 y111.length co23 : Value).ownBlock) ∧ some k_ ≠ (v115 : Value).ownBlock) ∧ some k_ ≠ (v118 : Value).ownBlock) ∧ some k_ ≠ (.slice (some ad121) t104.length co25 : Value).ownBlock)) _ _ ((rd_T29 t104 0).f1) t122 _ ?side1 A7.out).mono ?_); (case side1 => exact HL121_2.out); rintro e w27 ⟨rfl, hb⟩; have n0_ := Aside0.mk (Kd.R_below (by (with_reducible repeat (first | apply Kd.R_alloc | apply Kd.R_drewN | apply Kd.R_drew)); exact HO103.out) hb); have n1_ := Aside0.mk (Kd.N_below (by (with_reducible repeat (first | apply Kd.N_alloc | apply Kd.N_drewN | apply Kd.N_drew)); exact HO106.out) hb); have n2_ := Aside0.mk (Kd.R_below (by (with_reducible repeat (first | apply Kd.R_alloc | apply Kd.R_drewN | apply Kd.R_drew)); exact HO109.out) hb); have n3_ := Aside0.mk (Kd.R_below (by (with_reducible repeat (first | apply Kd.R_alloc | apply Kd.R_drewN | apply Kd.R_drew)); exact HO113.out) hb); have n4_ := Aside0.mk (Kd.N_below (by (with_reducible repeat (first | apply Kd.N_alloc | apply Kd.N_drewN | apply Kd.N_drew)); exact HO116.out) hb); have n5_ := Aside0.mk (Kd.R_below (by (with_reducible repeat (first | apply Kd.R_alloc | apply Kd.R_drewN | apply Kd.R_drew)); exact HO119.out) hb); have n6_ := Aside0.mk (Kd.V_below (by (with_reducible repeat (first | apply Kd.V_alloc | apply Kd.V_drewN | apply Kd.V_drew)); exact HL121_2.out) hb); have n7_ := Aside0.mk (Kd.C_below (by repeat (first | (with_reducible exact HR121_2.out) | (with_reducible refine Kd.C_alloc ?_ _) | (with_reducible refine Kd.C_drewN ?_ _) | (with_reducible refine Kd.C_drew ?_) | exact HR121_2.out)) hb); have n8_ := Aside0.mk (below_step (by repeat (first | (with_reducible first | exact HB.out | apply below_alloc | apply pw_below_drewN | apply below_drew1) | exact HB.out)) hb); clear HO103; clear HO106; clear HO109; clear HO113; clear HO116; clear HO119; clear HL121_2; clear HR121_2; clear HB; have HO103 := n0_; have HO106 := n1_; have HO109 := n2_; have HO113 := n3_; have HO116 := n4_; have HO119 := n5_; have HL121_2 := n6_; have HR121_2 := n7_; have HB := n8_; clear n0_ n1_ n2_ n3_ n4_ n5_ n6_ n7_ n8_; (try clear hb); (try clear hb2); (try clear hk); (try clear hi); obtain ⟨Ao28, co28, eo28⟩ := Kd.N_slice HO116.out; subst eo28; have p123 : 0 ≤ (0 : Int) := (by omega); have q123 : 0 < (t114.length : Int) := of_decide_eq_true (by first | (with_reducible assumption) | assumption); obtain ⟨ad123, A123_2, c123_2, e123, hx123_0, hx123_1, hx123_2, hl123_2, hi123_2⟩ := at_T29 (Kd.N_reads' HO116.out).2.2 0 p123 q123; cases e123; obtain ⟨ce123, hce123, hMe123, hcc123⟩ := Kd.N_get HO116.out z29 0 p123 (by first | exact q123 | exact of_decide_eq_true (by first | (with_reducible assumption) | assumption) | (have e_ := (Kd.N_reads' HO116.out).1; omega)); obtain ⟨ua123_2, uc123_2, rfl, ul123_2, ge123_2⟩ := k29_openF hMe123; have hv123_2 := hcc123 2 _ rfl; rw [add_field _ _ 2 (by omega)] at hv123_2; replace hv123_2 := Option.some.inj (hv123_2.symm.trans hx123_2); injection hv123_2 with hva_ hvn_ hvc_; rw [hva_] at ge123_2; rw [hvc_] at ul123_2; have HL123_2 := Aside0.mk (show Kd.V k26 26 _ w.heap.size _ _ ((rd_T29 t114 0).f1) from Kd.V_mk ul123_2 ge123_2); clear hva_ hvn_ hvc_ ge123_2 ul123_2; clear hcc123 hce123; have qi123 : (0 < t114.length) = True := eq_true (by omega); (try rw [show ((0 : Int)).toNat = 0 from rfl] at hx123_0); (try rw [show 0 * 3 = 0 from rfl] at hx123_0); (try rw [Addr.add_zero'] at hx123_0); (try rw [show ((0 : Int)).toNat = 0 from rfl] at hx123_1); (try rw [show 0 * 3 = 0 from rfl] at hx123_1); (try rw [Addr.add_zero'] at hx123_1); (try rw [show ((0 : Int)).toNat = 0 from rfl] at hx123_2); (try rw [show 0 * 3 = 0 from rfl] at hx123_2); (try rw [Addr.add_zero'] at hx123_2); have HR123_2 := Aside0.mk hi123_2; have HC123_2 := Aside0.mk hl123_2; clear hi123_2 hl123_2; replace p123 := eq_true p123; replace q123 := eq_true q123; obtain ⟨Ao29, co29, eo29⟩ := Kd.R_slice HO119.out; subst eo29; have p124 : 0 ≤ (0 : Int) := (by omega); have q124 : 0 < (t117.length : Int) := of_decide_eq_true (by first | (with_reducible assumption) | assumption); obtain ⟨ad124, e124, hx124_0, hx124_1⟩ := at_T62 (Kd.R_reads' HO119.out).2.2 0 p124 q124; cases e124; have qi124 : (0 < t117.length) = True := eq_true (by omega); (try rw [show ((0 : Int)).toNat = 0 from rfl] at hx124_0); (try rw [show 0 * 2 = 0 from rfl] at hx124_0); (try rw [Addr.add_zero'] at hx124_0); (try rw [show ((0 : Int)).toNat = 0 from rfl] at hx124_1); (try rw [show 0 * 2 = 0 from rfl] at hx124_1); (try rw [Addr.add_zero'] at hx124_1); replace p124 := eq_true p124; replace q124 := eq_true q124) | (go_at_call 9; (with_reducible refine (presence_Valid.calls k _ _ t104 t125 _ ?side1 ?side2 A16.out).mono ?_); (case side1 => repeat (first | exact (Kd.N_reads' HO106.out).2.2 | (with_reducible refine Kd.C_alloc ?_ _) | (with_reducible refine Kd.C_drewN ?_ _) | (with_reducible refine Kd.C_drew ?_))); (case side2 => exact (Kd.N_reads' HO106.out).2.1); rintro e w30 ⟨rfl, hb⟩; have n0_ := Aside0.mk (Kd.R_below (by (with_reducible repeat (first | apply Kd.R_alloc | apply Kd.R_drewN | apply Kd.R_drew)); exact HO103.out) hb); have n1_ := Aside0.mk (Kd.N_below (by (with_reducible repeat (first | apply Kd.N_alloc | apply Kd.N_drewN | apply Kd.N_drew)); exact HO106.out) hb); have n2_ := Aside0.mk (Kd.R_below (by (with_reducible repeat (first | apply Kd.R_alloc | apply Kd.R_drewN | apply Kd.R_drew)); exact HO109.out) hb); have n3_ := Aside0.mk (Kd.R_below (by (with_reducible repeat (first | apply Kd.R_alloc | apply Kd.R_drewN | apply Kd.R_drew)); exact HO113.out) hb); have n4_ := Aside0.mk (Kd.N_below (by (with_reducible repeat (first | apply Kd.N_alloc | apply Kd.N_drewN | apply Kd.N_drew)); exact HO116.out) hb); have n5_ := Aside0.mk (Kd.R_below (by (with_reducible repeat (first | apply Kd.R_alloc | apply Kd.R_drewN | apply Kd.R_drew)); exact HO119.out) hb); have n6_ := Aside0.mk (Kd.V_below (by (with_reducible repeat (first | apply Kd.V_alloc | apply Kd.V_drewN | apply Kd.V_drew)); exact HL121_2.out) hb); have n7_ := Aside0.mk (Kd.V_below (by (with_reducible repeat (first | apply Kd.V_alloc | apply Kd.V_drewN | apply Kd.V_drew)); exact HL123_2.out) hb); have n8_ := Aside0.mk (Kd.C_below (by repeat (first | (with_reducible exact HR121_2.out) | (with_reducible refine Kd.C_alloc ?_ _) | (with_reducible refine Kd.C_drewN ?_ _) | (with_reducible refine Kd.C_drew ?_) | exact HR121_2.out)) hb); have n9_ := Aside0.mk (Kd.C_below (by repeat (first | (with_reducible exact HR123_2.out) | (with_reducible refine Kd.C_alloc ?_ _) | (with_reducible refine Kd.C_drewN ?_ _) | (with_reducible refine Kd.C_drew ?_) | exact HR123_2.out)) hb); have n10_ := Aside0.mk (below_step (by repeat (first | (with_reducible first | exact HB.out | apply below_alloc | apply pw_below_drewN | apply below_drew1) | exact HB.out)) hb); clear HO103; clear HO106; clear HO109; clear HO113; clear HO116; clear HO119; clear HL121_2; clear HL123_2; clear HR121_2; clear HR123_2; clear HB; have HO103 := n0_; have HO106 := n1_; have HO109 := n2_; have HO113 := n3_; have HO116 := n4_; have HO119 := n5_; have HL121_2 := n6_; have HL123_2 := n7_; have HR121_2 := n8_; have HR123_2 := n9_; have HB := n10_; clear n0_ n1_ n2_ n3_ n4_ n5_ n6_ n7_ n8_ n9_ n10_; (try clear hb); (try clear hb2); (try clear hk); (try clear hi)))
                          go_ret
                          exact ⟨by first | rfl | (simp [errW_none, errW_some] <;> rfl) | (simp [*, errW_none, errW_some] <;> rfl), by repeat (first | (with_reducible first | exact HB.out | apply below_alloc | apply pw_below_drewN | apply below_drew1) | exact HB.out)⟩
                        · rw [if_neg c15] at H
                          have c15b0 : (((rd_T62 t117 0).f0) == 1 && (((rd_T62 t117 0).f1) == 480)) = false := by simpa using c15
                          (try (have c15b1 : decide (((rd_T62 t117 0).f0) = 1 && (((rd_T62 t117 0).f1) == 480)) = false := by simpa using c15))
                          (try (have c15b2 : (((rd_T62 t117 0).f0) == 1 && (((rd_T62 t117 0).f1) == 480)) = false := by simpa using c15))
                          (try (have c15b3 : ¬ (((rd_T62 t117 0).f0) = 1 && (((rd_T62 t117 0).f1) == 480)) := by simpa using c15))
                          clear c15
                          exact absurd (H.trans (congrArg some HRT.out)) (by simp)
                      · rw [if_neg c14] at H
                        exact absurd H (by simp)
                    · rw [if_neg c13] at H
                      have c13b0 : ((t117.length : Int) == 1) = false := beq_eq_false_iff_ne.mpr c13
                      have c13b1 : ((t117.length : Int) != 1) = true := bne_iff_ne.mpr c13
                      exact absurd (H.trans (congrArg some HRT.out)) (by simp)
                  · rw [if_neg c12] at H
                    have c12b0 : (((rd_T29 t114 0).f0.f0) == 500) = false := beq_eq_false_iff_ne.mpr c12
                    have c12b1 : (((rd_T29 t114 0).f0.f0) != 500) = true := bne_iff_ne.mpr c12
                    exact absurd (H.trans (congrArg some HRT.out)) (by simp)
                · rw [if_neg c11] at H
                  exact absurd H (by simp)
              · rw [if_neg c10] at H
                have c10b0 : ((t114.length : Int) == 1) = false := beq_eq_false_iff_ne.mpr c10
                have c10b1 : ((t114.length : Int) != 1) = true := bne_iff_ne.mpr c10
                exact absurd (H.trans (congrArg some HRT.out)) (by simp)
            · rw [if_neg c9] at H
              have c9b0 : (t120 == 0) = false := beq_eq_false_iff_ne.mpr c9
              have c9b1 : (t120 != 0) = true := bne_iff_ne.mpr c9
              exact absurd (H.trans (congrArg some HRT.out)) (by simp)
          · rw [if_neg c8] at H
            have c8b0 : (t122 == 510) = false := beq_eq_false_iff_ne.mpr c8
            have c8b1 : (t122 != 510) = true := bne_iff_ne.mpr c8
            exact absurd (H.trans (congrArg some HRT.out)) (by simp)
        · rw [if_neg c6] at H
          exact absurd H (by simp)
      · rw [if_neg c5] at H
        have c5b0 : ((t107.length : Int) == 0) = false := beq_eq_false_iff_ne.mpr c5
        have c5b1 : ((t107.length : Int) != 0) = true := bne_iff_ne.mpr c5
        have c5b2 : ¬ (t107 = []) := fun h_ => c5 (by rw [h_]; rfl)
        exact absurd (H.trans (congrArg some HRT.out)) (by simp)
    · rw [if_neg c4] at H
      have c4b0 : ((t104.length : Int) == 1) = false := beq_eq_false_iff_ne.mpr c4
      have c4b1 : ((t104.length : Int) != 1) = true := bne_iff_ne.mpr c4
      exact absurd (H.trans (congrArg some HRT.out)) (by simp)
  · rw [if_neg c3] at H
    have c3b0 : (t110 == 0) = false := beq_eq_false_iff_ne.mpr c3
    have c3b1 : (t110 != 0) = true := bne_iff_ne.mpr c3
    exact absurd (H.trans (congrArg some HRT.out)) (by simp)

/-- A state of type 64 at block g of W; what its slices lead to came in by w0. -/
def IsS64 (w0 W : World) (g : Nat) (f0 : List Int) (f1 : Int) : Prop := ∃ A0 c0, W.heap[g]? = some (.cells #[.slice A0 f0.length c0, .int .i64 f1] 64 (0, 0)) ∧ w0.heap.size ≤ g ∧ Kd.C (Kd.int .i64) w0 A0 f0.length f0
theorem IsS64.grown {w0 W : World} {g : Nat} {f0 : List Int} {f1 : Int} {W1 : World} {row : Option Nat} (h : IsS64 w0 W g f0 f1) (hw : W.grownBy W1 row) (hne : some g ≠ row) : IsS64 w0 W1 g f0 f1 := by
  obtain ⟨A0, c0, hb, hg, hr0⟩ := h
  exact ⟨A0, c0, blk_grown hb hw hne, hg, hr0⟩
theorem IsS64.own_neN {w0 W : World} {g : Nat} {f0 : List Int} {f1 : Int} {α : Type} {d : Kd α} {e : Nat} {base : Nat} {ok : Nat → Prop} {v : Value} {xs : List α} (h : IsS64 w0 W g f0 f1) (ho : Kd.N d e W base ok v xs) (ht : e ≠ 64) : some g ≠ v.ownBlock := by
  obtain ⟨A0, c0, hb, hg, hr0⟩ := h
  exact Kd.N_ne ho hb ht
theorem IsS64.fresh {w0 W : World} {g : Nat} {f0 : List Int} {f1 : Int} (h : IsS64 w0 W g f0 f1) : ∀ k, W.heap.size ≤ k → k ≠ g := by
  obtain ⟨A0, c0, hb, hg, hr0⟩ := h
  exact Kd.freshB hb
theorem IsS64.kept {w0 W : World} {g : Nat} {f0 : List Int} {f1 : Int} {W1 : World} {S : Nat → Prop} (h : IsS64 w0 W g f0 f1) (hk : Kept W W1 S) (hne : ¬ S g) : IsS64 w0 W1 g f0 f1 := by
  obtain ⟨A0, c0, hb, hg, hr0⟩ := h
  exact ⟨A0, c0, blk_kept hb hk hne, hg, hr0⟩
theorem IsS64.below {w0 W : World} {g : Nat} {f0 : List Int} {f1 : Int} {W1 : World} (h : IsS64 w0 W g f0 f1) (hw : Below W.heap.size W W1) : IsS64 w0 W1 g f0 f1 := h.grown (grown_of_below hw none) (by simp)
theorem IsS64.alloc {w0 W : World} {g : Nat} {f0 : List Int} {f1 : Int} (h : IsS64 w0 W g f0 f1) (o : Obj) : IsS64 w0 (W.alloc o) g f0 f1 := h.below (below_alloc (Below.refl _ _) o)
theorem IsS64.drewN {w0 W : World} {g : Nat} {f0 : List Int} {f1 : Int} (h : IsS64 w0 W g f0 f1) (m : Nat) : IsS64 w0 (W.drewN m) g f0 f1 := h
theorem IsS64.drew {w0 W : World} {g : Nat} {f0 : List Int} {f1 : Int} (h : IsS64 w0 W g f0 f1) : IsS64 w0 W.drew g f0 f1 := h
theorem IsS64.at_ {w0 W : World} {g : Nat} {f0 : List Int} {f1 : Int} {w' : World} {m : Nat} (hq : W.drewN m = w') (h : IsS64 w0 W g f0 f1) : IsS64 w0 w' g f0 f1 := by subst hq; exact IsS64.drewN h m
theorem IsS64.apart {w0 W : World} {g : Nat} {f0 : List Int} {f1 : Int} {α : Type} {d : Kd α} {e : Nat} {base : Nat} {ok : Nat → Prop} {v : Value} {xs : List α} (h : IsS64 w0 W g f0 f1) (ho : d.R e W base ok v xs) (ht : ∀ q, q ∈ e :: d.E → q ≠ 64) : d.R e W base (fun k => ok k ∧ k ≠ g) v xs := by
  obtain ⟨A0, c0, hb, hg, hr0⟩ := h
  exact Kd.R_types ho hb ht
theorem IsS64.own_ne {w0 W : World} {g : Nat} {f0 : List Int} {f1 : Int} {α : Type} {d : Kd α} {e : Nat} {base : Nat} {ok : Nat → Prop} {v : Value} {xs : List α} (h : IsS64 w0 W g f0 f1) (ho : d.R e W base ok v xs) (ht : e ≠ 64) : some g ≠ v.ownBlock := by
  obtain ⟨A0, c0, hb, hg, hr0⟩ := h
  exact Kd.R_ne ho hb ht
theorem IsS64.apartQ {w0 W : World} {g : Nat} {f0 : List Int} {f1 : Int} {α : Type} {d : Kd α} {e : Nat} {base : Nat} {ok : Nat → Prop} {v : Value} {xs : List α} (h : IsS64 w0 W g f0 f1) (ho : d.Q e W base ok v xs) (ht : ∀ q, q ∈ e :: d.E → q ≠ 64) : d.Q e W base (fun k => ok k ∧ k ≠ g) v xs := by
  obtain ⟨A0, c0, hb, hg, hr0⟩ := h
  exact Kd.Q_types ho hb ht
theorem IsS64.own_neQ {w0 W : World} {g : Nat} {f0 : List Int} {f1 : Int} {α : Type} {d : Kd α} {e : Nat} {base : Nat} {ok : Nat → Prop} {v : Value} {xs : List α} (h : IsS64 w0 W g f0 f1) (ho : d.Q e W base ok v xs) (ht : e ≠ 64) : some g ≠ v.ownBlock := by
  obtain ⟨A0, c0, hb, hg, hr0⟩ := h
  exact Kd.Q_ne ho hb ht
theorem IsS64.apartS {w0 W : World} {g : Nat} {f0 : List Int} {f1 : Int} {α : Type} {d : Kd α} {e : Nat} {base : Nat} {ok : Nat → Prop} {v : Value} {xs : List α} (h : IsS64 w0 W g f0 f1) (ho : d.S e W base ok v xs) (ht : ∀ q, q ∈ e :: d.E → q ≠ 64) : d.S e W base (fun k => ok k ∧ k ≠ g) v xs := by
  obtain ⟨A0, c0, hb, hg, hr0⟩ := h
  exact Kd.S_types ho hb ht
theorem IsS64.own_neS {w0 W : World} {g : Nat} {f0 : List Int} {f1 : Int} {α : Type} {d : Kd α} {e : Nat} {base : Nat} {ok : Nat → Prop} {v : Value} {xs : List α} (h : IsS64 w0 W g f0 f1) (ho : d.S e W base ok v xs) (ht : e ≠ 64) : some g ≠ v.ownBlock := by
  obtain ⟨A0, c0, hb, hg, hr0⟩ := h
  exact Kd.S_ne ho hb ht
theorem IsS64.lt {w0 W : World} {g : Nat} {f0 : List Int} {f1 : Int} (h : IsS64 w0 W g f0 f1) : g < W.heap.size := by
  obtain ⟨A0, c0, hb, hg, hr0⟩ := h
  exact blk_lt hb
theorem IsS64.ge {w0 W : World} {g : Nat} {f0 : List Int} {f1 : Int} (h : IsS64 w0 W g f0 f1) : w0.heap.size ≤ g := by
  obtain ⟨A0, c0, hb, hg, hr0⟩ := h
  exact hg
theorem IsS64.ne_blk {w0 W : World} {g : Nat} {f0 : List Int} {f1 : Int} {a : Nat} {cs : Array Value} {t : TypeId} {fr : Nat × Nat} (h : IsS64 w0 W g f0 f1) (hb2 : W.heap[a]? = some (.cells cs t fr)) (ht : t ≠ 64) : g ≠ a := by
  obtain ⟨A0, c0, hb, hg, hr0⟩ := h
  rintro rfl
  rw [hb] at hb2
  injection hb2 with hb2
  injection hb2 with _ ht2
  exact ht ht2.symm
theorem IsS64.far {w0 W : World} {g : Nat} {f0 : List Int} {f1 : Int} {p : Addr} (h : IsS64 w0 W g f0 f1) (hne : g ≠ p.block) (u : Value) : IsS64 w0 (W.setCell p u) g f0 f1 := by
  obtain ⟨A0, c0, hb, hg, hr0⟩ := h
  exact ⟨A0, c0, blk_far hb hne u, hg, hr0⟩
theorem cellS64_0 {W : World} {g : Nat} {A0 : Option Addr} {c0 : Nat} {f0 : List Int} {f1 : Int} (h : W.heap[g]? = some (.cells #[.slice A0 f0.length c0, .int .i64 f1] 64 (0, 0))) : W.cell? ⟨g, 0, none⟩ = some (.slice A0 f0.length c0) := (blk_cell h 0).trans rfl
theorem cellS64_1 {W : World} {g : Nat} {A0 : Option Addr} {c0 : Nat} {f0 : List Int} {f1 : Int} (h : W.heap[g]? = some (.cells #[.slice A0 f0.length c0, .int .i64 f1] 64 (0, 0))) : W.cell? ⟨g, 1, none⟩ = some (.int .i64 f1) := (blk_cell h 1).trans rfl
theorem IsS64.set_1 {w0 W : World} {g : Nat} {f0 : List Int} {f1 : Int} (h : IsS64 w0 W g f0 f1) (x : Int) : IsS64 w0 (W.setCell ⟨g, 1, none⟩ (.int .i64 x)) g f0 x := by
  obtain ⟨A0, c0, hb, hg, hr0⟩ := h
  exact ⟨A0, c0, by simpa using blk_set hb 1 (.int .i64 x), hg, hr0⟩
theorem IsS64.new (w0 W : World) (A0 : Option Addr) (c0 : Nat) (f0 : List Int) (f1 : Int) (hB : Below w0.heap.size w0 W) (hr0 : Kd.C (Kd.int .i64) w0 A0 f0.length f0) : IsS64 w0 (W.alloc (.cells #[.slice A0 f0.length c0, .int .i64 f1] 64)) W.heap.size f0 f1 := ⟨A0, c0, by simpa using heap_alloc_new W _, hB.size, hr0⟩

/-! ### payrollgen_New: function 13 -/
def payrollgen_New.f (l0 : List Int) : Option (List Int × Int) := some (l0, 0)
set_option maxHeartbeats 8000000 in
set_option maxRecDepth 100000 in
theorem payrollgen_New.calls (A0 : Option Addr) (c0 : Nat) (l0 : List Int) (r1 : List Int) (r2 : Int) (w0 w : World) (hB : Below w0.heap.size w0 w) (hr0 : Kd.C (Kd.int .i64) w0 A0 l0.length l0) (hc0 : l0.length ≤ c0) (h : payrollgen_New.f l0 = some (r1, r2)) :
    Calls Try.prog 13 #[.slice A0 l0.length c0] w fun e w' => ∃ g_ : Nat, e = .returned (.pointer (some ⟨g_, 0, none⟩)) ∧ IsS64 w0 w' g_ r1 r2 ∧ Below w0.heap.size w0 w' ∧ Below w.heap.size w w' := by
  have hu64 := Try.underlying64
  have HR0 := Aside0.mk hr0
  have HC0 := Aside0.mk hc0
  clear hr0 hc0
  have HBW := Aside0.mk (Below.refl w.heap.size w)
  have HW0 := Aside0.mk hB.size
  have HB := Aside0.mk hB
  clear hB
  have H : (some (l0, 0)) = some (r1, r2) := h
  clear h
  simp only [Option.some.injEq, Prod.mk.injEq] at H
  obtain ⟨rfl, rfl⟩ := H
  go_enter Try.func13, Try.ntmps13
  go_wp2_with (first | ((with_reducible refine gate_dst (N := 5) rfl ?_); refine box_event ?hg (N := 5) ?hd (cs := #[.slice A0 l0.length c0, .int .i64 0]) (t := 64) ?hr ?_; (case hd => rfl); (case hg => rfl); (case hr => first | (go_simp; done) | (go_simp; rfl)); intro gb101 hg w2 hbox hb; have n0_ := Aside0.mk (below_step HBW.out hb); have n1_ := Aside0.mk (below_step (by repeat (first | (with_reducible first | exact HB.out | apply below_alloc | apply pw_below_drewN | apply below_drew1) | exact HB.out)) hb); have n2_ := Aside0.mk (hbox); have n3_ := Aside0.mk ((by rw [hg]; exact (below_size (by repeat (first | (with_reducible first | exact HBW.out | apply below_alloc | apply pw_below_drewN | apply below_drew1) | exact HBW.out))) : w.heap.size ≤ gb101)); have n4_ := Aside0.mk ((Nat.le_trans HW0.out (by rw [hg]; exact (below_size (by repeat (first | (with_reducible first | exact HBW.out | apply below_alloc | apply pw_below_drewN | apply below_drew1) | exact HBW.out))) : w.heap.size ≤ gb101) : w0.heap.size ≤ gb101)); clear HBW; clear HB; have HBW := n0_; have HB := n1_; have BK101 := n2_; have GW101 := n3_; have GE101 := n4_; clear n0_ n1_ n2_ n3_ n4_; clear hb hbox hg))
  go_ret
  exact ⟨_, rfl, (show IsS64 w0 _ gb101 l0 0 from ⟨_, _, by (with_reducible repeat (first | refine blk_drewN ?_ _ | refine blk_drew ?_ | refine blk_alloc ?_ _)); exact BK101.out, GE101.out, HR0.out⟩), by repeat (first | (with_reducible first | exact HB.out | apply below_alloc | apply pw_below_drewN | apply below_drew1 | refine below_set ?_ GE101.out) | exact HB.out), by repeat (first | (with_reducible first | exact HBW.out | apply below_alloc | apply pw_below_drewN | apply below_drew1 | refine below_set ?_ GW101.out) | exact HBW.out)⟩

/-! ### payrollgen_Tape_Next: function 27 -/
def payrollgen_Tape_Next.f (s0_0 : List Int) (s0_1 : Int) (a1 : Int) : Option (Int × Int) := if a1 < 1 then (some (0, s0_1)) else (if s0_1 ≥ (s0_0.length : Int) then (some (0, s0_1)) else (if 0 ≤ (wrap64 ((wrap64 (s0_1 + 1)) - 1)) then (if (wrap64 ((wrap64 (s0_1 + 1)) - 1)) < (s0_0.length : Int) then ((payrollgen_Mod.f (rd s0_0 (wrap64 ((wrap64 (s0_1 + 1)) - 1))) a1).bind fun t102 => (some (t102, wrap64 (s0_1 + 1)))) else (none)) else (none)))
set_option maxHeartbeats 8000000 in
set_option maxRecDepth 100000 in
theorem payrollgen_Tape_Next.calls (g : Nat) (s0_0 : List Int) (s0_1 : Int) (a1 : Int) (r1 : Int) (r2 : Int) (w0 w : World) (hI : IsS64 w0 w g s0_0 s0_1) (hB : Below w0.heap.size w0 w) (h : payrollgen_Tape_Next.f s0_0 s0_1 a1 = some (r1, r2)) :
    Calls Try.prog 27 #[.pointer (some ⟨g, 0, none⟩), .int .i64 a1] w fun e w' => e = .returned (.int .i64 r1) ∧ IsS64 w0 w' g s0_0 r2 ∧ Below w0.heap.size w0 w' ∧ KeepBut w w' g none := by
  have HI0 := Aside0.mk hI
  have HK := Aside0.mk (KeepBut.refl w g none)
  have HL := Aside0.mk hB.size
  clear hI
  have HW0 := Aside0.mk hB.size
  have HB := Aside0.mk hB
  clear hB
  have H : (if a1 < 1 then (some (0, s0_1)) else (if s0_1 ≥ (s0_0.length : Int) then (some (0, s0_1)) else (if 0 ≤ (wrap64 ((wrap64 (s0_1 + 1)) - 1)) then (if (wrap64 ((wrap64 (s0_1 + 1)) - 1)) < (s0_0.length : Int) then ((payrollgen_Mod.f (rd s0_0 (wrap64 ((wrap64 (s0_1 + 1)) - 1))) a1).bind fun t102 => (some (t102, wrap64 (s0_1 + 1)))) else (none)) else (none)))) = some (r1, r2) := h
  clear h
  by_cases c3 : a1 < 1
  · rw [if_pos c3] at H
    have c3b0 : decide (a1 < 1) = true := decide_eq_true c3
    clear c3
    simp only [Option.some.injEq, Prod.mk.injEq] at H
    obtain ⟨rfl, rfl⟩ := H
    go_enter Try.func27, Try.ntmps27
    go_wp2
    repeat (go_quiet (fail); try go_wp2)
    go_ret
    exact ⟨by first | rfl | (simp [errW_none, errW_some] <;> rfl) | (simp [*, errW_none, errW_some] <;> rfl), by repeat (first | (with_reducible first | exact HI0.out | apply IsS64.alloc | apply IsS64.drewN | apply IsS64.drew | apply IsS64.set_1) | exact HI0.out), by repeat (first | (with_reducible first | exact HB.out | apply below_alloc | apply pw_below_drewN | apply below_drew1 | refine below_set ?_ (IsS64.ge HI0.out)) | exact HB.out), by repeat (first | (with_reducible first | exact HK.out | apply KeepBut.set_ | apply keep_drewN | apply keep_drew | apply keep_alloc) | exact HK.out)⟩
  · rw [if_neg c3] at H
    have c3b0 : decide (a1 < 1) = false := decide_eq_false c3
    clear c3
    by_cases c4 : s0_1 ≥ (s0_0.length : Int)
    · rw [if_pos c4] at H
      have c4b0 : decide ((s0_0.length : Int) ≤ s0_1) = true := decide_eq_true c4
      clear c4
      simp only [Option.some.injEq, Prod.mk.injEq] at H
      obtain ⟨rfl, rfl⟩ := H
      obtain ⟨ASz5_0, cSz5_0, HGz5, hgz5, HSz5_0⟩ := HI0.out
      have hcz5_0 := cellS64_0 HGz5
      have hcz5_1 := cellS64_1 HGz5
      have hfz5_1 := blk_frozen HGz5 1
      clear HGz5 hgz5
      go_enter Try.func27, Try.ntmps27
      go_wp2
      repeat (go_quiet (fail); try go_wp2)
      go_ret
      exact ⟨by first | rfl | (simp [errW_none, errW_some] <;> rfl) | (simp [*, errW_none, errW_some] <;> rfl), by repeat (first | (with_reducible first | exact HI0.out | apply IsS64.alloc | apply IsS64.drewN | apply IsS64.drew | apply IsS64.set_1) | exact HI0.out), by repeat (first | (with_reducible first | exact HB.out | apply below_alloc | apply pw_below_drewN | apply below_drew1 | refine below_set ?_ (IsS64.ge HI0.out)) | exact HB.out), by repeat (first | (with_reducible first | exact HK.out | apply KeepBut.set_ | apply keep_drewN | apply keep_drew | apply keep_alloc) | exact HK.out)⟩
    · rw [if_neg c4] at H
      have c4b0 : decide ((s0_0.length : Int) ≤ s0_1) = false := decide_eq_false c4
      clear c4
      obtain ⟨ji6, hji6⟩ : ∃ j_ : Int, (wrap64 ((wrap64 (s0_1 + 1)) - 1)) = j_ := ⟨_, rfl⟩
      replace H : (if 0 ≤ (ji6) then (if (ji6) < (s0_0.length : Int) then ((payrollgen_Mod.f (rd s0_0 (ji6)) a1).bind fun t102 => (some (t102, wrap64 (s0_1 + 1)))) else (none)) else (none)) = some (r1, r2) := by first | (rw [hji6] at H; exact H) | (simp only [hji6] at H ⊢; exact H)
      have hji6w : (IntKind.i64.wrap ((wrap64 (s0_1 + 1)) - 1)) = ji6 := (i64_w _).trans hji6
      by_cases c7 : 0 ≤ (ji6)
      · rw [if_pos c7] at H
        have c7b0 : decide (0 ≤ (ji6)) = true := decide_eq_true c7
        clear c7
        by_cases c8 : (ji6) < (s0_0.length : Int)
        · rw [if_pos c8] at H
          have c8b0 : decide ((ji6) < (s0_0.length : Int)) = true := decide_eq_true c8
          clear c8
          replace H := Option.bind_eq_some_iff.mp H
          obtain ⟨t102, A90, H⟩ := H
          replace H : (some (t102, wrap64 (s0_1 + 1))) = some (r1, r2) := H
          have A9 := Aside0.mk A90
          clear A90
          simp only [Option.some.injEq, Prod.mk.injEq] at H
          obtain ⟨rfl, rfl⟩ := H
          obtain ⟨ASz10_0, cSz10_0, HGz10, hgz10, HSz10_0⟩ := HI0.out
          have hcz10_0 := cellS64_0 HGz10
          have hcz10_1 := cellS64_1 HGz10
          have hfz10_1 := blk_frozen HGz10 1
          clear HGz10 hgz10
          have p101 : 0 ≤ ((ji6) : Int) := of_decide_eq_true (by first | (with_reducible assumption) | assumption)
          have q101 : (ji6) < (s0_0.length : Int) := of_decide_eq_true (by first | (with_reducible assumption) | assumption)
          obtain ⟨ad101, e101, hx101_0⟩ := Kd.at_int HSz10_0 (ji6) p101 q101
          cases e101
          have hn101_0 : ad101.block ≠ g := Nat.ne_of_lt (Nat.lt_of_lt_of_le (by have := World.block_lt_of_cell? _ _ hx101_0; first | rwa [add_block] at this | exact this) (IsS64.ge HI0.out))
          replace hx101_0 := pw_cell_below HB.out hx101_0
          replace hx101_0 := (cell_far (p := ⟨g, 1, none⟩) (by first | (rw [add_block]; exact hn101_0) | (show (Addr.add _ _).block ≠ _; rw [add_block]; exact hn101_0) | exact hn101_0) (.int .i64 (wrap64 (s0_1 + 1)))).trans hx101_0
          (try have hy101_0 := fun (n_ : Nat) => (show (((w.drewN n_).setCell ⟨g, 1, none⟩ (.int .i64 (wrap64 (s0_1 + 1))))).cell? _ = some _ from hx101_0))
          clear hn101_0
          replace p101 := eq_true p101
          replace q101 := eq_true q101
          go_enter Try.func27, Try.ntmps27
          go_wp2_with (first | (go_at_call 7; (with_reducible refine (payrollgen_Mod.calls (rd s0_0 (ji6)) a1 t102 _ A9.out).mono ?_); rintro e w' ⟨rfl, ⟨nd, rfl⟩⟩; (try first | exact ⟨rfl, _, World.drewN_drewN _ _ _⟩ | exact ⟨rfl, _, Eq.trans (World.drewN_drewN _ _ _) (congrArg (World.drewN _) (Nat.add_assoc _ _ _))⟩)))
          repeat (go_quiet (first | (go_at_call 7; (with_reducible refine (payrollgen_Mod.calls (rd s0_0 (ji6)) a1 t102 _ A9.out).mono ?_); rintro e w' ⟨rfl, ⟨nd, rfl⟩⟩; (try first | exact ⟨rfl, _, World.drewN_drewN _ _ _⟩ | exact ⟨rfl, _, Eq.trans (World.drewN_drewN _ _ _) (congrArg (World.drewN _) (Nat.add_assoc _ _ _))⟩))); try go_wp2_with (first | (go_at_call 7; (with_reducible refine (payrollgen_Mod.calls (rd s0_0 (ji6)) a1 t102 _ A9.out).mono ?_); rintro e w' ⟨rfl, ⟨nd, rfl⟩⟩; (try first | exact ⟨rfl, _, World.drewN_drewN _ _ _⟩ | exact ⟨rfl, _, Eq.trans (World.drewN_drewN _ _ _) (congrArg (World.drewN _) (Nat.add_assoc _ _ _))⟩))))
          go_ret
          exact ⟨by first | rfl | (simp [errW_none, errW_some] <;> rfl) | (simp only [← hji6]; first | rfl | (simp [errW_none, errW_some] <;> rfl)) | (simp [*, errW_none, errW_some] <;> rfl), by repeat (first | (with_reducible first | exact HI0.out | apply IsS64.alloc | apply IsS64.drewN | apply IsS64.drew | apply IsS64.set_1) | exact HI0.out), by repeat (first | (with_reducible first | exact HB.out | apply below_alloc | apply pw_below_drewN | apply below_drew1 | refine below_set ?_ (IsS64.ge HI0.out)) | exact HB.out), by repeat (first | (with_reducible first | exact HK.out | apply KeepBut.set_ | apply keep_drewN | apply keep_drew | apply keep_alloc) | exact HK.out)⟩
        · rw [if_neg c8] at H
          exact absurd H (by simp)
      · rw [if_neg c7] at H
        exact absurd H (by simp)

/-! ### payrollgen_Tape_Pick: function 26 -/
def payrollgen_Tape_Pick.f (s0_0 : List Int) (s0_1 : Int) (l1 : List Int) : Option (Int × Int) := (payrollgen_Tape_Next.f s0_0 s0_1 (l1.length : Int)).bind fun bt101 => (if 0 ≤ bt101.1 then (if bt101.1 < (l1.length : Int) then (some (rd l1 bt101.1, bt101.2)) else (none)) else (none))
set_option maxHeartbeats 8000000 in
set_option maxRecDepth 100000 in
theorem payrollgen_Tape_Pick.calls (g : Nat) (s0_0 : List Int) (s0_1 : Int) (A1 : Option Addr) (c1 : Nat) (l1 : List Int) (r1 : Int) (r2 : Int) (w0 w : World) (hI : IsS64 w0 w g s0_0 s0_1) (hB : Below w0.heap.size w0 w) (hr1 : Kd.C (Kd.int .i64) w A1 l1.length l1) (hc1 : l1.length ≤ c1) (hf1 : ∀ ad, A1 = some ad → 0 < l1.length → ad.block ≠ g) (h : payrollgen_Tape_Pick.f s0_0 s0_1 l1 = some (r1, r2)) :
    Calls Try.prog 26 #[.pointer (some ⟨g, 0, none⟩), .slice A1 l1.length c1] w fun e w' => e = .returned (.int .i64 r1) ∧ IsS64 w0 w' g s0_0 r2 ∧ Below w0.heap.size w0 w' ∧ KeepBut w w' g none := by
  have HR1 := Aside0.mk hr1
  have HC1 := Aside0.mk hc1
  clear hr1 hc1
  have HI0 := Aside0.mk hI
  have HK := Aside0.mk (KeepBut.refl w g none)
  have HL := Aside0.mk hB.size
  clear hI
  have HW0 := Aside0.mk hB.size
  have HB := Aside0.mk hB
  clear hB
  have H : ((payrollgen_Tape_Next.f s0_0 s0_1 (l1.length : Int)).bind fun bt101 => (if 0 ≤ bt101.1 then (if bt101.1 < (l1.length : Int) then (some (rd l1 bt101.1, bt101.2)) else (none)) else (none))) = some (r1, r2) := h
  clear h
  replace H := Option.bind_eq_some_iff.mp H
  obtain ⟨⟨t101, t102⟩, A30, H⟩ := H
  replace H : (if 0 ≤ t101 then (if t101 < (l1.length : Int) then (some (rd l1 t101, t102)) else (none)) else (none)) = some (r1, r2) := H
  have A3 := Aside0.mk A30
  clear A30
  by_cases c4 : 0 ≤ t101
  · rw [if_pos c4] at H
    have c4b0 : decide (0 ≤ t101) = true := decide_eq_true c4
    clear c4
    by_cases c5 : t101 < (l1.length : Int)
    · rw [if_pos c5] at H
      have c5b0 : decide (t101 < (l1.length : Int)) = true := decide_eq_true c5
      clear c5
      simp only [Option.some.injEq, Prod.mk.injEq] at H
      obtain ⟨rfl, rfl⟩ := H
      go_enter Try.func26, Try.ntmps26
      go_wp2_with (first | ((with_reducible refine gate_callee (f := 27) rfl ?_); refine goesL_ (some 9) rfl rfl Try.func27 (by kernel_rfl) rfl #[.pointer (some ⟨g, 0, none⟩), .int .i64 (l1.length : Int)] rfl (by (try simp only [List.map_toArray, List.map_cons, List.map_nil]); first | done | rfl | (simp only [List.length_drop, List.length_take]; rfl)) ?_; (with_reducible refine (payrollgen_Tape_Next.calls g s0_0 s0_1 (l1.length : Int) t101 t102 w0 _ ?side1 ?side2 A3.out).mono ?_); (case side1 => repeat (first | (with_reducible first | exact HI0.out | apply IsS64.alloc | apply IsS64.drewN | apply IsS64.drew | apply IsS64.set_1) | exact HI0.out)); (case side2 => repeat (first | (with_reducible first | exact HB.out | apply below_alloc | apply pw_below_drewN | apply below_drew1 | refine below_set ?_ (IsS64.ge HI0.out)) | exact HB.out)); rintro e w6 ⟨rfl, hi, hb, hk⟩; refine ⟨_, rfl, ?_⟩; have n0_ := Aside0.mk (KeepBut.trans (by repeat (first | (with_reducible first | exact HK.out | apply KeepBut.set_ | apply keep_drewN | apply keep_drew | apply keep_alloc) | exact HK.out)) hk (.inl rfl)); have n1_ := Aside0.mk (hb); have n2_ := Aside0.mk (hi); clear HK; clear HB; clear HI0; have HK := n0_; have HB := n1_; have HI0 := n2_; clear n0_ n1_ n2_; (try clear hb); (try clear hb2); (try clear hk); (try clear hi); have p103 : 0 ≤ (t101 : Int) := of_decide_eq_true (by first | (with_reducible assumption) | assumption); have q103 : t101 < (l1.length : Int) := of_decide_eq_true (by first | (with_reducible assumption) | assumption); obtain ⟨ad103, e103, hx103_0⟩ := Kd.at_int HR1.out t101 p103 q103; cases e103; replace hx103_0 := keep_cell HK.out hx103_0 (by first | (rw [add_block]; exact hf1 _ rfl (by omega)) | exact hf1 _ rfl (by omega) | exact hf1 ad103 rfl (by omega)); replace p103 := eq_true p103; replace q103 := eq_true q103))
      go_ret
      exact ⟨by first | rfl | (simp [errW_none, errW_some] <;> rfl) | (simp [*, errW_none, errW_some] <;> rfl), by repeat (first | (with_reducible first | exact HI0.out | apply IsS64.alloc | apply IsS64.drewN | apply IsS64.drew | apply IsS64.set_1) | exact HI0.out), by repeat (first | (with_reducible first | exact HB.out | apply below_alloc | apply pw_below_drewN | apply below_drew1 | refine below_set ?_ (IsS64.ge HI0.out)) | exact HB.out), by repeat (first | (with_reducible first | exact HK.out | apply KeepBut.set_ | apply keep_drewN | apply keep_drew | apply keep_alloc) | exact HK.out)⟩
    · rw [if_neg c5] at H
      exact absurd H (by simp)
  · rw [if_neg c4] at H
    exact absurd H (by simp)

end Go.Proofs.Ytbncjlapmomlkaa.P
