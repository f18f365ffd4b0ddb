-- Written for this claim by a program of this session (hybrid.py) over the kit's print. Not trusted: Lean checks it.
import Derived.Test.YtbncjlapmomlkaaP0
import Derived.Test.YtbncjlapmomlkaaP1
namespace Go.Proofs.Ytbncjlapmomlkaa.P
open Go.RowKit Go.Proofs.YtbncjlapmomlkaaW.PrintWords Go.Proofs.YtbncjlapmomlkaaW.PrintLast Go.Proofs.YtbncjlapmomlkaaW.PrintMore
attribute [local go_sem] max2_int min2_int max_two min_two max_three min_three max_four min_four   -- for this text's walks alone
set_option linter.unusedVariables false
set_option linter.unusedSimpArgs false

attribute [local go_sem high] eqA26
/-! ### payrolllaw9_same: function 21 -/
mutual
def payrolllaw9_same.l0 : Nat → List (S29) → List (S29) → Int → Option (Bool)
  | 0, _, _, _ => none
  | k + 1, x0, x1, x5 => if x5 < (x0.length : Int) then (if 0 ≤ x5 then (if x5 < (x1.length : Int) then (if (!(((rd_T29 x0 x5).f0.f0) == ((rd_T29 x1 x5).f0.f0)) || (!(((rd_T29 x0 x5).f0.f1) == ((rd_T29 x1 x5).f0.f1)))) = true then (payrolllaw9_same.j1 k x0 x1 x5 true) else (payrolllaw9_same.j1 k x0 x1 x5 ((((rd_T29 x0 x5).f1).length : Int) != (((rd_T29 x1 x5).f1).length : Int)))) else (none)) else (none)) else (some true)
def payrolllaw9_same.j1 : Nat → List (S29) → List (S29) → Int → Bool → Option (Bool)
  | 0, _, _, _, _ => none
  | k + 1, x0, x1, x5, x43 => if x43 = true then (some false) else (payrolllaw9_same.l1 k x0 x1 x5 0)
def payrolllaw9_same.l1 : Nat → List (S29) → List (S29) → Int → Int → Option (Bool)
  | 0, _, _, _, _ => none
  | k + 1, x0, x1, x5, x6 => if 0 ≤ x5 then (if x5 < (x0.length : Int) then (if x6 < (((rd_T29 x0 x5).f1).length : Int) then (if 0 ≤ x6 then (if x5 < (x1.length : Int) then (if x6 < (((rd_T29 x1 x5).f1).length : Int) then (if (!(((rd_T26 ((rd_T29 x0 x5).f1) x6).f0) == ((rd_T26 ((rd_T29 x1 x5).f1) x6).f0)) || (!(((rd_T26 ((rd_T29 x0 x5).f1) x6).f1) == ((rd_T26 ((rd_T29 x1 x5).f1) x6).f1)))) = true then (some false) else (payrolllaw9_same.l1 k x0 x1 x5 (wrap64 (x6 + 1)))) else (none)) else (none)) else (none)) else (payrolllaw9_same.l0 k x0 x1 (wrap64 (x5 + 1)))) else (none)) else (none)
end
def payrolllaw9_same.f (k : Nat) (l0 : List (S29)) (l1 : List (S29)) : Option (Bool) := if (l0.length : Int) = (l1.length : Int) then (payrolllaw9_same.l0 k l0 l1 0) else (some false)
theorem payrolllaw9_same.mono_l : ∀ k, (∀ y0 y1 y2, LeO (payrolllaw9_same.l0 k y0 y1 y2) (payrolllaw9_same.l0 (k + 1) y0 y1 y2)) ∧ (∀ y0 y1 y2 y3, LeO (payrolllaw9_same.j1 k y0 y1 y2 y3) (payrolllaw9_same.j1 (k + 1) y0 y1 y2 y3)) ∧ (∀ y0 y1 y2 y3, LeO (payrolllaw9_same.l1 k y0 y1 y2 y3) (payrolllaw9_same.l1 (k + 1) y0 y1 y2 y3))
  | 0 => ⟨fun _ _ _ r h => by simp [payrolllaw9_same.l0] at h, fun _ _ _ _ r h => by simp [payrolllaw9_same.j1] at h, fun _ _ _ _ r h => by simp [payrolllaw9_same.l1] at h⟩
  | k + 1 => by
    obtain ⟨ih0, ih1, ih2⟩ := payrolllaw9_same.mono_l k
    refine ⟨?_, ?_, ?_⟩
    · intro y0 y1 y2
      unfold payrolllaw9_same.l0
      repeat' first
      | (with_reducible exact ih0 _ _ _)
      | (with_reducible exact ih1 _ _ _ _)
      | (with_reducible exact ih2 _ _ _ _)
      | (with_reducible exact LeO.refl _)
      | (with_reducible exact LeO.none _)
      | (with_reducible refine LeO.ite ?_ ?_)
      | (with_reducible refine LeO.bind ?_ (fun _ => ?_))
      | exact ih0 _ _ _
      | exact ih1 _ _ _ _
      | exact ih2 _ _ _ _
      | exact LeO.none _
      | refine LeO.ite ?_ ?_
      | refine LeO.bind ?_ (fun _ => ?_)
    · intro y0 y1 y2 y3
      unfold payrolllaw9_same.j1
      repeat' first
      | (with_reducible exact ih0 _ _ _)
      | (with_reducible exact ih1 _ _ _ _)
      | (with_reducible exact ih2 _ _ _ _)
      | (with_reducible exact LeO.refl _)
      | (with_reducible exact LeO.none _)
      | (with_reducible refine LeO.ite ?_ ?_)
      | (with_reducible refine LeO.bind ?_ (fun _ => ?_))
      | exact ih0 _ _ _
      | exact ih1 _ _ _ _
      | exact ih2 _ _ _ _
      | exact LeO.none _
      | refine LeO.ite ?_ ?_
      | refine LeO.bind ?_ (fun _ => ?_)
    · intro y0 y1 y2 y3
      unfold payrolllaw9_same.l1
      repeat' first
      | (with_reducible exact ih0 _ _ _)
      | (with_reducible exact ih1 _ _ _ _)
      | (with_reducible exact ih2 _ _ _ _)
      | (with_reducible exact LeO.refl _)
      | (with_reducible exact LeO.none _)
      | (with_reducible refine LeO.ite ?_ ?_)
      | (with_reducible refine LeO.bind ?_ (fun _ => ?_))
      | exact ih0 _ _ _
      | exact ih1 _ _ _ _
      | exact ih2 _ _ _ _
      | exact LeO.none _
      | refine LeO.ite ?_ ?_
      | refine LeO.bind ?_ (fun _ => ?_)
theorem payrolllaw9_same.mono : ∀ a0 a1 k, LeO (payrolllaw9_same.f k a0 a1) (payrolllaw9_same.f (k + 1) a0 a1) := by
  intro a0 a1 k
  obtain ⟨ih0, ih1, ih2⟩ := payrolllaw9_same.mono_l k
  unfold payrolllaw9_same.f
  repeat' first
      | (with_reducible exact ih0 _ _ _)
      | (with_reducible exact ih1 _ _ _ _)
      | (with_reducible exact ih2 _ _ _ _)
      | (with_reducible exact LeO.refl _)
      | (with_reducible exact LeO.none _)
      | (with_reducible refine LeO.ite ?_ ?_)
      | (with_reducible refine LeO.bind ?_ (fun _ => ?_))
      | exact ih0 _ _ _
      | exact ih1 _ _ _ _
      | exact ih2 _ _ _ _
      | exact LeO.none _
      | refine LeO.ite ?_ ?_
      | refine LeO.bind ?_ (fun _ => ?_)
set_option maxHeartbeats 8000000 in
set_option maxRecDepth 100000 in
theorem payrolllaw9_same.calls (k : Nat) (A0 : Option Addr) (c0 : Nat) (l0 : List (S29)) (A1 : Option Addr) (c1 : Nat) (l1 : List (S29)) (r : Bool) (w : World) (hr0 : Kd.C k29 w A0 l0.length l0) (hc0 : l0.length ≤ c0) (hr1 : Kd.C k29 w A1 l1.length l1) (hc1 : l1.length ≤ c1) (h : payrolllaw9_same.f k l0 l1 = some r) :
    Calls Try.prog 21 #[.slice A0 l0.length c0, .slice A1 l1.length c1] w fun e w' => e = .returned (.bool r) ∧ Drawn0 w w' := by
  have hu26 := Try.underlying26
  have HR0 := Aside0.mk hr0
  have HC0 := Aside0.mk hc0
  clear hr0 hc0
  have HR1 := Aside0.mk hr1
  have HC1 := Aside0.mk hc1
  clear hr1 hc1
  have H : (if (l0.length : Int) = (l1.length : Int) then (payrolllaw9_same.l0 k l0 l1 0) else (some false)) = some r := h
  clear h
  by_cases c3 : (l0.length : Int) = (l1.length : Int)
  · rw [if_pos c3] at H
    have c3b0 : ((l0.length : Int) == (l1.length : Int)) = true := beq_iff_eq.mpr c3
    have c3b1 : ((l0.length : Int) != (l1.length : Int)) = false := bne_eq_false_iff_eq.mpr c3
    have c3b2 : (l0.length == l1.length) = true := by first | simpa using c3 | (simp at c3 ⊢; omega)
    clear c3
    have H' := Aside0.mk H
    clear H
    go_enter Try.func21, Try.ntmps21
    go_wp2
    repeat (go_quiet (fail); try go_wp2)
    go_loopg [5] k (fun kq v5 w' => ∃ (x5_1 : Int), v5 = .int .i64 x5_1 ∧ Aside0 (payrolllaw9_same.l0 kq l0 l1 x5_1 = some r) ∧ Aside0 (kq ≤ k) ∧ Drawn0 w w')
    case atStart => exact ⟨(0), (by first | rfl | (simp; done) | (simp [*]; done)), H', ⟨Nat.le_refl _⟩, by repeat (first | exact Drawn0.refl _ | apply Drawn0.step)⟩
    case round =>
      clear H'
      try clear c1
      try clear c2
      try clear p2
      try clear c3
      try clear c3b0
      try clear c3b1
      try clear c3b2
      obtain ⟨x5_1, rfl, HA, HK1, ⟨m1, rfl⟩⟩ := hrel
      cases gk with
      | zero => exact absurd HA.out (by simp [payrolllaw9_same.l0])
      | succ k1 =>
        have H := HA.out
        clear HA
        simp only [payrolllaw9_same.l0] at H
        by_cases c4 : x5_1 < (l0.length : Int)
        · rw [if_pos c4] at H
          have c4b0 : decide (x5_1 < (l0.length : Int)) = true := decide_eq_true c4
          clear c4
          have HC5 := Aside0.mk H
          clear H
          go_upto_region 6 with (fail)
          repeat (go_quiet (fail); go_upto_region 6 with (fail))
          go_cut [43] (fun v43 wc => ∃ (kq : Nat) (x43_4 : Bool), v43 = .bool x43_4 ∧ Aside0 (payrolllaw9_same.j1 kq l0 l1 x5_1 x43_4 = some r) ∧ Aside0 (kq ≤ k1) ∧ Drawn0 w wc)
          case first =>
            have H := HC5.out
            clear HC5
            by_cases c6 : 0 ≤ x5_1
            · rw [if_pos c6] at H
              have c6b0 : decide (0 ≤ x5_1) = true := decide_eq_true c6
              clear c6
              (first | rw [c6b0] | (simp only [i64_w, i32_w]; rw [c6b0]) | skip)
              by_cases c7 : x5_1 < (l1.length : Int)
              · rw [if_pos c7] at H
                have c7b0 : decide (x5_1 < (l1.length : Int)) = true := decide_eq_true c7
                clear c7
                by_cases c8 : (!(((rd_T29 l0 x5_1).f0.f0) == ((rd_T29 l1 x5_1).f0.f0)) || (!(((rd_T29 l0 x5_1).f0.f1) == ((rd_T29 l1 x5_1).f0.f1)))) = true
                · rw [if_pos c8] at H
                  have c8b0 : (!(((rd_T29 l0 x5_1).f0.f0) == ((rd_T29 l1 x5_1).f0.f0)) || (!(((rd_T29 l0 x5_1).f0.f1) == ((rd_T29 l1 x5_1).f0.f1)))) = true := c8
                  clear c8
                  have H' := Aside0.mk H
                  clear H
                  have p118 : 0 ≤ (x5_1 : Int) := of_decide_eq_true (by first | (with_reducible assumption) | assumption)
                  have q118 : x5_1 < (l0.length : Int) := of_decide_eq_true (by first | (with_reducible assumption) | assumption)
                  obtain ⟨ad118, A118_2, c118_2, e118, hx118_0, hx118_1, hx118_2, hl118_2, hi118_2⟩ := at_T29 HR0.out x5_1 p118 q118
                  cases e118
                  have HR118_2 := Aside0.mk hi118_2
                  have HC118_2 := Aside0.mk hl118_2
                  clear hi118_2 hl118_2
                  replace p118 := eq_true p118
                  replace q118 := eq_true q118
                  have p119 : 0 ≤ (x5_1 : Int) := of_decide_eq_true (by first | (with_reducible assumption) | assumption)
                  have q119 : x5_1 < (l1.length : Int) := of_decide_eq_true (by first | (with_reducible assumption) | assumption)
                  obtain ⟨ad119, A119_2, c119_2, e119, hx119_0, hx119_1, hx119_2, hl119_2, hi119_2⟩ := at_T29 HR1.out x5_1 p119 q119
                  cases e119
                  have HR119_2 := Aside0.mk hi119_2
                  have HC119_2 := Aside0.mk hl119_2
                  clear hi119_2 hl119_2
                  replace p119 := eq_true p119
                  replace q119 := eq_true q119
                  go_wp2
                  repeat (go_quiet (fail); try go_wp2)
                  go_meet
                  case rel => exact ⟨_, (true), (by first | rfl | (simp; done) | (simp [*]; done)), H', ⟨by have := HK1.out; first | omega | exact Nat.le_refl _⟩, by repeat (first | exact Drawn0.refl _ | apply Drawn0.step)⟩
                · rw [if_neg c8] at H
                  have c8b0 : (!(((rd_T29 l0 x5_1).f0.f0) == ((rd_T29 l1 x5_1).f0.f0)) || (!(((rd_T29 l0 x5_1).f0.f1) == ((rd_T29 l1 x5_1).f0.f1)))) = false := by simpa using c8
                  clear c8
                  have H' := Aside0.mk H
                  clear H
                  have p118 : 0 ≤ (x5_1 : Int) := of_decide_eq_true (by first | (with_reducible assumption) | assumption)
                  have q118 : x5_1 < (l0.length : Int) := of_decide_eq_true (by first | (with_reducible assumption) | assumption)
                  obtain ⟨ad118, A118_2, c118_2, e118, hx118_0, hx118_1, hx118_2, hl118_2, hi118_2⟩ := at_T29 HR0.out x5_1 p118 q118
                  cases e118
                  have HR118_2 := Aside0.mk hi118_2
                  have HC118_2 := Aside0.mk hl118_2
                  clear hi118_2 hl118_2
                  replace p118 := eq_true p118
                  replace q118 := eq_true q118
                  have p119 : 0 ≤ (x5_1 : Int) := of_decide_eq_true (by first | (with_reducible assumption) | assumption)
                  have q119 : x5_1 < (l1.length : Int) := of_decide_eq_true (by first | (with_reducible assumption) | assumption)
                  obtain ⟨ad119, A119_2, c119_2, e119, hx119_0, hx119_1, hx119_2, hl119_2, hi119_2⟩ := at_T29 HR1.out x5_1 p119 q119
                  cases e119
                  have HR119_2 := Aside0.mk hi119_2
                  have HC119_2 := Aside0.mk hl119_2
                  clear hi119_2 hl119_2
                  replace p119 := eq_true p119
                  replace q119 := eq_true q119
                  have p120 : 0 ≤ (x5_1 : Int) := of_decide_eq_true (by first | (with_reducible assumption) | assumption)
                  have q120 : x5_1 < (l0.length : Int) := of_decide_eq_true (by first | (with_reducible assumption) | assumption)
                  obtain ⟨ad120, A120_2, c120_2, e120, hx120_0, hx120_1, hx120_2, hl120_2, hi120_2⟩ := at_T29 HR0.out x5_1 p120 q120
                  obtain rfl : ad118 = ad120 := (by injection e120)
                  have HR120_2 := Aside0.mk hi120_2
                  have HC120_2 := Aside0.mk hl120_2
                  clear hi120_2 hl120_2
                  replace p120 := eq_true p120
                  replace q120 := eq_true q120
                  have ea_ := Option.some.inj (hx118_2.symm.trans hx120_2)
                  injection ea_ with ea_ en_ ec_
                  subst ea_
                  subst ec_
                  clear en_
                  have p121 : 0 ≤ (x5_1 : Int) := of_decide_eq_true (by first | (with_reducible assumption) | assumption)
                  have q121 : x5_1 < (l1.length : Int) := of_decide_eq_true (by first | (with_reducible assumption) | assumption)
                  obtain ⟨ad121, A121_2, c121_2, e121, hx121_0, hx121_1, hx121_2, hl121_2, hi121_2⟩ := at_T29 HR1.out x5_1 p121 q121
                  obtain rfl : ad119 = ad121 := (by injection e121)
                  have HR121_2 := Aside0.mk hi121_2
                  have HC121_2 := Aside0.mk hl121_2
                  clear hi121_2 hl121_2
                  replace p121 := eq_true p121
                  replace q121 := eq_true q121
                  have ea_ := Option.some.inj (hx119_2.symm.trans hx121_2)
                  injection ea_ with ea_ en_ ec_
                  subst ea_
                  subst ec_
                  clear en_
                  go_wp2
                  repeat (go_quiet (fail); try go_wp2)
                  go_meet
                  case rel => exact ⟨_, (((((rd_T29 l0 x5_1).f1).length : Int) != (((rd_T29 l1 x5_1).f1).length : Int))), (by first | rfl | (simp; done) | (simp [*]; done)), H', ⟨by have := HK1.out; first | omega | exact Nat.le_refl _⟩, by repeat (first | exact Drawn0.refl _ | apply Drawn0.step)⟩
              · rw [if_neg c7] at H
                exact absurd H (by simp)
            · rw [if_neg c6] at H
              exact absurd H (by simp)
          case rest =>
            clear HC5
            try clear c1
            try clear p1
            try clear q1
            try clear hx1
            try clear c2
            try clear p2
            try clear c3
            try clear c3b0
            try clear c3b1
            try clear c3b2
            try clear c4
            try clear c4b0
            try clear c6
            try clear c6b0
            try clear c7
            try clear c7b0
            try clear c8
            try clear c8b0
            try clear hx118_0
            try clear hx118_1
            try clear hx118_2
            try clear hx119_0
            try clear hx119_1
            try clear hx119_2
            try clear hx120_0
            try clear hx120_1
            try clear hx120_2
            try clear hx121_0
            try clear hx121_1
            try clear hx121_2
            try clear p118
            try clear p119
            try clear p120
            try clear p121
            try clear p2
            try clear q118
            try clear q119
            try clear q120
            try clear q121
            obtain ⟨kq, x43_4, rfl, HA, HJ4, ⟨mc4, rfl⟩⟩ := hcut
            cases kq with
            | zero => exact absurd HA.out (by simp [payrolllaw9_same.j1])
            | succ kj4 =>
              have H := HA.out
              clear HA
              simp only [payrolllaw9_same.j1] at H
              by_cases c9 : x43_4 = true
              · subst c9
                have H1 : (some false) = some r := by rw [if_pos rfl] at H; exact H
                clear H
                have H := H1
                clear H1
                obtain rfl := Option.some.inj H
                go_wp2
                repeat (go_quiet (fail); try go_wp2)
                go_ret
                exact ⟨by first | rfl | (simp; done) | (simp [*]; done), by repeat (first | exact Drawn0.refl _ | apply Drawn0.step)⟩
              · replace c9 := Bool.eq_false_iff.mpr c9
                subst c9
                have H1 : (payrolllaw9_same.l1 kj4 l0 l1 x5_1 0) = some r := by rw [if_neg (show ¬ (false = true) by decide)] at H; exact H
                clear H
                have H := H1
                clear H1
                have H' := Aside0.mk H
                clear H
                go_wp2
                repeat (go_quiet (fail); try go_wp2)
                go_loopg [6] kj4 (fun kq v6 w' => ∃ (x6_3 : Int), v6 = .int .i64 x6_3 ∧ Aside0 (payrolllaw9_same.l1 kq l0 l1 x5_1 x6_3 = some r) ∧ Aside0 (kq ≤ kj4) ∧ Drawn0 w w')
                case atStart => exact ⟨(0), (by first | rfl | (simp; done) | (simp [*]; done)), H', ⟨Nat.le_refl _⟩, by repeat (first | exact Drawn0.refl _ | apply Drawn0.step)⟩
                case round =>
                  clear H'
                  try clear c1
                  try clear p1
                  try clear q1
                  try clear hx1
                  try clear c2
                  try clear p2
                  try clear c3
                  try clear c3b0
                  try clear c3b1
                  try clear c3b2
                  try clear c4
                  try clear c4b0
                  try clear c6
                  try clear c6b0
                  try clear c7
                  try clear c7b0
                  try clear c8
                  try clear c8b0
                  try clear c9
                  try clear hx118_0
                  try clear hx118_1
                  try clear hx118_2
                  try clear hx119_0
                  try clear hx119_1
                  try clear hx119_2
                  try clear hx120_0
                  try clear hx120_1
                  try clear hx120_2
                  try clear hx121_0
                  try clear hx121_1
                  try clear hx121_2
                  try clear p1
                  try clear p118
                  try clear p119
                  try clear p120
                  try clear p121
                  try clear p2
                  try clear q1
                  try clear q118
                  try clear q119
                  try clear q120
                  try clear q121
                  obtain ⟨x6_3, rfl, HA, HK3, ⟨m3, rfl⟩⟩ := hrel
                  cases gk with
                  | zero => exact absurd HA.out (by simp [payrolllaw9_same.l1])
                  | succ k3 =>
                    have H := HA.out
                    clear HA
                    simp only [payrolllaw9_same.l1] at H
                    by_cases c10 : 0 ≤ x5_1
                    · rw [if_pos c10] at H
                      have c10b0 : decide (0 ≤ x5_1) = true := decide_eq_true c10
                      clear c10
                      by_cases c11 : x5_1 < (l0.length : Int)
                      · rw [if_pos c11] at H
                        have c11b0 : decide (x5_1 < (l0.length : Int)) = true := decide_eq_true c11
                        clear c11
                        by_cases c12 : x6_3 < (((rd_T29 l0 x5_1).f1).length : Int)
                        · rw [if_pos c12] at H
                          have c12b0 : decide (x6_3 < (((rd_T29 l0 x5_1).f1).length : Int)) = true := decide_eq_true c12
                          clear c12
                          by_cases c13 : 0 ≤ x6_3
                          · rw [if_pos c13] at H
                            have c13b0 : decide (0 ≤ x6_3) = true := decide_eq_true c13
                            clear c13
                            by_cases c14 : x5_1 < (l1.length : Int)
                            · rw [if_pos c14] at H
                              have c14b0 : decide (x5_1 < (l1.length : Int)) = true := decide_eq_true c14
                              clear c14
                              by_cases c15 : x6_3 < (((rd_T29 l1 x5_1).f1).length : Int)
                              · rw [if_pos c15] at H
                                have c15b0 : decide (x6_3 < (((rd_T29 l1 x5_1).f1).length : Int)) = true := decide_eq_true c15
                                clear c15
                                by_cases c16 : (!(((rd_T26 ((rd_T29 l0 x5_1).f1) x6_3).f0) == ((rd_T26 ((rd_T29 l1 x5_1).f1) x6_3).f0)) || (!(((rd_T26 ((rd_T29 l0 x5_1).f1) x6_3).f1) == ((rd_T26 ((rd_T29 l1 x5_1).f1) x6_3).f1)))) = true
                                · rw [if_pos c16] at H
                                  have c16b0 : (!(((rd_T26 ((rd_T29 l0 x5_1).f1) x6_3).f0) == ((rd_T26 ((rd_T29 l1 x5_1).f1) x6_3).f0)) || (!(((rd_T26 ((rd_T29 l0 x5_1).f1) x6_3).f1) == ((rd_T26 ((rd_T29 l1 x5_1).f1) x6_3).f1)))) = true := c16
                                  clear c16
                                  obtain rfl := Option.some.inj H
                                  have p122 : 0 ≤ (x5_1 : Int) := of_decide_eq_true (by first | (with_reducible assumption) | assumption)
                                  have q122 : x5_1 < (l0.length : Int) := of_decide_eq_true (by first | (with_reducible assumption) | assumption)
                                  obtain ⟨ad122, A122_2, c122_2, e122, hx122_0, hx122_1, hx122_2, hl122_2, hi122_2⟩ := at_T29 HR0.out x5_1 p122 q122
                                  cases e122
                                  have HR122_2 := Aside0.mk hi122_2
                                  have HC122_2 := Aside0.mk hl122_2
                                  clear hi122_2 hl122_2
                                  replace p122 := eq_true p122
                                  replace q122 := eq_true q122
                                  have p123 : 0 ≤ (x5_1 : Int) := of_decide_eq_true (by first | (with_reducible assumption) | assumption)
                                  have q123 : x5_1 < (l0.length : Int) := of_decide_eq_true (by first | (with_reducible assumption) | assumption)
                                  obtain ⟨ad123, A123_2, c123_2, e123, hx123_0, hx123_1, hx123_2, hl123_2, hi123_2⟩ := at_T29 HR0.out x5_1 p123 q123
                                  obtain rfl : ad122 = ad123 := (by injection e123)
                                  have HR123_2 := Aside0.mk hi123_2
                                  have HC123_2 := Aside0.mk hl123_2
                                  clear hi123_2 hl123_2
                                  replace p123 := eq_true p123
                                  replace q123 := eq_true q123
                                  have ea_ := Option.some.inj (hx122_2.symm.trans hx123_2)
                                  injection ea_ with ea_ en_ ec_
                                  subst ea_
                                  subst ec_
                                  clear en_
                                  have p124 : 0 ≤ (x6_3 : Int) := of_decide_eq_true (by first | (with_reducible assumption) | assumption)
                                  have q124 : x6_3 < (((rd_T29 l0 x5_1).f1).length : Int) := of_decide_eq_true (by first | (with_reducible assumption) | assumption)
                                  obtain ⟨ad124, e124, hx124_0, hx124_1⟩ := at_T26 HR123_2.out x6_3 p124 q124
                                  cases e124
                                  replace p124 := eq_true p124
                                  replace q124 := eq_true q124
                                  have p125 : 0 ≤ (x5_1 : Int) := of_decide_eq_true (by first | (with_reducible assumption) | assumption)
                                  have q125 : x5_1 < (l1.length : Int) := of_decide_eq_true (by first | (with_reducible assumption) | assumption)
                                  obtain ⟨ad125, A125_2, c125_2, e125, hx125_0, hx125_1, hx125_2, hl125_2, hi125_2⟩ := at_T29 HR1.out x5_1 p125 q125
                                  cases e125
                                  have HR125_2 := Aside0.mk hi125_2
                                  have HC125_2 := Aside0.mk hl125_2
                                  clear hi125_2 hl125_2
                                  replace p125 := eq_true p125
                                  replace q125 := eq_true q125
                                  have p126 : 0 ≤ (x6_3 : Int) := of_decide_eq_true (by first | (with_reducible assumption) | assumption)
                                  have q126 : x6_3 < (((rd_T29 l1 x5_1).f1).length : Int) := of_decide_eq_true (by first | (with_reducible assumption) | assumption)
                                  obtain ⟨ad126, e126, hx126_0, hx126_1⟩ := at_T26 HR125_2.out x6_3 p126 q126
                                  cases e126
                                  replace p126 := eq_true p126
                                  replace q126 := eq_true q126
                                  go_wp2
                                  repeat (go_quiet (fail); try go_wp2)
                                  go_ret
                                  exact ⟨by first | rfl | (simp; done) | (simp [*]; done), by repeat (first | exact Drawn0.refl _ | apply Drawn0.step)⟩
                                · rw [if_neg c16] at H
                                  have c16b0 : (!(((rd_T26 ((rd_T29 l0 x5_1).f1) x6_3).f0) == ((rd_T26 ((rd_T29 l1 x5_1).f1) x6_3).f0)) || (!(((rd_T26 ((rd_T29 l0 x5_1).f1) x6_3).f1) == ((rd_T26 ((rd_T29 l1 x5_1).f1) x6_3).f1)))) = false := by simpa using c16
                                  clear c16
                                  have H' := Aside0.mk H
                                  clear H
                                  have p122 : 0 ≤ (x5_1 : Int) := of_decide_eq_true (by first | (with_reducible assumption) | assumption)
                                  have q122 : x5_1 < (l0.length : Int) := of_decide_eq_true (by first | (with_reducible assumption) | assumption)
                                  obtain ⟨ad122, A122_2, c122_2, e122, hx122_0, hx122_1, hx122_2, hl122_2, hi122_2⟩ := at_T29 HR0.out x5_1 p122 q122
                                  cases e122
                                  have HR122_2 := Aside0.mk hi122_2
                                  have HC122_2 := Aside0.mk hl122_2
                                  clear hi122_2 hl122_2
                                  replace p122 := eq_true p122
                                  replace q122 := eq_true q122
                                  have p123 : 0 ≤ (x5_1 : Int) := of_decide_eq_true (by first | (with_reducible assumption) | assumption)
                                  have q123 : x5_1 < (l0.length : Int) := of_decide_eq_true (by first | (with_reducible assumption) | assumption)
                                  obtain ⟨ad123, A123_2, c123_2, e123, hx123_0, hx123_1, hx123_2, hl123_2, hi123_2⟩ := at_T29 HR0.out x5_1 p123 q123
                                  obtain rfl : ad122 = ad123 := (by injection e123)
                                  have HR123_2 := Aside0.mk hi123_2
                                  have HC123_2 := Aside0.mk hl123_2
                                  clear hi123_2 hl123_2
                                  replace p123 := eq_true p123
                                  replace q123 := eq_true q123
                                  have ea_ := Option.some.inj (hx122_2.symm.trans hx123_2)
                                  injection ea_ with ea_ en_ ec_
                                  subst ea_
                                  subst ec_
                                  clear en_
                                  have p124 : 0 ≤ (x6_3 : Int) := of_decide_eq_true (by first | (with_reducible assumption) | assumption)
                                  have q124 : x6_3 < (((rd_T29 l0 x5_1).f1).length : Int) := of_decide_eq_true (by first | (with_reducible assumption) | assumption)
                                  obtain ⟨ad124, e124, hx124_0, hx124_1⟩ := at_T26 HR123_2.out x6_3 p124 q124
                                  cases e124
                                  replace p124 := eq_true p124
                                  replace q124 := eq_true q124
                                  have p125 : 0 ≤ (x5_1 : Int) := of_decide_eq_true (by first | (with_reducible assumption) | assumption)
                                  have q125 : x5_1 < (l1.length : Int) := of_decide_eq_true (by first | (with_reducible assumption) | assumption)
                                  obtain ⟨ad125, A125_2, c125_2, e125, hx125_0, hx125_1, hx125_2, hl125_2, hi125_2⟩ := at_T29 HR1.out x5_1 p125 q125
                                  cases e125
                                  have HR125_2 := Aside0.mk hi125_2
                                  have HC125_2 := Aside0.mk hl125_2
                                  clear hi125_2 hl125_2
                                  replace p125 := eq_true p125
                                  replace q125 := eq_true q125
                                  have p126 : 0 ≤ (x6_3 : Int) := of_decide_eq_true (by first | (with_reducible assumption) | assumption)
                                  have q126 : x6_3 < (((rd_T29 l1 x5_1).f1).length : Int) := of_decide_eq_true (by first | (with_reducible assumption) | assumption)
                                  obtain ⟨ad126, e126, hx126_0, hx126_1⟩ := at_T26 HR125_2.out x6_3 p126 q126
                                  cases e126
                                  replace p126 := eq_true p126
                                  replace q126 := eq_true q126
                                  go_wp2
                                  repeat (go_quiet (fail); try go_wp2)
                                  go_roundg k3
                                  case measure => have := HK1.out; have := HJ4.out; have := HK3.out; omega
                                  case rel => exact ⟨(wrap64 (x6_3 + 1)), (by first | rfl | (simp; done) | (simp [*]; done)), H', ⟨by have := HK1.out; have := HJ4.out; have := HK3.out; omega⟩, by repeat (first | exact Drawn0.refl _ | apply Drawn0.step)⟩
                              · rw [if_neg c15] at H
                                exact absurd H (by simp)
                            · rw [if_neg c14] at H
                              exact absurd H (by simp)
                          · rw [if_neg c13] at H
                            exact absurd H (by simp)
                        · rw [if_neg c12] at H
                          have c12b0 : decide (x6_3 < (((rd_T29 l0 x5_1).f1).length : Int)) = false := decide_eq_false c12
                          clear c12
                          have H' := Aside0.mk H
                          clear H
                          have p122 : 0 ≤ (x5_1 : Int) := of_decide_eq_true (by first | (with_reducible assumption) | assumption)
                          have q122 : x5_1 < (l0.length : Int) := of_decide_eq_true (by first | (with_reducible assumption) | assumption)
                          obtain ⟨ad122, A122_2, c122_2, e122, hx122_0, hx122_1, hx122_2, hl122_2, hi122_2⟩ := at_T29 HR0.out x5_1 p122 q122
                          cases e122
                          have HR122_2 := Aside0.mk hi122_2
                          have HC122_2 := Aside0.mk hl122_2
                          clear hi122_2 hl122_2
                          replace p122 := eq_true p122
                          replace q122 := eq_true q122
                          go_wp2
                          repeat (go_quiet (fail); try go_wp2)
                          go_roundg k3
                          case measure => have := HK1.out; have := HJ4.out; have := HK3.out; omega
                          case rel => exact ⟨(wrap64 (x5_1 + 1)), (by first | rfl | (simp; done) | (simp [*]; done)), H', ⟨by have := HK1.out; have := HJ4.out; have := HK3.out; omega⟩, by repeat (first | exact Drawn0.refl _ | apply Drawn0.step)⟩
                      · rw [if_neg c11] at H
                        exact absurd H (by simp)
                    · rw [if_neg c10] at H
                      exact absurd H (by simp)
        · rw [if_neg c4] at H
          have c4b0 : decide (x5_1 < (l0.length : Int)) = false := decide_eq_false c4
          clear c4
          obtain rfl := Option.some.inj H
          go_wp2
          repeat (go_quiet (fail); try go_wp2)
          go_ret
          exact ⟨by first | rfl | (simp; done) | (simp [*]; done), by repeat (first | exact Drawn0.refl _ | apply Drawn0.step)⟩
  · rw [if_neg c3] at H
    have c3b0 : ((l0.length : Int) == (l1.length : Int)) = false := beq_eq_false_iff_ne.mpr c3
    have c3b1 : ((l0.length : Int) != (l1.length : Int)) = true := bne_iff_ne.mpr c3
    have c3b2 : (l0.length == l1.length) = false := by first | simpa using c3 | (simp at c3 ⊢; omega)
    obtain rfl := Option.some.inj H
    go_enter Try.func21, Try.ntmps21
    go_wp2
    repeat (go_quiet (fail); try go_wp2)
    go_ret
    exact ⟨by first | rfl | (simp; done) | (simp [*]; done), by repeat (first | exact Drawn0.refl _ | apply Drawn0.step)⟩

-- NOT PRINTED: function 34 (payrollref9_pairing_anomaly)

-- NOT PRINTED: function 37 (payrollref9_pairing_stop)

-- NOT PRINTED: function 36 (payrollref9_pairing_leave)

-- NOT PRINTED: function 33 (payrollref9_pairing_stamp)

-- NOT PRINTED: function 25 (payrollref9_Pair)

-- NOT PRINTED: function 11 (payrolllaw9_pairs)

end Go.Proofs.Ytbncjlapmomlkaa.P
