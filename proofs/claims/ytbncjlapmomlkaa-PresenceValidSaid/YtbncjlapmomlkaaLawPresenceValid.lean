/- The law PresenceValid holds for every input: presences that are made, spoilt or arbitrary are valid, and have their minutes, just as the reference says; no condition. -/
import Derived.Test.YtbncjlapmomlkaaRows
import Derived.Test.YtbncjlapmomlkaaXLawV
import Derived.WalkKit
import Derived.ProofKit
import Derived.ChangeOld
import Derived.SizedLaws
namespace Go.Proofs.Ytbncjlapmomlkaa.presenceValid
open Go.ChangeShapes Go.WideShapes Go.ChangeAt Go.RowKit Go.Abs
theorem own : ownKnob Try.prog.godebug = none := by kernel_rfl
theorem laidOut : laidOutB Try.prog = true := by kernel_rfl
def S : List TypeId := [30, 3, 24, 29, 26, 27]
theorem good : goodB C9.tt S = true := by kernel_rfl
theorem main (xs : List D) (hl : xs.length = 2) (hx : ∀ (j : Nat) t x, [30, 24][j]? = some t → xs[j]? = some x → HasT C9.tt t x ∧ Wf C9.tt x) :
    ACalls Try.prog C9.tt 4 (xs.map PV.d) [] [.d (.b true)] [] := by
  match xs, hl with
  | [x0, x1], _ =>
    obtain ⟨h0, w0⟩ := hx 0 _ x0 rfl rfl
    obtain ⟨h1, w1⟩ := hx 1 _ x1 rfl rfl
    obtain ⟨t, rfl⟩ := h0.isL (e := 3) (by kernel_rfl)
    obtain ⟨l, rfl⟩ := h1.isL (e := 29) (by kernel_rfl)
    obtain ⟨b0, _, _⟩ := w0.leN (n := 8) (by kernel_rfl)
    obtain ⟨b1, k1, k2⟩ := w1.leN (n := 40) (by kernel_rfl)
    refine C9.PresenceValid_ok t l (by omega) (by omega) fun y hy => ?_
    obtain ⟨br, e, hj⟩ := (k1 y hy).leafL (j := 2) (e := 26) (by kernel_rfl)
    have wb := (k2 y hy).leaf hj
    rw [e] at wb
    obtain ⟨b2, _, _⟩ := wb.leN (n := 16) (by kernel_rfl)
    show ((D.toL (D.leafAt y 2)).length : Int) ≤ _
    rw [e]
    show (br.length : Int) ≤ _
    omega
theorem spec (H : Type) (ds : List (DataW H)) (hl : ds.length = 2) : (Rows.presenceValidSpec.fn H ds).results = [.lit (.bool true)] ∧ (Rows.presenceValidSpec.fn H ds).args = ds ∧ (Rows.presenceValidSpec.fn H ds).vars = [] := by
  match ds, hl with
  | [d1, d2], _ => exact ⟨rfl, rfl, rfl⟩
set_option maxRecDepth 100000 in
theorem lifted (os : Os) (started : os.Started) (H : Type) (enc : TypeId × Value → H) :
    ReturnsInHanded {} Try.checked os 4 .any (Rows.presenceValidSpec.pre6 enc Try.prog Try.f4 Rows.presenceValidRow.domain false) (Rows.presenceValidSpec.post enc Try.prog Try.f4 false true false false) := by
  refine returnsInHanded_of_change_sized (C := Try.checked) own started (by kernel_rfl) Try.func4
    (ChangeSpec.witness6 (enc := enc) (C := Try.checked) false ⟨#[], #[.slice none 0 0, .slice none 0 0], []⟩ 8 (by kernel_rfl) (by kernel_rfl) (by kernel_rfl) (by kernel_rfl)) ?_
  intro W base args ds gs before hval0 hW hcnd hsz0 _
  exact law_ret laidOut C9.pok.types good (fn := Try.f4) (tys := [30, 24]) (by kernel_rfl) (by kernel_rfl) (by kernel_rfl) Try.underlying4 rfl (spec H) hval0 hW hsz0 main
theorem over : Rows.presenceValidRow.holds Try.pinned (OpenSpec.ofChange Rows.presenceValidSpec) :=
  OpenClaim.holds_of_wide 4 Try.f4 rfl rfl rfl rfl rfl rfl rfl ⟨rfl, rfl, rfl, rfl, rfl⟩ rfl rfl rfl rfl rfl (by kernel_rfl) Try.func4 (by kernel_rfl)
    (of_decide_eq_true (by kernel_rfl)) (by unfold Func.isWrapper; first | (rw [if_pos (by decide +kernel)]; kernel_rfl) | (rw [if_neg (by decide +kernel)]; exact ⟨rfl, rfl⟩))
    (fun os started H enc _ => lifted os started H enc)
end Go.Proofs.Ytbncjlapmomlkaa.presenceValid
namespace Go.Proofs.Ytbncjlapmomlkaa
/-- The row, under a short name, for the claim. -/
theorem presenceValid_holds : Rows.PresenceValidSaid := presenceValid.over
#print axioms presenceValid_holds
end Go.Proofs.Ytbncjlapmomlkaa
