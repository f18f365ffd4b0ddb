/-
  No cell of these rows narrows 'for every input' (looked for: loops, veiled, ifaces, maps, wideKeys, modest, calm, conditions, laid).
  DERIVED. THE GIVEN ROWS OF THIS SEAT. 4 by the template 'for every input the law returns true; each argument reads behind the call as it read before'; 0 by the template 'total and deterministic' (their statements: YtbncjlapmomlkaaTotals.lean).
  GIVEN WITH THE SEED: the statements are not yours to turn. If you find one false, say at which input.
  Laid BY PROGRAM, IN A SANDBOX (cutbox-rows.mjs): the forced cells as the released guide's own fill.sh prints them over the translation 83ce9fd66429f3aa… (all of the seat's roots in one cut). By AI agents, Wed Nov 11 2026. No macro, syntax, notation, axiom, sorry.
-/
import Derived.Test.YtbncjlapmomlkaaChecked
import GoSem.Claim
import GoSem.ClaimJoined
import GoSem.ClaimMapViews
import Derived.JoinedTies
import Derived.KernelRfl
namespace Go.Proofs.Ytbncjlapmomlkaa
/- THE CELL 'sum', in the pinned program and in every row, IS THE sha256 OF THE DUMP (.gsa) THAT YtbncjlapmomlkaaProg.lean LOADS. Nothing in Lean hashes anything: it is a label: what it is worth is what the hold of that sum in a sandbox is worth. -/
noncomputable def Try.pinned : Pinned := { name := "ytbncjlapmomlkaa", sum := "83ce9fd66429f3aa41a6a895660281f512c33fa94586166199e65ea7883d6d1f", checked := Try.checked }
namespace Rows
def none {H : Type} : Left H := { results := [], args := [] }

/-- 'payrolllaw9.PresenceLimits': WHATEVER THE INPUT: true; the input reads as it did. -/
def presenceLimitsSpec : ChangeSpec := { name := "presenceLimits", fn := fun _ => fun
  | [d1, d2] => { results := [.lit (.bool true)], args := [d1, d2] }
  | _ => none }
def presenceLimitsRow : OpenClaim := { program := "ytbncjlapmomlkaa", sum := "83ce9fd66429f3aa41a6a895660281f512c33fa94586166199e65ea7883d6d1f", func := "payroll/payrolllaw9.PresenceLimits", spec := "presenceLimits", apart := false }
def PresenceLimitsSaid : Prop := presenceLimitsRow.holds Try.pinned (OpenSpec.ofChange presenceLimitsSpec)

/-- ITS FALSE NEIGHBOUR: 'it returns false'. Refute it at one input. -/
def presenceLimitsWrong : ChangeSpec := { name := "presenceLimits", fn := fun _ => fun
  | [d1, d2] => { results := [.lit (.bool false)], args := [d1, d2] }
  | _ => none }
def PresenceLimitsWrongFalsely : Prop := presenceLimitsRow.holds Try.pinned (OpenSpec.ofChange presenceLimitsWrong)

/-- 'payrolllaw9.PresenceValid': WHATEVER THE INPUT: true; the input reads as it did. -/
def presenceValidSpec : ChangeSpec := { name := "presenceValid", fn := fun _ => fun
  | [d1, d2] => { results := [.lit (.bool true)], args := [d1, d2] }
  | _ => none }
def presenceValidRow : OpenClaim := { program := "ytbncjlapmomlkaa", sum := "83ce9fd66429f3aa41a6a895660281f512c33fa94586166199e65ea7883d6d1f", func := "payroll/payrolllaw9.PresenceValid", spec := "presenceValid", apart := false }
def PresenceValidSaid : Prop := presenceValidRow.holds Try.pinned (OpenSpec.ofChange presenceValidSpec)

/-- ITS FALSE NEIGHBOUR: 'it returns false'. Refute it at one input. -/
def presenceValidWrong : ChangeSpec := { name := "presenceValid", fn := fun _ => fun
  | [d1, d2] => { results := [.lit (.bool false)], args := [d1, d2] }
  | _ => none }
def PresenceValidWrongFalsely : Prop := presenceValidRow.holds Try.pinned (OpenSpec.ofChange presenceValidWrong)

/-- 'payrolllaw9.PresenceSound': WHATEVER THE INPUT: true; the input reads as it did. -/
def presenceSoundSpec : ChangeSpec := { name := "presenceSound", fn := fun _ => fun
  | [d1, d2] => { results := [.lit (.bool true)], args := [d1, d2] }
  | _ => none }
def presenceSoundRow : OpenClaim := { program := "ytbncjlapmomlkaa", sum := "83ce9fd66429f3aa41a6a895660281f512c33fa94586166199e65ea7883d6d1f", func := "payroll/payrolllaw9.PresenceSound", spec := "presenceSound", apart := false }
def PresenceSoundSaid : Prop := presenceSoundRow.holds Try.pinned (OpenSpec.ofChange presenceSoundSpec)

/-- ITS FALSE NEIGHBOUR: 'it returns false'. Refute it at one input. -/
def presenceSoundWrong : ChangeSpec := { name := "presenceSound", fn := fun _ => fun
  | [d1, d2] => { results := [.lit (.bool false)], args := [d1, d2] }
  | _ => none }
def PresenceSoundWrongFalsely : Prop := presenceSoundRow.holds Try.pinned (OpenSpec.ofChange presenceSoundWrong)

/-- 'payrolllaw9.PresenceComesBack': WHATEVER THE INPUT: true; the input reads as it did. -/
def presenceComesBackSpec : ChangeSpec := { name := "presenceComesBack", fn := fun _ => fun
  | [d] => { results := [.lit (.bool true)], args := [d] }
  | _ => none }
def presenceComesBackRow : OpenClaim := { program := "ytbncjlapmomlkaa", sum := "83ce9fd66429f3aa41a6a895660281f512c33fa94586166199e65ea7883d6d1f", func := "payroll/payrolllaw9.PresenceComesBack", spec := "presenceComesBack", apart := false }
def PresenceComesBackSaid : Prop := presenceComesBackRow.holds Try.pinned (OpenSpec.ofChange presenceComesBackSpec)

/-- ITS FALSE NEIGHBOUR: 'it returns false'. Refute it at one input. -/
def presenceComesBackWrong : ChangeSpec := { name := "presenceComesBack", fn := fun _ => fun
  | [d] => { results := [.lit (.bool false)], args := [d] }
  | _ => none }
def PresenceComesBackWrongFalsely : Prop := presenceComesBackRow.holds Try.pinned (OpenSpec.ofChange presenceComesBackWrong)

/- THE SECOND FORM. 'bulk': how many values and letters a reading holds, each counted each time it is reached (what is shared counts as often as it is met; a slice's spare places count too). A statement '..UptoSaid' is the law's where the arguments, and the package variables that the reading takes, are together of bulk at most 1048576: NARROWER than '..Said'. Prove '..Said' where nothing that the law and all that it calls make is longer than what came in: it says more and counts as full. Else prove '..UptoSaid'. A law counts once. -/
mutual
def uptoBulk {H : Type} : DataW H → Nat
  | .lit (.string bytes) => bytes.length + 1
  | .lit _ => 1
  | .nil => 1
  | .ptr d => uptoBulk d + 1
  | .slice elems spare => uptoBulkAll elems + uptoBulkAll spare + 1
  | .agg parts => uptoBulkAll parts + 1
  | .iface _ d => uptoBulk d + 1
  | .map entries => uptoBulkEntries entries + 1
  | .held _ => 1
def uptoBulkAll {H : Type} : List (DataW H) → Nat
  | [] => 0
  | d :: r => uptoBulk d + uptoBulkAll r
def uptoBulkEntries {H : Type} : List (Lit × DataW H) → Nat
  | [] => 0
  | x :: r => uptoBulkEntry x + uptoBulkEntries r
def uptoBulkEntry {H : Type} : Lit × DataW H → Nat
  | (.string bytes, d) => bytes.length + uptoBulk d + 1
  | (_, d) => uptoBulk d + 1
 end
def uptoSmall : (H : Type) → List (DataW H) → Bool := fun _ ds => decide (uptoBulkAll ds ≤ 1048576)
def OpenSpec.upto (s : _root_.Go.ChangeSpec) : _root_.Go.OpenSpec := { _root_.Go.OpenSpec.ofChange s with cond := some uptoSmall }

/-- 'payrolllaw9.PresenceLimits', WHERE WHAT IT READS IS OF BULK AT MOST 1048576: true; the input reads as it did. -/
def presenceLimitsUptoRow : OpenClaim := { program := "ytbncjlapmomlkaa", sum := "83ce9fd66429f3aa41a6a895660281f512c33fa94586166199e65ea7883d6d1f", func := "payroll/payrolllaw9.PresenceLimits", spec := "presenceLimits", apart := false, narrowed := true }
def PresenceLimitsUptoSaid : Prop := presenceLimitsUptoRow.holds Try.pinned (OpenSpec.upto presenceLimitsSpec)

/-- 'payrolllaw9.PresenceValid', WHERE WHAT IT READS IS OF BULK AT MOST 1048576: true; the input reads as it did. -/
def presenceValidUptoRow : OpenClaim := { program := "ytbncjlapmomlkaa", sum := "83ce9fd66429f3aa41a6a895660281f512c33fa94586166199e65ea7883d6d1f", func := "payroll/payrolllaw9.PresenceValid", spec := "presenceValid", apart := false, narrowed := true }
def PresenceValidUptoSaid : Prop := presenceValidUptoRow.holds Try.pinned (OpenSpec.upto presenceValidSpec)

/-- 'payrolllaw9.PresenceSound', WHERE WHAT IT READS IS OF BULK AT MOST 1048576: true; the input reads as it did. -/
def presenceSoundUptoRow : OpenClaim := { program := "ytbncjlapmomlkaa", sum := "83ce9fd66429f3aa41a6a895660281f512c33fa94586166199e65ea7883d6d1f", func := "payroll/payrolllaw9.PresenceSound", spec := "presenceSound", apart := false, narrowed := true }
def PresenceSoundUptoSaid : Prop := presenceSoundUptoRow.holds Try.pinned (OpenSpec.upto presenceSoundSpec)

/-- 'payrolllaw9.PresenceComesBack', WHERE WHAT IT READS IS OF BULK AT MOST 1048576: true; the input reads as it did. -/
def presenceComesBackUptoRow : OpenClaim := { program := "ytbncjlapmomlkaa", sum := "83ce9fd66429f3aa41a6a895660281f512c33fa94586166199e65ea7883d6d1f", func := "payroll/payrolllaw9.PresenceComesBack", spec := "presenceComesBack", apart := false, narrowed := true }
def PresenceComesBackUptoSaid : Prop := presenceComesBackUptoRow.holds Try.pinned (OpenSpec.upto presenceComesBackSpec)

end Rows
end Go.Proofs.Ytbncjlapmomlkaa
