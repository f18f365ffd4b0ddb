/-
  No cell of these rows narrows 'for every input' (looked for: loops, veiled, ifaces, maps, wideKeys, modest, calm, conditions, laid).
  DERIVED. THE GIVEN ROWS OF THIS SEAT. 3 by the template 'for every input the law returns true; each argument reads behind the call as it read before'; 0 by the template 'total and deterministic' (their statements: YthdohkabcpdpdaaTotals.lean).
  GIVEN WITH THE SEED: the statements are not yours to turn. If you find one false, say at which input.
  Laid BY PROGRAM, IN A SANDBOX (cutbox-rows.mjs): the forced cells as the released guide's own fill.sh prints them over the translation 76b813f1c49f9a76… (all of the seat's roots in one cut). By AI agents, Wed Nov 11 2026. No macro, syntax, notation, axiom, sorry.
-/
import Derived.Test.YthdohkabcpdpdaaChecked
import GoSem.Claim
import GoSem.ClaimJoined
import GoSem.ClaimMapViews
import Derived.JoinedTies
import Derived.KernelRfl
namespace Go.Proofs.Ythdohkabcpdpdaa
/- THE CELL 'sum', in the pinned program and in every row, IS THE sha256 OF THE DUMP (.gsa) THAT YthdohkabcpdpdaaProg.lean LOADS. Nothing in Lean hashes anything: it is a label: what it is worth is what the hold of that sum in a sandbox is worth. -/
noncomputable def Try.pinned : Pinned := { name := "ythdohkabcpdpdaa", sum := "76b813f1c49f9a76fe3ec541505eb70723121796acbe8702209cd0fb368d02bf", checked := Try.checked }
namespace Rows
def none {H : Type} : Left H := { results := [], args := [] }

/-- 'payrolllaw11.WorktimeMinutes': WHATEVER THE INPUT: true; the input reads as it did. -/
def worktimeMinutesSpec : ChangeSpec := { name := "worktimeMinutes", fn := fun _ => fun
  | [d1, d2] => { results := [.lit (.bool true)], args := [d1, d2] }
  | _ => none }
def worktimeMinutesRow : OpenClaim := { program := "ythdohkabcpdpdaa", sum := "76b813f1c49f9a76fe3ec541505eb70723121796acbe8702209cd0fb368d02bf", func := "payroll/payrolllaw11.WorktimeMinutes", spec := "worktimeMinutes", unfollowed := true, recurses := true, apart := false }
def WorktimeMinutesSaid : Prop := worktimeMinutesRow.holds Try.pinned (OpenSpec.ofChange worktimeMinutesSpec)

/-- ITS FALSE NEIGHBOUR: 'it returns false'. Refute it at one input. -/
def worktimeMinutesWrong : ChangeSpec := { name := "worktimeMinutes", fn := fun _ => fun
  | [d1, d2] => { results := [.lit (.bool false)], args := [d1, d2] }
  | _ => none }
def WorktimeMinutesWrongFalsely : Prop := worktimeMinutesRow.holds Try.pinned (OpenSpec.ofChange worktimeMinutesWrong)

/-- 'payrolllaw11.WorktimeSound': WHATEVER THE INPUT: true; the input reads as it did. -/
def worktimeSoundSpec : ChangeSpec := { name := "worktimeSound", fn := fun _ => fun
  | [d] => { results := [.lit (.bool true)], args := [d] }
  | _ => none }
def worktimeSoundRow : OpenClaim := { program := "ythdohkabcpdpdaa", sum := "76b813f1c49f9a76fe3ec541505eb70723121796acbe8702209cd0fb368d02bf", func := "payroll/payrolllaw11.WorktimeSound", spec := "worktimeSound", unfollowed := true, recurses := true, apart := false }
def WorktimeSoundSaid : Prop := worktimeSoundRow.holds Try.pinned (OpenSpec.ofChange worktimeSoundSpec)

/-- ITS FALSE NEIGHBOUR: 'it returns false'. Refute it at one input. -/
def worktimeSoundWrong : ChangeSpec := { name := "worktimeSound", fn := fun _ => fun
  | [d] => { results := [.lit (.bool false)], args := [d] }
  | _ => none }
def WorktimeSoundWrongFalsely : Prop := worktimeSoundRow.holds Try.pinned (OpenSpec.ofChange worktimeSoundWrong)

/-- 'payrolllaw11.WorktimeNeverMore': WHATEVER THE INPUT: true; the input reads as it did. -/
def worktimeNeverMoreSpec : ChangeSpec := { name := "worktimeNeverMore", fn := fun _ => fun
  | [d1, d2] => { results := [.lit (.bool true)], args := [d1, d2] }
  | _ => none }
def worktimeNeverMoreRow : OpenClaim := { program := "ythdohkabcpdpdaa", sum := "76b813f1c49f9a76fe3ec541505eb70723121796acbe8702209cd0fb368d02bf", func := "payroll/payrolllaw11.WorktimeNeverMore", spec := "worktimeNeverMore", unfollowed := true, recurses := true, apart := false }
def WorktimeNeverMoreSaid : Prop := worktimeNeverMoreRow.holds Try.pinned (OpenSpec.ofChange worktimeNeverMoreSpec)

/-- ITS FALSE NEIGHBOUR: 'it returns false'. Refute it at one input. -/
def worktimeNeverMoreWrong : ChangeSpec := { name := "worktimeNeverMore", fn := fun _ => fun
  | [d1, d2] => { results := [.lit (.bool false)], args := [d1, d2] }
  | _ => none }
def WorktimeNeverMoreWrongFalsely : Prop := worktimeNeverMoreRow.holds Try.pinned (OpenSpec.ofChange worktimeNeverMoreWrong)

/- THE SECOND FORM. 'bulk': how many values and letters a reading holds, each counted each time it is reached (what is shared counts as often as it is met; a slice's spare places count too). A statement '..UptoSaid' is the law's where the arguments, and the package variables that the reading takes, are together of bulk at most 1048576: NARROWER than '..Said'. Prove '..Said' where nothing that the law and all that it calls make is longer than what came in: it says more and counts as full. Else prove '..UptoSaid'. A law counts once. -/
mutual
def uptoBulk {H : Type} : DataW H → Nat
  | .lit (.string bytes) => bytes.length + 1
  | .lit _ => 1
  | .nil => 1
  | .ptr d => uptoBulk d + 1
  | .slice elems spare => uptoBulkAll elems + uptoBulkAll spare + 1
  | .agg parts => uptoBulkAll parts + 1
  | .iface _ d => uptoBulk d + 1
  | .map entries => uptoBulkEntries entries + 1
  | .held _ => 1
def uptoBulkAll {H : Type} : List (DataW H) → Nat
  | [] => 0
  | d :: r => uptoBulk d + uptoBulkAll r
def uptoBulkEntries {H : Type} : List (Lit × DataW H) → Nat
  | [] => 0
  | x :: r => uptoBulkEntry x + uptoBulkEntries r
def uptoBulkEntry {H : Type} : Lit × DataW H → Nat
  | (.string bytes, d) => bytes.length + uptoBulk d + 1
  | (_, d) => uptoBulk d + 1
 end
def uptoSmall : (H : Type) → List (DataW H) → Bool := fun _ ds => decide (uptoBulkAll ds ≤ 1048576)
def OpenSpec.upto (s : _root_.Go.ChangeSpec) : _root_.Go.OpenSpec := { _root_.Go.OpenSpec.ofChange s with cond := some uptoSmall }

/-- 'payrolllaw11.WorktimeMinutes', WHERE WHAT IT READS IS OF BULK AT MOST 1048576: true; the input reads as it did. -/
def worktimeMinutesUptoRow : OpenClaim := { program := "ythdohkabcpdpdaa", sum := "76b813f1c49f9a76fe3ec541505eb70723121796acbe8702209cd0fb368d02bf", func := "payroll/payrolllaw11.WorktimeMinutes", spec := "worktimeMinutes", unfollowed := true, recurses := true, apart := false, narrowed := true }
def WorktimeMinutesUptoSaid : Prop := worktimeMinutesUptoRow.holds Try.pinned (OpenSpec.upto worktimeMinutesSpec)

/-- 'payrolllaw11.WorktimeSound', WHERE WHAT IT READS IS OF BULK AT MOST 1048576: true; the input reads as it did. -/
def worktimeSoundUptoRow : OpenClaim := { program := "ythdohkabcpdpdaa", sum := "76b813f1c49f9a76fe3ec541505eb70723121796acbe8702209cd0fb368d02bf", func := "payroll/payrolllaw11.WorktimeSound", spec := "worktimeSound", unfollowed := true, recurses := true, apart := false, narrowed := true }
def WorktimeSoundUptoSaid : Prop := worktimeSoundUptoRow.holds Try.pinned (OpenSpec.upto worktimeSoundSpec)

/-- 'payrolllaw11.WorktimeNeverMore', WHERE WHAT IT READS IS OF BULK AT MOST 1048576: true; the input reads as it did. -/
def worktimeNeverMoreUptoRow : OpenClaim := { program := "ythdohkabcpdpdaa", sum := "76b813f1c49f9a76fe3ec541505eb70723121796acbe8702209cd0fb368d02bf", func := "payroll/payrolllaw11.WorktimeNeverMore", spec := "worktimeNeverMore", unfollowed := true, recurses := true, apart := false, narrowed := true }
def WorktimeNeverMoreUptoSaid : Prop := worktimeNeverMoreUptoRow.holds Try.pinned (OpenSpec.upto worktimeNeverMoreSpec)

end Rows
end Go.Proofs.Ythdohkabcpdpdaa
