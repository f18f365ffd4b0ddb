import Derived.Test.YthdohkabcpdpdaaWInv
import Derived.Test.YthdohkabcpdpdaaWFootNe
namespace Go.Proofs.YthdohkabcpdpdaaW.PrintWords
open Go.RowKit
end Go.Proofs.YthdohkabcpdpdaaW.PrintWords
namespace Go.Proofs.YthdohkabcpdpdaaW.PrintLast
section
variable {ops : Array Oper} {a : Act} {o og : Oper} {g : Nat} {t : Tmp} {u : Bool}
end
end Go.Proofs.YthdohkabcpdpdaaW.PrintLast
