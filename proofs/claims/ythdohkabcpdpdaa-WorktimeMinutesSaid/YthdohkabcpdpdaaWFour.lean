import Derived.Test.YthdohkabcpdpdaaWTab
namespace Go.Proofs.YthdohkabcpdpdaaW.PrintLast
section
variable {P : Program} {ops : Array Oper} {Q : Exit → Act → World → Prop} {md : Region.Mode} {S : World → Prop} {ds : List Nat} {T : Bool × List (List Nat × List Nat)}
end
end Go.Proofs.YthdohkabcpdpdaaW.PrintLast
