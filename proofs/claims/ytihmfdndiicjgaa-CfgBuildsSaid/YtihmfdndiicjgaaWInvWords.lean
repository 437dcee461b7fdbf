import Derived.Test.YtihmfdndiicjgaaWInv
import Derived.Test.YtihmfdndiicjgaaWFootNe
namespace Go.Proofs.YtihmfdndiicjgaaW.PrintWords
open Go.RowKit
end Go.Proofs.YtihmfdndiicjgaaW.PrintWords
namespace Go.Proofs.YtihmfdndiicjgaaW.PrintLast
section
variable {ops : Array Oper} {a : Act} {o og : Oper} {g : Nat} {t : Tmp} {u : Bool}
end
end Go.Proofs.YtihmfdndiicjgaaW.PrintLast
