import Derived.SizedLaws
import Derived.ChangeSlices
namespace Go.Proofs.YtihmfdndiicjgaaW.PrintWords
open Go.ChangeShapes Go.WideShapes
end Go.Proofs.YtihmfdndiicjgaaW.PrintWords
