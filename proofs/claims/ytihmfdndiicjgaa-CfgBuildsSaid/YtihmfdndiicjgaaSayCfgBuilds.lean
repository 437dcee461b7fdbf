/- What is asked of the numbers of ontimelaw24_CfgBuilds. -/
import Derived.Test.YtihmfdndiicjgaaCx15
namespace Go.Proofs.Ytihmfdndiicjgaa.C
open Go.RowKit Go.Proofs.YtihmfdndiicjgaaW.PrintWords Go.Proofs.YtihmfdndiicjgaaW.PrintLast Go.Proofs.YtihmfdndiicjgaaW.PrintMore
def ok39 (x : S39) : Prop := (x.f0.size ≤ maxLen) ∧ ((Lit.int .i64 x.f1).wf = true) ∧ ((Lit.int .i64 x.f2).wf = true) ∧ ((Lit.int .i64 x.f3).wf = true)
def ok25 (x : S25) : Prop := (x.f0.length ≤ maxLen ∧ ∀ y4 ∈ x.f0, ((Lit.int .u32 y4).wf = true)) ∧ (x.f1.length ≤ maxLen ∧ ∀ y4 ∈ x.f1, (ok39 y4)) ∧ ((Lit.int .i64 x.f2).wf = true) ∧ ((Lit.int .i64 x.f3).wf = true)
/-- The one pure statement of ontimelaw24_CfgBuilds. -/
def ontimelaw24_CfgBuilds.Pure : Prop := ∀ (x0 : S25) (x1 : Int), (ok25 x0) → ((Lit.int .i64 x1).wf = true) → ∃ k, ontimelaw24_CfgBuilds.f k x0.f0 x0.f1 x0.f2 x0.f3 x1 = some true
end Go.Proofs.Ytihmfdndiicjgaa.C
