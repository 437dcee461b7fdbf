/- What is asked of the numbers of ontimelaw24_CfgValid. -/
import Derived.Test.YtihmfdndiicjgaaCx18
namespace Go.Proofs.Ytihmfdndiicjgaa.C
open Go.RowKit Go.Proofs.YtihmfdndiicjgaaW.PrintWords Go.Proofs.YtihmfdndiicjgaaW.PrintLast Go.Proofs.YtihmfdndiicjgaaW.PrintMore
def ok51 (x : S51) : Prop := ((Lit.int .i64 x.f0).wf = true) ∧ ((Lit.int .i64 x.f1).wf = true) ∧ (x.f2.length ≤ maxLen ∧ ∀ y4 ∈ x.f2, ((Lit.int .i64 y4).wf = true))
def ok31 (x : S31) : Prop := (x.f0.length ≤ maxLen ∧ ∀ y4 ∈ x.f0, (ok51 y4)) ∧ (x.f1.length ≤ maxLen ∧ ∀ y4 ∈ x.f1, (y4.length ≤ maxLen ∧ ∀ y2 ∈ y4, ((Lit.int .i64 y2).wf = true)))
/-- The one pure statement of ontimelaw24_CfgValid. -/
def ontimelaw24_CfgValid.Pure : Prop := ∀ (x0 : S31), (ok31 x0) → ∃ k, ontimelaw24_CfgValid.f k x0.f0 x0.f1 = some true
end Go.Proofs.Ytihmfdndiicjgaa.C
