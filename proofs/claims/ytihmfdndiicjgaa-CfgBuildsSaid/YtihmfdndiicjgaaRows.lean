/-
  No cell of these rows narrows 'for every input' (looked for: loops, veiled, ifaces, maps, wideKeys, modest, calm, conditions, laid).
  DERIVED. THE GIVEN ROWS OF THIS SEAT. 7 by the template 'for every input the law returns true; each argument reads behind the call as it read before'; 0 by the template 'total and deterministic' (their statements: YtihmfdndiicjgaaTotals.lean).
  GIVEN WITH THE SEED: the statements are not yours to turn. If you find one false, say at which input.
  Laid BY PROGRAM, IN A SANDBOX (cutbox-rows.mjs): the forced cells as the released guide's own fill.sh prints them over the translation 4ac0ed25e5a94157… (all of the seat's roots in one cut). By AI agents, Wed Nov 11 2026. No macro, syntax, notation, axiom, sorry.
-/
import Derived.Test.YtihmfdndiicjgaaChecked
import GoSem.Claim
import GoSem.ClaimJoined
import GoSem.ClaimMapViews
import Derived.JoinedTies
import Derived.KernelRfl
namespace Go.Proofs.Ytihmfdndiicjgaa
/- THE CELL 'sum', in the pinned program and in every row, IS THE sha256 OF THE DUMP (.gsa) THAT YtihmfdndiicjgaaProg.lean LOADS. Nothing in Lean hashes anything: it is a label: what it is worth is what the hold of that sum in a sandbox is worth. -/
noncomputable def Try.pinned : Pinned := { name := "ytihmfdndiicjgaa", sum := "4ac0ed25e5a941576ecdd838f93bc876f5165863f4749320e4330e99b333b296", checked := Try.checked }
namespace Rows
def none {H : Type} : Left H := { results := [], args := [] }

/-- 'ontimelaw24.CfgBuilds': WHATEVER THE INPUT: true; the input reads as it did. -/
def cfgBuildsSpec : ChangeSpec := { name := "cfgBuilds", fn := fun _ => fun
  | [d1, d2] => { results := [.lit (.bool true)], args := [d1, d2] }
  | _ => none }
def cfgBuildsRow : OpenClaim := { program := "ytihmfdndiicjgaa", sum := "4ac0ed25e5a941576ecdd838f93bc876f5165863f4749320e4330e99b333b296", func := "ontime/ontimelaw24.CfgBuilds", spec := "cfgBuilds", unfollowed := true, recurses := true, apart := false }
def CfgBuildsSaid : Prop := cfgBuildsRow.holds Try.pinned (OpenSpec.ofChange cfgBuildsSpec)

/-- ITS FALSE NEIGHBOUR: 'it returns false'. Refute it at one input. -/
def cfgBuildsWrong : ChangeSpec := { name := "cfgBuilds", fn := fun _ => fun
  | [d1, d2] => { results := [.lit (.bool false)], args := [d1, d2] }
  | _ => none }
def CfgBuildsWrongFalsely : Prop := cfgBuildsRow.holds Try.pinned (OpenSpec.ofChange cfgBuildsWrong)

/-- 'ontimelaw24.CfgValid': WHATEVER THE INPUT: true; the input reads as it did. -/
def cfgValidSpec : ChangeSpec := { name := "cfgValid", fn := fun _ => fun
  | [d] => { results := [.lit (.bool true)], args := [d] }
  | _ => none }
def cfgValidRow : OpenClaim := { program := "ytihmfdndiicjgaa", sum := "4ac0ed25e5a941576ecdd838f93bc876f5165863f4749320e4330e99b333b296", func := "ontime/ontimelaw24.CfgValid", spec := "cfgValid", unfollowed := true, recurses := true, apart := false }
def CfgValidSaid : Prop := cfgValidRow.holds Try.pinned (OpenSpec.ofChange cfgValidSpec)

/-- ITS FALSE NEIGHBOUR: 'it returns false'. Refute it at one input. -/
def cfgValidWrong : ChangeSpec := { name := "cfgValid", fn := fun _ => fun
  | [d] => { results := [.lit (.bool false)], args := [d] }
  | _ => none }
def CfgValidWrongFalsely : Prop := cfgValidRow.holds Try.pinned (OpenSpec.ofChange cfgValidWrong)

/-- 'ontimelaw24.CfgSound': WHATEVER THE INPUT: true; the input reads as it did. -/
def cfgSoundSpec : ChangeSpec := { name := "cfgSound", fn := fun _ => fun
  | [d1, d2] => { results := [.lit (.bool true)], args := [d1, d2] }
  | _ => none }
def cfgSoundRow : OpenClaim := { program := "ytihmfdndiicjgaa", sum := "4ac0ed25e5a941576ecdd838f93bc876f5165863f4749320e4330e99b333b296", func := "ontime/ontimelaw24.CfgSound", spec := "cfgSound", unfollowed := true, recurses := true, apart := false }
def CfgSoundSaid : Prop := cfgSoundRow.holds Try.pinned (OpenSpec.ofChange cfgSoundSpec)

/-- ITS FALSE NEIGHBOUR: 'it returns false'. Refute it at one input. -/
def cfgSoundWrong : ChangeSpec := { name := "cfgSound", fn := fun _ => fun
  | [d1, d2] => { results := [.lit (.bool false)], args := [d1, d2] }
  | _ => none }
def CfgSoundWrongFalsely : Prop := cfgSoundRow.holds Try.pinned (OpenSpec.ofChange cfgSoundWrong)

/-- 'ontimelaw24.CfgAlone': WHATEVER THE INPUT: true; the input reads as it did. -/
def cfgAloneSpec : ChangeSpec := { name := "cfgAlone", fn := fun _ => fun
  | [d1, d2, d3] => { results := [.lit (.bool true)], args := [d1, d2, d3] }
  | _ => none }
def cfgAloneRow : OpenClaim := { program := "ytihmfdndiicjgaa", sum := "4ac0ed25e5a941576ecdd838f93bc876f5165863f4749320e4330e99b333b296", func := "ontime/ontimelaw24.CfgAlone", spec := "cfgAlone", unfollowed := true, recurses := true, apart := false }
def CfgAloneSaid : Prop := cfgAloneRow.holds Try.pinned (OpenSpec.ofChange cfgAloneSpec)

/-- ITS FALSE NEIGHBOUR: 'it returns false'. Refute it at one input. -/
def cfgAloneWrong : ChangeSpec := { name := "cfgAlone", fn := fun _ => fun
  | [d1, d2, d3] => { results := [.lit (.bool false)], args := [d1, d2, d3] }
  | _ => none }
def CfgAloneWrongFalsely : Prop := cfgAloneRow.holds Try.pinned (OpenSpec.ofChange cfgAloneWrong)

/-- 'ontimelaw24.CfgPlain': WHATEVER THE INPUT: true; the input reads as it did. -/
def cfgPlainSpec : ChangeSpec := { name := "cfgPlain", fn := fun _ => fun
  | [d1, d2] => { results := [.lit (.bool true)], args := [d1, d2] }
  | _ => none }
def cfgPlainRow : OpenClaim := { program := "ytihmfdndiicjgaa", sum := "4ac0ed25e5a941576ecdd838f93bc876f5165863f4749320e4330e99b333b296", func := "ontime/ontimelaw24.CfgPlain", spec := "cfgPlain", unfollowed := true, recurses := true, apart := false }
def CfgPlainSaid : Prop := cfgPlainRow.holds Try.pinned (OpenSpec.ofChange cfgPlainSpec)

/-- ITS FALSE NEIGHBOUR: 'it returns false'. Refute it at one input. -/
def cfgPlainWrong : ChangeSpec := { name := "cfgPlain", fn := fun _ => fun
  | [d1, d2] => { results := [.lit (.bool false)], args := [d1, d2] }
  | _ => none }
def CfgPlainWrongFalsely : Prop := cfgPlainRow.holds Try.pinned (OpenSpec.ofChange cfgPlainWrong)

/-- 'ontimelaw24.CfgQueries': WHATEVER THE INPUT: true; the input reads as it did. -/
def cfgQueriesSpec : ChangeSpec := { name := "cfgQueries", fn := fun _ => fun
  | [d1, d2] => { results := [.lit (.bool true)], args := [d1, d2] }
  | _ => none }
def cfgQueriesRow : OpenClaim := { program := "ytihmfdndiicjgaa", sum := "4ac0ed25e5a941576ecdd838f93bc876f5165863f4749320e4330e99b333b296", func := "ontime/ontimelaw24.CfgQueries", spec := "cfgQueries", unfollowed := true, recurses := true, apart := false }
def CfgQueriesSaid : Prop := cfgQueriesRow.holds Try.pinned (OpenSpec.ofChange cfgQueriesSpec)

/-- ITS FALSE NEIGHBOUR: 'it returns false'. Refute it at one input. -/
def cfgQueriesWrong : ChangeSpec := { name := "cfgQueries", fn := fun _ => fun
  | [d1, d2] => { results := [.lit (.bool false)], args := [d1, d2] }
  | _ => none }
def CfgQueriesWrongFalsely : Prop := cfgQueriesRow.holds Try.pinned (OpenSpec.ofChange cfgQueriesWrong)

/-- 'ontimelaw24.CfgRuns': WHATEVER THE INPUT: true; the input reads as it did. -/
def cfgRunsSpec : ChangeSpec := { name := "cfgRuns", fn := fun _ => fun
  | [d1, d2, d3, d4, d5] => { results := [.lit (.bool true)], args := [d1, d2, d3, d4, d5] }
  | _ => none }
def cfgRunsRow : OpenClaim := { program := "ytihmfdndiicjgaa", sum := "4ac0ed25e5a941576ecdd838f93bc876f5165863f4749320e4330e99b333b296", func := "ontime/ontimelaw24.CfgRuns", spec := "cfgRuns", unfollowed := true, recurses := true, apart := false }
def CfgRunsSaid : Prop := cfgRunsRow.holds Try.pinned (OpenSpec.ofChange cfgRunsSpec)

/-- ITS FALSE NEIGHBOUR: 'it returns false'. Refute it at one input. -/
def cfgRunsWrong : ChangeSpec := { name := "cfgRuns", fn := fun _ => fun
  | [d1, d2, d3, d4, d5] => { results := [.lit (.bool false)], args := [d1, d2, d3, d4, d5] }
  | _ => none }
def CfgRunsWrongFalsely : Prop := cfgRunsRow.holds Try.pinned (OpenSpec.ofChange cfgRunsWrong)

/- THE SECOND FORM. 'bulk': how many values and letters a reading holds, each counted each time it is reached (what is shared counts as often as it is met; a slice's spare places count too). A statement '..UptoSaid' is the law's where the arguments, and the package variables that the reading takes, are together of bulk at most 1048576: NARROWER than '..Said'. Prove '..Said' where nothing that the law and all that it calls make is longer than what came in: it says more and counts as full. Else prove '..UptoSaid'. A law counts once. -/
mutual
def uptoBulk {H : Type} : DataW H → Nat
  | .lit (.string bytes) => bytes.length + 1
  | .lit _ => 1
  | .nil => 1
  | .ptr d => uptoBulk d + 1
  | .slice elems spare => uptoBulkAll elems + uptoBulkAll spare + 1
  | .agg parts => uptoBulkAll parts + 1
  | .iface _ d => uptoBulk d + 1
  | .map entries => uptoBulkEntries entries + 1
  | .held _ => 1
def uptoBulkAll {H : Type} : List (DataW H) → Nat
  | [] => 0
  | d :: r => uptoBulk d + uptoBulkAll r
def uptoBulkEntries {H : Type} : List (Lit × DataW H) → Nat
  | [] => 0
  | x :: r => uptoBulkEntry x + uptoBulkEntries r
def uptoBulkEntry {H : Type} : Lit × DataW H → Nat
  | (.string bytes, d) => bytes.length + uptoBulk d + 1
  | (_, d) => uptoBulk d + 1
 end
def uptoSmall : (H : Type) → List (DataW H) → Bool := fun _ ds => decide (uptoBulkAll ds ≤ 1048576)
def OpenSpec.upto (s : _root_.Go.ChangeSpec) : _root_.Go.OpenSpec := { _root_.Go.OpenSpec.ofChange s with cond := some uptoSmall }

/-- 'ontimelaw24.CfgBuilds', WHERE WHAT IT READS IS OF BULK AT MOST 1048576: true; the input reads as it did. -/
def cfgBuildsUptoRow : OpenClaim := { program := "ytihmfdndiicjgaa", sum := "4ac0ed25e5a941576ecdd838f93bc876f5165863f4749320e4330e99b333b296", func := "ontime/ontimelaw24.CfgBuilds", spec := "cfgBuilds", unfollowed := true, recurses := true, apart := false, narrowed := true }
def CfgBuildsUptoSaid : Prop := cfgBuildsUptoRow.holds Try.pinned (OpenSpec.upto cfgBuildsSpec)

/-- 'ontimelaw24.CfgValid', WHERE WHAT IT READS IS OF BULK AT MOST 1048576: true; the input reads as it did. -/
def cfgValidUptoRow : OpenClaim := { program := "ytihmfdndiicjgaa", sum := "4ac0ed25e5a941576ecdd838f93bc876f5165863f4749320e4330e99b333b296", func := "ontime/ontimelaw24.CfgValid", spec := "cfgValid", unfollowed := true, recurses := true, apart := false, narrowed := true }
def CfgValidUptoSaid : Prop := cfgValidUptoRow.holds Try.pinned (OpenSpec.upto cfgValidSpec)

/-- 'ontimelaw24.CfgSound', WHERE WHAT IT READS IS OF BULK AT MOST 1048576: true; the input reads as it did. -/
def cfgSoundUptoRow : OpenClaim := { program := "ytihmfdndiicjgaa", sum := "4ac0ed25e5a941576ecdd838f93bc876f5165863f4749320e4330e99b333b296", func := "ontime/ontimelaw24.CfgSound", spec := "cfgSound", unfollowed := true, recurses := true, apart := false, narrowed := true }
def CfgSoundUptoSaid : Prop := cfgSoundUptoRow.holds Try.pinned (OpenSpec.upto cfgSoundSpec)

/-- 'ontimelaw24.CfgAlone', WHERE WHAT IT READS IS OF BULK AT MOST 1048576: true; the input reads as it did. -/
def cfgAloneUptoRow : OpenClaim := { program := "ytihmfdndiicjgaa", sum := "4ac0ed25e5a941576ecdd838f93bc876f5165863f4749320e4330e99b333b296", func := "ontime/ontimelaw24.CfgAlone", spec := "cfgAlone", unfollowed := true, recurses := true, apart := false, narrowed := true }
def CfgAloneUptoSaid : Prop := cfgAloneUptoRow.holds Try.pinned (OpenSpec.upto cfgAloneSpec)

/-- 'ontimelaw24.CfgPlain', WHERE WHAT IT READS IS OF BULK AT MOST 1048576: true; the input reads as it did. -/
def cfgPlainUptoRow : OpenClaim := { program := "ytihmfdndiicjgaa", sum := "4ac0ed25e5a941576ecdd838f93bc876f5165863f4749320e4330e99b333b296", func := "ontime/ontimelaw24.CfgPlain", spec := "cfgPlain", unfollowed := true, recurses := true, apart := false, narrowed := true }
def CfgPlainUptoSaid : Prop := cfgPlainUptoRow.holds Try.pinned (OpenSpec.upto cfgPlainSpec)

/-- 'ontimelaw24.CfgQueries', WHERE WHAT IT READS IS OF BULK AT MOST 1048576: true; the input reads as it did. -/
def cfgQueriesUptoRow : OpenClaim := { program := "ytihmfdndiicjgaa", sum := "4ac0ed25e5a941576ecdd838f93bc876f5165863f4749320e4330e99b333b296", func := "ontime/ontimelaw24.CfgQueries", spec := "cfgQueries", unfollowed := true, recurses := true, apart := false, narrowed := true }
def CfgQueriesUptoSaid : Prop := cfgQueriesUptoRow.holds Try.pinned (OpenSpec.upto cfgQueriesSpec)

/-- 'ontimelaw24.CfgRuns', WHERE WHAT IT READS IS OF BULK AT MOST 1048576: true; the input reads as it did. -/
def cfgRunsUptoRow : OpenClaim := { program := "ytihmfdndiicjgaa", sum := "4ac0ed25e5a941576ecdd838f93bc876f5165863f4749320e4330e99b333b296", func := "ontime/ontimelaw24.CfgRuns", spec := "cfgRuns", unfollowed := true, recurses := true, apart := false, narrowed := true }
def CfgRunsUptoSaid : Prop := cfgRunsUptoRow.holds Try.pinned (OpenSpec.upto cfgRunsSpec)

end Rows
end Go.Proofs.Ytihmfdndiicjgaa
