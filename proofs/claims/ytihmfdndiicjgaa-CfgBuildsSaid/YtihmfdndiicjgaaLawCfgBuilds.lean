-- The row of the law ontimelaw24_CfgBuilds, out of its Pure and the walk (rowdeep.py, wip/tools).
import Derived.Test.YtihmfdndiicjgaaRows
import Derived.Test.YtihmfdndiicjgaaPureCfgBuilds
import Derived.Test.YtihmfdndiicjgaaHLift
import Derived.Test.YtihmfdndiicjgaaWSized
import Derived.WalkKit
import Derived.ProofKit
import Derived.OpenShut
import Derived.ShutString
import Derived.ChangeOld
import Derived.Below
import Derived.SizedLaws
import Derived.Carry
namespace Go.Proofs.Ytihmfdndiicjgaa.cfgBuilds
open Go.ChangeShapes Go.WideShapes Go.ChangeAt Go.RowKit Go.Proofs.HLift Go.Proofs.Ytihmfdndiicjgaa.C Go.Proofs.YtihmfdndiicjgaaW.PrintWords
set_option linter.unusedVariables false
theorem own : ownKnob Try.prog.godebug = none := by kernel_rfl
theorem laidOut : laidOutB Try.prog = true := by kernel_rfl
theorem lf39 {H : Type} (enc : TypeId × Value → H) (W : World) : Lf enc Try.prog W k39 39 ok39 :=
 Lf.struct4 (mk := S39.mk) (fun _ _ _ _ => rfl) Try.underlying39 (by kernel_rfl) ⟨rfl, rfl, rfl, rfl⟩ ⟨by kernel_rfl, by kernel_rfl, by kernel_rfl, by kernel_rfl⟩ (Lf.string Try.underlying9) (Lf.int Try.underlying3) (Lf.int Try.underlying3) (Lf.int Try.underlying3)
theorem lf25 {H : Type} (enc : TypeId × Value → H) (W : World) : Lf enc Try.prog W k25 25 ok25 :=
 Lf.struct4 (mk := S25.mk) (fun _ _ _ _ => rfl) Try.underlying25 (by kernel_rfl) ⟨rfl, rfl, rfl, rfl⟩ ⟨by kernel_rfl, by kernel_rfl, by kernel_rfl, by kernel_rfl⟩ (Lf.slice (0 : Int) Try.underlying22 (by kernel_rfl) (Lf.int Try.underlying56)) (Lf.slice z39 Try.underlying23 (by kernel_rfl) (lf39 enc W)) (Lf.int Try.underlying3) (Lf.int Try.underlying3)
set_option maxRecDepth 100000 in
theorem lifted (os : Os) (started : os.Started) (H : Type) (enc : TypeId × Value → H) :
  ReturnsInHanded {} Try.checked os 3 .any (Rows.cfgBuildsSpec.pre6 enc Try.prog Try.f3 Rows.cfgBuildsRow.domain false) (Rows.cfgBuildsSpec.post enc Try.prog Try.f3 false true false false) := by
 refine returnsInHanded_of_change_sized (C := Try.checked) own started (by kernel_rfl) Try.func3
  (ChangeSpec.witness6 (enc := enc) (C := Try.checked) false ⟨#[], #[.agg #[.slice none 0 0, .slice none 0 0, .int .i64 0, .int .i64 0], .int .i64 0], []⟩ 8 (by kernel_rfl) (by kernel_rfl) (by kernel_rfl) (by kernel_rfl)) ?_
 intro W base args ds gs before hval0 hW hcnd hsz0 _
 have hval : ∀ (j : Nat) t v, Try.f3.params[j]? = some t → args[j]? = some v → Value.okWide Try.prog W .any base t v := hval0
 have hW' := hW
 obtain ⟨p, q, hA0, hV, rfl, hfz, hnd⟩ := hW
 have hA : DataW.TrodAll enc Try.prog W 0 (fun _ => true) true Try.f3.params.toList args.toList ds p := hA0
 rw [Try.params3] at hA hval
 obtain ⟨v0, vs0, d0, ds0, p0, q0, hargs, rfl, rfl, h0, r0⟩ := trodAll_cons hA
 obtain ⟨v1, vs1, d1, ds1, p1, q1, rfl, rfl, rfl, h1, r1⟩ := trodAll_cons r0
 obtain ⟨rfl, rfl, rfl⟩ := trodAll_nil r1
 obtain rfl : args = #[v0, v1] := by cases args; simp_all
 obtain ⟨rfl, rfl⟩ := trodVars_none hV
 obtain ⟨cs0, rfl, _⟩ := okWide_struct Try.underlying25 (hval 0 25 v0 rfl rfl)
 have k0 := h0
 have lt0 : ∀ x ∈ p0, x.block < W.heap.size := by obtain ⟨m, hm⟩ := k0; exact DataW.trod_lt m _ _ _ hm
 obtain ⟨x0, K0, o0⟩ : ∃ x, k25.K W x cs0.toList ∧ ok25 x := by obtain ⟨m, hm⟩ := k0; exact lf25 enc W _ _ _ hm
 obtain ⟨A0_0, c0_0, A0_1, c0_1, e0, l0_0, g0_0, l0_1, g0_1⟩ := k25_open K0
 obtain rfl : cs0 = #[.slice A0_0 x0.f0.length c0_0, .slice A0_1 x0.f1.length c0_1, .int .i64 x0.f2, .int .i64 x0.f3] := by rw [← Array.toArray_toList (xs := cs0), e0]
 obtain ⟨x1, rfl, rfl, rfl, o1⟩ := open_int Try.underlying3 (hval 1 3 v1 rfl rfl) h1
 clear hA0 hval0 hsz0
 obtain ⟨k, hk⟩ := Pure.CfgBuilds x0 x1 o0 o1
 refine (ontimelaw24_CfgBuilds.calls k _ _ x0.f0 _ _ x0.f1 x0.f2 x0.f3 x1 true W g0_0 l0_0 g0_1 l0_1 hk rfl).mono fun e W' ⟨he, bel⟩ => ?_
 subst he
 exact ⟨_, rfl, _, _, _, [], _, [], hW', trodAll_mk1 (shut_bool Try.underlying4 _), (trodAll_cons_mk (Below.trod laidOut (by kernel_rfl) (of_decide_eq_true (by kernel_rfl)) k0 bel lt0) (trodAll_cons_mk (shut_int Try.underlying3 o1) trodAll_mk0)), rfl, bel.frame _, fun h => by cases h⟩
theorem over : Rows.cfgBuildsRow.holds Try.pinned (OpenSpec.ofChange Rows.cfgBuildsSpec) :=
 OpenClaim.holds_of_wide 3 Try.f3 rfl rfl rfl rfl rfl rfl rfl ⟨rfl, rfl, rfl, rfl, rfl⟩ rfl rfl rfl rfl rfl (by kernel_rfl) Try.func3 (by kernel_rfl)
  (of_decide_eq_true (by kernel_rfl)) (by unfold Func.isWrapper; first | (rw [if_pos (by decide +kernel)]; kernel_rfl) | (rw [if_neg (by decide +kernel)]; exact ⟨rfl, rfl⟩))
  (fun os started H enc _ => lifted os started H enc)
theorem proved : Rows.CfgBuildsSaid := over
#print axioms proved
end Go.Proofs.Ytihmfdndiicjgaa.cfgBuilds
namespace Go.Proofs.Ytihmfdndiicjgaa
/-- The row, under a short name, for the claim. -/
theorem cfgBuilds_holds : Rows.CfgBuildsSaid := cfgBuilds.proved
end Go.Proofs.Ytihmfdndiicjgaa
