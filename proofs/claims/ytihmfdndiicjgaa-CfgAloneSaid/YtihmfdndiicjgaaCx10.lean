-- Written by xprint.py (wip/tools) out of the translation and of this project's hand texts. Not trusted: Lean checks it.
import Derived.Test.YtihmfdndiicjgaaCx0
import Derived.Test.YtihmfdndiicjgaaZm
import Derived.Test.YtihmfdndiicjgaaCx2
import Derived.Test.YtihmfdndiicjgaaCx3
import Derived.Test.YtihmfdndiicjgaaCx6
import Derived.Test.YtihmfdndiicjgaaCx8
import Derived.Test.YtihmfdndiicjgaaCx9
namespace Go.Proofs.Ytihmfdndiicjgaa.C
open Go.RowKit Go.Proofs.YtihmfdndiicjgaaW.PrintWords Go.Proofs.YtihmfdndiicjgaaW.PrintLast Go.Proofs.YtihmfdndiicjgaaW.PrintMore
attribute [local go_sem] max2_int min2_int max_two min_two max_three min_three max_four min_four   -- for this text's walks alone
set_option linter.unusedVariables false
set_option linter.unusedSimpArgs false
/-! ### ontimelaw24_CfgAlone: function 6 -/
mutual
def ontimelaw24_CfgAlone.j0 : Nat → Int → Int → Bool → List Int → List (S39) → Int → Int → Option (Bool)
 | 0, _, _, _, _, _, _, _ => none
 | k + 1, x1, x2, x38, x265000, x265001, x265002, x265003 => if x38 = true then (some true) else (if 0 ≤ x1 then (if x1 < (x265001.length : Int) then ((some (([] : List Int) : List Int)).bind fun y271 => (if y271.length + x265000.length < 35184372088832 then ((some (y271 ++ x265000 : List Int)).bind fun y274 => ((isa_Encode.f 1 0 0 0 0).bind fun bt277 => (ontimelaw24_CfgAlone.l0 k x1 x2 bt277.1 (y274.length : Int) 0 x265000 x265001 x265002 x265003 ((rd_T39 x265001 x1).f0) ((rd_T39 x265001 x1).f1) ((rd_T39 x265001 x1).f2) ((rd_T39 x265001 x1).f3) y274 x265001 x265002 x265003))) else (none))) else (none)) else (none))
def ontimelaw24_CfgAlone.l0 : Nat → Int → Int → Int → Int → Int → List Int → List (S39) → Int → Int → ByteArray → Int → Int → Int → List Int → List (S39) → Int → Int → Option (Bool)
 | 0, _, _, _, _, _, _, _, _, _, _, _, _, _, _, _, _, _ => none
 | k + 1, x1, x2, x9, x57, x58, x265000, x265001, x265002, x265003, x270000, x270001, x270002, x270003, x271000, x271001, x271002, x271003 => if x58 < x57 then (if x58 < x270001 then (ontimelaw24_CfgAlone.j2 k x1 x2 x9 x58 x57 x58 true x265000 x265001 x265002 x265003 x270000 x270001 x270002 x270003 x271000 x271001 x271002 x271003) else (ontimelaw24_CfgAlone.j2 k x1 x2 x9 x58 x57 x58 (decide (x58 ≥ x270002)) x265000 x265001 x265002 x265003 x270000 x270001 x270002 x270003 x271000 x271001 x271002 x271003)) else ((linker_Check.f k x271000 x271001 x271002 x271003).bind fun t281 => (if t281 = 0 then ((cfg_Build.f k x265000 x265001 x265002 x265003 x1).bind fun bt282 => ((cfg_Build.f k x271000 x271001 x271002 x271003 x1).bind fun bt291 => (if bt282.2.2.2 = bt291.2.2.2 then (if bt282.2.2.1 = bt291.2.2.1 then ((ontimelaw24_blocks.f k bt291.1 bt291.2.1).bind fun t300 => ((ontimelaw24_is.f k bt282.1 bt282.2.1 t300).bind fun t303 => (some t303))) else (some false)) else (some false)))) else (some true)))
def ontimelaw24_CfgAlone.j2 : Nat → Int → Int → Int → Int → Int → Int → Bool → List Int → List (S39) → Int → Int → ByteArray → Int → Int → Int → List Int → List (S39) → Int → Int → Option (Bool)
 | 0, _, _, _, _, _, _, _, _, _, _, _, _, _, _, _, _, _, _, _ => none
 | k + 1, x1, x2, x9, x11, x57, x58, x70, x265000, x265001, x265002, x265003, x270000, x270001, x270002, x270003, x271000, x271001, x271002, x271003 => if x70 = true then (if 0 ≤ x11 then (if x11 < (x271000.length : Int) then ((some (x271000.set (x11 : Int).toNat x9 : List Int)).bind fun y279 => (if 0 ≤ (IntKind.u64.wrap (Int.tmod x11 32)) then (if (Go.bits .and .u32 (shr .u32 x2 (IntKind.u64.wrap (Int.tmod x11 32))) 1) = 1 then (ontimelaw24_CfgAlone.l0 k x1 x2 x9 x57 (wrap64 (x58 + 1)) x265000 x265001 x265002 x265003 x270000 x270001 x270002 x270003 (y279.set (x11 : Int).toNat 0) x271001 x271002 x271003) else (ontimelaw24_CfgAlone.l0 k x1 x2 x9 x57 (wrap64 (x58 + 1)) x265000 x265001 x265002 x265003 x270000 x270001 x270002 x270003 y279 x271001 x271002 x271003)) else (none))) else (none)) else (none)) else (ontimelaw24_CfgAlone.l0 k x1 x2 x9 x57 (wrap64 (x58 + 1)) x265000 x265001 x265002 x265003 x270000 x270001 x270002 x270003 x271000 x271001 x271002 x271003)
end
def ontimelaw24_CfgAlone.f (k : Nat) (l0_0 : List Int) (l0_1 : List (S39)) (a0_2 : Int) (a0_3 : Int) (a1 : Int) (a2 : Int) : Option (Bool) := (ontimelaw24_awake.f k).bind fun t265 => (if t265 = true then ((ontimelaw24_Great.f l0_0 l0_1 a0_2 a0_3).bind fun t266 => (if t266 = 1 then (ontimelaw24_CfgAlone.j0 k a1 a2 true l0_0 l0_1 a0_2 a0_3) else (if a1 < 0 then (ontimelaw24_CfgAlone.j0 k a1 a2 true l0_0 l0_1 a0_2 a0_3) else (if a1 ≥ (l0_1.length : Int) then (ontimelaw24_CfgAlone.j0 k a1 a2 true l0_0 l0_1 a0_2 a0_3) else ((linker_Check.f k l0_0 l0_1 a0_2 a0_3).bind fun t267 => (ontimelaw24_CfgAlone.j0 k a1 a2 (t267 != 0) l0_0 l0_1 a0_2 a0_3)))))) else (some false))
theorem ontimelaw24_CfgAlone.mono_l : ∀ k, (∀ y0 y1 y2 y3 y4 y5 y6, LeO (ontimelaw24_CfgAlone.j0 k y0 y1 y2 y3 y4 y5 y6) (ontimelaw24_CfgAlone.j0 (k + 1) y0 y1 y2 y3 y4 y5 y6)) ∧ (∀ y0 y1 y2 y3 y4 y5 y6 y7 y8 y9 y10 y11 y12 y13 y14 y15 y16, LeO (ontimelaw24_CfgAlone.l0 k y0 y1 y2 y3 y4 y5 y6 y7 y8 y9 y10 y11 y12 y13 y14 y15 y16) (ontimelaw24_CfgAlone.l0 (k + 1) y0 y1 y2 y3 y4 y5 y6 y7 y8 y9 y10 y11 y12 y13 y14 y15 y16)) ∧ (∀ y0 y1 y2 y3 y4 y5 y6 y7 y8 y9 y10 y11 y12 y13 y14 y15 y16 y17 y18, LeO (ontimelaw24_CfgAlone.j2 k y0 y1 y2 y3 y4 y5 y6 y7 y8 y9 y10 y11 y12 y13 y14 y15 y16 y17 y18) (ontimelaw24_CfgAlone.j2 (k + 1) y0 y1 y2 y3 y4 y5 y6 y7 y8 y9 y10 y11 y12 y13 y14 y15 y16 y17 y18))
 | 0 => ⟨fun _ _ _ _ _ _ _ r h => by simp [ontimelaw24_CfgAlone.j0] at h, fun _ _ _ _ _ _ _ _ _ _ _ _ _ _ _ _ _ r h => by simp [ontimelaw24_CfgAlone.l0] at h, fun _ _ _ _ _ _ _ _ _ _ _ _ _ _ _ _ _ _ _ r h => by simp [ontimelaw24_CfgAlone.j2] at h⟩
 | k + 1 => by
  obtain ⟨ih0, ih1, ih2⟩ := ontimelaw24_CfgAlone.mono_l k
  refine ⟨?_, ?_, ?_⟩
  ·intro y0 y1 y2 y3 y4 y5 y6
   unfold ontimelaw24_CfgAlone.j0
   repeat' first
   | (with_reducible exact ih0 _ _ _ _ _ _ _)
   | (with_reducible exact ih1 _ _ _ _ _ _ _ _ _ _ _ _ _ _ _ _ _)
   | (with_reducible exact ih2 _ _ _ _ _ _ _ _ _ _ _ _ _ _ _ _ _ _ _)
   | (with_reducible exact cfg_Build.mono _ _ _ _ _ _)
   | (with_reducible exact linker_Check.mono _ _ _ _ _)
   | (with_reducible exact ontimelaw24_awake.mono _)
   | (with_reducible exact ontimelaw24_blocks.mono _ _ _)
   | (with_reducible exact ontimelaw24_is.mono _ _ _ _)
   | (with_reducible exact LeO.refl _)
   | (with_reducible exact LeO.none _)
   | (with_reducible refine LeO.ite ?_ ?_)
   | (with_reducible refine LeO.bind ?_ (fun _ => ?_))
   | exact ih0 _ _ _ _ _ _ _
   | exact ih1 _ _ _ _ _ _ _ _ _ _ _ _ _ _ _ _ _
   | exact ih2 _ _ _ _ _ _ _ _ _ _ _ _ _ _ _ _ _ _ _
   | exact cfg_Build.mono _ _ _ _ _ _
   | exact linker_Check.mono _ _ _ _ _
   | exact ontimelaw24_awake.mono _
   | exact ontimelaw24_blocks.mono _ _ _
   | exact ontimelaw24_is.mono _ _ _ _
   | exact LeO.none _
   | refine LeO.ite ?_ ?_
   | refine LeO.bind ?_ (fun _ => ?_)
  ·intro y0 y1 y2 y3 y4 y5 y6 y7 y8 y9 y10 y11 y12 y13 y14 y15 y16
   unfold ontimelaw24_CfgAlone.l0
   repeat' first
   | (with_reducible exact ih0 _ _ _ _ _ _ _)
   | (with_reducible exact ih1 _ _ _ _ _ _ _ _ _ _ _ _ _ _ _ _ _)
   | (with_reducible exact ih2 _ _ _ _ _ _ _ _ _ _ _ _ _ _ _ _ _ _ _)
   | (with_reducible exact cfg_Build.mono _ _ _ _ _ _)
   | (with_reducible exact linker_Check.mono _ _ _ _ _)
   | (with_reducible exact ontimelaw24_awake.mono _)
   | (with_reducible exact ontimelaw24_blocks.mono _ _ _)
   | (with_reducible exact ontimelaw24_is.mono _ _ _ _)
   | (with_reducible exact LeO.refl _)
   | (with_reducible exact LeO.none _)
   | (with_reducible refine LeO.ite ?_ ?_)
   | (with_reducible refine LeO.bind ?_ (fun _ => ?_))
   | exact ih0 _ _ _ _ _ _ _
   | exact ih1 _ _ _ _ _ _ _ _ _ _ _ _ _ _ _ _ _
   | exact ih2 _ _ _ _ _ _ _ _ _ _ _ _ _ _ _ _ _ _ _
   | exact cfg_Build.mono _ _ _ _ _ _
   | exact linker_Check.mono _ _ _ _ _
   | exact ontimelaw24_awake.mono _
   | exact ontimelaw24_blocks.mono _ _ _
   | exact ontimelaw24_is.mono _ _ _ _
   | exact LeO.none _
   | refine LeO.ite ?_ ?_
   | refine LeO.bind ?_ (fun _ => ?_)
  ·intro y0 y1 y2 y3 y4 y5 y6 y7 y8 y9 y10 y11 y12 y13 y14 y15 y16 y17 y18
   unfold ontimelaw24_CfgAlone.j2
   repeat' first
   | (with_reducible exact ih0 _ _ _ _ _ _ _)
   | (with_reducible exact ih1 _ _ _ _ _ _ _ _ _ _ _ _ _ _ _ _ _)
   | (with_reducible exact ih2 _ _ _ _ _ _ _ _ _ _ _ _ _ _ _ _ _ _ _)
   | (with_reducible exact cfg_Build.mono _ _ _ _ _ _)
   | (with_reducible exact linker_Check.mono _ _ _ _ _)
   | (with_reducible exact ontimelaw24_awake.mono _)
   | (with_reducible exact ontimelaw24_blocks.mono _ _ _)
   | (with_reducible exact ontimelaw24_is.mono _ _ _ _)
   | (with_reducible exact LeO.refl _)
   | (with_reducible exact LeO.none _)
   | (with_reducible refine LeO.ite ?_ ?_)
   | (with_reducible refine LeO.bind ?_ (fun _ => ?_))
   | exact ih0 _ _ _ _ _ _ _
   | exact ih1 _ _ _ _ _ _ _ _ _ _ _ _ _ _ _ _ _
   | exact ih2 _ _ _ _ _ _ _ _ _ _ _ _ _ _ _ _ _ _ _
   | exact cfg_Build.mono _ _ _ _ _ _
   | exact linker_Check.mono _ _ _ _ _
   | exact ontimelaw24_awake.mono _
   | exact ontimelaw24_blocks.mono _ _ _
   | exact ontimelaw24_is.mono _ _ _ _
   | exact LeO.none _
   | refine LeO.ite ?_ ?_
   | refine LeO.bind ?_ (fun _ => ?_)
theorem ontimelaw24_CfgAlone.mono : ∀ a0 a1 a2 a3 a4 a5 k, LeO (ontimelaw24_CfgAlone.f k a0 a1 a2 a3 a4 a5) (ontimelaw24_CfgAlone.f (k + 1) a0 a1 a2 a3 a4 a5) := by
 intro a0 a1 a2 a3 a4 a5 k
 obtain ⟨ih0, ih1, ih2⟩ := ontimelaw24_CfgAlone.mono_l k
 unfold ontimelaw24_CfgAlone.f
 repeat' first
   | (with_reducible exact ih0 _ _ _ _ _ _ _)
   | (with_reducible exact ih1 _ _ _ _ _ _ _ _ _ _ _ _ _ _ _ _ _)
   | (with_reducible exact ih2 _ _ _ _ _ _ _ _ _ _ _ _ _ _ _ _ _ _ _)
   | (with_reducible exact cfg_Build.mono _ _ _ _ _ _)
   | (with_reducible exact linker_Check.mono _ _ _ _ _)
   | (with_reducible exact ontimelaw24_awake.mono _)
   | (with_reducible exact ontimelaw24_blocks.mono _ _ _)
   | (with_reducible exact ontimelaw24_is.mono _ _ _ _)
   | (with_reducible exact LeO.refl _)
   | (with_reducible exact LeO.none _)
   | (with_reducible refine LeO.ite ?_ ?_)
   | (with_reducible refine LeO.bind ?_ (fun _ => ?_))
   | exact ih0 _ _ _ _ _ _ _
   | exact ih1 _ _ _ _ _ _ _ _ _ _ _ _ _ _ _ _ _
   | exact ih2 _ _ _ _ _ _ _ _ _ _ _ _ _ _ _ _ _ _ _
   | exact cfg_Build.mono _ _ _ _ _ _
   | exact linker_Check.mono _ _ _ _ _
   | exact ontimelaw24_awake.mono _
   | exact ontimelaw24_blocks.mono _ _ _
   | exact ontimelaw24_is.mono _ _ _ _
   | exact LeO.none _
   | refine LeO.ite ?_ ?_
   | refine LeO.bind ?_ (fun _ => ?_)
def ontimelaw24_CfgAlone.T21 : Bool × List (List Nat × List Nat) := (true, [([], []), ([], []), ([0, 1], [0, 1]), ([2], [2]), ([3], [3]), ([3], [3]), ([4, 5, 3], [3, 4, 5]), ([3, 6], [3, 6]), ([7, 3], [7]), ([8], [8]), ([8], [8]), ([10, 8, 8], [8, 10]), ([9, 11, 11, 8], [8, 9, 11]), ([8, 12], [8, 12]), ([13, 12, 0, 1, 2, 3, 4, 5, 6, 7, 8, 9, 10, 11, 12, 13], [13])])
def ontimelaw24_CfgAlone.B21 : List Nat := [0, 0, 3, 7, 15, 15, 63, 127, 255, 511, 511, 1535, 4095, 8191, 16383]
theorem ontimelaw24_CfgAlone.tab21 : rtab .any (opsOf Try.f6 21) = ontimelaw24_CfgAlone.T21 := by kernel_rfl
theorem ontimelaw24_CfgAlone.bits21 : waitsOk ontimelaw24_CfgAlone.T21.2 ontimelaw24_CfgAlone.B21 = true := by kernel_rfl
set_option maxHeartbeats 8000000 in
set_option maxRecDepth 100000 in
theorem ontimelaw24_CfgAlone.calls (k : Nat) (A0_0 : Option Addr) (c0_0 : Nat) (l0_0 : List Int) (A0_1 : Option Addr) (c0_1 : Nat) (l0_1 : List (S39)) (a0_2 : Int) (a0_3 : Int) (a1 : Int) (a2 : Int) (r : Bool) (w : World) (hr0_0 : Kd.C (Kd.int .u32) w A0_0 l0_0.length l0_0) (hc0_0 : l0_0.length ≤ c0_0) (hr0_1 : Kd.C k39 w A0_1 l0_1.length l0_1) (hc0_1 : l0_1.length ≤ c0_1) (h : ontimelaw24_CfgAlone.f k l0_0 l0_1 a0_2 a0_3 a1 a2 = some r) (hrt : r = true) :
  Calls Try.prog 6 #[.agg #[.slice A0_0 l0_0.length c0_0, .slice A0_1 l0_1.length c0_1, .int .i64 a0_2, .int .i64 a0_3], .int .i64 a1, .int .u32 a2] w fun e w' => e = .returned (.bool r) ∧ Below w.heap.size w w' := by
 have HRT := Aside0.mk hrt
 clear hrt
 have hu25 := Try.underlying25
 have hu39 := Try.underlying39
 have hu53 := Try.underlying53
 have hu31 := Try.underlying31
 have HR0_0 := Aside0.mk hr0_0
 have HC0_0 := Aside0.mk hc0_0
 clear hr0_0 hc0_0
 have HR0_1 := Aside0.mk hr0_1
 have HC0_1 := Aside0.mk hc0_1
 clear hr0_1 hc0_1
 have HB := Aside0.mk (Below.refl w.heap.size w)
 have H : ((ontimelaw24_awake.f k).bind fun t265 => (if t265 = true then ((ontimelaw24_Great.f l0_0 l0_1 a0_2 a0_3).bind fun t266 => (if t266 = 1 then (ontimelaw24_CfgAlone.j0 k a1 a2 true l0_0 l0_1 a0_2 a0_3) else (if a1 < 0 then (ontimelaw24_CfgAlone.j0 k a1 a2 true l0_0 l0_1 a0_2 a0_3) else (if a1 ≥ (l0_1.length : Int) then (ontimelaw24_CfgAlone.j0 k a1 a2 true l0_0 l0_1 a0_2 a0_3) else ((linker_Check.f k l0_0 l0_1 a0_2 a0_3).bind fun t267 => (ontimelaw24_CfgAlone.j0 k a1 a2 (t267 != 0) l0_0 l0_1 a0_2 a0_3)))))) else (some false))) = some r := h
 clear h
 replace H := Option.bind_eq_some_iff.mp H
 obtain ⟨t265, A40, H⟩ := H
 replace H : (if t265 = true then ((ontimelaw24_Great.f l0_0 l0_1 a0_2 a0_3).bind fun t266 => (if t266 = 1 then (ontimelaw24_CfgAlone.j0 k a1 a2 true l0_0 l0_1 a0_2 a0_3) else (if a1 < 0 then (ontimelaw24_CfgAlone.j0 k a1 a2 true l0_0 l0_1 a0_2 a0_3) else (if a1 ≥ (l0_1.length : Int) then (ontimelaw24_CfgAlone.j0 k a1 a2 true l0_0 l0_1 a0_2 a0_3) else ((linker_Check.f k l0_0 l0_1 a0_2 a0_3).bind fun t267 => (ontimelaw24_CfgAlone.j0 k a1 a2 (t267 != 0) l0_0 l0_1 a0_2 a0_3)))))) else (some false)) = some r := H
 have A4 := Aside0.mk A40
 clear A40
 by_cases c5 : t265 = true
 rotate_left
 ·replace c5 := Bool.eq_false_iff.mpr c5
  subst c5
  have H1 : (some false) = some r := by rw [if_neg (show ¬ (false = true) by decide)] at H; exact H
  exact absurd ((Option.some.inj H1).trans HRT.out) (by decide)
 subst c5
 have H1 : ((ontimelaw24_Great.f l0_0 l0_1 a0_2 a0_3).bind fun t266 => (if t266 = 1 then (ontimelaw24_CfgAlone.j0 k a1 a2 true l0_0 l0_1 a0_2 a0_3) else (if a1 < 0 then (ontimelaw24_CfgAlone.j0 k a1 a2 true l0_0 l0_1 a0_2 a0_3) else (if a1 ≥ (l0_1.length : Int) then (ontimelaw24_CfgAlone.j0 k a1 a2 true l0_0 l0_1 a0_2 a0_3) else ((linker_Check.f k l0_0 l0_1 a0_2 a0_3).bind fun t267 => (ontimelaw24_CfgAlone.j0 k a1 a2 (t267 != 0) l0_0 l0_1 a0_2 a0_3)))))) = some r := by rw [if_pos rfl] at H; exact H
 clear H
 have H := H1
 clear H1
 have HC6 := Aside0.mk H
 clear H
 go_enter Try.func6, Try.ntmps6
 go_upto_region 3 with (first | ((with_reducible refine gate_dst (N := 3) rfl ?_); (try (refine gate_guard (by rfl) ?_; dsimp only)); refine box_event ?hg (N := 3) ?hd (cs := #[.slice A0_0 l0_0.length c0_0, .slice A0_1 l0_1.length c0_1, .int .i64 a0_2, .int .i64 a0_3]) (t := 25) ?hr ?_; (case hd => rfl); (case hg => rfl); (case hr => first | (go_simp; done) | (go_simp; rfl)); intro gb264 hg w7 hbox hb; have n0_ := Aside0.mk (below_step (tB0 HB.out) hb); have n1_ := Aside0.mk (hbox); have n2_ := Aside0.mk ((by rw [hg]; exact (below_size (tB0 HB.out)) : w.heap.size ≤ gb264)); have n3_ := Aside0.mk ((by rw [hg]; exact (below_size (tB0 HB.out)) : w.heap.size ≤ gb264)); clear HB; have HB := n0_; have BK264 := n1_; have GW264 := n2_; have GE264 := n3_; clear n0_ n1_ n2_ n3_; clear hb hbox hg) | ((with_reducible refine gate_callee (f := 10) rfl ?_); refine goesL_ (some 18) rfl rfl Try.func10 (by kernel_rfl) rfl #[] rfl tF ?_; (with_reducible refine (ontimelaw24_awake.calls k  true _ A4.out).mono ?_); rintro e w8 ⟨rfl, hb⟩; refine ⟨_, rfl, ?_⟩; have n0_ := Aside0.mk (blk_below (g := gb264) (o := .cells #[.slice A0_0 l0_0.length c0_0, .slice A0_1 l0_1.length c0_1, .int .i64 a0_2, .int .i64 a0_3] 25 (0, 0)) (tK BK264.out) hb); have n1_ := Aside0.mk (below_step (tB1 HB.out GE264.out) hb); clear BK264; clear HB; have BK264 := n0_; have HB := n1_; clear n0_ n1_; (try clear hb); (try clear hb2); (try clear hk); (try clear hi)))
 (try simp only [Act.put, pA, pB, pC])
 go_cut [38] (fun v38 wc => ∃ (kq : Nat) (x38_5 : Bool), v38 = .bool x38_5 ∧ Aside0 (ontimelaw24_CfgAlone.j0 kq a1 a2 x38_5 l0_0 l0_1 a0_2 a0_3 = some r) ∧ Aside0 (kq ≤ k) ∧ Aside0 (wc.heap[gb264]? = some (.cells #[(.slice A0_0 l0_0.length c0_0), (.slice A0_1 l0_1.length c0_1), .int .i64 a0_2, .int .i64 a0_3] 25 (0, 0))) ∧ Aside0 (Below w.heap.size w wc))
 case first =>
  have H := HC6.out
  clear HC6
  replace H := Option.bind_eq_some_iff.mp H
  obtain ⟨t266, A90, H⟩ := H
  replace H : (if t266 = 1 then (ontimelaw24_CfgAlone.j0 k a1 a2 true l0_0 l0_1 a0_2 a0_3) else (if a1 < 0 then (ontimelaw24_CfgAlone.j0 k a1 a2 true l0_0 l0_1 a0_2 a0_3) else (if a1 ≥ (l0_1.length : Int) then (ontimelaw24_CfgAlone.j0 k a1 a2 true l0_0 l0_1 a0_2 a0_3) else ((linker_Check.f k l0_0 l0_1 a0_2 a0_3).bind fun t267 => (ontimelaw24_CfgAlone.j0 k a1 a2 (t267 != 0) l0_0 l0_1 a0_2 a0_3))))) = some r := H
  have A9 := Aside0.mk A90
  clear A90
  by_cases c10 : t266 = 1
  ·rw [if_pos c10] at H
   have c10b0 : (t266 == 1) = true := beq_iff_eq.mpr c10
   have c10b1 : (t266 != 1) = false := bne_eq_false_iff_eq.mpr c10
   clear c10
   (first | rw [c10b0] | (simp only [i64_w, i32_w]; rw [c10b0]) | skip)
   have H' := Aside0.mk H
   clear H
   have hcz11_0 : w8.cell? ⟨gb264, 0, none⟩ = some (.slice A0_0 l0_0.length c0_0) := (blk_cell BK264.out 0).trans rfl
   have hcz11_1 : w8.cell? ⟨gb264, 1, none⟩ = some (.slice A0_1 l0_1.length c0_1) := (blk_cell BK264.out 1).trans rfl
   have hcz11_2 : w8.cell? ⟨gb264, 2, none⟩ = some (.int .i64 a0_2) := (blk_cell BK264.out 2).trans rfl
   have hcz11_3 : w8.cell? ⟨gb264, 3, none⟩ = some (.int .i64 a0_3) := (blk_cell BK264.out 3).trans rfl
   have hfz11_0 := blk_frozen BK264.out 0
   have hfz11_1 := blk_frozen BK264.out 1
   have hfz11_2 := blk_frozen BK264.out 2
   have hfz11_3 := blk_frozen BK264.out 3
   go_wp2_with (first | ((with_reducible refine gate_callee (f := 11) rfl ?_); refine goesL_ (some 21) rfl rfl Try.func11 (by kernel_rfl) rfl #[.agg #[.slice A0_0 l0_0.length c0_0, .slice A0_1 l0_1.length c0_1, .int .i64 a0_2, .int .i64 a0_3]] rfl tF ?_; (with_reducible refine (ontimelaw24_Great.calls _ _ l0_0 _ _ l0_1 a0_2 a0_3 t266 _ ?side1 ?side2 ?side3 ?side4 A9.out).mono ?_); (case side1 => exact tC (Kd.C_below HR0_0.out HB.out)); (case side2 => exact HC0_0.out); (case side3 => exact tC (Kd.C_below HR0_1.out HB.out)); (case side4 => exact HC0_1.out); rintro e w12 ⟨rfl, hb⟩; refine ⟨_, rfl, ?_⟩; have n0_ := Aside0.mk (blk_below (g := gb264) (o := .cells #[.slice A0_0 l0_0.length c0_0, .slice A0_1 l0_1.length c0_1, .int .i64 a0_2, .int .i64 a0_3] 25 (0, 0)) (tK BK264.out) hb); have n1_ := Aside0.mk (below_step (tB1 HB.out GE264.out) hb); clear BK264; clear HB; have BK264 := n0_; have HB := n1_; clear n0_ n1_; (try clear hb); (try clear hb2); (try clear hk); (try clear hi)))
   go_meet
   case rel => exact ⟨_, (true), (by first | rfl | (simp; done) | (simp [*]; done)), H', ⟨by first | omega | exact Nat.le_refl _⟩, ⟨tK BK264.out⟩, ⟨tB1 HB.out GE264.out⟩⟩
  ·as_aux_lemma =>
   rw [if_neg c10] at H
   have c10b0 : (t266 == 1) = false := beq_eq_false_iff_ne.mpr c10
   have c10b1 : (t266 != 1) = true := bne_iff_ne.mpr c10
   (first | rw [c10b0] | (simp only [i64_w, i32_w]; rw [c10b0]) | skip)
   by_cases c13 : a1 < 0
   ·rw [if_pos c13] at H
    have c13b0 : decide (a1 < 0) = true := decide_eq_true c13
    clear c13
    have H' := Aside0.mk H
    clear H
    have hcz14_0 : w8.cell? ⟨gb264, 0, none⟩ = some (.slice A0_0 l0_0.length c0_0) := (blk_cell BK264.out 0).trans rfl
    have hcz14_1 : w8.cell? ⟨gb264, 1, none⟩ = some (.slice A0_1 l0_1.length c0_1) := (blk_cell BK264.out 1).trans rfl
    have hcz14_2 : w8.cell? ⟨gb264, 2, none⟩ = some (.int .i64 a0_2) := (blk_cell BK264.out 2).trans rfl
    have hcz14_3 : w8.cell? ⟨gb264, 3, none⟩ = some (.int .i64 a0_3) := (blk_cell BK264.out 3).trans rfl
    have hfz14_0 := blk_frozen BK264.out 0
    have hfz14_1 := blk_frozen BK264.out 1
    have hfz14_2 := blk_frozen BK264.out 2
    have hfz14_3 := blk_frozen BK264.out 3
    go_wp2_with (first | ((with_reducible refine gate_callee (f := 11) rfl ?_); refine goesL_ (some 21) rfl rfl Try.func11 (by kernel_rfl) rfl #[.agg #[.slice A0_0 l0_0.length c0_0, .slice A0_1 l0_1.length c0_1, .int .i64 a0_2, .int .i64 a0_3]] rfl tF ?_; (with_reducible refine (ontimelaw24_Great.calls _ _ l0_0 _ _ l0_1 a0_2 a0_3 t266 _ ?side1 ?side2 ?side3 ?side4 A9.out).mono ?_); (case side1 => exact tC (Kd.C_below HR0_0.out HB.out)); (case side2 => exact HC0_0.out); (case side3 => exact tC (Kd.C_below HR0_1.out HB.out)); (case side4 => exact HC0_1.out); rintro e w15 ⟨rfl, hb⟩; refine ⟨_, rfl, ?_⟩; have n0_ := Aside0.mk (blk_below (g := gb264) (o := .cells #[.slice A0_0 l0_0.length c0_0, .slice A0_1 l0_1.length c0_1, .int .i64 a0_2, .int .i64 a0_3] 25 (0, 0)) (tK BK264.out) hb); have n1_ := Aside0.mk (below_step (tB1 HB.out GE264.out) hb); clear BK264; clear HB; have BK264 := n0_; have HB := n1_; clear n0_ n1_; (try clear hb); (try clear hb2); (try clear hk); (try clear hi)))
    go_meet
    case rel => exact ⟨_, (true), (by first | rfl | (simp; done) | (simp [*]; done)), H', ⟨by first | omega | exact Nat.le_refl _⟩, ⟨tK BK264.out⟩, ⟨tB1 HB.out GE264.out⟩⟩
   ·as_aux_lemma =>
    rw [if_neg c13] at H
    have c13b0 : decide (a1 < 0) = false := decide_eq_false c13
    clear c13
    by_cases c16 : a1 ≥ (l0_1.length : Int)
    ·rw [if_pos c16] at H
     have c16b0 : decide ((l0_1.length : Int) ≤ a1) = true := decide_eq_true c16
     clear c16
     have H' := Aside0.mk H
     clear H
     have hcz17_0 : w8.cell? ⟨gb264, 0, none⟩ = some (.slice A0_0 l0_0.length c0_0) := (blk_cell BK264.out 0).trans rfl
     have hcz17_1 : w8.cell? ⟨gb264, 1, none⟩ = some (.slice A0_1 l0_1.length c0_1) := (blk_cell BK264.out 1).trans rfl
     have hcz17_2 : w8.cell? ⟨gb264, 2, none⟩ = some (.int .i64 a0_2) := (blk_cell BK264.out 2).trans rfl
     have hcz17_3 : w8.cell? ⟨gb264, 3, none⟩ = some (.int .i64 a0_3) := (blk_cell BK264.out 3).trans rfl
     have hfz17_0 := blk_frozen BK264.out 0
     have hfz17_1 := blk_frozen BK264.out 1
     have hfz17_2 := blk_frozen BK264.out 2
     have hfz17_3 := blk_frozen BK264.out 3
     go_wp2_with (first | ((with_reducible refine gate_callee (f := 11) rfl ?_); refine goesL_ (some 21) rfl rfl Try.func11 (by kernel_rfl) rfl #[.agg #[.slice A0_0 l0_0.length c0_0, .slice A0_1 l0_1.length c0_1, .int .i64 a0_2, .int .i64 a0_3]] rfl tF ?_; (with_reducible refine (ontimelaw24_Great.calls _ _ l0_0 _ _ l0_1 a0_2 a0_3 t266 _ ?side1 ?side2 ?side3 ?side4 A9.out).mono ?_); (case side1 => exact tC (Kd.C_below HR0_0.out HB.out)); (case side2 => exact HC0_0.out); (case side3 => exact tC (Kd.C_below HR0_1.out HB.out)); (case side4 => exact HC0_1.out); rintro e w18 ⟨rfl, hb⟩; refine ⟨_, rfl, ?_⟩; have n0_ := Aside0.mk (blk_below (g := gb264) (o := .cells #[.slice A0_0 l0_0.length c0_0, .slice A0_1 l0_1.length c0_1, .int .i64 a0_2, .int .i64 a0_3] 25 (0, 0)) (tK BK264.out) hb); have n1_ := Aside0.mk (below_step (tB1 HB.out GE264.out) hb); clear BK264; clear HB; have BK264 := n0_; have HB := n1_; clear n0_ n1_; (try clear hb); (try clear hb2); (try clear hk); (try clear hi); have hcz19_0 : w18.cell? ⟨gb264, 0, none⟩ = some (.slice A0_0 l0_0.length c0_0) := (blk_cell BK264.out 0).trans rfl; have hcz19_1 : w18.cell? ⟨gb264, 1, none⟩ = some (.slice A0_1 l0_1.length c0_1) := (blk_cell BK264.out 1).trans rfl; have hcz19_2 : w18.cell? ⟨gb264, 2, none⟩ = some (.int .i64 a0_2) := (blk_cell BK264.out 2).trans rfl; have hcz19_3 : w18.cell? ⟨gb264, 3, none⟩ = some (.int .i64 a0_3) := (blk_cell BK264.out 3).trans rfl; have hfz19_0 := blk_frozen BK264.out 0; have hfz19_1 := blk_frozen BK264.out 1; have hfz19_2 := blk_frozen BK264.out 2; have hfz19_3 := blk_frozen BK264.out 3))
     go_meet
     case rel => exact ⟨_, (true), (by first | rfl | (simp; done) | (simp [*]; done)), H', ⟨by first | omega | exact Nat.le_refl _⟩, ⟨tK BK264.out⟩, ⟨tB1 HB.out GE264.out⟩⟩
    ·rw [if_neg c16] at H
     have c16b0 : decide ((l0_1.length : Int) ≤ a1) = false := decide_eq_false c16
     clear c16
     replace H := Option.bind_eq_some_iff.mp H
     obtain ⟨t267, A200, H⟩ := H
     replace H : (ontimelaw24_CfgAlone.j0 k a1 a2 (t267 != 0) l0_0 l0_1 a0_2 a0_3) = some r := H
     have A20 := Aside0.mk A200
     clear A200
     have H' := Aside0.mk H
     clear H
     have hcz21_0 : w8.cell? ⟨gb264, 0, none⟩ = some (.slice A0_0 l0_0.length c0_0) := (blk_cell BK264.out 0).trans rfl
     have hcz21_1 : w8.cell? ⟨gb264, 1, none⟩ = some (.slice A0_1 l0_1.length c0_1) := (blk_cell BK264.out 1).trans rfl
     have hcz21_2 : w8.cell? ⟨gb264, 2, none⟩ = some (.int .i64 a0_2) := (blk_cell BK264.out 2).trans rfl
     have hcz21_3 : w8.cell? ⟨gb264, 3, none⟩ = some (.int .i64 a0_3) := (blk_cell BK264.out 3).trans rfl
     have hfz21_0 := blk_frozen BK264.out 0
     have hfz21_1 := blk_frozen BK264.out 1
     have hfz21_2 := blk_frozen BK264.out 2
     have hfz21_3 := blk_frozen BK264.out 3
     go_wp2_with (first | ((with_reducible refine gate_callee (f := 11) rfl ?_); refine goesL_ (some 21) rfl rfl Try.func11 (by kernel_rfl) rfl #[.agg #[.slice A0_0 l0_0.length c0_0, .slice A0_1 l0_1.length c0_1, .int .i64 a0_2, .int .i64 a0_3]] rfl tF ?_; (with_reducible refine (ontimelaw24_Great.calls _ _ l0_0 _ _ l0_1 a0_2 a0_3 t266 _ ?side1 ?side2 ?side3 ?side4 A9.out).mono ?_); (case side1 => exact tC (Kd.C_below HR0_0.out HB.out)); (case side2 => exact HC0_0.out); (case side3 => exact tC (Kd.C_below HR0_1.out HB.out)); (case side4 => exact HC0_1.out); rintro e w22 ⟨rfl, hb⟩; refine ⟨_, rfl, ?_⟩; have n0_ := Aside0.mk (blk_below (g := gb264) (o := .cells #[.slice A0_0 l0_0.length c0_0, .slice A0_1 l0_1.length c0_1, .int .i64 a0_2, .int .i64 a0_3] 25 (0, 0)) (tK BK264.out) hb); have n1_ := Aside0.mk (below_step (tB1 HB.out GE264.out) hb); clear BK264; clear HB; have BK264 := n0_; have HB := n1_; clear n0_ n1_; (try clear hb); (try clear hb2); (try clear hk); (try clear hi); have hcz23_0 : w22.cell? ⟨gb264, 0, none⟩ = some (.slice A0_0 l0_0.length c0_0) := (blk_cell BK264.out 0).trans rfl; have hcz23_1 : w22.cell? ⟨gb264, 1, none⟩ = some (.slice A0_1 l0_1.length c0_1) := (blk_cell BK264.out 1).trans rfl; have hcz23_2 : w22.cell? ⟨gb264, 2, none⟩ = some (.int .i64 a0_2) := (blk_cell BK264.out 2).trans rfl; have hcz23_3 : w22.cell? ⟨gb264, 3, none⟩ = some (.int .i64 a0_3) := (blk_cell BK264.out 3).trans rfl; have hfz23_0 := blk_frozen BK264.out 0; have hfz23_1 := blk_frozen BK264.out 1; have hfz23_2 := blk_frozen BK264.out 2; have hfz23_3 := blk_frozen BK264.out 3) | (go_at_call 13; (with_reducible refine (linker_Check.calls k _ _ l0_0 _ _ l0_1 a0_2 a0_3 t267 _ ?side1 ?side2 ?side3 ?side4 A20.out).mono ?_); (case side1 => exact tC (Kd.C_below HR0_0.out HB.out)); (case side2 => exact HC0_0.out); (case side3 => exact tC (Kd.C_below HR0_1.out HB.out)); (case side4 => exact HC0_1.out); rintro e w24 ⟨rfl, hb⟩; have n0_ := Aside0.mk (blk_below (g := gb264) (o := .cells #[.slice A0_0 l0_0.length c0_0, .slice A0_1 l0_1.length c0_1, .int .i64 a0_2, .int .i64 a0_3] 25 (0, 0)) (tK BK264.out) hb); have n1_ := Aside0.mk (below_step (tB1 HB.out GE264.out) hb); clear BK264; clear HB; have BK264 := n0_; have HB := n1_; clear n0_ n1_; (try clear hb); (try clear hb2); (try clear hk); (try clear hi)))
     go_meet
     case rel => exact ⟨_, ((t267 != 0)), (by first | rfl | (simp; done) | (simp [*]; done)), H', ⟨by first | omega | exact Nat.le_refl _⟩, ⟨tK BK264.out⟩, ⟨tB1 HB.out GE264.out⟩⟩
 case rest =>
  as_aux_lemma =>
  clear HC6
  (try clear c1);(try clear p2);(try clear c5);(try clear c6);(try clear c10);(try clear c10b0);(try clear c10b1);(try clear c11);(try clear c13);(try clear c13b0);(try clear c16);(try clear c16b0);(try clear hcz11_0);(try clear hcz11_1);(try clear hcz11_2);(try clear hcz11_3);(try clear hcz14_0);(try clear hcz14_1);(try clear hcz14_2);(try clear hcz14_3);(try clear hcz17_0);(try clear hcz17_1);(try clear hcz17_2);(try clear hcz17_3);(try clear hcz19_0);(try clear hcz19_1);(try clear hcz19_2);(try clear hcz19_3);(try clear hcz21_0);(try clear hcz21_1);(try clear hcz21_2);(try clear hcz21_3);(try clear hcz23_0);(try clear hcz23_1);(try clear hcz23_2);(try clear hcz23_3);(try clear hfz11_0);(try clear hfz11_1);(try clear hfz11_2);(try clear hfz11_3);(try clear hfz14_0);(try clear hfz14_1);(try clear hfz14_2);(try clear hfz14_3);(try clear hfz17_0);(try clear hfz17_1);(try clear hfz17_2);(try clear hfz17_3);(try clear hfz19_0);(try clear hfz19_1);(try clear hfz19_2);(try clear hfz19_3);(try clear hfz21_0);(try clear hfz21_1);(try clear hfz21_2);(try clear hfz21_3);(try clear hfz23_0);(try clear hfz23_1);(try clear hfz23_2);(try clear hfz23_3)
  obtain ⟨kq, x38_5, rfl, HA, HJ5, BK264, HB⟩ := hcut
  cases kq with
  | zero => exact absurd HA.out (by simp [ontimelaw24_CfgAlone.j0])
  | succ kj5 =>
   have H := HA.out
   clear HA
   simp only [ontimelaw24_CfgAlone.j0] at H
   by_cases c25 : x38_5 = true
   ·subst c25
    have H1 : (some true) = some r := by rw [if_pos rfl] at H; exact H
    clear H
    have H := H1
    clear H1
    obtain rfl := Option.some.inj H
    go_wp2
    go_ret
    exact ⟨by first | rfl | (simp [errW_none, errW_some] <;> rfl) | (simp [*, errW_none, errW_some] <;> rfl), by repeat (first | (with_reducible first | exact HB.out | apply below_alloc | apply pw_below_drewN | apply below_drew1 | refine below_set ?_ GE264.out) | exact HB.out)⟩
   replace c25 := Bool.eq_false_iff.mpr c25
   subst c25
   have H1 : (if 0 ≤ a1 then (if a1 < (l0_1.length : Int) then ((some (([] : List Int) : List Int)).bind fun y271 => (if y271.length + l0_0.length < 35184372088832 then ((some (y271 ++ l0_0 : List Int)).bind fun y274 => ((isa_Encode.f 1 0 0 0 0).bind fun bt277 => (ontimelaw24_CfgAlone.l0 kj5 a1 a2 bt277.1 (y274.length : Int) 0 l0_0 l0_1 a0_2 a0_3 ((rd_T39 l0_1 a1).f0) ((rd_T39 l0_1 a1).f1) ((rd_T39 l0_1 a1).f2) ((rd_T39 l0_1 a1).f3) y274 l0_1 a0_2 a0_3))) else (none))) else (none)) else (none)) = some r := by rw [if_neg (show ¬ (false = true) by decide)] at H; exact H
   clear H
   have H := H1
   clear H1
   by_cases c26 : 0 ≤ a1
   rotate_left
   ·rw [if_neg c26] at H
    exact absurd H (by simp)
   as_aux_lemma =>
   rw [if_pos c26] at H
   have c26b0 : decide (0 ≤ a1) = true := decide_eq_true c26
   clear c26
   by_cases c27 : a1 < (l0_1.length : Int)
   rotate_left
   ·rw [if_neg c27] at H
    exact absurd H (by simp)
   as_aux_lemma =>
   rw [if_pos c27] at H
   have c27b0 : decide (a1 < (l0_1.length : Int)) = true := decide_eq_true c27
   clear c27
   obtain ⟨y271, hy271⟩ : ∃ y_ : List Int, y_ = (([] : List Int)) := ⟨_, rfl⟩
   replace H : (if y271.length + l0_0.length < 35184372088832 then ((some (y271 ++ l0_0 : List Int)).bind fun y274 => ((isa_Encode.f 1 0 0 0 0).bind fun bt277 => (ontimelaw24_CfgAlone.l0 kj5 a1 a2 bt277.1 (y274.length : Int) 0 l0_0 l0_1 a0_2 a0_3 ((rd_T39 l0_1 a1).f0) ((rd_T39 l0_1 a1).f1) ((rd_T39 l0_1 a1).f2) ((rd_T39 l0_1 a1).f3) y274 l0_1 a0_2 a0_3))) else (none)) = some r := by first | (rw [hy271]; with_reducible exact H) | (have H2_ := (Option.bind_some _ _).symm.trans H; rw [hy271]; with_reducible exact H2_) | (have H2_ := (Option.bind_some _ _).symm.trans H; with_reducible exact H2_) | with_reducible exact H | (rw [hy271]; exact H) | exact H
   have Ny271 := Aside0.mk hy271
   clear hy271
   by_cases c28 : y271.length + l0_0.length < 35184372088832
   rotate_left
   ·rw [if_neg c28] at H
    exact absurd H (by simp)
   as_aux_lemma =>
   rw [if_pos c28] at H
   have LMc28 := Aside0.mk c28
   clear c28
   obtain ⟨y274, hy274⟩ : ∃ y_ : List Int, y_ = (y271 ++ l0_0) := ⟨_, rfl⟩
   replace H : ((isa_Encode.f 1 0 0 0 0).bind fun bt277 => (ontimelaw24_CfgAlone.l0 kj5 a1 a2 bt277.1 (y274.length : Int) 0 l0_0 l0_1 a0_2 a0_3 ((rd_T39 l0_1 a1).f0) ((rd_T39 l0_1 a1).f1) ((rd_T39 l0_1 a1).f2) ((rd_T39 l0_1 a1).f3) y274 l0_1 a0_2 a0_3)) = some r := by first | (rw [hy274]; with_reducible exact H) | (have H2_ := (Option.bind_some _ _).symm.trans H; rw [hy274]; with_reducible exact H2_) | (have H2_ := (Option.bind_some _ _).symm.trans H; with_reducible exact H2_) | with_reducible exact H | (rw [hy274]; exact H) | exact H
   have Ny274 := Aside0.mk hy274
   clear hy274
   replace H := Option.bind_eq_some_iff.mp H
   obtain ⟨⟨t277, t278⟩, A290, H⟩ := H
   replace H : (ontimelaw24_CfgAlone.l0 kj5 a1 a2 t277 (y274.length : Int) 0 l0_0 l0_1 a0_2 a0_3 ((rd_T39 l0_1 a1).f0) ((rd_T39 l0_1 a1).f1) ((rd_T39 l0_1 a1).f2) ((rd_T39 l0_1 a1).f3) y274 l0_1 a0_2 a0_3) = some r := H
   have A29 := Aside0.mk A290
   clear A290
   have H' := Aside0.mk H
   clear H
   have hcz30_0 : wc.cell? ⟨gb264, 0, none⟩ = some (.slice A0_0 l0_0.length c0_0) := (blk_cell BK264.out 0).trans rfl
   have hcz30_1 : wc.cell? ⟨gb264, 1, none⟩ = some (.slice A0_1 l0_1.length c0_1) := (blk_cell BK264.out 1).trans rfl
   have hcz30_2 : wc.cell? ⟨gb264, 2, none⟩ = some (.int .i64 a0_2) := (blk_cell BK264.out 2).trans rfl
   have hcz30_3 : wc.cell? ⟨gb264, 3, none⟩ = some (.int .i64 a0_3) := (blk_cell BK264.out 3).trans rfl
   have hfz30_0 := blk_frozen BK264.out 0
   have hfz30_1 := blk_frozen BK264.out 1
   have hfz30_2 := blk_frozen BK264.out 2
   have hfz30_3 := blk_frozen BK264.out 3
   have p268 : 0 ≤ (a1 : Int) := tD
   have q268 : a1 < (l0_1.length : Int) := tD
   obtain ⟨ad268, e268, hx268_0, hx268_1, hx268_2, hx268_3⟩ := at_T39 HR0_1.out a1 p268 q268
   cases e268
   replace hx268_0 := (HB.out.cell (World.block_lt_of_cell? w _ hx268_0)).trans hx268_0
   replace hx268_1 := (HB.out.cell (World.block_lt_of_cell? w _ hx268_1)).trans hx268_1
   replace hx268_2 := (HB.out.cell (World.block_lt_of_cell? w _ hx268_2)).trans hx268_2
   replace hx268_3 := (HB.out.cell (World.block_lt_of_cell? w _ hx268_3)).trans hx268_3
   replace p268 := eq_true p268
   replace q268 := eq_true q268
   go_wp2_with (first | ((with_reducible refine gate_dst (N := 7) rfl ?_); (try (refine gate_guard (by rfl) ?_; dsimp only)); refine box_event ?hg (N := 7) ?hd (cs := #[.string (⟨#[]⟩ : ByteArray), .int .i64 0, .int .i64 0, .int .i64 0]) (t := 39) ?hr ?_; (case hd => rfl); (case hg => rfl); (case hr => first | (go_simp; done) | (go_simp; rfl)); intro gb269 hg w31 hbox hb; have n0_ := Aside0.mk (blk_below (g := gb264) (o := .cells #[.slice A0_0 l0_0.length c0_0, .slice (some ad268) l0_1.length c0_1, .int .i64 a0_2, .int .i64 a0_3] 25 (0, 0)) (tK BK264.out) hb); have n1_ := Aside0.mk (below_step (tB1 HB.out GE264.out) hb); have n2_ := Aside0.mk (hbox); have n3_ := Aside0.mk ((by rw [hg]; exact (below_size (tB1 HB.out GE264.out)) : w.heap.size ≤ gb269)); have n4_ := Aside0.mk ((by rw [hg]; exact (below_size (tB1 HB.out GE264.out)) : w.heap.size ≤ gb269)); have n5_ := Aside0.mk ((by rw [hg]; exact Nat.ne_of_lt (blk_lt (g := gb264) (o := .cells #[.slice A0_0 l0_0.length c0_0, .slice (some ad268) l0_1.length c0_1, .int .i64 a0_2, .int .i64 a0_3] 25 (0, 0)) (tK BK264.out)) : gb264 ≠ gb269)); have n6_ := Aside0.mk ((by rw [hg]; exact Nat.ne_of_gt (blk_lt (g := gb264) (o := .cells #[.slice A0_0 l0_0.length c0_0, .slice (some ad268) l0_1.length c0_1, .int .i64 a0_2, .int .i64 a0_3] 25 (0, 0)) (tK BK264.out)) : gb269 ≠ gb264)); clear BK264; clear HB; have BK264 := n0_; have HB := n1_; have BK269 := n2_; have GW269 := n3_; have GE269 := n4_; have NB264_269 := n5_; have NB269_264 := n6_; clear n0_ n1_ n2_ n3_ n4_ n5_ n6_; clear hb hbox hg; have hnb32 := NB269_264.out; have hnc32 := NB264_269.out; have hcz33_0 : w31.cell? ⟨gb269, 0, none⟩ = some (.string (⟨#[]⟩ : ByteArray)) := (blk_cell BK269.out 0).trans rfl; have hcz33_1 : w31.cell? ⟨gb269, 1, none⟩ = some (.int .i64 0) := (blk_cell BK269.out 1).trans rfl; have hcz33_2 : w31.cell? ⟨gb269, 2, none⟩ = some (.int .i64 0) := (blk_cell BK269.out 2).trans rfl; have hcz33_3 : w31.cell? ⟨gb269, 3, none⟩ = some (.int .i64 0) := (blk_cell BK269.out 3).trans rfl; have hfz33_0 := blk_frozen BK269.out 0; have hfz33_1 := blk_frozen BK269.out 1; have hfz33_2 := blk_frozen BK269.out 2; have hfz33_3 := blk_frozen BK269.out 3; have hcz34_0 : w31.cell? ⟨gb264, 0, none⟩ = some (.slice A0_0 l0_0.length c0_0) := (blk_cell BK264.out 0).trans rfl; have hcz34_1 : w31.cell? ⟨gb264, 1, none⟩ = some (.slice (some ad268) l0_1.length c0_1) := (blk_cell BK264.out 1).trans rfl; have hcz34_2 : w31.cell? ⟨gb264, 2, none⟩ = some (.int .i64 a0_2) := (blk_cell BK264.out 2).trans rfl; have hcz34_3 : w31.cell? ⟨gb264, 3, none⟩ = some (.int .i64 a0_3) := (blk_cell BK264.out 3).trans rfl; have hfz34_0 := blk_frozen BK264.out 0; have hfz34_1 := blk_frozen BK264.out 1; have hfz34_2 := blk_frozen BK264.out 2; have hfz34_3 := blk_frozen BK264.out 3) | ((with_reducible refine gate_dst (N := 8) rfl ?_); (try (refine gate_guard (by rfl) ?_; dsimp only)); refine box_event ?hg (N := 8) ?hd (cs := #[.slice none 0 0, .slice none 0 0, .int .i64 0, .int .i64 0]) (t := 25) ?hr ?_; (case hd => rfl); (case hg => rfl); (case hr => first | (go_simp; done) | (go_simp; rfl)); intro gb270 hg w35 hbox hb; have n0_ := Aside0.mk (blk_below (g := gb264) (o := .cells #[.slice A0_0 l0_0.length c0_0, .slice (some ad268) l0_1.length c0_1, .int .i64 a0_2, .int .i64 a0_3] 25 (0, 0)) (by (with_reducible repeat (first | refine blk_drewN ?_ _ | refine blk_drew ?_ | refine blk_alloc ?_ _)); refine blk_far ?_ NB264_269.out _; (with_reducible repeat (first | refine blk_drewN ?_ _ | refine blk_drew ?_ | refine blk_alloc ?_ _)); refine blk_far ?_ NB264_269.out _; (with_reducible repeat (first | refine blk_drewN ?_ _ | refine blk_drew ?_ | refine blk_alloc ?_ _)); refine blk_far ?_ NB264_269.out _; (with_reducible repeat (first | refine blk_drewN ?_ _ | refine blk_drew ?_ | refine blk_alloc ?_ _)); refine blk_far ?_ NB264_269.out _; (with_reducible repeat (first | refine blk_drewN ?_ _ | refine blk_drew ?_ | refine blk_alloc ?_ _)); exact BK264.out) hb); have n1_ := Aside0.mk (blk_below (g := gb269) (o := .cells #[.string ((rd_T39 l0_1 a1).f0), .int .i64 ((rd_T39 l0_1 a1).f1), .int .i64 ((rd_T39 l0_1 a1).f2), .int .i64 ((rd_T39 l0_1 a1).f3)] 39 (0, 0)) (by (with_reducible repeat (first | refine blk_drewN ?_ _ | refine blk_drew ?_ | refine blk_alloc ?_ _)); refine blk_put (cs := #[.string ((rd_T39 l0_1 a1).f0), .int .i64 ((rd_T39 l0_1 a1).f1), .int .i64 ((rd_T39 l0_1 a1).f2), .int .i64 0]) ?_ 3 _ rfl; (with_reducible repeat (first | refine blk_drewN ?_ _ | refine blk_drew ?_ | refine blk_alloc ?_ _)); refine blk_put (cs := #[.string ((rd_T39 l0_1 a1).f0), .int .i64 ((rd_T39 l0_1 a1).f1), .int .i64 0, .int .i64 0]) ?_ 2 _ rfl; (with_reducible repeat (first | refine blk_drewN ?_ _ | refine blk_drew ?_ | refine blk_alloc ?_ _)); refine blk_put (cs := #[.string ((rd_T39 l0_1 a1).f0), .int .i64 0, .int .i64 0, .int .i64 0]) ?_ 1 _ rfl; (with_reducible repeat (first | refine blk_drewN ?_ _ | refine blk_drew ?_ | refine blk_alloc ?_ _)); refine blk_put (cs := #[.string (⟨#[]⟩ : ByteArray), .int .i64 0, .int .i64 0, .int .i64 0]) ?_ 0 _ rfl; (with_reducible repeat (first | refine blk_drewN ?_ _ | refine blk_drew ?_ | refine blk_alloc ?_ _)); exact BK269.out) hb); have n2_ := Aside0.mk (below_step (tB2 HB.out GE264.out GE269.out) hb); have n3_ := Aside0.mk (hbox); have n4_ := Aside0.mk ((by rw [hg]; exact (below_size (tB2 HB.out GE264.out GE269.out)) : w.heap.size ≤ gb270)); have n5_ := Aside0.mk ((by rw [hg]; exact (below_size (tB2 HB.out GE264.out GE269.out)) : w.heap.size ≤ gb270)); have n6_ := Aside0.mk ((by rw [hg]; exact Nat.ne_of_lt (blk_lt (g := gb264) (o := .cells #[.slice A0_0 l0_0.length c0_0, .slice (some ad268) l0_1.length c0_1, .int .i64 a0_2, .int .i64 a0_3] 25 (0, 0)) (by (with_reducible repeat (first | refine blk_drewN ?_ _ | refine blk_drew ?_ | refine blk_alloc ?_ _)); refine blk_far ?_ NB264_269.out _; (with_reducible repeat (first | refine blk_drewN ?_ _ | refine blk_drew ?_ | refine blk_alloc ?_ _)); refine blk_far ?_ NB264_269.out _; (with_reducible repeat (first | refine blk_drewN ?_ _ | refine blk_drew ?_ | refine blk_alloc ?_ _)); refine blk_far ?_ NB264_269.out _; (with_reducible repeat (first | refine blk_drewN ?_ _ | refine blk_drew ?_ | refine blk_alloc ?_ _)); refine blk_far ?_ NB264_269.out _; (with_reducible repeat (first | refine blk_drewN ?_ _ | refine blk_drew ?_ | refine blk_alloc ?_ _)); exact BK264.out)) : gb264 ≠ gb270)); have n7_ := Aside0.mk ((by rw [hg]; exact Nat.ne_of_gt (blk_lt (g := gb264) (o := .cells #[.slice A0_0 l0_0.length c0_0, .slice (some ad268) l0_1.length c0_1, .int .i64 a0_2, .int .i64 a0_3] 25 (0, 0)) (by (with_reducible repeat (first | refine blk_drewN ?_ _ | refine blk_drew ?_ | refine blk_alloc ?_ _)); refine blk_far ?_ NB264_269.out _; (with_reducible repeat (first | refine blk_drewN ?_ _ | refine blk_drew ?_ | refine blk_alloc ?_ _)); refine blk_far ?_ NB264_269.out _; (with_reducible repeat (first | refine blk_drewN ?_ _ | refine blk_drew ?_ | refine blk_alloc ?_ _)); refine blk_far ?_ NB264_269.out _; (with_reducible repeat (first | refine blk_drewN ?_ _ | refine blk_drew ?_ | refine blk_alloc ?_ _)); refine blk_far ?_ NB264_269.out _; (with_reducible repeat (first | refine blk_drewN ?_ _ | refine blk_drew ?_ | refine blk_alloc ?_ _)); exact BK264.out)) : gb270 ≠ gb264)); have n8_ := Aside0.mk ((by rw [hg]; exact Nat.ne_of_lt (blk_lt (g := gb269) (o := .cells #[.string ((rd_T39 l0_1 a1).f0), .int .i64 ((rd_T39 l0_1 a1).f1), .int .i64 ((rd_T39 l0_1 a1).f2), .int .i64 ((rd_T39 l0_1 a1).f3)] 39 (0, 0)) (by (with_reducible repeat (first | refine blk_drewN ?_ _ | refine blk_drew ?_ | refine blk_alloc ?_ _)); refine blk_put (cs := #[.string ((rd_T39 l0_1 a1).f0), .int .i64 ((rd_T39 l0_1 a1).f1), .int .i64 ((rd_T39 l0_1 a1).f2), .int .i64 0]) ?_ 3 _ rfl; (with_reducible repeat (first | refine blk_drewN ?_ _ | refine blk_drew ?_ | refine blk_alloc ?_ _)); refine blk_put (cs := #[.string ((rd_T39 l0_1 a1).f0), .int .i64 ((rd_T39 l0_1 a1).f1), .int .i64 0, .int .i64 0]) ?_ 2 _ rfl; (with_reducible repeat (first | refine blk_drewN ?_ _ | refine blk_drew ?_ | refine blk_alloc ?_ _)); refine blk_put (cs := #[.string ((rd_T39 l0_1 a1).f0), .int .i64 0, .int .i64 0, .int .i64 0]) ?_ 1 _ rfl; (with_reducible repeat (first | refine blk_drewN ?_ _ | refine blk_drew ?_ | refine blk_alloc ?_ _)); refine blk_put (cs := #[.string (⟨#[]⟩ : ByteArray), .int .i64 0, .int .i64 0, .int .i64 0]) ?_ 0 _ rfl; (with_reducible repeat (first | refine blk_drewN ?_ _ | refine blk_drew ?_ | refine blk_alloc ?_ _)); exact BK269.out)) : gb269 ≠ gb270)); have n9_ := Aside0.mk ((by rw [hg]; exact Nat.ne_of_gt (blk_lt (g := gb269) (o := .cells #[.string ((rd_T39 l0_1 a1).f0), .int .i64 ((rd_T39 l0_1 a1).f1), .int .i64 ((rd_T39 l0_1 a1).f2), .int .i64 ((rd_T39 l0_1 a1).f3)] 39 (0, 0)) (by (with_reducible repeat (first | refine blk_drewN ?_ _ | refine blk_drew ?_ | refine blk_alloc ?_ _)); refine blk_put (cs := #[.string ((rd_T39 l0_1 a1).f0), .int .i64 ((rd_T39 l0_1 a1).f1), .int .i64 ((rd_T39 l0_1 a1).f2), .int .i64 0]) ?_ 3 _ rfl; (with_reducible repeat (first | refine blk_drewN ?_ _ | refine blk_drew ?_ | refine blk_alloc ?_ _)); refine blk_put (cs := #[.string ((rd_T39 l0_1 a1).f0), .int .i64 ((rd_T39 l0_1 a1).f1), .int .i64 0, .int .i64 0]) ?_ 2 _ rfl; (with_reducible repeat (first | refine blk_drewN ?_ _ | refine blk_drew ?_ | refine blk_alloc ?_ _)); refine blk_put (cs := #[.string ((rd_T39 l0_1 a1).f0), .int .i64 0, .int .i64 0, .int .i64 0]) ?_ 1 _ rfl; (with_reducible repeat (first | refine blk_drewN ?_ _ | refine blk_drew ?_ | refine blk_alloc ?_ _)); refine blk_put (cs := #[.string (⟨#[]⟩ : ByteArray), .int .i64 0, .int .i64 0, .int .i64 0]) ?_ 0 _ rfl; (with_reducible repeat (first | refine blk_drewN ?_ _ | refine blk_drew ?_ | refine blk_alloc ?_ _)); exact BK269.out)) : gb270 ≠ gb269)); clear BK264; clear BK269; clear HB; have BK264 := n0_; have BK269 := n1_; have HB := n2_; have BK270 := n3_; have GW270 := n4_; have GE270 := n5_; have NB264_270 := n6_; have NB270_264 := n7_; have NB269_270 := n8_; have NB270_269 := n9_; clear n0_ n1_ n2_ n3_ n4_ n5_ n6_ n7_ n8_ n9_; clear hb hbox hg; have hnb36 := NB270_264.out; have hnc36 := NB264_270.out; have hnb37 := NB270_269.out; have hnc37 := NB269_270.out; have hcz38_0 : w35.cell? ⟨gb270, 0, none⟩ = some (.slice none 0 0) := (blk_cell BK270.out 0).trans rfl; have hcz38_1 : w35.cell? ⟨gb270, 1, none⟩ = some (.slice none 0 0) := (blk_cell BK270.out 1).trans rfl; have hcz38_2 : w35.cell? ⟨gb270, 2, none⟩ = some (.int .i64 0) := (blk_cell BK270.out 2).trans rfl; have hcz38_3 : w35.cell? ⟨gb270, 3, none⟩ = some (.int .i64 0) := (blk_cell BK270.out 3).trans rfl; have hfz38_0 := blk_frozen BK270.out 0; have hfz38_1 := blk_frozen BK270.out 1; have hfz38_2 := blk_frozen BK270.out 2; have hfz38_3 := blk_frozen BK270.out 3) | ((with_reducible refine gate_dst (N := 45) rfl ?_); (try (refine gate_guard (by rfl) ?_; dsimp only)); refine Kd.R_lit (Kd.int .u32) _ 56 ?hg (N := 45) ?hd (xs := ([] : List Int)) (inner := []) (ok := fun _ => True) (okp := fun _ => True) ?hr ?hp (fun _ hk => hk) trivial (Below.refl _ _) (Nat.le_refl _) (by simp) ?_; (case hd => rfl); (case hg => rfl); (case hr => first | (go_simp; done) | (go_simp; rfl)); (case hp => exact (Reps.none _ _)); intro v272 w39 ho40 hb hg_ hnew_; clear hg_ hnew_; (first | rw [← Ny271.out] at ho40 | (simp only [Int.reduceToNat] at ho40; rw [← Ny271.out] at ho40)); have n0_ := Aside0.mk (Kd.R_lower ho40 (below_size (tB3 HB.out GE264.out GE269.out GE270.out))); have n1_ := Aside0.mk (blk_below (g := gb264) (o := .cells #[.slice A0_0 l0_0.length c0_0, .slice (some ad268) l0_1.length c0_1, .int .i64 a0_2, .int .i64 a0_3] 25 (0, 0)) (by (with_reducible repeat (first | refine blk_drewN ?_ _ | refine blk_drew ?_ | refine blk_alloc ?_ _)); refine blk_far ?_ NB264_270.out _; (with_reducible repeat (first | refine blk_drewN ?_ _ | refine blk_drew ?_ | refine blk_alloc ?_ _)); refine blk_far ?_ NB264_270.out _; (with_reducible repeat (first | refine blk_drewN ?_ _ | refine blk_drew ?_ | refine blk_alloc ?_ _)); refine blk_far ?_ NB264_270.out _; (with_reducible repeat (first | refine blk_drewN ?_ _ | refine blk_drew ?_ | refine blk_alloc ?_ _)); refine blk_far ?_ NB264_270.out _; (with_reducible repeat (first | refine blk_drewN ?_ _ | refine blk_drew ?_ | refine blk_alloc ?_ _)); exact BK264.out) hb); have n2_ := Aside0.mk (blk_below (g := gb269) (o := .cells #[.string ((rd_T39 l0_1 a1).f0), .int .i64 ((rd_T39 l0_1 a1).f1), .int .i64 ((rd_T39 l0_1 a1).f2), .int .i64 ((rd_T39 l0_1 a1).f3)] 39 (0, 0)) (by (with_reducible repeat (first | refine blk_drewN ?_ _ | refine blk_drew ?_ | refine blk_alloc ?_ _)); refine blk_far ?_ NB269_270.out _; (with_reducible repeat (first | refine blk_drewN ?_ _ | refine blk_drew ?_ | refine blk_alloc ?_ _)); refine blk_far ?_ NB269_270.out _; (with_reducible repeat (first | refine blk_drewN ?_ _ | refine blk_drew ?_ | refine blk_alloc ?_ _)); refine blk_far ?_ NB269_270.out _; (with_reducible repeat (first | refine blk_drewN ?_ _ | refine blk_drew ?_ | refine blk_alloc ?_ _)); refine blk_far ?_ NB269_270.out _; (with_reducible repeat (first | refine blk_drewN ?_ _ | refine blk_drew ?_ | refine blk_alloc ?_ _)); exact BK269.out) hb); have n3_ := Aside0.mk (blk_below (g := gb270) (o := .cells #[.slice A0_0 l0_0.length c0_0, .slice (some ad268) l0_1.length c0_1, .int .i64 a0_2, .int .i64 a0_3] 25 (0, 0)) (by (with_reducible repeat (first | refine blk_drewN ?_ _ | refine blk_drew ?_ | refine blk_alloc ?_ _)); refine blk_put (cs := #[.slice A0_0 l0_0.length c0_0, .slice (some ad268) l0_1.length c0_1, .int .i64 a0_2, .int .i64 0]) ?_ 3 _ rfl; (with_reducible repeat (first | refine blk_drewN ?_ _ | refine blk_drew ?_ | refine blk_alloc ?_ _)); refine blk_put (cs := #[.slice A0_0 l0_0.length c0_0, .slice (some ad268) l0_1.length c0_1, .int .i64 0, .int .i64 0]) ?_ 2 _ rfl; (with_reducible repeat (first | refine blk_drewN ?_ _ | refine blk_drew ?_ | refine blk_alloc ?_ _)); refine blk_put (cs := #[.slice A0_0 l0_0.length c0_0, .slice none 0 0, .int .i64 0, .int .i64 0]) ?_ 1 _ rfl; (with_reducible repeat (first | refine blk_drewN ?_ _ | refine blk_drew ?_ | refine blk_alloc ?_ _)); refine blk_put (cs := #[.slice none 0 0, .slice none 0 0, .int .i64 0, .int .i64 0]) ?_ 0 _ rfl; (with_reducible repeat (first | refine blk_drewN ?_ _ | refine blk_drew ?_ | refine blk_alloc ?_ _)); exact BK270.out) hb); have n4_ := Aside0.mk (below_step (tB3 HB.out GE264.out GE269.out GE270.out) hb); clear BK264; clear BK269; clear BK270; clear HB; have HO273 := n0_; have BK264 := n1_; have BK269 := n2_; have BK270 := n3_; have HB := n4_; clear n0_ n1_ n2_ n3_ n4_; clear hb ho40; have hcz41_0 : w39.cell? ⟨gb264, 0, none⟩ = some (.slice A0_0 l0_0.length c0_0) := (blk_cell BK264.out 0).trans rfl; have hcz41_1 : w39.cell? ⟨gb264, 1, none⟩ = some (.slice (some ad268) l0_1.length c0_1) := (blk_cell BK264.out 1).trans rfl; have hcz41_2 : w39.cell? ⟨gb264, 2, none⟩ = some (.int .i64 a0_2) := (blk_cell BK264.out 2).trans rfl; have hcz41_3 : w39.cell? ⟨gb264, 3, none⟩ = some (.int .i64 a0_3) := (blk_cell BK264.out 3).trans rfl; have hfz41_0 := blk_frozen BK264.out 0; have hfz41_1 := blk_frozen BK264.out 1; have hfz41_2 := blk_frozen BK264.out 2; have hfz41_3 := blk_frozen BK264.out 3) | ((with_reducible refine gate_builtin (b := .append) (xs := #[.tmp 45, .tmp 47]) rfl ?_); (try (refine gate_guard (by rfl) ?_; dsimp only)); at_builtin; refine Kd.R_append_rows (Kd.int .u32) (w0 := w) w.heap.size rfl (.tmp 45) (.tmp 47) 22 56 (.int .u32 0) 4 rfl Try.underlying22 info56 rfl (by decide) (by omega) v272 y271 l0_0 _ _ _ (fun _ => True) (fun _ => False) rfl rfl ?aO ?aR (fun _ _ h => h) (fun _ h => h.elim) ?aF ?aB ?aS ?aL ?_; (case aR => repeat (first | exact (Kd.C_below HR0_0.out HB.out) | (with_reducible refine Kd.C_alloc ?_ _) | (with_reducible refine Kd.C_drewN ?_ _) | (with_reducible refine Kd.C_drew ?_))); (case aB => exact (tB3 HB.out GE264.out GE269.out GE270.out)); (case aF => exact (fun _ _ => trivial)); (case aO => exact (tR HO273.out)); (case aS => exact (below_size (tB3 HB.out GE264.out GE269.out GE270.out))); (case aL => have := LMc28.out; omega); intro v275 w42 ho hb hg hat; rw [← Ny274.out] at ho; have n0_ := Aside0.mk (blk_grown (g := gb264) (o := .cells #[.slice A0_0 l0_0.length c0_0, .slice (some ad268) l0_1.length c0_1, .int .i64 a0_2, .int .i64 a0_3] 25 (0, 0)) (tK BK264.out) hg (Kd.R_ne HO273.out BK264.out (by decide))); have n1_ := Aside0.mk (blk_grown (g := gb269) (o := .cells #[.string ((rd_T39 l0_1 a1).f0), .int .i64 ((rd_T39 l0_1 a1).f1), .int .i64 ((rd_T39 l0_1 a1).f2), .int .i64 ((rd_T39 l0_1 a1).f3)] 39 (0, 0)) (tK BK269.out) hg (Kd.R_ne HO273.out BK269.out (by decide))); have n2_ := Aside0.mk (blk_grown (g := gb270) (o := .cells #[.slice A0_0 l0_0.length c0_0, .slice (some ad268) l0_1.length c0_1, .int .i64 a0_2, .int .i64 a0_3] 25 (0, 0)) (tK BK270.out) hg (Kd.R_ne HO273.out BK270.out (by decide))); have n3_ := Aside0.mk (hb); have n4_ := Aside0.mk (ho); clear BK264; clear BK269; clear BK270; clear HB; clear HO273; have BK264 := n0_; have BK269 := n1_; have BK270 := n2_; have HB := n3_; have HO276 := n4_; clear n0_ n1_ n2_ n3_ n4_; clear ho hb hg hat; obtain ⟨Ao43, co43, eo43⟩ := Kd.R_slice HO276.out; subst eo43; have hcz44_0 : w42.cell? ⟨gb270, 0, none⟩ = some (.slice A0_0 l0_0.length c0_0) := (blk_cell BK270.out 0).trans rfl; have hcz44_1 : w42.cell? ⟨gb270, 1, none⟩ = some (.slice (some ad268) l0_1.length c0_1) := (blk_cell BK270.out 1).trans rfl; have hcz44_2 : w42.cell? ⟨gb270, 2, none⟩ = some (.int .i64 a0_2) := (blk_cell BK270.out 2).trans rfl; have hcz44_3 : w42.cell? ⟨gb270, 3, none⟩ = some (.int .i64 a0_3) := (blk_cell BK270.out 3).trans rfl; have hfz44_0 := blk_frozen BK270.out 0; have hfz44_1 := blk_frozen BK270.out 1; have hfz44_2 := blk_frozen BK270.out 2; have hfz44_3 := blk_frozen BK270.out 3) | ((with_reducible refine gate_callee (f := 25) rfl ?_); refine goesL_ (some 52) rfl rfl Try.func25 (by kernel_rfl) rfl #[.agg #[.int .u8 1, .int .i64 0, .int .i64 0, .int .i64 0, .int .i64 0]] rfl tF ?_; (with_reducible refine (isa_Encode.calls 1 0 0 0 0 t277 t278 _ A29.out).mono ?_); rintro e w45 ⟨rfl, hb⟩; refine ⟨_, rfl, ?_⟩; have n0_ := Aside0.mk (Kd.R_below (by (with_reducible repeat (first | apply Kd.R_alloc | apply Kd.R_drewN | apply Kd.R_drew)); exact (Kd.R_mono (Kd.R_far (p := ⟨gb270, 0, none⟩) (Kd.R_types HO276.out BK270.out (by decide)) (fun _ hk => hk.2) (.slice Ao43 y274.length co43)) (fun _ h_ => h_.1))) hb); have n1_ := Aside0.mk (blk_below (g := gb264) (o := .cells #[.slice A0_0 l0_0.length c0_0, .slice (some ad268) l0_1.length c0_1, .int .i64 a0_2, .int .i64 a0_3] 25 (0, 0)) (by (with_reducible repeat (first | refine blk_drewN ?_ _ | refine blk_drew ?_ | refine blk_alloc ?_ _)); refine blk_far ?_ NB264_270.out _; (with_reducible repeat (first | refine blk_drewN ?_ _ | refine blk_drew ?_ | refine blk_alloc ?_ _)); exact BK264.out) hb); have n2_ := Aside0.mk (blk_below (g := gb269) (o := .cells #[.string ((rd_T39 l0_1 a1).f0), .int .i64 ((rd_T39 l0_1 a1).f1), .int .i64 ((rd_T39 l0_1 a1).f2), .int .i64 ((rd_T39 l0_1 a1).f3)] 39 (0, 0)) (by (with_reducible repeat (first | refine blk_drewN ?_ _ | refine blk_drew ?_ | refine blk_alloc ?_ _)); refine blk_far ?_ NB269_270.out _; (with_reducible repeat (first | refine blk_drewN ?_ _ | refine blk_drew ?_ | refine blk_alloc ?_ _)); exact BK269.out) hb); have n3_ := Aside0.mk (blk_below (g := gb270) (o := .cells #[.slice Ao43 y274.length co43, .slice (some ad268) l0_1.length c0_1, .int .i64 a0_2, .int .i64 a0_3] 25 (0, 0)) (by (with_reducible repeat (first | refine blk_drewN ?_ _ | refine blk_drew ?_ | refine blk_alloc ?_ _)); refine blk_put (cs := #[.slice A0_0 l0_0.length c0_0, .slice (some ad268) l0_1.length c0_1, .int .i64 a0_2, .int .i64 a0_3]) ?_ 0 _ rfl; (with_reducible repeat (first | refine blk_drewN ?_ _ | refine blk_drew ?_ | refine blk_alloc ?_ _)); exact BK270.out) hb); have n4_ := Aside0.mk (below_step (tB3 HB.out GE264.out GE269.out GE270.out) hb); clear HO276; clear BK264; clear BK269; clear BK270; clear HB; have HO276 := n0_; have BK264 := n1_; have BK269 := n2_; have BK270 := n3_; have HB := n4_; clear n0_ n1_ n2_ n3_ n4_; (try clear hb); (try clear hb2); (try clear hk); (try clear hi); have hcz46_0 : w45.cell? ⟨gb270, 0, none⟩ = some (.slice Ao43 y274.length co43) := (blk_cell BK270.out 0).trans rfl; have hcz46_1 : w45.cell? ⟨gb270, 1, none⟩ = some (.slice (some ad268) l0_1.length c0_1) := (blk_cell BK270.out 1).trans rfl; have hcz46_2 : w45.cell? ⟨gb270, 2, none⟩ = some (.int .i64 a0_2) := (blk_cell BK270.out 2).trans rfl; have hcz46_3 : w45.cell? ⟨gb270, 3, none⟩ = some (.int .i64 a0_3) := (blk_cell BK270.out 3).trans rfl; have hfz46_0 := blk_frozen BK270.out 0; have hfz46_1 := blk_frozen BK270.out 1; have hfz46_2 := blk_frozen BK270.out 2; have hfz46_3 := blk_frozen BK270.out 3))
   go_loopg [58] kj5 (fun kq v58 w' => ∃ (x58_2 : Int) (x271000_2 : List Int) (u271000 : Value), v58 = .int .i64 x58_2 ∧ Aside0 (ontimelaw24_CfgAlone.l0 kq a1 a2 t277 (y274.length : Int) x58_2 l0_0 l0_1 a0_2 a0_3 ((rd_T39 l0_1 a1).f0) ((rd_T39 l0_1 a1).f1) ((rd_T39 l0_1 a1).f2) ((rd_T39 l0_1 a1).f3) x271000_2 l0_1 a0_2 a0_3 = some r) ∧ Aside0 (kq ≤ kj5) ∧ Aside0 (Kd.R (Kd.int .u32) 56 w' w.heap.size (fun _ => True) u271000 x271000_2) ∧ Aside0 (w'.heap[gb264]? = some (.cells #[(.slice A0_0 l0_0.length c0_0), (.slice (some ad268) l0_1.length c0_1), .int .i64 a0_2, .int .i64 a0_3] 25 (0, 0))) ∧ Aside0 (w'.heap[gb269]? = some (.cells #[.string ((rd_T39 l0_1 a1).f0), .int .i64 ((rd_T39 l0_1 a1).f1), .int .i64 ((rd_T39 l0_1 a1).f2), .int .i64 ((rd_T39 l0_1 a1).f3)] 39 (0, 0))) ∧ Aside0 (w'.heap[gb270]? = some (.cells #[u271000, (.slice (some ad268) l0_1.length c0_1), .int .i64 a0_2, .int .i64 a0_3] 25 (0, 0))) ∧ Aside0 (Below w.heap.size w w'))
   case atStart => exact ⟨(0), (y274), (.slice Ao43 y274.length co43), (by first | rfl | (simp; done) | (simp [*]; done)), H', ⟨Nat.le_refl _⟩, ⟨tR HO276.out⟩, ⟨tK BK264.out⟩, ⟨tK BK269.out⟩, ⟨tK BK270.out⟩, ⟨tB3 HB.out GE264.out GE269.out GE270.out⟩⟩
   case round =>
    as_aux_lemma =>
    clear H'
    (try clear c1);(try clear c2);(try clear p2);(try clear q2);(try clear hx2);(try clear c3);(try clear c5);(try clear c6);(try clear c10);(try clear c10b0);(try clear c10b1);(try clear c11);(try clear c13);(try clear c13b0);(try clear c16);(try clear c16b0);(try clear c25);(try clear c26);(try clear c26b0);(try clear p26);(try clear q26);(try clear hx26);(try clear c27);(try clear c27b0);(try clear c28);(try clear c32);(try clear c36);(try clear c37);(try clear hcz11_0);(try clear hcz11_1);(try clear hcz11_2);(try clear hcz11_3);(try clear hcz14_0);(try clear hcz14_1);(try clear hcz14_2);(try clear hcz14_3);(try clear hcz17_0);(try clear hcz17_1);(try clear hcz17_2);(try clear hcz17_3);(try clear hcz19_0);(try clear hcz19_1);(try clear hcz19_2);(try clear hcz19_3);(try clear hcz21_0);(try clear hcz21_1);(try clear hcz21_2);(try clear hcz21_3);(try clear hcz23_0);(try clear hcz23_1);(try clear hcz23_2);(try clear hcz23_3);(try clear hcz30_0);(try clear hcz30_1);(try clear hcz30_2);(try clear hcz30_3);(try clear hcz33_0);(try clear hcz33_1);(try clear hcz33_2);(try clear hcz33_3);(try clear hcz34_0);(try clear hcz34_1);(try clear hcz34_2);(try clear hcz34_3);(try clear hcz38_0);(try clear hcz38_1);(try clear hcz38_2);(try clear hcz38_3);(try clear hcz41_0);(try clear hcz41_1);(try clear hcz41_2);(try clear hcz41_3);(try clear hcz44_0);(try clear hcz44_1);(try clear hcz44_2);(try clear hcz44_3);(try clear hcz46_0);(try clear hcz46_1);(try clear hcz46_2);(try clear hcz46_3)
    (try clear hfz11_0);(try clear hfz11_1);(try clear hfz11_2);(try clear hfz11_3);(try clear hfz14_0);(try clear hfz14_1);(try clear hfz14_2);(try clear hfz14_3);(try clear hfz17_0);(try clear hfz17_1);(try clear hfz17_2);(try clear hfz17_3);(try clear hfz19_0);(try clear hfz19_1);(try clear hfz19_2);(try clear hfz19_3);(try clear hfz21_0);(try clear hfz21_1);(try clear hfz21_2);(try clear hfz21_3);(try clear hfz23_0);(try clear hfz23_1);(try clear hfz23_2);(try clear hfz23_3);(try clear hfz30_0);(try clear hfz30_1);(try clear hfz30_2);(try clear hfz30_3);(try clear hfz33_0);(try clear hfz33_1);(try clear hfz33_2);(try clear hfz33_3);(try clear hfz34_0);(try clear hfz34_1);(try clear hfz34_2);(try clear hfz34_3);(try clear hfz38_0);(try clear hfz38_1);(try clear hfz38_2);(try clear hfz38_3);(try clear hfz41_0);(try clear hfz41_1);(try clear hfz41_2);(try clear hfz41_3);(try clear hfz44_0);(try clear hfz44_1);(try clear hfz44_2);(try clear hfz44_3);(try clear hfz46_0);(try clear hfz46_1);(try clear hfz46_2);(try clear hfz46_3);(try clear hx268_0);(try clear hx268_1);(try clear hx268_2);(try clear hx268_3);(try clear p2);(try clear p268);(try clear q268)
    obtain ⟨x58_2, x271000_2, u271000, rfl, HA, HK2, HO_271000, BK264, BK269, BK270, HB⟩ := hrel
    cases gk with
    | zero => exact absurd HA.out (by simp [ontimelaw24_CfgAlone.l0])
    | succ k2 =>
     have H := HA.out
     clear HA
     simp only [ontimelaw24_CfgAlone.l0] at H
     by_cases c47 : x58_2 < (y274.length : Int)
     ·as_aux_lemma =>
      rw [if_pos c47] at H
      have c47b0 : decide (x58_2 < (y274.length : Int)) = true := decide_eq_true c47
      clear c47
      have HC48 := Aside0.mk H
      clear H
      go_upto_region 12 with (fail)
      go_cut [70] (fun v70 wc => ∃ (kq : Nat) (x70_47 : Bool), v70 = .bool x70_47 ∧ Aside0 (ontimelaw24_CfgAlone.j2 kq a1 a2 t277 x58_2 (y274.length : Int) x58_2 x70_47 l0_0 l0_1 a0_2 a0_3 ((rd_T39 l0_1 a1).f0) ((rd_T39 l0_1 a1).f1) ((rd_T39 l0_1 a1).f2) ((rd_T39 l0_1 a1).f3) x271000_2 l0_1 a0_2 a0_3 = some r) ∧ Aside0 (kq ≤ k2) ∧ Aside0 (Kd.R (Kd.int .u32) 56 wc w.heap.size (fun _ => True) u271000 x271000_2) ∧ Aside0 (wc.heap[gb264]? = some (.cells #[(.slice A0_0 l0_0.length c0_0), (.slice (some ad268) l0_1.length c0_1), .int .i64 a0_2, .int .i64 a0_3] 25 (0, 0))) ∧ Aside0 (wc.heap[gb269]? = some (.cells #[.string ((rd_T39 l0_1 a1).f0), .int .i64 ((rd_T39 l0_1 a1).f1), .int .i64 ((rd_T39 l0_1 a1).f2), .int .i64 ((rd_T39 l0_1 a1).f3)] 39 (0, 0))) ∧ Aside0 (wc.heap[gb270]? = some (.cells #[u271000, (.slice (some ad268) l0_1.length c0_1), .int .i64 a0_2, .int .i64 a0_3] 25 (0, 0))) ∧ Aside0 (Below w.heap.size w wc))
      case first =>
       have H := HC48.out
       clear HC48
       by_cases c49 : x58_2 < ((rd_T39 l0_1 a1).f1)
       ·rw [if_pos c49] at H
        have c49b0 : decide (x58_2 < ((rd_T39 l0_1 a1).f1)) = true := decide_eq_true c49
        clear c49
        (first | rw [c49b0] | (simp only [i64_w, i32_w]; rw [c49b0]) | skip)
        have H' := Aside0.mk H
        clear H
        have hnb50 := NB269_264.out
        have hnc50 := NB264_269.out
        have hnb51 := NB269_270.out
        have hnc51 := NB270_269.out
        have hcz52_0 : wr.cell? ⟨gb269, 0, none⟩ = some (.string ((rd_T39 l0_1 a1).f0)) := (blk_cell BK269.out 0).trans rfl
        have hcz52_1 : wr.cell? ⟨gb269, 1, none⟩ = some (.int .i64 ((rd_T39 l0_1 a1).f1)) := (blk_cell BK269.out 1).trans rfl
        have hcz52_2 : wr.cell? ⟨gb269, 2, none⟩ = some (.int .i64 ((rd_T39 l0_1 a1).f2)) := (blk_cell BK269.out 2).trans rfl
        have hcz52_3 : wr.cell? ⟨gb269, 3, none⟩ = some (.int .i64 ((rd_T39 l0_1 a1).f3)) := (blk_cell BK269.out 3).trans rfl
        have hfz52_0 := blk_frozen BK269.out 0
        have hfz52_1 := blk_frozen BK269.out 1
        have hfz52_2 := blk_frozen BK269.out 2
        have hfz52_3 := blk_frozen BK269.out 3
        go_wp2
        go_meet
        case rel => exact ⟨_, (true), (by first | rfl | (simp; done) | (simp [*]; done)), H', ⟨by have := HJ5.out; have := HK2.out; first | omega | exact Nat.le_refl _⟩, ⟨tR HO_271000.out⟩, ⟨tK BK264.out⟩, ⟨tK BK269.out⟩, ⟨tK BK270.out⟩, ⟨tB3 HB.out GE264.out GE269.out GE270.out⟩⟩
       ·rw [if_neg c49] at H
        have c49b0 : decide (x58_2 < ((rd_T39 l0_1 a1).f1)) = false := decide_eq_false c49
        clear c49
        (first | rw [c49b0] | (simp only [i64_w, i32_w]; rw [c49b0]) | skip)
        have H' := Aside0.mk H
        clear H
        have hnb53 := NB269_264.out
        have hnc53 := NB264_269.out
        have hnb54 := NB269_270.out
        have hnc54 := NB270_269.out
        have hcz55_0 : wr.cell? ⟨gb269, 0, none⟩ = some (.string ((rd_T39 l0_1 a1).f0)) := (blk_cell BK269.out 0).trans rfl
        have hcz55_1 : wr.cell? ⟨gb269, 1, none⟩ = some (.int .i64 ((rd_T39 l0_1 a1).f1)) := (blk_cell BK269.out 1).trans rfl
        have hcz55_2 : wr.cell? ⟨gb269, 2, none⟩ = some (.int .i64 ((rd_T39 l0_1 a1).f2)) := (blk_cell BK269.out 2).trans rfl
        have hcz55_3 : wr.cell? ⟨gb269, 3, none⟩ = some (.int .i64 ((rd_T39 l0_1 a1).f3)) := (blk_cell BK269.out 3).trans rfl
        have hfz55_0 := blk_frozen BK269.out 0
        have hfz55_1 := blk_frozen BK269.out 1
        have hfz55_2 := blk_frozen BK269.out 2
        have hfz55_3 := blk_frozen BK269.out 3
        go_wp2
        go_meet
        case rel => exact ⟨_, (decide (x58_2 ≥ ((rd_T39 l0_1 a1).f2))), (by first | rfl | (simp; done) | (simp [*]; done)), H', ⟨by have := HJ5.out; have := HK2.out; first | omega | exact Nat.le_refl _⟩, ⟨tR HO_271000.out⟩, ⟨tK BK264.out⟩, ⟨tK BK269.out⟩, ⟨tK BK270.out⟩, ⟨tB3 HB.out GE264.out GE269.out GE270.out⟩⟩
      case rest =>
       as_aux_lemma =>
       clear HC48
       (try clear c1);(try clear c2);(try clear p2);(try clear q2);(try clear hx2);(try clear c3);(try clear c4);(try clear c5);(try clear c6);(try clear c10);(try clear c10b0);(try clear c10b1);(try clear c11);(try clear c13);(try clear c13b0);(try clear c16);(try clear c16b0);(try clear c25);(try clear c26);(try clear c26b0);(try clear p26);(try clear q26);(try clear hx26);(try clear c27);(try clear c27b0);(try clear c28);(try clear c32);(try clear c36);(try clear c37);(try clear c47);(try clear c47b0);(try clear c49);(try clear c49b0);(try clear c50);(try clear c51);(try clear c53);(try clear c54);(try clear hcz11_0);(try clear hcz11_1);(try clear hcz11_2);(try clear hcz11_3);(try clear hcz14_0);(try clear hcz14_1);(try clear hcz14_2);(try clear hcz14_3);(try clear hcz17_0);(try clear hcz17_1);(try clear hcz17_2);(try clear hcz17_3);(try clear hcz19_0);(try clear hcz19_1);(try clear hcz19_2);(try clear hcz19_3);(try clear hcz21_0);(try clear hcz21_1);(try clear hcz21_2);(try clear hcz21_3);(try clear hcz23_0);(try clear hcz23_1);(try clear hcz23_2);(try clear hcz23_3);(try clear hcz30_0);(try clear hcz30_1);(try clear hcz30_2);(try clear hcz30_3);(try clear hcz33_0);(try clear hcz33_1);(try clear hcz33_2);(try clear hcz33_3);(try clear hcz34_0);(try clear hcz34_1);(try clear hcz34_2);(try clear hcz34_3);(try clear hcz38_0);(try clear hcz38_1);(try clear hcz38_2);(try clear hcz38_3);(try clear hcz41_0);(try clear hcz41_1);(try clear hcz41_2);(try clear hcz41_3);(try clear hcz44_0)
       (try clear hcz44_1);(try clear hcz44_2);(try clear hcz44_3);(try clear hcz46_0);(try clear hcz46_1);(try clear hcz46_2);(try clear hcz46_3);(try clear hcz52_0);(try clear hcz52_1);(try clear hcz52_2);(try clear hcz52_3);(try clear hcz55_0);(try clear hcz55_1);(try clear hcz55_2);(try clear hcz55_3);(try clear hfz11_0);(try clear hfz11_1);(try clear hfz11_2);(try clear hfz11_3);(try clear hfz14_0);(try clear hfz14_1);(try clear hfz14_2);(try clear hfz14_3);(try clear hfz17_0);(try clear hfz17_1);(try clear hfz17_2);(try clear hfz17_3);(try clear hfz19_0);(try clear hfz19_1);(try clear hfz19_2);(try clear hfz19_3);(try clear hfz21_0);(try clear hfz21_1);(try clear hfz21_2);(try clear hfz21_3);(try clear hfz23_0);(try clear hfz23_1);(try clear hfz23_2);(try clear hfz23_3);(try clear hfz30_0);(try clear hfz30_1);(try clear hfz30_2);(try clear hfz30_3);(try clear hfz33_0);(try clear hfz33_1);(try clear hfz33_2);(try clear hfz33_3);(try clear hfz34_0);(try clear hfz34_1);(try clear hfz34_2);(try clear hfz34_3);(try clear hfz38_0);(try clear hfz38_1);(try clear hfz38_2);(try clear hfz38_3);(try clear hfz41_0);(try clear hfz41_1);(try clear hfz41_2);(try clear hfz41_3);(try clear hfz44_0);(try clear hfz44_1);(try clear hfz44_2);(try clear hfz44_3);(try clear hfz46_0);(try clear hfz46_1);(try clear hfz46_2);(try clear hfz46_3);(try clear hfz52_0);(try clear hfz52_1);(try clear hfz52_2);(try clear hfz52_3);(try clear hfz55_0);(try clear hfz55_1);(try clear hfz55_2);(try clear hfz55_3)
       (try clear hx268_0);(try clear hx268_1);(try clear hx268_2);(try clear hx268_3);(try clear p2);(try clear p26);(try clear p268);(try clear q2);(try clear q26);(try clear q268)
       obtain ⟨kq, x70_47, rfl, HA, HJ47, HO_271000, BK264, BK269, BK270, HB⟩ := hcut
       cases kq with
       | zero => exact absurd HA.out (by simp [ontimelaw24_CfgAlone.j2])
       | succ kj47 =>
        have H := HA.out
        clear HA
        simp only [ontimelaw24_CfgAlone.j2] at H
        by_cases c56 : x70_47 = true
        rotate_left
        ·replace c56 := Bool.eq_false_iff.mpr c56
         subst c56
         have H1 : (ontimelaw24_CfgAlone.l0 kj47 a1 a2 t277 (y274.length : Int) (wrap64 (x58_2 + 1)) l0_0 l0_1 a0_2 a0_3 ((rd_T39 l0_1 a1).f0) ((rd_T39 l0_1 a1).f1) ((rd_T39 l0_1 a1).f2) ((rd_T39 l0_1 a1).f3) x271000_2 l0_1 a0_2 a0_3) = some r := by rw [if_neg (show ¬ (false = true) by decide)] at H; exact H
         clear H
         have H := H1
         clear H1
         have H' := Aside0.mk H
         clear H
         go_wp2
         go_roundg kj47
         case measure => have := HJ5.out; have := HK2.out; have := HJ47.out; omega
         case rel => exact ⟨(wrap64 (x58_2 + 1)), (x271000_2), (u271000), (by first | rfl | (simp; done) | (simp [*]; done)), H', ⟨by have := HJ5.out; have := HK2.out; have := HJ47.out; omega⟩, ⟨tR HO_271000.out⟩, ⟨tK BK264.out⟩, ⟨tK BK269.out⟩, ⟨tK BK270.out⟩, ⟨tB3 HB.out GE264.out GE269.out GE270.out⟩⟩
        subst c56
        have H1 : (if 0 ≤ x58_2 then (if x58_2 < (x271000_2.length : Int) then ((some (x271000_2.set (x58_2 : Int).toNat t277 : List Int)).bind fun y279 => (if 0 ≤ (IntKind.u64.wrap (Int.tmod x58_2 32)) then (if (Go.bits .and .u32 (shr .u32 a2 (IntKind.u64.wrap (Int.tmod x58_2 32))) 1) = 1 then (ontimelaw24_CfgAlone.l0 kj47 a1 a2 t277 (y274.length : Int) (wrap64 (x58_2 + 1)) l0_0 l0_1 a0_2 a0_3 ((rd_T39 l0_1 a1).f0) ((rd_T39 l0_1 a1).f1) ((rd_T39 l0_1 a1).f2) ((rd_T39 l0_1 a1).f3) (y279.set (x58_2 : Int).toNat 0) l0_1 a0_2 a0_3) else (ontimelaw24_CfgAlone.l0 kj47 a1 a2 t277 (y274.length : Int) (wrap64 (x58_2 + 1)) l0_0 l0_1 a0_2 a0_3 ((rd_T39 l0_1 a1).f0) ((rd_T39 l0_1 a1).f1) ((rd_T39 l0_1 a1).f2) ((rd_T39 l0_1 a1).f3) y279 l0_1 a0_2 a0_3)) else (none))) else (none)) else (none)) = some r := by rw [if_pos rfl] at H; exact H
        clear H
        have H := H1
        clear H1
        by_cases c57 : 0 ≤ x58_2
        rotate_left
        ·rw [if_neg c57] at H
         exact absurd H (by simp)
        as_aux_lemma =>
        rw [if_pos c57] at H
        have c57b0 : decide (0 ≤ x58_2) = true := decide_eq_true c57
        clear c57
        by_cases c58 : x58_2 < (x271000_2.length : Int)
        rotate_left
        ·rw [if_neg c58] at H
         exact absurd H (by simp)
        as_aux_lemma =>
        rw [if_pos c58] at H
        have c58b0 : decide (x58_2 < (x271000_2.length : Int)) = true := decide_eq_true c58
        clear c58
        obtain ⟨y279, hy279⟩ : ∃ y_ : List Int, y_ = (x271000_2.set (x58_2 : Int).toNat t277) := ⟨_, rfl⟩
        replace H : (if 0 ≤ (IntKind.u64.wrap (Int.tmod x58_2 32)) then (if (Go.bits .and .u32 (shr .u32 a2 (IntKind.u64.wrap (Int.tmod x58_2 32))) 1) = 1 then (ontimelaw24_CfgAlone.l0 kj47 a1 a2 t277 (y274.length : Int) (wrap64 (x58_2 + 1)) l0_0 l0_1 a0_2 a0_3 ((rd_T39 l0_1 a1).f0) ((rd_T39 l0_1 a1).f1) ((rd_T39 l0_1 a1).f2) ((rd_T39 l0_1 a1).f3) (y279.set (x58_2 : Int).toNat 0) l0_1 a0_2 a0_3) else (ontimelaw24_CfgAlone.l0 kj47 a1 a2 t277 (y274.length : Int) (wrap64 (x58_2 + 1)) l0_0 l0_1 a0_2 a0_3 ((rd_T39 l0_1 a1).f0) ((rd_T39 l0_1 a1).f1) ((rd_T39 l0_1 a1).f2) ((rd_T39 l0_1 a1).f3) y279 l0_1 a0_2 a0_3)) else (none)) = some r := by first | (rw [hy279]; with_reducible exact H) | (have H2_ := (Option.bind_some _ _).symm.trans H; rw [hy279]; with_reducible exact H2_) | (have H2_ := (Option.bind_some _ _).symm.trans H; with_reducible exact H2_) | with_reducible exact H | (rw [hy279]; exact H) | exact H
        have Ny279 := Aside0.mk hy279
        clear hy279
        obtain ⟨ji60, hji60⟩ : ∃ j_ : Int, (IntKind.u64.wrap (Int.tmod x58_2 32)) = j_ := ⟨_, rfl⟩
        replace H : (if 0 ≤ (ji60) then (if (Go.bits .and .u32 (shr .u32 a2 (ji60)) 1) = 1 then (ontimelaw24_CfgAlone.l0 kj47 a1 a2 t277 (y274.length : Int) (wrap64 (x58_2 + 1)) l0_0 l0_1 a0_2 a0_3 ((rd_T39 l0_1 a1).f0) ((rd_T39 l0_1 a1).f1) ((rd_T39 l0_1 a1).f2) ((rd_T39 l0_1 a1).f3) (y279.set (x58_2 : Int).toNat 0) l0_1 a0_2 a0_3) else (ontimelaw24_CfgAlone.l0 kj47 a1 a2 t277 (y274.length : Int) (wrap64 (x58_2 + 1)) l0_0 l0_1 a0_2 a0_3 ((rd_T39 l0_1 a1).f0) ((rd_T39 l0_1 a1).f1) ((rd_T39 l0_1 a1).f2) ((rd_T39 l0_1 a1).f3) y279 l0_1 a0_2 a0_3)) else (none)) = some r := by first | (rw [hji60] at H; exact H) | (simp only [hji60] at H ⊢; exact H)
        by_cases c61 : 0 ≤ (ji60)
        rotate_left
        ·rw [if_neg c61] at H
         exact absurd H (by simp)
        as_aux_lemma =>
        rw [if_pos c61] at H
        have c61b0 := eq_true c61
        have c61b1 : decide (0 ≤ (ji60)) = true := decide_eq_true c61
        clear c61
        obtain ⟨ji62, hji62⟩ : ∃ j_ : Int, (shr .u32 a2 (ji60)) = j_ := ⟨_, rfl⟩
        replace H : (if (Go.bits .and .u32 (ji62) 1) = 1 then (ontimelaw24_CfgAlone.l0 kj47 a1 a2 t277 (y274.length : Int) (wrap64 (x58_2 + 1)) l0_0 l0_1 a0_2 a0_3 ((rd_T39 l0_1 a1).f0) ((rd_T39 l0_1 a1).f1) ((rd_T39 l0_1 a1).f2) ((rd_T39 l0_1 a1).f3) (y279.set (x58_2 : Int).toNat 0) l0_1 a0_2 a0_3) else (ontimelaw24_CfgAlone.l0 kj47 a1 a2 t277 (y274.length : Int) (wrap64 (x58_2 + 1)) l0_0 l0_1 a0_2 a0_3 ((rd_T39 l0_1 a1).f0) ((rd_T39 l0_1 a1).f1) ((rd_T39 l0_1 a1).f2) ((rd_T39 l0_1 a1).f3) y279 l0_1 a0_2 a0_3)) = some r := by first | (rw [hji62] at H; exact H) | (simp only [hji62] at H ⊢; exact H)
        have hji62_ : (a2 / 2 ^ min (ji60).toNat 32) = ji62 := hji62
        have hji62z : (ji60) ≤ 32 → (a2 / 2 ^ (ji60).toNat) = ji62 := shr_small hji62
        by_cases c63 : (Go.bits .and .u32 (ji62) 1) = 1
        ·rw [if_pos c63] at H
         have c63b0 : ((Go.bits .and .u32 (ji62) 1) == 1) = true := beq_iff_eq.mpr c63
         have c63b1 : ((Go.bits .and .u32 (ji62) 1) != 1) = false := bne_eq_false_iff_eq.mpr c63
         clear c63
         obtain ⟨y280, hy280⟩ : ∃ y_ : List Int, y_ = (y279.set (x58_2 : Int).toNat 0) := ⟨_, rfl⟩
         replace H : (ontimelaw24_CfgAlone.l0 kj47 a1 a2 t277 (y274.length : Int) (wrap64 (x58_2 + 1)) l0_0 l0_1 a0_2 a0_3 ((rd_T39 l0_1 a1).f0) ((rd_T39 l0_1 a1).f1) ((rd_T39 l0_1 a1).f2) ((rd_T39 l0_1 a1).f3) y280 l0_1 a0_2 a0_3) = some r := by first | (rw [hy280]; with_reducible exact H) | (have H2_ := (Option.bind_some _ _).symm.trans H; rw [hy280]; with_reducible exact H2_) | (have H2_ := (Option.bind_some _ _).symm.trans H; with_reducible exact H2_) | with_reducible exact H | (rw [hy280]; exact H) | exact H
         have Ny280 := Aside0.mk hy280
         clear hy280
         have H' := Aside0.mk H
         clear H
         have hnb65 := NB270_264.out
         have hnc65 := NB264_270.out
         have hnb66 := NB270_269.out
         have hnc66 := NB269_270.out
         have hcz67_0 : wc.cell? ⟨gb270, 0, none⟩ = some (u271000) := (blk_cell BK270.out 0).trans rfl
         have hcz67_1 : wc.cell? ⟨gb270, 1, none⟩ = some (.slice (some ad268) l0_1.length c0_1) := (blk_cell BK270.out 1).trans rfl
         have hcz67_2 : wc.cell? ⟨gb270, 2, none⟩ = some (.int .i64 a0_2) := (blk_cell BK270.out 2).trans rfl
         have hcz67_3 : wc.cell? ⟨gb270, 3, none⟩ = some (.int .i64 a0_3) := (blk_cell BK270.out 3).trans rfl
         have hfz67_0 := blk_frozen BK270.out 0
         have hfz67_1 := blk_frozen BK270.out 1
         have hfz67_2 := blk_frozen BK270.out 2
         have hfz67_3 := blk_frozen BK270.out 3
         have p59 : 0 ≤ (x58_2 : Int) := tD
         have q59 : (x58_2 : Int) < ((x271000_2.length : Int) : Int) := tD
         obtain ⟨go59, co59, eo59, gb59, gl59, cl59, HG59⟩ := Kd.R_form HO_271000.out (by omega)
         (first | cases eo59 | (injection eo59 with ea_ en_ ec_; (first | subst ea_ | (injection ea_ with ea_; subst ea_)); subst ec_; clear en_))
         have GB59 := Aside0.mk gb59
         have GG59 := Aside0.mk HG59
         clear gb59 gl59 HG59
         obtain ⟨hx59_0, hf59_0⟩ := Kd.R_celln 0 HO_271000.out (x58_2 : Int) p59 q59
         replace p59 := eq_true p59
         replace q59 := eq_true q59
         have HP68 := Kd.R_putg HO_271000.out (x58_2 : Int) t277
         go_wp2_with (first | ((with_reducible refine gate_store (t := 56) (p := 75) rfl ?_); refine store_event (t := 56) (p := 75) (v := ?vo_w69) (w1 := (wc.setCell ⟨go59, (x58_2 : Int).toNat, none⟩ (.int .u32 t277))) ?hg ?ho ?hn ?hr ?_; (case ho => rfl); (case hg => rfl); (case hn => rfl); (case hr => first | (go_simp; done) | (go_simp; rfl)); intro w69 hw; have hg : wc.grownBy w69 (some go59) := (by rw [hw]; exact HP68.2); have hp_ : Kd.R (Kd.int .u32) 56 w69 w.heap.size (fun _ => True) (.slice (some ⟨go59, 0, none⟩) x271000_2.length co59) y279 := (by rw [hw, Ny279.out]; exact HP68.1); clear HP68; have n0_ := Aside0.mk (hp_); have n1_ := Aside0.mk (blk_grown (g := gb264) (o := .cells #[.slice A0_0 l0_0.length c0_0, .slice (some ad268) l0_1.length c0_1, .int .i64 a0_2, .int .i64 a0_3] 25 (0, 0)) (tK BK264.out) hg (Kd.R_ne HO_271000.out BK264.out (by decide))); have n2_ := Aside0.mk (blk_grown (g := gb269) (o := .cells #[.string ((rd_T39 l0_1 a1).f0), .int .i64 ((rd_T39 l0_1 a1).f1), .int .i64 ((rd_T39 l0_1 a1).f2), .int .i64 ((rd_T39 l0_1 a1).f3)] 39 (0, 0)) (tK BK269.out) hg (Kd.R_ne HO_271000.out BK269.out (by decide))); have n3_ := Aside0.mk (blk_grown (g := gb270) (o := .cells #[.slice (some ⟨go59, 0, none⟩) x271000_2.length co59, .slice (some ad268) l0_1.length c0_1, .int .i64 a0_2, .int .i64 a0_3] 25 (0, 0)) (tK BK270.out) hg (Kd.R_ne HO_271000.out BK270.out (by decide))); have n4_ := Aside0.mk ((by rw [hw]; exact below_set (HB.out) GB59.out : Below w.heap.size w w69)); clear HO_271000; clear BK264; clear BK269; clear BK270; clear HB; have HO_271000 := n0_; have BK264 := n1_; have BK269 := n2_; have BK270 := n3_; have HB := n4_; clear n0_ n1_ n2_ n3_ n4_; clear hg hw hp_; have hcz70_0 : w69.cell? ⟨gb270, 0, none⟩ = some (.slice (some ⟨go59, 0, none⟩) x271000_2.length co59) := (blk_cell BK270.out 0).trans rfl; have hcz70_1 : w69.cell? ⟨gb270, 1, none⟩ = some (.slice (some ad268) l0_1.length c0_1) := (blk_cell BK270.out 1).trans rfl; have hcz70_2 : w69.cell? ⟨gb270, 2, none⟩ = some (.int .i64 a0_2) := (blk_cell BK270.out 2).trans rfl; have hcz70_3 : w69.cell? ⟨gb270, 3, none⟩ = some (.int .i64 a0_3) := (blk_cell BK270.out 3).trans rfl; have hfz70_0 := blk_frozen BK270.out 0; have hfz70_1 := blk_frozen BK270.out 1; have hfz70_2 := blk_frozen BK270.out 2; have hfz70_3 := blk_frozen BK270.out 3; have p64 : 0 ≤ (x58_2 : Int) := tD; have q64 : (x58_2 : Int) < ((x271000_2.length : Int) : Int) := tD; obtain ⟨hx64_0, hf64_0⟩ := Kd.R_celln 0 HO_271000.out (x58_2 : Int) p64 q64; replace p64 := eq_true p64; replace q64 := eq_true q64; obtain ⟨hy71_, hz71_⟩ := Kd.R_celln 0 HO_271000.out (x58_2 : Int) (tD) (tD); have HP71 := Kd.R_putg HO_271000.out (x58_2 : Int) 0) | ((with_reducible refine gate_store (t := 56) (p := 86) rfl ?_); refine store_event (t := 56) (p := 86) (v := ?vo_w72) (w1 := (w69.setCell ⟨go59, (x58_2 : Int).toNat, none⟩ (.int .u32 0))) ?hg ?ho ?hn ?hr ?_; (case ho => rfl); (case hg => rfl); (case hn => rfl); (case hr => first | (go_simp; done) | (go_simp; rfl)); intro w72 hw; have hg : w69.grownBy w72 (some go59) := (by rw [hw]; exact HP71.2); have hp_ : Kd.R (Kd.int .u32) 56 w72 w.heap.size (fun _ => True) (.slice (some ⟨go59, 0, none⟩) x271000_2.length co59) y280 := (by rw [hw, Ny280.out]; exact HP71.1); clear HP71; have n0_ := Aside0.mk (hp_); have n1_ := Aside0.mk (blk_grown (g := gb264) (o := .cells #[.slice A0_0 l0_0.length c0_0, .slice (some ad268) l0_1.length c0_1, .int .i64 a0_2, .int .i64 a0_3] 25 (0, 0)) (tK BK264.out) hg (Kd.R_ne HO_271000.out BK264.out (by decide))); have n2_ := Aside0.mk (blk_grown (g := gb269) (o := .cells #[.string ((rd_T39 l0_1 a1).f0), .int .i64 ((rd_T39 l0_1 a1).f1), .int .i64 ((rd_T39 l0_1 a1).f2), .int .i64 ((rd_T39 l0_1 a1).f3)] 39 (0, 0)) (tK BK269.out) hg (Kd.R_ne HO_271000.out BK269.out (by decide))); have n3_ := Aside0.mk (blk_grown (g := gb270) (o := .cells #[.slice (some ⟨go59, 0, none⟩) x271000_2.length co59, .slice (some ad268) l0_1.length c0_1, .int .i64 a0_2, .int .i64 a0_3] 25 (0, 0)) (tK BK270.out) hg (Kd.R_ne HO_271000.out BK270.out (by decide))); have n4_ := Aside0.mk ((by rw [hw]; exact below_set (HB.out) GB59.out : Below w.heap.size w w72)); clear HO_271000; clear BK264; clear BK269; clear BK270; clear HB; have HO_271000 := n0_; have BK264 := n1_; have BK269 := n2_; have BK270 := n3_; have HB := n4_; clear n0_ n1_ n2_ n3_ n4_; clear hg hw hp_))
         go_roundg kj47
         case measure => have := HJ5.out; have := HK2.out; have := HJ47.out; omega
         case rel => exact ⟨(wrap64 (x58_2 + 1)), (y280), (.slice (some ⟨go59, 0, none⟩) x271000_2.length co59), (by first | rfl | (simp; done) | (simp [*]; done)), H', ⟨by have := HJ5.out; have := HK2.out; have := HJ47.out; omega⟩, ⟨tR HO_271000.out⟩, ⟨tK BK264.out⟩, ⟨tK BK269.out⟩, ⟨tK BK270.out⟩, ⟨tB3 HB.out GE264.out GE269.out GE270.out⟩⟩
        ·rw [if_neg c63] at H
         have c63b0 : ((Go.bits .and .u32 (ji62) 1) == 1) = false := beq_eq_false_iff_ne.mpr c63
         have c63b1 : ((Go.bits .and .u32 (ji62) 1) != 1) = true := bne_iff_ne.mpr c63
         have H' := Aside0.mk H
         clear H
         have hnb73 := NB270_264.out
         have hnc73 := NB264_270.out
         have hnb74 := NB270_269.out
         have hnc74 := NB269_270.out
         have hcz75_0 : wc.cell? ⟨gb270, 0, none⟩ = some (u271000) := (blk_cell BK270.out 0).trans rfl
         have hcz75_1 : wc.cell? ⟨gb270, 1, none⟩ = some (.slice (some ad268) l0_1.length c0_1) := (blk_cell BK270.out 1).trans rfl
         have hcz75_2 : wc.cell? ⟨gb270, 2, none⟩ = some (.int .i64 a0_2) := (blk_cell BK270.out 2).trans rfl
         have hcz75_3 : wc.cell? ⟨gb270, 3, none⟩ = some (.int .i64 a0_3) := (blk_cell BK270.out 3).trans rfl
         have hfz75_0 := blk_frozen BK270.out 0
         have hfz75_1 := blk_frozen BK270.out 1
         have hfz75_2 := blk_frozen BK270.out 2
         have hfz75_3 := blk_frozen BK270.out 3
         have p59 : 0 ≤ (x58_2 : Int) := tD
         have q59 : (x58_2 : Int) < ((x271000_2.length : Int) : Int) := tD
         obtain ⟨go59, co59, eo59, gb59, gl59, cl59, HG59⟩ := Kd.R_form HO_271000.out (by omega)
         (first | cases eo59 | (injection eo59 with ea_ en_ ec_; (first | subst ea_ | (injection ea_ with ea_; subst ea_)); subst ec_; clear en_))
         have GB59 := Aside0.mk gb59
         have GG59 := Aside0.mk HG59
         clear gb59 gl59 HG59
         obtain ⟨hx59_0, hf59_0⟩ := Kd.R_celln 0 HO_271000.out (x58_2 : Int) p59 q59
         replace p59 := eq_true p59
         replace q59 := eq_true q59
         have HP76 := Kd.R_putg HO_271000.out (x58_2 : Int) t277
         go_wp2_with (first | ((with_reducible refine gate_store (t := 56) (p := 75) rfl ?_); refine store_event (t := 56) (p := 75) (v := ?vo_w77) (w1 := (wc.setCell ⟨go59, (x58_2 : Int).toNat, none⟩ (.int .u32 t277))) ?hg ?ho ?hn ?hr ?_; (case ho => rfl); (case hg => rfl); (case hn => rfl); (case hr => first | (go_simp; done) | (go_simp; rfl)); intro w77 hw; have hg : wc.grownBy w77 (some go59) := (by rw [hw]; exact HP76.2); have hp_ : Kd.R (Kd.int .u32) 56 w77 w.heap.size (fun _ => True) (.slice (some ⟨go59, 0, none⟩) x271000_2.length co59) y279 := (by rw [hw, Ny279.out]; exact HP76.1); clear HP76; have n0_ := Aside0.mk (hp_); have n1_ := Aside0.mk (blk_grown (g := gb264) (o := .cells #[.slice A0_0 l0_0.length c0_0, .slice (some ad268) l0_1.length c0_1, .int .i64 a0_2, .int .i64 a0_3] 25 (0, 0)) (tK BK264.out) hg (Kd.R_ne HO_271000.out BK264.out (by decide))); have n2_ := Aside0.mk (blk_grown (g := gb269) (o := .cells #[.string ((rd_T39 l0_1 a1).f0), .int .i64 ((rd_T39 l0_1 a1).f1), .int .i64 ((rd_T39 l0_1 a1).f2), .int .i64 ((rd_T39 l0_1 a1).f3)] 39 (0, 0)) (tK BK269.out) hg (Kd.R_ne HO_271000.out BK269.out (by decide))); have n3_ := Aside0.mk (blk_grown (g := gb270) (o := .cells #[.slice (some ⟨go59, 0, none⟩) x271000_2.length co59, .slice (some ad268) l0_1.length c0_1, .int .i64 a0_2, .int .i64 a0_3] 25 (0, 0)) (tK BK270.out) hg (Kd.R_ne HO_271000.out BK270.out (by decide))); have n4_ := Aside0.mk ((by rw [hw]; exact below_set (HB.out) GB59.out : Below w.heap.size w w77)); clear HO_271000; clear BK264; clear BK269; clear BK270; clear HB; have HO_271000 := n0_; have BK264 := n1_; have BK269 := n2_; have BK270 := n3_; have HB := n4_; clear n0_ n1_ n2_ n3_ n4_; clear hg hw hp_))
         go_roundg kj47
         case measure => have := HJ5.out; have := HK2.out; have := HJ47.out; omega
         case rel => exact ⟨(wrap64 (x58_2 + 1)), (y279), (.slice (some ⟨go59, 0, none⟩) x271000_2.length co59), (by first | rfl | (simp; done) | (simp [*]; done)), H', ⟨by have := HJ5.out; have := HK2.out; have := HJ47.out; omega⟩, ⟨tR HO_271000.out⟩, ⟨tK BK264.out⟩, ⟨tK BK269.out⟩, ⟨tK BK270.out⟩, ⟨tB3 HB.out GE264.out GE269.out GE270.out⟩⟩
     ·as_aux_lemma =>
      rw [if_neg c47] at H
      have c47b0 : decide (x58_2 < (y274.length : Int)) = false := decide_eq_false c47
      clear c47
      replace H := Option.bind_eq_some_iff.mp H
      obtain ⟨t281, A780, H⟩ := H
      replace H : (if t281 = 0 then ((cfg_Build.f k2 l0_0 l0_1 a0_2 a0_3 a1).bind fun bt282 => ((cfg_Build.f k2 x271000_2 l0_1 a0_2 a0_3 a1).bind fun bt291 => (if bt282.2.2.2 = bt291.2.2.2 then (if bt282.2.2.1 = bt291.2.2.1 then ((ontimelaw24_blocks.f k2 bt291.1 bt291.2.1).bind fun t300 => ((ontimelaw24_is.f k2 bt282.1 bt282.2.1 t300).bind fun t303 => (some t303))) else (some false)) else (some false)))) else (some true)) = some r := H
      have A78 := Aside0.mk A780
      clear A780
      by_cases c79 : t281 = 0
      ·as_aux_lemma =>
       rw [if_pos c79] at H
       have c79b0 : (t281 == 0) = true := beq_iff_eq.mpr c79
       have c79b1 : (t281 != 0) = false := bne_eq_false_iff_eq.mpr c79
       clear c79
       replace H := Option.bind_eq_some_iff.mp H
       obtain ⟨⟨t282, t285, t288, t289⟩, A800, H⟩ := H
       replace H : ((cfg_Build.f k2 x271000_2 l0_1 a0_2 a0_3 a1).bind fun bt291 => (if t289 = bt291.2.2.2 then (if t288 = bt291.2.2.1 then ((ontimelaw24_blocks.f k2 bt291.1 bt291.2.1).bind fun t300 => ((ontimelaw24_is.f k2 t282 t285 t300).bind fun t303 => (some t303))) else (some false)) else (some false))) = some r := H
       have A80 := Aside0.mk A800
       clear A800
       replace H := Option.bind_eq_some_iff.mp H
       obtain ⟨⟨t291, t294, t297, t298⟩, A810, H⟩ := H
       replace H : (if t289 = t298 then (if t288 = t297 then ((ontimelaw24_blocks.f k2 t291 t294).bind fun t300 => ((ontimelaw24_is.f k2 t282 t285 t300).bind fun t303 => (some t303))) else (some false)) else (some false)) = some r := H
       have A81 := Aside0.mk A810
       clear A810
       by_cases c82 : t289 = t298
       rotate_left
       ·rw [if_neg c82] at H
        exact absurd ((Option.some.inj H).trans HRT.out) (by decide)
       as_aux_lemma =>
       rw [if_pos c82] at H
       have c82b0 : (t289 == t298) = true := beq_iff_eq.mpr c82
       have c82b1 : (t289 != t298) = false := bne_eq_false_iff_eq.mpr c82
       clear c82
       by_cases c83 : t288 = t297
       rotate_left
       ·rw [if_neg c83] at H
        exact absurd ((Option.some.inj H).trans HRT.out) (by decide)
       as_aux_lemma =>
       rw [if_pos c83] at H
       have c83b0 : (t288 == t297) = true := beq_iff_eq.mpr c83
       have c83b1 : (t288 != t297) = false := bne_eq_false_iff_eq.mpr c83
       clear c83
       replace H := Option.bind_eq_some_iff.mp H
       obtain ⟨t300, A840, H⟩ := H
       replace H : ((ontimelaw24_is.f k2 t282 t285 t300).bind fun t303 => (some t303)) = some r := H
       have A84 := Aside0.mk A840
       clear A840
       replace H := Option.bind_eq_some_iff.mp H
       obtain ⟨t303, A850, H⟩ := H
       replace H : (some t303) = some r := H
       have A85 := Aside0.mk A850
       clear A850
       obtain rfl := Option.some.inj H
       have hnb86 := NB270_264.out
       have hnc86 := NB264_270.out
       have hnb87 := NB270_269.out
       have hnc87 := NB269_270.out
       have hcz88_0 : wr.cell? ⟨gb270, 0, none⟩ = some (u271000) := (blk_cell BK270.out 0).trans rfl
       have hcz88_1 : wr.cell? ⟨gb270, 1, none⟩ = some (.slice (some ad268) l0_1.length c0_1) := (blk_cell BK270.out 1).trans rfl
       have hcz88_2 : wr.cell? ⟨gb270, 2, none⟩ = some (.int .i64 a0_2) := (blk_cell BK270.out 2).trans rfl
       have hcz88_3 : wr.cell? ⟨gb270, 3, none⟩ = some (.int .i64 a0_3) := (blk_cell BK270.out 3).trans rfl
       have hfz88_0 := blk_frozen BK270.out 0
       have hfz88_1 := blk_frozen BK270.out 1
       have hfz88_2 := blk_frozen BK270.out 2
       have hfz88_3 := blk_frozen BK270.out 3
       obtain ⟨Ao89, co89, eo89⟩ := Kd.R_slice HO_271000.out
       subst eo89
       try go_wp2_with (first | ((with_reducible refine gate_callee (f := 13) rfl ?_); refine goesL_ (some 89) rfl rfl Try.func13 (by kernel_rfl) rfl #[.agg #[.slice Ao89 x271000_2.length co89, .slice (some ad268) l0_1.length c0_1, .int .i64 a0_2, .int .i64 a0_3]] rfl tF ?_; (with_reducible refine (linker_Check.calls k2 _ _ x271000_2 _ _ l0_1 a0_2 a0_3 t281 _ ?side1 ?side2 ?side3 ?side4 A78.out).mono ?_); (case side1 => exact tC (Kd.R_reads' HO_271000.out).2.2); (case side2 => exact (Kd.R_reads' HO_271000.out).2.1); (case side3 => exact tC (Kd.C_below HR0_1.out HB.out)); (case side4 => exact HC0_1.out); rintro e w90 ⟨rfl, hb⟩; refine ⟨_, rfl, ?_⟩; have n0_ := Aside0.mk (Kd.R_below (tR HO_271000.out) hb); have n1_ := Aside0.mk (blk_below (g := gb264) (o := .cells #[.slice A0_0 l0_0.length c0_0, .slice (some ad268) l0_1.length c0_1, .int .i64 a0_2, .int .i64 a0_3] 25 (0, 0)) (tK BK264.out) hb); have n2_ := Aside0.mk (blk_below (g := gb269) (o := .cells #[.string ((rd_T39 l0_1 a1).f0), .int .i64 ((rd_T39 l0_1 a1).f1), .int .i64 ((rd_T39 l0_1 a1).f2), .int .i64 ((rd_T39 l0_1 a1).f3)] 39 (0, 0)) (tK BK269.out) hb); have n3_ := Aside0.mk (blk_below (g := gb270) (o := .cells #[.slice Ao89 x271000_2.length co89, .slice (some ad268) l0_1.length c0_1, .int .i64 a0_2, .int .i64 a0_3] 25 (0, 0)) (tK BK270.out) hb); have n4_ := Aside0.mk (below_step (tB3 HB.out GE264.out GE269.out GE270.out) hb); clear HO_271000; clear BK264; clear BK269; clear BK270; clear HB; have HO_271000 := n0_; have BK264 := n1_; have BK269 := n2_; have BK270 := n3_; have HB := n4_; clear n0_ n1_ n2_ n3_ n4_; (try clear hb); (try clear hb2); (try clear hk); (try clear hi); have hnb91 := NB264_269.out; have hnc91 := NB269_264.out; have hcz92_0 : w90.cell? ⟨gb264, 0, none⟩ = some (.slice A0_0 l0_0.length c0_0) := (blk_cell BK264.out 0).trans rfl; have hcz92_1 : w90.cell? ⟨gb264, 1, none⟩ = some (.slice (some ad268) l0_1.length c0_1) := (blk_cell BK264.out 1).trans rfl; have hcz92_2 : w90.cell? ⟨gb264, 2, none⟩ = some (.int .i64 a0_2) := (blk_cell BK264.out 2).trans rfl; have hcz92_3 : w90.cell? ⟨gb264, 3, none⟩ = some (.int .i64 a0_3) := (blk_cell BK264.out 3).trans rfl; have hfz92_0 := blk_frozen BK264.out 0; have hfz92_1 := blk_frozen BK264.out 1; have hfz92_2 := blk_frozen BK264.out 2; have hfz92_3 := blk_frozen BK264.out 3) | ((with_reducible refine gate_callee (f := 12) rfl ?_); refine goesL_ (some 94) rfl rfl Try.func12 (by kernel_rfl) rfl #[.agg #[.slice A0_0 l0_0.length c0_0, .slice (some ad268) l0_1.length c0_1, .int .i64 a0_2, .int .i64 a0_3], .int .i64 a1] rfl tF ?_; (with_reducible refine (cfg_Build.calls k2 _ _ l0_0 _ _ l0_1 a0_2 a0_3 a1 t282 t285 t288 t289 _ ?side1 ?side2 ?side3 ?side4 A80.out).mono ?_); (case side1 => exact tC (Kd.C_below HR0_0.out HB.out)); (case side2 => exact HC0_0.out); (case side3 => exact tC (Kd.C_below HR0_1.out HB.out)); (case side4 => exact HC0_1.out); rintro e w93 ⟨v283, v286, rfl, ho0, ho1, hb⟩; refine ⟨_, rfl, ?_⟩; have n0_ := Aside0.mk (Kd.R_below (tR HO_271000.out) hb); have n1_ := Aside0.mk (Kd.N_lower (Kd.N_mono (ok' := fun k_ => some k_ ≠ (v286 : Value).ownBlock ∧ some k_ ≠ (.slice Ao89 x271000_2.length co89 : Value).ownBlock ∧ k_ ≠ gb264 ∧ k_ ≠ gb269 ∧ k_ ≠ gb270) (Kd.S_N (Kd.S_bound (Kd.S_apart' ho0 (Kd.S_typed ho1) (by decide)))) (fun k_ hk_ => ⟨hk_.1.2, (Kd.fresh' (Kd.R_lt (tR HO_271000.out)) k_ hk_.2.1), (Kd.freshB (g := gb264) (o := .cells #[.slice A0_0 l0_0.length c0_0, .slice (some ad268) l0_1.length c0_1, .int .i64 a0_2, .int .i64 a0_3] 25 (0, 0)) (tK BK264.out) k_ hk_.2.1), (Kd.freshB (g := gb269) (o := .cells #[.string ((rd_T39 l0_1 a1).f0), .int .i64 ((rd_T39 l0_1 a1).f1), .int .i64 ((rd_T39 l0_1 a1).f2), .int .i64 ((rd_T39 l0_1 a1).f3)] 39 (0, 0)) (tK BK269.out) k_ hk_.2.1), (Kd.freshB (g := gb270) (o := .cells #[.slice Ao89 x271000_2.length co89, .slice (some ad268) l0_1.length c0_1, .int .i64 a0_2, .int .i64 a0_3] 25 (0, 0)) (tK BK270.out) k_ hk_.2.1)⟩)) (below_size (tB3 HB.out GE264.out GE269.out GE270.out))); have n2_ := Aside0.mk (Kd.N_lower (Kd.N_mono (ok' := fun k_ => some k_ ≠ (v283 : Value).ownBlock ∧ some k_ ≠ (.slice Ao89 x271000_2.length co89 : Value).ownBlock ∧ k_ ≠ gb264 ∧ k_ ≠ gb269 ∧ k_ ≠ gb270) (Kd.S_N (Kd.S_bound (Kd.S_apart' ho1 (Kd.S_typed ho0) (by decide)))) (fun k_ hk_ => ⟨hk_.1.2, (Kd.fresh' (Kd.R_lt (tR HO_271000.out)) k_ hk_.2.1), (Kd.freshB (g := gb264) (o := .cells #[.slice A0_0 l0_0.length c0_0, .slice (some ad268) l0_1.length c0_1, .int .i64 a0_2, .int .i64 a0_3] 25 (0, 0)) (tK BK264.out) k_ hk_.2.1), (Kd.freshB (g := gb269) (o := .cells #[.string ((rd_T39 l0_1 a1).f0), .int .i64 ((rd_T39 l0_1 a1).f1), .int .i64 ((rd_T39 l0_1 a1).f2), .int .i64 ((rd_T39 l0_1 a1).f3)] 39 (0, 0)) (tK BK269.out) k_ hk_.2.1), (Kd.freshB (g := gb270) (o := .cells #[.slice Ao89 x271000_2.length co89, .slice (some ad268) l0_1.length c0_1, .int .i64 a0_2, .int .i64 a0_3] 25 (0, 0)) (tK BK270.out) k_ hk_.2.1)⟩)) (below_size (tB3 HB.out GE264.out GE269.out GE270.out))); have n3_ := Aside0.mk (blk_below (g := gb264) (o := .cells #[.slice A0_0 l0_0.length c0_0, .slice (some ad268) l0_1.length c0_1, .int .i64 a0_2, .int .i64 a0_3] 25 (0, 0)) (tK BK264.out) hb); have n4_ := Aside0.mk (blk_below (g := gb269) (o := .cells #[.string ((rd_T39 l0_1 a1).f0), .int .i64 ((rd_T39 l0_1 a1).f1), .int .i64 ((rd_T39 l0_1 a1).f2), .int .i64 ((rd_T39 l0_1 a1).f3)] 39 (0, 0)) (tK BK269.out) hb); have n5_ := Aside0.mk (blk_below (g := gb270) (o := .cells #[.slice Ao89 x271000_2.length co89, .slice (some ad268) l0_1.length c0_1, .int .i64 a0_2, .int .i64 a0_3] 25 (0, 0)) (tK BK270.out) hb); have n6_ := Aside0.mk (below_step (tB3 HB.out GE264.out GE269.out GE270.out) hb); clear HO_271000; clear BK264; clear BK269; clear BK270; clear HB; have HO_271000 := n0_; have HO284 := n1_; have HO287 := n2_; have BK264 := n3_; have BK269 := n4_; have BK270 := n5_; have HB := n6_; clear n0_ n1_ n2_ n3_ n4_ n5_ n6_; (try clear hb); (try clear hb2); (try clear hk); (try clear hi); (try clear ho0); (try clear ho1)) | ((with_reducible refine gate_dst (N := 12) rfl ?_); (try (refine gate_guard (by rfl) ?_; dsimp only)); refine box_event ?hg (N := 12) ?hd (cs := #[.slice none 0 0, .slice none 0 0]) (t := 31) ?hr ?_; (case hd => rfl); (case hg => rfl); (case hr => first | (go_simp; done) | (go_simp; rfl)); intro gb290 hg w94 hbox hb; have n0_ := Aside0.mk (Kd.R_below (tR HO_271000.out) hb); have n1_ := Aside0.mk (Kd.N_below (Kd.N_elderB (by (with_reducible repeat (first | apply Kd.N_alloc | apply Kd.N_drewN | apply Kd.N_drew)); exact HO284.out) gb290 (Nat.le_of_eq hg.symm)) hb); have n2_ := Aside0.mk (Kd.N_below (Kd.N_elderB (by (with_reducible repeat (first | apply Kd.N_alloc | apply Kd.N_drewN | apply Kd.N_drew)); exact HO287.out) gb290 (Nat.le_of_eq hg.symm)) hb); have n3_ := Aside0.mk (blk_below (g := gb264) (o := .cells #[.slice A0_0 l0_0.length c0_0, .slice (some ad268) l0_1.length c0_1, .int .i64 a0_2, .int .i64 a0_3] 25 (0, 0)) (tK BK264.out) hb); have n4_ := Aside0.mk (blk_below (g := gb269) (o := .cells #[.string ((rd_T39 l0_1 a1).f0), .int .i64 ((rd_T39 l0_1 a1).f1), .int .i64 ((rd_T39 l0_1 a1).f2), .int .i64 ((rd_T39 l0_1 a1).f3)] 39 (0, 0)) (tK BK269.out) hb); have n5_ := Aside0.mk (blk_below (g := gb270) (o := .cells #[.slice Ao89 x271000_2.length co89, .slice (some ad268) l0_1.length c0_1, .int .i64 a0_2, .int .i64 a0_3] 25 (0, 0)) (tK BK270.out) hb); have n6_ := Aside0.mk (below_step (tB3 HB.out GE264.out GE269.out GE270.out) hb); have n7_ := Aside0.mk (hbox); have n8_ := Aside0.mk ((by rw [hg]; exact (below_size (tB3 HB.out GE264.out GE269.out GE270.out)) : w.heap.size ≤ gb290)); have n9_ := Aside0.mk ((by rw [hg]; exact (below_size (tB3 HB.out GE264.out GE269.out GE270.out)) : w.heap.size ≤ gb290)); have n10_ := Aside0.mk ((by rw [hg]; exact Nat.ne_of_lt (blk_lt (g := gb264) (o := .cells #[.slice A0_0 l0_0.length c0_0, .slice (some ad268) l0_1.length c0_1, .int .i64 a0_2, .int .i64 a0_3] 25 (0, 0)) (tK BK264.out)) : gb264 ≠ gb290)); have n11_ := Aside0.mk ((by rw [hg]; exact Nat.ne_of_gt (blk_lt (g := gb264) (o := .cells #[.slice A0_0 l0_0.length c0_0, .slice (some ad268) l0_1.length c0_1, .int .i64 a0_2, .int .i64 a0_3] 25 (0, 0)) (tK BK264.out)) : gb290 ≠ gb264)); have n12_ := Aside0.mk ((by rw [hg]; exact Nat.ne_of_lt (blk_lt (g := gb269) (o := .cells #[.string ((rd_T39 l0_1 a1).f0), .int .i64 ((rd_T39 l0_1 a1).f1), .int .i64 ((rd_T39 l0_1 a1).f2), .int .i64 ((rd_T39 l0_1 a1).f3)] 39 (0, 0)) (tK BK269.out)) : gb269 ≠ gb290)); have n13_ := Aside0.mk ((by rw [hg]; exact Nat.ne_of_gt (blk_lt (g := gb269) (o := .cells #[.string ((rd_T39 l0_1 a1).f0), .int .i64 ((rd_T39 l0_1 a1).f1), .int .i64 ((rd_T39 l0_1 a1).f2), .int .i64 ((rd_T39 l0_1 a1).f3)] 39 (0, 0)) (tK BK269.out)) : gb290 ≠ gb269)); have n14_ := Aside0.mk ((by rw [hg]; exact Nat.ne_of_lt (blk_lt (g := gb270) (o := .cells #[.slice Ao89 x271000_2.length co89, .slice (some ad268) l0_1.length c0_1, .int .i64 a0_2, .int .i64 a0_3] 25 (0, 0)) (tK BK270.out)) : gb270 ≠ gb290)); have n15_ := Aside0.mk ((by rw [hg]; exact Nat.ne_of_gt (blk_lt (g := gb270) (o := .cells #[.slice Ao89 x271000_2.length co89, .slice (some ad268) l0_1.length c0_1, .int .i64 a0_2, .int .i64 a0_3] 25 (0, 0)) (tK BK270.out)) : gb290 ≠ gb270)); clear HO_271000; clear HO284; clear HO287; clear BK264; clear BK269; clear BK270; clear HB; have HO_271000 := n0_; have HO284 := n1_; have HO287 := n2_; have BK264 := n3_; have BK269 := n4_; have BK270 := n5_; have HB := n6_; have BK290 := n7_; have GW290 := n8_; have GE290 := n9_; have NB264_290 := n10_; have NB290_264 := n11_; have NB269_290 := n12_; have NB290_269 := n13_; have NB270_290 := n14_; have NB290_270 := n15_; clear n0_ n1_ n2_ n3_ n4_ n5_ n6_ n7_ n8_ n9_ n10_ n11_ n12_ n13_ n14_ n15_; clear hb hbox hg; obtain ⟨Ao95, co95, eo95⟩ := Kd.N_slice HO284.out; subst eo95; have hnb96 := NB290_264.out; have hnc96 := NB264_290.out; have hnb97 := NB290_269.out; have hnc97 := NB269_290.out; have hnb98 := NB290_270.out; have hnc98 := NB270_290.out; have hcz99_0 : w94.cell? ⟨gb290, 0, none⟩ = some (.slice none 0 0) := (blk_cell BK290.out 0).trans rfl; have hcz99_1 : w94.cell? ⟨gb290, 1, none⟩ = some (.slice none 0 0) := (blk_cell BK290.out 1).trans rfl; have hfz99_0 := blk_frozen BK290.out 0; have hfz99_1 := blk_frozen BK290.out 1; obtain ⟨Ao100, co100, eo100⟩ := Kd.N_slice HO287.out; subst eo100; have hcz101_0 : w94.cell? ⟨gb270, 0, none⟩ = some (.slice Ao89 x271000_2.length co89) := (blk_cell BK270.out 0).trans rfl; have hcz101_1 : w94.cell? ⟨gb270, 1, none⟩ = some (.slice (some ad268) l0_1.length c0_1) := (blk_cell BK270.out 1).trans rfl; have hcz101_2 : w94.cell? ⟨gb270, 2, none⟩ = some (.int .i64 a0_2) := (blk_cell BK270.out 2).trans rfl; have hcz101_3 : w94.cell? ⟨gb270, 3, none⟩ = some (.int .i64 a0_3) := (blk_cell BK270.out 3).trans rfl; have hfz101_0 := blk_frozen BK270.out 0; have hfz101_1 := blk_frozen BK270.out 1; have hfz101_2 := blk_frozen BK270.out 2; have hfz101_3 := blk_frozen BK270.out 3) | ((with_reducible refine gate_callee (f := 12) rfl ?_); refine goesL_ (some 101) rfl rfl Try.func12 (by kernel_rfl) rfl #[.agg #[.slice Ao89 x271000_2.length co89, .slice (some ad268) l0_1.length c0_1, .int .i64 a0_2, .int .i64 a0_3], .int .i64 a1] rfl tF ?_; (with_reducible refine (cfg_Build.calls k2 _ _ x271000_2 _ _ l0_1 a0_2 a0_3 a1 t291 t294 t297 t298 _ ?side1 ?side2 ?side3 ?side4 A81.out).mono ?_); (case side1 => refine (Kd.R_reads' (e := 56) (base := w.heap.size) (ok := fun k_ => True) (n := x271000_2.length) (c := co89) ?_).2.2; exact (by (with_reducible repeat (first | apply Kd.R_alloc | apply Kd.R_drewN | apply Kd.R_drew)); exact (Kd.R_mono (Kd.R_far (p := ⟨gb290, 1, none⟩) (Kd.R_far (p := ⟨gb290, 0, none⟩) (Kd.R_types HO_271000.out BK290.out (by decide)) (fun _ hk => hk.2) (.slice Ao95 t282.length co95)) (fun _ hk => hk.2) (.slice Ao100 t285.length co100)) (fun _ h_ => h_.1)))); (case side2 => exact (Kd.R_reads' HO_271000.out).2.1); (case side3 => exact Kd.C_below HR0_1.out (tB4 HB.out GE264.out GE269.out GE270.out GE290.out)); (case side4 => exact HC0_1.out); rintro e w102 ⟨v292, v295, rfl, ho0, ho1, hb⟩; refine ⟨_, rfl, ?_⟩; have n0_ := Aside0.mk (Kd.R_below (by (with_reducible repeat (first | apply Kd.R_alloc | apply Kd.R_drewN | apply Kd.R_drew)); exact (Kd.R_mono (Kd.R_far (p := ⟨gb290, 1, none⟩) (Kd.R_far (p := ⟨gb290, 0, none⟩) (Kd.R_types HO_271000.out BK290.out (by decide)) (fun _ hk => hk.2) (.slice Ao95 t282.length co95)) (fun _ hk => hk.2) (.slice Ao100 t285.length co100)) (fun _ h_ => h_.1))) hb); have n1_ := Aside0.mk (Kd.N_mono (Kd.N_told (Kd.N_told (Kd.N_old (by (with_reducible repeat (first | apply Kd.N_alloc | apply Kd.N_drewN | apply Kd.N_drew)); exact (Kd.N_mono (Kd.N_far (p := ⟨gb290, 1, none⟩) (Kd.N_far (p := ⟨gb290, 0, none⟩) (Kd.N_mono HO284.out (fun k_ hk => (⟨hk, hk.2⟩ : _ ∧ k_ ≠ gb290))) (fun _ hk => hk.2) (.slice Ao95 t282.length co95)) (fun _ hk => hk.2) (.slice Ao100 t285.length co100)) (fun _ h_ => h_.1))) hb) (Kd.N_base (Kd.S_N ho0))) (Kd.N_base (Kd.S_N ho1))) (fun _ h_ => h_.1)); have n2_ := Aside0.mk (Kd.N_mono (Kd.N_told (Kd.N_told (Kd.N_old (by (with_reducible repeat (first | apply Kd.N_alloc | apply Kd.N_drewN | apply Kd.N_drew)); exact (Kd.N_mono (Kd.N_far (p := ⟨gb290, 1, none⟩) (Kd.N_far (p := ⟨gb290, 0, none⟩) (Kd.N_mono HO287.out (fun k_ hk => (⟨hk, hk.2⟩ : _ ∧ k_ ≠ gb290))) (fun _ hk => hk.2) (.slice Ao95 t282.length co95)) (fun _ hk => hk.2) (.slice Ao100 t285.length co100)) (fun _ h_ => h_.1))) hb) (Kd.N_base (Kd.S_N ho0))) (Kd.N_base (Kd.S_N ho1))) (fun _ h_ => h_.1)); have n3_ := Aside0.mk (Kd.N_lower (Kd.N_mono (ok' := fun k_ => some k_ ≠ (v295 : Value).ownBlock ∧ some k_ ≠ (.slice Ao89 x271000_2.length co89 : Value).ownBlock ∧ some k_ ≠ (.slice Ao95 t282.length co95 : Value).ownBlock ∧ some k_ ≠ (.slice Ao100 t285.length co100 : Value).ownBlock ∧ k_ ≠ gb264 ∧ k_ ≠ gb269 ∧ k_ ≠ gb270 ∧ k_ ≠ gb290) (Kd.S_N (Kd.S_bound (Kd.S_apart' ho0 (Kd.S_typed ho1) (by decide)))) (fun k_ hk_ => ⟨hk_.1.2, (Kd.fresh' (Kd.R_lt (by (with_reducible repeat (first | apply Kd.R_alloc | apply Kd.R_drewN | apply Kd.R_drew)); exact (Kd.R_mono (Kd.R_far (p := ⟨gb290, 1, none⟩) (Kd.R_far (p := ⟨gb290, 0, none⟩) (Kd.R_types HO_271000.out BK290.out (by decide)) (fun _ hk => hk.2) (.slice Ao95 t282.length co95)) (fun _ hk => hk.2) (.slice Ao100 t285.length co100)) (fun _ h_ => h_.1)))) k_ hk_.2.1), (Kd.fresh' (Kd.N_lt (by (with_reducible repeat (first | apply Kd.N_alloc | apply Kd.N_drewN | apply Kd.N_drew)); exact (Kd.N_mono (Kd.N_far (p := ⟨gb290, 1, none⟩) (Kd.N_far (p := ⟨gb290, 0, none⟩) (Kd.N_mono HO284.out (fun k_ hk => (⟨hk, hk.2⟩ : _ ∧ k_ ≠ gb290))) (fun _ hk => hk.2) (.slice Ao95 t282.length co95)) (fun _ hk => hk.2) (.slice Ao100 t285.length co100)) (fun _ h_ => h_.1)))) k_ hk_.2.1), (Kd.fresh' (Kd.N_lt (by (with_reducible repeat (first | apply Kd.N_alloc | apply Kd.N_drewN | apply Kd.N_drew)); exact (Kd.N_mono (Kd.N_far (p := ⟨gb290, 1, none⟩) (Kd.N_far (p := ⟨gb290, 0, none⟩) (Kd.N_mono HO287.out (fun k_ hk => (⟨hk, hk.2⟩ : _ ∧ k_ ≠ gb290))) (fun _ hk => hk.2) (.slice Ao95 t282.length co95)) (fun _ hk => hk.2) (.slice Ao100 t285.length co100)) (fun _ h_ => h_.1)))) k_ hk_.2.1), (Kd.freshB (g := gb264) (o := .cells #[.slice A0_0 l0_0.length c0_0, .slice (some ad268) l0_1.length c0_1, .int .i64 a0_2, .int .i64 a0_3] 25 (0, 0)) (by (with_reducible repeat (first | refine blk_drewN ?_ _ | refine blk_drew ?_ | refine blk_alloc ?_ _)); refine blk_far ?_ NB264_290.out _; (with_reducible repeat (first | refine blk_drewN ?_ _ | refine blk_drew ?_ | refine blk_alloc ?_ _)); refine blk_far ?_ NB264_290.out _; (with_reducible repeat (first | refine blk_drewN ?_ _ | refine blk_drew ?_ | refine blk_alloc ?_ _)); exact BK264.out) k_ hk_.2.1), (Kd.freshB (g := gb269) (o := .cells #[.string ((rd_T39 l0_1 a1).f0), .int .i64 ((rd_T39 l0_1 a1).f1), .int .i64 ((rd_T39 l0_1 a1).f2), .int .i64 ((rd_T39 l0_1 a1).f3)] 39 (0, 0)) (by (with_reducible repeat (first | refine blk_drewN ?_ _ | refine blk_drew ?_ | refine blk_alloc ?_ _)); refine blk_far ?_ NB269_290.out _; (with_reducible repeat (first | refine blk_drewN ?_ _ | refine blk_drew ?_ | refine blk_alloc ?_ _)); refine blk_far ?_ NB269_290.out _; (with_reducible repeat (first | refine blk_drewN ?_ _ | refine blk_drew ?_ | refine blk_alloc ?_ _)); exact BK269.out) k_ hk_.2.1), (Kd.freshB (g := gb270) (o := .cells #[.slice Ao89 x271000_2.length co89, .slice (some ad268) l0_1.length c0_1, .int .i64 a0_2, .int .i64 a0_3] 25 (0, 0)) (by (with_reducible repeat (first | refine blk_drewN ?_ _ | refine blk_drew ?_ | refine blk_alloc ?_ _)); refine blk_far ?_ NB270_290.out _; (with_reducible repeat (first | refine blk_drewN ?_ _ | refine blk_drew ?_ | refine blk_alloc ?_ _)); refine blk_far ?_ NB270_290.out _; (with_reducible repeat (first | refine blk_drewN ?_ _ | refine blk_drew ?_ | refine blk_alloc ?_ _)); exact BK270.out) k_ hk_.2.1), (Kd.freshB (g := gb290) (o := .cells #[.slice Ao95 t282.length co95, .slice Ao100 t285.length co100] 31 (0, 0)) (by (with_reducible repeat (first | refine blk_drewN ?_ _ | refine blk_drew ?_ | refine blk_alloc ?_ _)); refine blk_put (cs := #[.slice Ao95 t282.length co95, .slice none 0 0]) ?_ 1 _ rfl; (with_reducible repeat (first | refine blk_drewN ?_ _ | refine blk_drew ?_ | refine blk_alloc ?_ _)); refine blk_put (cs := #[.slice none 0 0, .slice none 0 0]) ?_ 0 _ rfl; (with_reducible repeat (first | refine blk_drewN ?_ _ | refine blk_drew ?_ | refine blk_alloc ?_ _)); exact BK290.out) k_ hk_.2.1)⟩)) (below_size (tB4 HB.out GE264.out GE269.out GE270.out GE290.out))); have n4_ := Aside0.mk (Kd.N_lower (Kd.N_mono (ok' := fun k_ => some k_ ≠ (v292 : Value).ownBlock ∧ some k_ ≠ (.slice Ao89 x271000_2.length co89 : Value).ownBlock ∧ some k_ ≠ (.slice Ao95 t282.length co95 : Value).ownBlock ∧ some k_ ≠ (.slice Ao100 t285.length co100 : Value).ownBlock ∧ k_ ≠ gb264 ∧ k_ ≠ gb269 ∧ k_ ≠ gb270 ∧ k_ ≠ gb290) (Kd.S_N (Kd.S_bound (Kd.S_apart' ho1 (Kd.S_typed ho0) (by decide)))) (fun k_ hk_ => ⟨hk_.1.2, (Kd.fresh' (Kd.R_lt (by (with_reducible repeat (first | apply Kd.R_alloc | apply Kd.R_drewN | apply Kd.R_drew)); exact (Kd.R_mono (Kd.R_far (p := ⟨gb290, 1, none⟩) (Kd.R_far (p := ⟨gb290, 0, none⟩) (Kd.R_types HO_271000.out BK290.out (by decide)) (fun _ hk => hk.2) (.slice Ao95 t282.length co95)) (fun _ hk => hk.2) (.slice Ao100 t285.length co100)) (fun _ h_ => h_.1)))) k_ hk_.2.1), (Kd.fresh' (Kd.N_lt (by (with_reducible repeat (first | apply Kd.N_alloc | apply Kd.N_drewN | apply Kd.N_drew)); exact (Kd.N_mono (Kd.N_far (p := ⟨gb290, 1, none⟩) (Kd.N_far (p := ⟨gb290, 0, none⟩) (Kd.N_mono HO284.out (fun k_ hk => (⟨hk, hk.2⟩ : _ ∧ k_ ≠ gb290))) (fun _ hk => hk.2) (.slice Ao95 t282.length co95)) (fun _ hk => hk.2) (.slice Ao100 t285.length co100)) (fun _ h_ => h_.1)))) k_ hk_.2.1), (Kd.fresh' (Kd.N_lt (by (with_reducible repeat (first | apply Kd.N_alloc | apply Kd.N_drewN | apply Kd.N_drew)); exact (Kd.N_mono (Kd.N_far (p := ⟨gb290, 1, none⟩) (Kd.N_far (p := ⟨gb290, 0, none⟩) (Kd.N_mono HO287.out (fun k_ hk => (⟨hk, hk.2⟩ : _ ∧ k_ ≠ gb290))) (fun _ hk => hk.2) (.slice Ao95 t282.length co95)) (fun _ hk => hk.2) (.slice Ao100 t285.length co100)) (fun _ h_ => h_.1)))) k_ hk_.2.1), (Kd.freshB (g := gb264) (o := .cells #[.slice A0_0 l0_0.length c0_0, .slice (some ad268) l0_1.length c0_1, .int .i64 a0_2, .int .i64 a0_3] 25 (0, 0)) (by (with_reducible repeat (first | refine blk_drewN ?_ _ | refine blk_drew ?_ | refine blk_alloc ?_ _)); refine blk_far ?_ NB264_290.out _; (with_reducible repeat (first | refine blk_drewN ?_ _ | refine blk_drew ?_ | refine blk_alloc ?_ _)); refine blk_far ?_ NB264_290.out _; (with_reducible repeat (first | refine blk_drewN ?_ _ | refine blk_drew ?_ | refine blk_alloc ?_ _)); exact BK264.out) k_ hk_.2.1), (Kd.freshB (g := gb269) (o := .cells #[.string ((rd_T39 l0_1 a1).f0), .int .i64 ((rd_T39 l0_1 a1).f1), .int .i64 ((rd_T39 l0_1 a1).f2), .int .i64 ((rd_T39 l0_1 a1).f3)] 39 (0, 0)) (by (with_reducible repeat (first | refine blk_drewN ?_ _ | refine blk_drew ?_ | refine blk_alloc ?_ _)); refine blk_far ?_ NB269_290.out _; (with_reducible repeat (first | refine blk_drewN ?_ _ | refine blk_drew ?_ | refine blk_alloc ?_ _)); refine blk_far ?_ NB269_290.out _; (with_reducible repeat (first | refine blk_drewN ?_ _ | refine blk_drew ?_ | refine blk_alloc ?_ _)); exact BK269.out) k_ hk_.2.1), (Kd.freshB (g := gb270) (o := .cells #[.slice Ao89 x271000_2.length co89, .slice (some ad268) l0_1.length c0_1, .int .i64 a0_2, .int .i64 a0_3] 25 (0, 0)) (by (with_reducible repeat (first | refine blk_drewN ?_ _ | refine blk_drew ?_ | refine blk_alloc ?_ _)); refine blk_far ?_ NB270_290.out _; (with_reducible repeat (first | refine blk_drewN ?_ _ | refine blk_drew ?_ | refine blk_alloc ?_ _)); refine blk_far ?_ NB270_290.out _; (with_reducible repeat (first | refine blk_drewN ?_ _ | refine blk_drew ?_ | refine blk_alloc ?_ _)); exact BK270.out) k_ hk_.2.1), (Kd.freshB (g := gb290) (o := .cells #[.slice Ao95 t282.length co95, .slice Ao100 t285.length co100] 31 (0, 0)) (by (with_reducible repeat (first | refine blk_drewN ?_ _ | refine blk_drew ?_ | refine blk_alloc ?_ _)); refine blk_put (cs := #[.slice Ao95 t282.length co95, .slice none 0 0]) ?_ 1 _ rfl; (with_reducible repeat (first | refine blk_drewN ?_ _ | refine blk_drew ?_ | refine blk_alloc ?_ _)); refine blk_put (cs := #[.slice none 0 0, .slice none 0 0]) ?_ 0 _ rfl; (with_reducible repeat (first | refine blk_drewN ?_ _ | refine blk_drew ?_ | refine blk_alloc ?_ _)); exact BK290.out) k_ hk_.2.1)⟩)) (below_size (tB4 HB.out GE264.out GE269.out GE270.out GE290.out))); have n5_ := Aside0.mk (blk_below (g := gb264) (o := .cells #[.slice A0_0 l0_0.length c0_0, .slice (some ad268) l0_1.length c0_1, .int .i64 a0_2, .int .i64 a0_3] 25 (0, 0)) (by (with_reducible repeat (first | refine blk_drewN ?_ _ | refine blk_drew ?_ | refine blk_alloc ?_ _)); refine blk_far ?_ NB264_290.out _; (with_reducible repeat (first | refine blk_drewN ?_ _ | refine blk_drew ?_ | refine blk_alloc ?_ _)); refine blk_far ?_ NB264_290.out _; (with_reducible repeat (first | refine blk_drewN ?_ _ | refine blk_drew ?_ | refine blk_alloc ?_ _)); exact BK264.out) hb); have n6_ := Aside0.mk (blk_below (g := gb269) (o := .cells #[.string ((rd_T39 l0_1 a1).f0), .int .i64 ((rd_T39 l0_1 a1).f1), .int .i64 ((rd_T39 l0_1 a1).f2), .int .i64 ((rd_T39 l0_1 a1).f3)] 39 (0, 0)) (by (with_reducible repeat (first | refine blk_drewN ?_ _ | refine blk_drew ?_ | refine blk_alloc ?_ _)); refine blk_far ?_ NB269_290.out _; (with_reducible repeat (first | refine blk_drewN ?_ _ | refine blk_drew ?_ | refine blk_alloc ?_ _)); refine blk_far ?_ NB269_290.out _; (with_reducible repeat (first | refine blk_drewN ?_ _ | refine blk_drew ?_ | refine blk_alloc ?_ _)); exact BK269.out) hb); have n7_ := Aside0.mk (blk_below (g := gb270) (o := .cells #[.slice Ao89 x271000_2.length co89, .slice (some ad268) l0_1.length c0_1, .int .i64 a0_2, .int .i64 a0_3] 25 (0, 0)) (by (with_reducible repeat (first | refine blk_drewN ?_ _ | refine blk_drew ?_ | refine blk_alloc ?_ _)); refine blk_far ?_ NB270_290.out _; (with_reducible repeat (first | refine blk_drewN ?_ _ | refine blk_drew ?_ | refine blk_alloc ?_ _)); refine blk_far ?_ NB270_290.out _; (with_reducible repeat (first | refine blk_drewN ?_ _ | refine blk_drew ?_ | refine blk_alloc ?_ _)); exact BK270.out) hb); have n8_ := Aside0.mk (blk_below (g := gb290) (o := .cells #[.slice Ao95 t282.length co95, .slice Ao100 t285.length co100] 31 (0, 0)) (by (with_reducible repeat (first | refine blk_drewN ?_ _ | refine blk_drew ?_ | refine blk_alloc ?_ _)); refine blk_put (cs := #[.slice Ao95 t282.length co95, .slice none 0 0]) ?_ 1 _ rfl; (with_reducible repeat (first | refine blk_drewN ?_ _ | refine blk_drew ?_ | refine blk_alloc ?_ _)); refine blk_put (cs := #[.slice none 0 0, .slice none 0 0]) ?_ 0 _ rfl; (with_reducible repeat (first | refine blk_drewN ?_ _ | refine blk_drew ?_ | refine blk_alloc ?_ _)); exact BK290.out) hb); have n9_ := Aside0.mk (below_step (tB4 HB.out GE264.out GE269.out GE270.out GE290.out) hb); clear HO_271000; clear HO284; clear HO287; clear BK264; clear BK269; clear BK270; clear BK290; clear HB; have HO_271000 := n0_; have HO284 := n1_; have HO287 := n2_; have HO293 := n3_; have HO296 := n4_; have BK264 := n5_; have BK269 := n6_; have BK270 := n7_; have BK290 := n8_; have HB := n9_; clear n0_ n1_ n2_ n3_ n4_ n5_ n6_ n7_ n8_ n9_; (try clear hb); (try clear hb2); (try clear hk); (try clear hi); (try clear ho0); (try clear ho1)) | ((with_reducible refine gate_dst (N := 15) rfl ?_); (try (refine gate_guard (by rfl) ?_; dsimp only)); refine box_event ?hg (N := 15) ?hd (cs := #[.slice none 0 0, .slice none 0 0]) (t := 31) ?hr ?_; (case hd => rfl); (case hg => rfl); (case hr => first | (go_simp; done) | (go_simp; rfl)); intro gb299 hg w103 hbox hb; have n0_ := Aside0.mk (Kd.R_below (tR HO_271000.out) hb); have n1_ := Aside0.mk (Kd.N_below (Kd.N_elderB (by (with_reducible repeat (first | apply Kd.N_alloc | apply Kd.N_drewN | apply Kd.N_drew)); exact HO284.out) gb299 (Nat.le_of_eq hg.symm)) hb); have n2_ := Aside0.mk (Kd.N_below (Kd.N_elderB (by (with_reducible repeat (first | apply Kd.N_alloc | apply Kd.N_drewN | apply Kd.N_drew)); exact HO287.out) gb299 (Nat.le_of_eq hg.symm)) hb); have n3_ := Aside0.mk (Kd.N_below (Kd.N_elderB (by (with_reducible repeat (first | apply Kd.N_alloc | apply Kd.N_drewN | apply Kd.N_drew)); exact HO293.out) gb299 (Nat.le_of_eq hg.symm)) hb); have n4_ := Aside0.mk (Kd.N_below (Kd.N_elderB (by (with_reducible repeat (first | apply Kd.N_alloc | apply Kd.N_drewN | apply Kd.N_drew)); exact HO296.out) gb299 (Nat.le_of_eq hg.symm)) hb); have n5_ := Aside0.mk (blk_below (g := gb264) (o := .cells #[.slice A0_0 l0_0.length c0_0, .slice (some ad268) l0_1.length c0_1, .int .i64 a0_2, .int .i64 a0_3] 25 (0, 0)) (tK BK264.out) hb); have n6_ := Aside0.mk (blk_below (g := gb269) (o := .cells #[.string ((rd_T39 l0_1 a1).f0), .int .i64 ((rd_T39 l0_1 a1).f1), .int .i64 ((rd_T39 l0_1 a1).f2), .int .i64 ((rd_T39 l0_1 a1).f3)] 39 (0, 0)) (tK BK269.out) hb); have n7_ := Aside0.mk (blk_below (g := gb270) (o := .cells #[.slice Ao89 x271000_2.length co89, .slice (some ad268) l0_1.length c0_1, .int .i64 a0_2, .int .i64 a0_3] 25 (0, 0)) (tK BK270.out) hb); have n8_ := Aside0.mk (blk_below (g := gb290) (o := .cells #[.slice Ao95 t282.length co95, .slice Ao100 t285.length co100] 31 (0, 0)) (tK BK290.out) hb); have n9_ := Aside0.mk (below_step (tB4 HB.out GE264.out GE269.out GE270.out GE290.out) hb); have n10_ := Aside0.mk (hbox); have n11_ := Aside0.mk ((by rw [hg]; exact (below_size (tB4 HB.out GE264.out GE269.out GE270.out GE290.out)) : w.heap.size ≤ gb299)); have n12_ := Aside0.mk ((by rw [hg]; exact (below_size (tB4 HB.out GE264.out GE269.out GE270.out GE290.out)) : w.heap.size ≤ gb299)); have n13_ := Aside0.mk ((by rw [hg]; exact Nat.ne_of_lt (blk_lt (g := gb264) (o := .cells #[.slice A0_0 l0_0.length c0_0, .slice (some ad268) l0_1.length c0_1, .int .i64 a0_2, .int .i64 a0_3] 25 (0, 0)) (tK BK264.out)) : gb264 ≠ gb299)); have n14_ := Aside0.mk ((by rw [hg]; exact Nat.ne_of_gt (blk_lt (g := gb264) (o := .cells #[.slice A0_0 l0_0.length c0_0, .slice (some ad268) l0_1.length c0_1, .int .i64 a0_2, .int .i64 a0_3] 25 (0, 0)) (tK BK264.out)) : gb299 ≠ gb264)); have n15_ := Aside0.mk ((by rw [hg]; exact Nat.ne_of_lt (blk_lt (g := gb269) (o := .cells #[.string ((rd_T39 l0_1 a1).f0), .int .i64 ((rd_T39 l0_1 a1).f1), .int .i64 ((rd_T39 l0_1 a1).f2), .int .i64 ((rd_T39 l0_1 a1).f3)] 39 (0, 0)) (tK BK269.out)) : gb269 ≠ gb299)); have n16_ := Aside0.mk ((by rw [hg]; exact Nat.ne_of_gt (blk_lt (g := gb269) (o := .cells #[.string ((rd_T39 l0_1 a1).f0), .int .i64 ((rd_T39 l0_1 a1).f1), .int .i64 ((rd_T39 l0_1 a1).f2), .int .i64 ((rd_T39 l0_1 a1).f3)] 39 (0, 0)) (tK BK269.out)) : gb299 ≠ gb269)); have n17_ := Aside0.mk ((by rw [hg]; exact Nat.ne_of_lt (blk_lt (g := gb270) (o := .cells #[.slice Ao89 x271000_2.length co89, .slice (some ad268) l0_1.length c0_1, .int .i64 a0_2, .int .i64 a0_3] 25 (0, 0)) (tK BK270.out)) : gb270 ≠ gb299)); have n18_ := Aside0.mk ((by rw [hg]; exact Nat.ne_of_gt (blk_lt (g := gb270) (o := .cells #[.slice Ao89 x271000_2.length co89, .slice (some ad268) l0_1.length c0_1, .int .i64 a0_2, .int .i64 a0_3] 25 (0, 0)) (tK BK270.out)) : gb299 ≠ gb270)); have n19_ := Aside0.mk ((by rw [hg]; exact Nat.ne_of_lt (blk_lt (g := gb290) (o := .cells #[.slice Ao95 t282.length co95, .slice Ao100 t285.length co100] 31 (0, 0)) (tK BK290.out)) : gb290 ≠ gb299)); have n20_ := Aside0.mk ((by rw [hg]; exact Nat.ne_of_gt (blk_lt (g := gb290) (o := .cells #[.slice Ao95 t282.length co95, .slice Ao100 t285.length co100] 31 (0, 0)) (tK BK290.out)) : gb299 ≠ gb290)); clear HO_271000; clear HO284; clear HO287; clear HO293; clear HO296; clear BK264; clear BK269; clear BK270; clear BK290; clear HB; have HO_271000 := n0_; have HO284 := n1_; have HO287 := n2_; have HO293 := n3_; have HO296 := n4_; have BK264 := n5_; have BK269 := n6_; have BK270 := n7_; have BK290 := n8_; have HB := n9_; have BK299 := n10_; have GW299 := n11_; have GE299 := n12_; have NB264_299 := n13_; have NB299_264 := n14_; have NB269_299 := n15_; have NB299_269 := n16_; have NB270_299 := n17_; have NB299_270 := n18_; have NB290_299 := n19_; have NB299_290 := n20_; clear n0_ n1_ n2_ n3_ n4_ n5_ n6_ n7_ n8_ n9_ n10_ n11_ n12_ n13_ n14_ n15_ n16_ n17_ n18_ n19_ n20_; clear hb hbox hg; obtain ⟨Ao104, co104, eo104⟩ := Kd.N_slice HO293.out; subst eo104; have hnb105 := NB299_264.out; have hnc105 := NB264_299.out; have hnb106 := NB299_269.out; have hnc106 := NB269_299.out; have hnb107 := NB299_270.out; have hnc107 := NB270_299.out; have hnb108 := NB299_290.out; have hnc108 := NB290_299.out; have hcz109_0 : w103.cell? ⟨gb299, 0, none⟩ = some (.slice none 0 0) := (blk_cell BK299.out 0).trans rfl; have hcz109_1 : w103.cell? ⟨gb299, 1, none⟩ = some (.slice none 0 0) := (blk_cell BK299.out 1).trans rfl; have hfz109_0 := blk_frozen BK299.out 0; have hfz109_1 := blk_frozen BK299.out 1; obtain ⟨Ao110, co110, eo110⟩ := Kd.N_slice HO296.out; subst eo110))
       have n0_ : Aside0 (Kd.R (Kd.int .u32) 56 ((w103.setCell ⟨gb299, 0, none⟩ (.slice Ao104 t291.length co104)).setCell ⟨gb299, 1, none⟩ (.slice Ao110 t294.length co110)) w.heap.size (fun _ => True) (.slice Ao89 x271000_2.length co89) x271000_2) := ⟨by (with_reducible repeat (first | apply Kd.R_alloc | apply Kd.R_drewN | apply Kd.R_drew)); exact Kd.R_mono (Kd.R_far (p := ⟨gb299, 1, none⟩) (Kd.R_far (p := ⟨gb299, 0, none⟩) (Kd.R_types HO_271000.out BK299.out (by decide)) (fun _ hk => hk.2) (.slice Ao104 t291.length co104)) (fun _ hk => hk.2) (.slice Ao110 t294.length co110)) (fun _ hk => trivial)⟩
       have n1_ : Aside0 (Kd.N k51 51 ((w103.setCell ⟨gb299, 0, none⟩ (.slice Ao104 t291.length co104)).setCell ⟨gb299, 1, none⟩ (.slice Ao110 t294.length co110)) w.heap.size (fun k_ => some k_ ≠ (.slice Ao89 x271000_2.length co89 : Value).ownBlock ∧ some k_ ≠ (.slice Ao100 t285.length co100 : Value).ownBlock ∧ some k_ ≠ (.slice Ao104 t291.length co104 : Value).ownBlock ∧ some k_ ≠ (.slice Ao110 t294.length co110 : Value).ownBlock ∧ k_ ≠ gb264 ∧ k_ ≠ gb269 ∧ k_ ≠ gb270 ∧ k_ ≠ gb290 ∧ k_ ≠ gb299) (.slice Ao95 t282.length co95) t282) := ⟨by (with_reducible repeat (first | apply Kd.N_alloc | apply Kd.N_drewN | apply Kd.N_drew)); exact Kd.N_mono (Kd.N_far (p := ⟨gb299, 1, none⟩) (Kd.N_far (p := ⟨gb299, 0, none⟩) (Kd.N_mono HO284.out (fun k_ hk => (⟨hk, hk.2⟩ : _ ∧ k_ ≠ gb299))) (fun _ hk => hk.2) (.slice Ao104 t291.length co104)) (fun _ hk => hk.2) (.slice Ao110 t294.length co110)) (fun _ hk => ⟨hk.1.1.1.1.1.2.1, ⟨hk.1.1.1.1.1.1, ⟨hk.1.1.1.2, ⟨hk.1.1.2, ⟨hk.1.1.1.1.1.2.2.1, ⟨hk.1.1.1.1.1.2.2.2.1, ⟨hk.1.1.1.1.1.2.2.2.2, ⟨hk.1.1.1.1.2, hk.1.2⟩⟩⟩⟩⟩⟩⟩⟩)⟩
       have n2_ : Aside0 (Kd.N (Kd.slice 3 (Kd.int .i64)) 49 ((w103.setCell ⟨gb299, 0, none⟩ (.slice Ao104 t291.length co104)).setCell ⟨gb299, 1, none⟩ (.slice Ao110 t294.length co110)) w.heap.size (fun k_ => some k_ ≠ (.slice Ao89 x271000_2.length co89 : Value).ownBlock ∧ some k_ ≠ (.slice Ao95 t282.length co95 : Value).ownBlock ∧ some k_ ≠ (.slice Ao104 t291.length co104 : Value).ownBlock ∧ some k_ ≠ (.slice Ao110 t294.length co110 : Value).ownBlock ∧ k_ ≠ gb264 ∧ k_ ≠ gb269 ∧ k_ ≠ gb270 ∧ k_ ≠ gb290 ∧ k_ ≠ gb299) (.slice Ao100 t285.length co100) t285) := ⟨by (with_reducible repeat (first | apply Kd.N_alloc | apply Kd.N_drewN | apply Kd.N_drew)); exact Kd.N_mono (Kd.N_far (p := ⟨gb299, 1, none⟩) (Kd.N_far (p := ⟨gb299, 0, none⟩) (Kd.N_mono HO287.out (fun k_ hk => (⟨hk, hk.2⟩ : _ ∧ k_ ≠ gb299))) (fun _ hk => hk.2) (.slice Ao104 t291.length co104)) (fun _ hk => hk.2) (.slice Ao110 t294.length co110)) (fun _ hk => ⟨hk.1.1.1.1.1.2.1, ⟨hk.1.1.1.1.1.1, ⟨hk.1.1.1.2, ⟨hk.1.1.2, ⟨hk.1.1.1.1.1.2.2.1, ⟨hk.1.1.1.1.1.2.2.2.1, ⟨hk.1.1.1.1.1.2.2.2.2, ⟨hk.1.1.1.1.2, hk.1.2⟩⟩⟩⟩⟩⟩⟩⟩)⟩
       have n3_ : Aside0 (Kd.N k51 51 ((w103.setCell ⟨gb299, 0, none⟩ (.slice Ao104 t291.length co104)).setCell ⟨gb299, 1, none⟩ (.slice Ao110 t294.length co110)) w.heap.size (fun k_ => some k_ ≠ (.slice Ao89 x271000_2.length co89 : Value).ownBlock ∧ some k_ ≠ (.slice Ao95 t282.length co95 : Value).ownBlock ∧ some k_ ≠ (.slice Ao100 t285.length co100 : Value).ownBlock ∧ some k_ ≠ (.slice Ao110 t294.length co110 : Value).ownBlock ∧ k_ ≠ gb264 ∧ k_ ≠ gb269 ∧ k_ ≠ gb270 ∧ k_ ≠ gb290 ∧ k_ ≠ gb299) (.slice Ao104 t291.length co104) t291) := ⟨by (with_reducible repeat (first | apply Kd.N_alloc | apply Kd.N_drewN | apply Kd.N_drew)); exact Kd.N_mono (Kd.N_far (p := ⟨gb299, 1, none⟩) (Kd.N_far (p := ⟨gb299, 0, none⟩) (Kd.N_mono HO293.out (fun k_ hk => (⟨hk, hk.2⟩ : _ ∧ k_ ≠ gb299))) (fun _ hk => hk.2) (.slice Ao104 t291.length co104)) (fun _ hk => hk.2) (.slice Ao110 t294.length co110)) (fun _ hk => ⟨hk.1.1.2.1, ⟨hk.1.1.2.2.1, ⟨hk.1.1.2.2.2.1, ⟨hk.1.1.1, ⟨hk.1.1.2.2.2.2.1, ⟨hk.1.1.2.2.2.2.2.1, ⟨hk.1.1.2.2.2.2.2.2.1, ⟨hk.1.1.2.2.2.2.2.2.2, hk.1.2⟩⟩⟩⟩⟩⟩⟩⟩)⟩
       have n4_ : Aside0 (Kd.N (Kd.slice 3 (Kd.int .i64)) 49 ((w103.setCell ⟨gb299, 0, none⟩ (.slice Ao104 t291.length co104)).setCell ⟨gb299, 1, none⟩ (.slice Ao110 t294.length co110)) w.heap.size (fun k_ => some k_ ≠ (.slice Ao89 x271000_2.length co89 : Value).ownBlock ∧ some k_ ≠ (.slice Ao95 t282.length co95 : Value).ownBlock ∧ some k_ ≠ (.slice Ao100 t285.length co100 : Value).ownBlock ∧ some k_ ≠ (.slice Ao104 t291.length co104 : Value).ownBlock ∧ k_ ≠ gb264 ∧ k_ ≠ gb269 ∧ k_ ≠ gb270 ∧ k_ ≠ gb290 ∧ k_ ≠ gb299) (.slice Ao110 t294.length co110) t294) := ⟨by (with_reducible repeat (first | apply Kd.N_alloc | apply Kd.N_drewN | apply Kd.N_drew)); exact Kd.N_mono (Kd.N_far (p := ⟨gb299, 1, none⟩) (Kd.N_far (p := ⟨gb299, 0, none⟩) (Kd.N_mono HO296.out (fun k_ hk => (⟨hk, hk.2⟩ : _ ∧ k_ ≠ gb299))) (fun _ hk => hk.2) (.slice Ao104 t291.length co104)) (fun _ hk => hk.2) (.slice Ao110 t294.length co110)) (fun _ hk => ⟨hk.1.1.2.1, ⟨hk.1.1.2.2.1, ⟨hk.1.1.2.2.2.1, ⟨hk.1.1.1, ⟨hk.1.1.2.2.2.2.1, ⟨hk.1.1.2.2.2.2.2.1, ⟨hk.1.1.2.2.2.2.2.2.1, ⟨hk.1.1.2.2.2.2.2.2.2, hk.1.2⟩⟩⟩⟩⟩⟩⟩⟩)⟩
       have n5_ : Aside0 (((w103.setCell ⟨gb299, 0, none⟩ (.slice Ao104 t291.length co104)).setCell ⟨gb299, 1, none⟩ (.slice Ao110 t294.length co110)).heap[gb264]? = some (.cells #[.slice A0_0 l0_0.length c0_0, .slice (some ad268) l0_1.length c0_1, .int .i64 a0_2, .int .i64 a0_3] 25 (0, 0))) := ⟨by (with_reducible repeat (first | refine blk_drewN ?_ _ | refine blk_drew ?_ | refine blk_alloc ?_ _)); refine blk_far ?_ NB264_299.out _; (with_reducible repeat (first | refine blk_drewN ?_ _ | refine blk_drew ?_ | refine blk_alloc ?_ _)); refine blk_far ?_ NB264_299.out _; (with_reducible repeat (first | refine blk_drewN ?_ _ | refine blk_drew ?_ | refine blk_alloc ?_ _)); exact BK264.out⟩
       have n6_ : Aside0 (((w103.setCell ⟨gb299, 0, none⟩ (.slice Ao104 t291.length co104)).setCell ⟨gb299, 1, none⟩ (.slice Ao110 t294.length co110)).heap[gb269]? = some (.cells #[.string ((rd_T39 l0_1 a1).f0), .int .i64 ((rd_T39 l0_1 a1).f1), .int .i64 ((rd_T39 l0_1 a1).f2), .int .i64 ((rd_T39 l0_1 a1).f3)] 39 (0, 0))) := ⟨by (with_reducible repeat (first | refine blk_drewN ?_ _ | refine blk_drew ?_ | refine blk_alloc ?_ _)); refine blk_far ?_ NB269_299.out _; (with_reducible repeat (first | refine blk_drewN ?_ _ | refine blk_drew ?_ | refine blk_alloc ?_ _)); refine blk_far ?_ NB269_299.out _; (with_reducible repeat (first | refine blk_drewN ?_ _ | refine blk_drew ?_ | refine blk_alloc ?_ _)); exact BK269.out⟩
       have n7_ : Aside0 (((w103.setCell ⟨gb299, 0, none⟩ (.slice Ao104 t291.length co104)).setCell ⟨gb299, 1, none⟩ (.slice Ao110 t294.length co110)).heap[gb270]? = some (.cells #[.slice Ao89 x271000_2.length co89, .slice (some ad268) l0_1.length c0_1, .int .i64 a0_2, .int .i64 a0_3] 25 (0, 0))) := ⟨by (with_reducible repeat (first | refine blk_drewN ?_ _ | refine blk_drew ?_ | refine blk_alloc ?_ _)); refine blk_far ?_ NB270_299.out _; (with_reducible repeat (first | refine blk_drewN ?_ _ | refine blk_drew ?_ | refine blk_alloc ?_ _)); refine blk_far ?_ NB270_299.out _; (with_reducible repeat (first | refine blk_drewN ?_ _ | refine blk_drew ?_ | refine blk_alloc ?_ _)); exact BK270.out⟩
       have n8_ : Aside0 (((w103.setCell ⟨gb299, 0, none⟩ (.slice Ao104 t291.length co104)).setCell ⟨gb299, 1, none⟩ (.slice Ao110 t294.length co110)).heap[gb290]? = some (.cells #[.slice Ao95 t282.length co95, .slice Ao100 t285.length co100] 31 (0, 0))) := ⟨by (with_reducible repeat (first | refine blk_drewN ?_ _ | refine blk_drew ?_ | refine blk_alloc ?_ _)); refine blk_far ?_ NB290_299.out _; (with_reducible repeat (first | refine blk_drewN ?_ _ | refine blk_drew ?_ | refine blk_alloc ?_ _)); refine blk_far ?_ NB290_299.out _; (with_reducible repeat (first | refine blk_drewN ?_ _ | refine blk_drew ?_ | refine blk_alloc ?_ _)); exact BK290.out⟩
       have n9_ : Aside0 (((w103.setCell ⟨gb299, 0, none⟩ (.slice Ao104 t291.length co104)).setCell ⟨gb299, 1, none⟩ (.slice Ao110 t294.length co110)).heap[gb299]? = some (.cells #[.slice Ao104 t291.length co104, .slice Ao110 t294.length co110] 31 (0, 0))) := ⟨by (with_reducible repeat (first | refine blk_drewN ?_ _ | refine blk_drew ?_ | refine blk_alloc ?_ _)); refine blk_put (cs := #[.slice Ao104 t291.length co104, .slice none 0 0]) ?_ 1 _ rfl; (with_reducible repeat (first | refine blk_drewN ?_ _ | refine blk_drew ?_ | refine blk_alloc ?_ _)); refine blk_put (cs := #[.slice none 0 0, .slice none 0 0]) ?_ 0 _ rfl; (with_reducible repeat (first | refine blk_drewN ?_ _ | refine blk_drew ?_ | refine blk_alloc ?_ _)); exact BK299.out⟩
       have n10_ : Aside0 (Below w.heap.size w ((w103.setCell ⟨gb299, 0, none⟩ (.slice Ao104 t291.length co104)).setCell ⟨gb299, 1, none⟩ (.slice Ao110 t294.length co110))) := ⟨by repeat (first | (with_reducible first | exact HB.out | apply below_alloc | apply pw_below_drewN | apply below_drew1 | refine below_set ?_ GE264.out | refine below_set ?_ GE269.out | refine below_set ?_ GE270.out | refine below_set ?_ GE290.out | refine below_set ?_ GE299.out) | exact HB.out)⟩
       (try clear HO_271000)
       (try clear HO284)
       (try clear HO287)
       (try clear HO293)
       (try clear HO296)
       (try clear BK264)
       (try clear BK269)
       (try clear BK270)
       (try clear BK290)
       (try clear BK299)
       (try clear HB)
       generalize ((w103.setCell ⟨gb299, 0, none⟩ (.slice Ao104 t291.length co104)).setCell ⟨gb299, 1, none⟩ (.slice Ao110 t294.length co110)) = w111 at n0_ n1_ n2_ n3_ n4_ n5_ n6_ n7_ n8_ n9_ n10_ ⊢
       have HO_271000 := n0_
       have HO284 := n1_
       have HO287 := n2_
       have HO293 := n3_
       have HO296 := n4_
       have BK264 := n5_
       have BK269 := n6_
       have BK270 := n7_
       have BK290 := n8_
       have BK299 := n9_
       have HB := n10_
       clear n0_ n1_ n2_ n3_ n4_ n5_ n6_ n7_ n8_ n9_ n10_
       have n0_ := Aside0.mk (Kd.R_drew HO_271000.out)
       have n1_ := Aside0.mk (Kd.N_drew HO284.out)
       have n2_ := Aside0.mk (Kd.N_drew HO287.out)
       have n3_ := Aside0.mk (Kd.N_drew HO293.out)
       have n4_ := Aside0.mk (Kd.N_drew HO296.out)
       have n5_ := Aside0.mk (blk_drew BK264.out)
       have n6_ := Aside0.mk (blk_drew BK269.out)
       have n7_ := Aside0.mk (blk_drew BK270.out)
       have n8_ := Aside0.mk (blk_drew BK290.out)
       have n9_ := Aside0.mk (blk_drew BK299.out)
       have n10_ := Aside0.mk (below_drew1 HB.out)
       clear HO_271000 HO284 HO287 HO293 HO296 BK264 BK269 BK270 BK290 BK299 HB
       have HO_271000 := n0_
       have HO284 := n1_
       have HO287 := n2_
       have HO293 := n3_
       have HO296 := n4_
       have BK264 := n5_
       have BK269 := n6_
       have BK270 := n7_
       have BK290 := n8_
       have BK299 := n9_
       have HB := n10_
       clear n0_ n1_ n2_ n3_ n4_ n5_ n6_ n7_ n8_ n9_ n10_
       refine start_ (n := 15) (S := fun w' => w'.cell? ⟨gb290, 0, none⟩ = some (.slice Ao95 t282.length co95) ∧ w'.cell? ⟨gb290, 1, none⟩ = some (.slice Ao100 t285.length co100) ∧ w'.cell? ⟨gb299, 0, none⟩ = some (.slice Ao104 t291.length co104) ∧ w'.cell? ⟨gb299, 1, none⟩ = some (.slice Ao110 t294.length co110)) (ds := []) #[false, false, false, false, false, false, false, false, false, false, false, false, false, false, false] (by kernel_rfl) rfl rfl ⟨(blk_cell BK290.out 0).trans rfl, (blk_cell BK290.out 1).trans rfl, (blk_cell BK299.out 0).trans rfl, (blk_cell BK299.out 1).trans rfl⟩ (fun hHeld => ?_); refine with_tabW ontimelaw24_CfgAlone.tab21 ontimelaw24_CfgAlone.bits21 (fun HT_ HW_ => ?_)
       generalize w111.drew = w112 at HO_271000 HO284 HO287 HO293 HO296 BK264 BK269 BK270 BK290 BK299 HB hHeld ⊢
       refine pure_ (i := 0) (N := some 105) (v := ?_) (a' := ?_) #[true, false, false, false, false, false, false, false, false, false, false, false, false, false, false] rfl rfl (any_of HT_.out (by kernel_rfl)) (fun _ _ _ h => h) (Or.inl ⟨by rfl, ?_⟩) ?_ ?_
       rotate_left
       ·intro w'
        go_simp
        with_reducible rfl
       rotate_left
       ·simp only [Act.put, pA, pB, pC, i64_w, i32_w]
        rfl
       refine pure_ (i := 1) (N := some 106) (v := ?_) (a' := ?_) #[true, true, false, false, false, false, false, false, false, false, false, false, false, false, false] rfl rfl (any_of HT_.out (by kernel_rfl)) (fun _ _ _ h => h) (Or.inl ⟨by rfl, ?_⟩) ?_ ?_
       rotate_left
       ·intro w'
        go_simp
        with_reducible rfl
       rotate_left
       ·simp only [Act.put, pA, pB, pC, i64_w, i32_w]
        rfl
       refine pure_ (i := 2) (N := some 107) (v := ?_) (a' := ?_) #[true, true, true, false, false, false, false, false, false, false, false, false, false, false, false] rfl rfl (any_of HT_.out (by kernel_rfl)) (fun _ _ _ h => h) (Or.inl ⟨by rfl, ?_⟩) ?_ ?_
       rotate_left
       ·intro w'
        go_simp
        with_reducible rfl
       rotate_left
       ·simp only [Act.put, pA, pB, pC, i64_w, i32_w]
        rfl
       refine pure_ (i := 3) (N := some 108) (v := ?_) (a' := ?_) #[true, true, true, true, false, false, false, false, false, false, false, false, false, false, false] rfl rfl (any_of HT_.out (by kernel_rfl)) (fun _ _ _ h => h) (Or.inl ⟨by rfl, ?_⟩) ?_ ?_
       rotate_left
       ·intro w'
        go_simp
        with_reducible rfl
       rotate_left
       ·simp only [Act.put, pA, pB, pC, i64_w, i32_w]
        rfl
       refine pure_ (i := 4) (N := some 109) (v := ?_) (a' := ?_) #[true, true, true, true, true, false, false, false, false, false, false, false, false, false, false] rfl rfl (any_of HT_.out (by kernel_rfl)) (fun _ _ _ h => h) (Or.inl ⟨by rfl, ?_⟩) ?_ ?_
       rotate_left
       ·intro w'
        go_simp
        with_reducible rfl
       rotate_left
       ·simp only [Act.put, pA, pB, pC, i64_w, i32_w]
        rfl
       refine pure_ (i := 5) (N := some 110) (v := ?_) (a' := ?_) #[true, true, true, true, true, true, false, false, false, false, false, false, false, false, false] rfl rfl (any_of HT_.out (by kernel_rfl)) (fun _ _ _ h => h) (Or.inl ⟨by rfl, ?_⟩) ?_ ?_
       rotate_left
       ·intro w'
        go_simp
        with_reducible rfl
       rotate_left
       ·simp only [Act.put, pA, pB, pC, i64_w, i32_w]
        rfl
       refine pure_ (i := 6) (N := some 111) (v := ?_) (a' := ?_) #[true, true, true, true, true, true, true, false, false, false, false, false, false, false, false] rfl rfl (any_of HT_.out (by kernel_rfl)) (fun _ _ _ h => h) (Or.inl ⟨by rfl, ?_⟩) ?_ ?_
       rotate_left
       ·intro w'
        go_simp
        with_reducible rfl
       rotate_left
       ·simp only [Act.put, pA, pB, pC, i64_w, i32_w]
        rfl
       refine pure_ (i := 7) (N := some 112) (v := ?_) (a' := ?_) #[true, true, true, true, true, true, true, true, false, false, false, false, false, false, false] rfl rfl (any_of HT_.out (by kernel_rfl)) (fun _ _ _ h => h) (Or.inl ⟨by rfl, ?_⟩) ?_ ?_
       rotate_left
       ·intro w'
        go_simp
        with_reducible rfl
       rotate_left
       ·simp only [Act.put, pA, pB, pC, i64_w, i32_w]
        rfl
       refine pure_ (i := 8) (N := some 113) (v := ?_) (a' := ?_) #[true, true, true, true, true, true, true, true, true, false, false, false, false, false, false] rfl rfl (any_of HT_.out (by kernel_rfl)) (fun _ _ _ h => h) (Or.inl ⟨by rfl, ?_⟩) ?_ ?_
       rotate_left
       ·intro w'
        go_simp
        with_reducible rfl
       rotate_left
       ·simp only [Act.put, pA, pB, pC, i64_w, i32_w]
        rfl
       refine take_ (i := 9) (N := some 114) (v := ?_) (a' := ?_) #[true, true, true, true, true, true, true, true, true, true, false, false, false, false, false] rfl rfl (take_ofW HT_.out HW_.out (by kernel_rfl)) (fun _ _ _ h => h) (Or.inl ⟨by rfl, ?_⟩) hHeld ?_ ?_
       rotate_left
       ·rintro w' ⟨s0, s1, s2, s3⟩
        go_simp
        with_reducible rfl
       rotate_left
       ·simp only [Act.put, pA, pB, pC, i64_w, i32_w]
        rfl
       refine take_ (i := 10) (N := some 115) (v := ?_) (a' := ?_) #[true, true, true, true, true, true, true, true, true, true, true, false, false, false, false] rfl rfl (take_ofW HT_.out HW_.out (by kernel_rfl)) (fun _ _ _ h => h) (Or.inl ⟨by rfl, ?_⟩) hHeld ?_ ?_
       rotate_left
       ·rintro w' ⟨s0, s1, s2, s3⟩
        go_simp
        with_reducible rfl
       rotate_left
       ·simp only [Act.put, pA, pB, pC, i64_w, i32_w]
        rfl
       refine one_ (i := 11) (N := some 116) #[true, true, true, true, true, true, true, true, true, true, true, true, false, false, false] rfl rfl (one_of HT_.out (by kernel_rfl)) (by decide) (fun K hK => ?_)
       refine goes_ Try.func21 (by kernel_rfl) rfl #[.agg #[.slice Ao104 t291.length co104, .slice Ao110 t294.length co110]] (by rfl) rfl rfl tF ?_
       with_reducible refine (ontimelaw24_blocks.calls k2 (fun k_ => (some k_ ≠ (.slice Ao89 x271000_2.length co89 : Value).ownBlock ∧ (some k_ ≠ (.slice Ao95 t282.length co95 : Value).ownBlock ∧ (some k_ ≠ (.slice Ao100 t285.length co100 : Value).ownBlock ∧ (some k_ ≠ (.slice Ao110 t294.length co110 : Value).ownBlock ∧ (k_ ≠ gb264 ∧ (k_ ≠ gb269 ∧ (k_ ≠ gb270 ∧ (k_ ≠ gb290 ∧ k_ ≠ gb299))))))))) _ _ t291 _ _ t294 t300 _ ?side1 ?side2 ?side3 A84.out).mono ?_
       (case side1 => exact Kd.N_V (HO293.out))
       (case side2 => exact tC (Kd.N_reads' HO296.out).2.2)
       (case side3 => exact (Kd.N_reads' HO296.out).2.1)
       rintro e w113 ⟨v301, rfl, ho0, hb⟩
       refine ⟨_, rfl, ?_⟩
       have n0_ := Aside0.mk (Kd.R_below (tR HO_271000.out) hb)
       have n1_ := Aside0.mk (Kd.N_elder' (by (with_reducible repeat (first | apply Kd.N_alloc | apply Kd.N_drewN | apply Kd.N_drew)); exact HO284.out) (Kd.N_base ho0) hb)
       have n2_ := Aside0.mk (Kd.N_elder' (by (with_reducible repeat (first | apply Kd.N_alloc | apply Kd.N_drewN | apply Kd.N_drew)); exact HO287.out) (Kd.N_base ho0) hb)
       have n3_ := Aside0.mk (Kd.N_elder' (by (with_reducible repeat (first | apply Kd.N_alloc | apply Kd.N_drewN | apply Kd.N_drew)); exact HO293.out) (Kd.N_base ho0) hb)
       have n4_ := Aside0.mk (Kd.N_elder' (by (with_reducible repeat (first | apply Kd.N_alloc | apply Kd.N_drewN | apply Kd.N_drew)); exact HO296.out) (Kd.N_base ho0) hb)
       have n5_ := Aside0.mk (Kd.N_lower (Kd.N_mono (ok' := fun k_ => some k_ ≠ (.slice Ao89 x271000_2.length co89 : Value).ownBlock ∧ some k_ ≠ (.slice Ao95 t282.length co95 : Value).ownBlock ∧ some k_ ≠ (.slice Ao100 t285.length co100 : Value).ownBlock ∧ some k_ ≠ (.slice Ao110 t294.length co110 : Value).ownBlock ∧ k_ ≠ gb264 ∧ k_ ≠ gb269 ∧ k_ ≠ gb270 ∧ k_ ≠ gb290 ∧ k_ ≠ gb299) ho0 (fun k_ hk_ => ⟨Or.elim hk_ (fun hs_ => hs_.1) (fun hn_ => (Kd.fresh' (Kd.R_lt (tR HO_271000.out)) k_ hn_)), Or.elim hk_ (fun hs_ => hs_.2.1) (fun hn_ => (Kd.fresh' (Kd.N_lt (by (with_reducible repeat (first | apply Kd.N_alloc | apply Kd.N_drewN | apply Kd.N_drew)); exact HO284.out)) k_ hn_)), Or.elim hk_ (fun hs_ => hs_.2.2.1) (fun hn_ => (Kd.fresh' (Kd.N_lt (by (with_reducible repeat (first | apply Kd.N_alloc | apply Kd.N_drewN | apply Kd.N_drew)); exact HO287.out)) k_ hn_)), Or.elim hk_ (fun hs_ => hs_.2.2.2.1) (fun hn_ => (Kd.fresh' (Kd.N_lt (by (with_reducible repeat (first | apply Kd.N_alloc | apply Kd.N_drewN | apply Kd.N_drew)); exact HO296.out)) k_ hn_)), Or.elim hk_ (fun hs_ => hs_.2.2.2.2.1) (fun hn_ => (Kd.freshB (g := gb264) (o := .cells #[.slice A0_0 l0_0.length c0_0, .slice (some ad268) l0_1.length c0_1, .int .i64 a0_2, .int .i64 a0_3] 25 (0, 0)) (tK BK264.out) k_ hn_)), Or.elim hk_ (fun hs_ => hs_.2.2.2.2.2.1) (fun hn_ => (Kd.freshB (g := gb269) (o := .cells #[.string ((rd_T39 l0_1 a1).f0), .int .i64 ((rd_T39 l0_1 a1).f1), .int .i64 ((rd_T39 l0_1 a1).f2), .int .i64 ((rd_T39 l0_1 a1).f3)] 39 (0, 0)) (tK BK269.out) k_ hn_)), Or.elim hk_ (fun hs_ => hs_.2.2.2.2.2.2.1) (fun hn_ => (Kd.freshB (g := gb270) (o := .cells #[.slice Ao89 x271000_2.length co89, .slice (some ad268) l0_1.length c0_1, .int .i64 a0_2, .int .i64 a0_3] 25 (0, 0)) (tK BK270.out) k_ hn_)), Or.elim hk_ (fun hs_ => hs_.2.2.2.2.2.2.2.1) (fun hn_ => (Kd.freshB (g := gb290) (o := .cells #[.slice Ao95 t282.length co95, .slice Ao100 t285.length co100] 31 (0, 0)) (tK BK290.out) k_ hn_)), Or.elim hk_ (fun hs_ => hs_.2.2.2.2.2.2.2.2) (fun hn_ => (Kd.freshB (g := gb299) (o := .cells #[.slice Ao104 t291.length co104, .slice Ao110 t294.length co110] 31 (0, 0)) (tK BK299.out) k_ hn_))⟩)) (below_size (by repeat (first | (with_reducible first | exact HB.out | apply below_alloc | apply pw_below_drewN | apply below_drew1 | refine below_set ?_ GE264.out | refine below_set ?_ GE269.out | refine below_set ?_ GE270.out | refine below_set ?_ GE290.out | refine below_set ?_ GE299.out) | exact HB.out))))
       have n6_ := Aside0.mk (blk_below (g := gb264) (o := .cells #[.slice A0_0 l0_0.length c0_0, .slice (some ad268) l0_1.length c0_1, .int .i64 a0_2, .int .i64 a0_3] 25 (0, 0)) (tK BK264.out) hb)
       have n7_ := Aside0.mk (blk_below (g := gb269) (o := .cells #[.string ((rd_T39 l0_1 a1).f0), .int .i64 ((rd_T39 l0_1 a1).f1), .int .i64 ((rd_T39 l0_1 a1).f2), .int .i64 ((rd_T39 l0_1 a1).f3)] 39 (0, 0)) (tK BK269.out) hb)
       have n8_ := Aside0.mk (blk_below (g := gb270) (o := .cells #[.slice Ao89 x271000_2.length co89, .slice (some ad268) l0_1.length c0_1, .int .i64 a0_2, .int .i64 a0_3] 25 (0, 0)) (tK BK270.out) hb)
       have n9_ := Aside0.mk (blk_below (g := gb290) (o := .cells #[.slice Ao95 t282.length co95, .slice Ao100 t285.length co100] 31 (0, 0)) (tK BK290.out) hb)
       have n10_ := Aside0.mk (blk_below (g := gb299) (o := .cells #[.slice Ao104 t291.length co104, .slice Ao110 t294.length co110] 31 (0, 0)) (tK BK299.out) hb)
       have n11_ := Aside0.mk (below_step (by repeat (first | (with_reducible first | exact HB.out | apply below_alloc | apply pw_below_drewN | apply below_drew1 | refine below_set ?_ GE264.out | refine below_set ?_ GE269.out | refine below_set ?_ GE270.out | refine below_set ?_ GE290.out | refine below_set ?_ GE299.out) | exact HB.out)) hb)
       clear HO_271000 HO284 HO287 HO293 HO296 BK264 BK269 BK270 BK290 BK299 HB
       have HO_271000 := n0_
       have HO284 := n1_
       have HO287 := n2_
       have HO293 := n3_
       have HO296 := n4_
       have HO302 := n5_
       have BK264 := n6_
       have BK269 := n7_
       have BK270 := n8_
       have BK290 := n9_
       have BK299 := n10_
       have HB := n11_
       clear n0_ n1_ n2_ n3_ n4_ n5_ n6_ n7_ n8_ n9_ n10_ n11_
       (try clear hb)
       (try clear hb2)
       (try clear hk)
       (try clear hi)
       (try clear ho0)
       obtain ⟨Ao114, co114, eo114⟩ := Kd.N_slice HO302.out
       (first | subst eo114 | (injection eo114 with f1_ f2_ f3_; have f4_ := f1_.symm; have f5_ := f3_.symm; clear f1_ f2_ f3_; subst f4_; subst f5_))
       refine hK.out _ _ ⟨(blk_cell BK290.out 0).trans rfl, (blk_cell BK290.out 1).trans rfl, (blk_cell BK299.out 0).trans rfl, (blk_cell BK299.out 1).trans rfl⟩ (fun hHeld => ?_)
       clear hK K
       refine norm_ (a' := ?_) ?_ ?_
       rotate_left
       ·show Act.put _ (some 116) _ = _
        simp only [Act.put, pA, pB, pC, i64_w, i32_w]
        rfl
       refine one_ (i := 12) (N := some 117) #[true, true, true, true, true, true, true, true, true, true, true, true, true, false, false] rfl rfl (one_of HT_.out (by kernel_rfl)) (by decide) (fun K hK => ?_)
       refine goes_ Try.func16 (by kernel_rfl) rfl #[.agg #[.slice Ao95 t282.length co95, .slice Ao100 t285.length co100], .slice Ao114 t300.length co114] (by rfl) rfl rfl tF ?_
       with_reducible refine (ontimelaw24_is.calls k2 _ _ t282 _ _ t285 _ _ t300 t303 _ ?side1 ?side2 ?side3 ?side4 ?side5 ?side6 A85.out HRT.out).mono ?_
       (case side1 => exact tC (Kd.N_reads' HO284.out).2.2)
       (case side2 => exact (Kd.N_reads' HO284.out).2.1)
       (case side3 => exact tC (Kd.N_reads' HO287.out).2.2)
       (case side4 => exact (Kd.N_reads' HO287.out).2.1)
       (case side5 => exact tC (Kd.N_reads' HO302.out).2.2)
       (case side6 => exact (Kd.N_reads' HO302.out).2.1)
       rintro e w115 ⟨rfl, hb⟩
       refine ⟨_, rfl, ?_⟩
       have n0_ := Aside0.mk (Kd.R_below (tR HO_271000.out) hb)
       have n1_ := Aside0.mk (Kd.N_below (by (with_reducible repeat (first | apply Kd.N_alloc | apply Kd.N_drewN | apply Kd.N_drew)); exact HO284.out) hb)
       have n2_ := Aside0.mk (Kd.N_below (by (with_reducible repeat (first | apply Kd.N_alloc | apply Kd.N_drewN | apply Kd.N_drew)); exact HO287.out) hb)
       have n3_ := Aside0.mk (Kd.N_below (by (with_reducible repeat (first | apply Kd.N_alloc | apply Kd.N_drewN | apply Kd.N_drew)); exact HO293.out) hb)
       have n4_ := Aside0.mk (Kd.N_below (by (with_reducible repeat (first | apply Kd.N_alloc | apply Kd.N_drewN | apply Kd.N_drew)); exact HO296.out) hb)
       have n5_ := Aside0.mk (Kd.N_below (by (with_reducible repeat (first | apply Kd.N_alloc | apply Kd.N_drewN | apply Kd.N_drew)); exact HO302.out) hb)
       have n6_ := Aside0.mk (blk_below (g := gb264) (o := .cells #[.slice A0_0 l0_0.length c0_0, .slice (some ad268) l0_1.length c0_1, .int .i64 a0_2, .int .i64 a0_3] 25 (0, 0)) (tK BK264.out) hb)
       have n7_ := Aside0.mk (blk_below (g := gb269) (o := .cells #[.string ((rd_T39 l0_1 a1).f0), .int .i64 ((rd_T39 l0_1 a1).f1), .int .i64 ((rd_T39 l0_1 a1).f2), .int .i64 ((rd_T39 l0_1 a1).f3)] 39 (0, 0)) (tK BK269.out) hb)
       have n8_ := Aside0.mk (blk_below (g := gb270) (o := .cells #[.slice Ao89 x271000_2.length co89, .slice (some ad268) l0_1.length c0_1, .int .i64 a0_2, .int .i64 a0_3] 25 (0, 0)) (tK BK270.out) hb)
       have n9_ := Aside0.mk (blk_below (g := gb290) (o := .cells #[.slice Ao95 t282.length co95, .slice Ao100 t285.length co100] 31 (0, 0)) (tK BK290.out) hb)
       have n10_ := Aside0.mk (blk_below (g := gb299) (o := .cells #[.slice Ao104 t291.length co104, .slice Ao110 t294.length co110] 31 (0, 0)) (tK BK299.out) hb)
       have n11_ := Aside0.mk (below_step (by repeat (first | (with_reducible first | exact HB.out | apply below_alloc | apply pw_below_drewN | apply below_drew1 | refine below_set ?_ GE264.out | refine below_set ?_ GE269.out | refine below_set ?_ GE270.out | refine below_set ?_ GE290.out | refine below_set ?_ GE299.out) | exact HB.out)) hb)
       clear HO_271000 HO284 HO287 HO293 HO296 HO302 BK264 BK269 BK270 BK290 BK299 HB
       have HO_271000 := n0_
       have HO284 := n1_
       have HO287 := n2_
       have HO293 := n3_
       have HO296 := n4_
       have HO302 := n5_
       have BK264 := n6_
       have BK269 := n7_
       have BK270 := n8_
       have BK290 := n9_
       have BK299 := n10_
       have HB := n11_
       clear n0_ n1_ n2_ n3_ n4_ n5_ n6_ n7_ n8_ n9_ n10_ n11_
       (try clear hb)
       (try clear hb2)
       (try clear hk)
       (try clear hi)
       refine hK.out _ _ ⟨(blk_cell BK290.out 0).trans rfl, (blk_cell BK290.out 1).trans rfl, (blk_cell BK299.out 0).trans rfl, (blk_cell BK299.out 1).trans rfl⟩ (fun hHeld => ?_)
       clear hK K
       refine norm_ (a' := ?_) ?_ ?_
       rotate_left
       ·show Act.put _ (some 117) _ = _
        simp only [Act.put, pA, pB, pC, i64_w, i32_w]
        rfl
       refine pure_ (i := 13) (N := some 118) (v := ?_) (a' := ?_) #[true, true, true, true, true, true, true, true, true, true, true, true, true, true, false] rfl rfl (any_of HT_.out (by kernel_rfl)) (fun _ _ _ h => h) (Or.inl ⟨by rfl, ?_⟩) ?_ ?_
       rotate_left
       ·intro w'
        go_simp
        with_reducible rfl
       rotate_left
       ·simp only [Act.put, pA, pB, pC, i64_w, i32_w]
        rfl
       refine pure_ (i := 14) (N := some 6) (v := ?_) (a' := ?_) #[true, true, true, true, true, true, true, true, true, true, true, true, true, true, true] rfl rfl (any_of HT_.out (by kernel_rfl)) (fun _ _ _ h => h) (Or.inl ⟨by rfl, ?_⟩) ?_ ?_
       rotate_left
       ·intro w'
        go_simp
        with_reducible rfl
       rotate_left
       ·simp only [Act.put, pA, pB, pC, i64_w, i32_w]
        rfl
       refine done_ (done_of HT_.out (by kernel_rfl)) ?_
       try go_wp2
       go_ret
       exact ⟨by first | rfl | (simp [errW_none, errW_some] <;> rfl) | (simp [*, errW_none, errW_some] <;> rfl), by repeat (first | (with_reducible first | exact HB.out | apply below_alloc | apply pw_below_drewN | apply below_drew1 | refine below_set ?_ GE264.out | refine below_set ?_ GE269.out | refine below_set ?_ GE270.out | refine below_set ?_ GE290.out | refine below_set ?_ GE299.out) | exact HB.out)⟩
      ·rw [if_neg c79] at H
       have c79b0 : (t281 == 0) = false := beq_eq_false_iff_ne.mpr c79
       have c79b1 : (t281 != 0) = true := bne_iff_ne.mpr c79
       obtain rfl := Option.some.inj H
       have hnb170 := NB270_264.out
       have hnc170 := NB264_270.out
       have hnb171 := NB270_269.out
       have hnc171 := NB269_270.out
       have hcz172_0 : wr.cell? ⟨gb270, 0, none⟩ = some (u271000) := (blk_cell BK270.out 0).trans rfl
       have hcz172_1 : wr.cell? ⟨gb270, 1, none⟩ = some (.slice (some ad268) l0_1.length c0_1) := (blk_cell BK270.out 1).trans rfl
       have hcz172_2 : wr.cell? ⟨gb270, 2, none⟩ = some (.int .i64 a0_2) := (blk_cell BK270.out 2).trans rfl
       have hcz172_3 : wr.cell? ⟨gb270, 3, none⟩ = some (.int .i64 a0_3) := (blk_cell BK270.out 3).trans rfl
       have hfz172_0 := blk_frozen BK270.out 0
       have hfz172_1 := blk_frozen BK270.out 1
       have hfz172_2 := blk_frozen BK270.out 2
       have hfz172_3 := blk_frozen BK270.out 3
       obtain ⟨Ao173, co173, eo173⟩ := Kd.R_slice HO_271000.out
       subst eo173
       go_wp2_with (first | ((with_reducible refine gate_callee (f := 13) rfl ?_); refine goesL_ (some 89) rfl rfl Try.func13 (by kernel_rfl) rfl #[.agg #[.slice Ao173 x271000_2.length co173, .slice (some ad268) l0_1.length c0_1, .int .i64 a0_2, .int .i64 a0_3]] rfl tF ?_; (with_reducible refine (linker_Check.calls k2 _ _ x271000_2 _ _ l0_1 a0_2 a0_3 t281 _ ?side1 ?side2 ?side3 ?side4 A78.out).mono ?_); (case side1 => exact tC (Kd.R_reads' HO_271000.out).2.2); (case side2 => exact (Kd.R_reads' HO_271000.out).2.1); (case side3 => exact tC (Kd.C_below HR0_1.out HB.out)); (case side4 => exact HC0_1.out); rintro e w174 ⟨rfl, hb⟩; refine ⟨_, rfl, ?_⟩; have n0_ := Aside0.mk (Kd.R_below (tR HO_271000.out) hb); have n1_ := Aside0.mk (blk_below (g := gb264) (o := .cells #[.slice A0_0 l0_0.length c0_0, .slice (some ad268) l0_1.length c0_1, .int .i64 a0_2, .int .i64 a0_3] 25 (0, 0)) (tK BK264.out) hb); have n2_ := Aside0.mk (blk_below (g := gb269) (o := .cells #[.string ((rd_T39 l0_1 a1).f0), .int .i64 ((rd_T39 l0_1 a1).f1), .int .i64 ((rd_T39 l0_1 a1).f2), .int .i64 ((rd_T39 l0_1 a1).f3)] 39 (0, 0)) (tK BK269.out) hb); have n3_ := Aside0.mk (blk_below (g := gb270) (o := .cells #[.slice Ao173 x271000_2.length co173, .slice (some ad268) l0_1.length c0_1, .int .i64 a0_2, .int .i64 a0_3] 25 (0, 0)) (tK BK270.out) hb); have n4_ := Aside0.mk (below_step (tB3 HB.out GE264.out GE269.out GE270.out) hb); clear HO_271000; clear BK264; clear BK269; clear BK270; clear HB; have HO_271000 := n0_; have BK264 := n1_; have BK269 := n2_; have BK270 := n3_; have HB := n4_; clear n0_ n1_ n2_ n3_ n4_; (try clear hb); (try clear hb2); (try clear hk); (try clear hi)))
       go_ret
       exact ⟨by first | rfl | (simp [errW_none, errW_some] <;> rfl) | (simp [*, errW_none, errW_some] <;> rfl), by repeat (first | (with_reducible first | exact HB.out | apply below_alloc | apply pw_below_drewN | apply below_drew1 | refine below_set ?_ GE264.out | refine below_set ?_ GE269.out | refine below_set ?_ GE270.out) | exact HB.out)⟩
end Go.Proofs.Ytihmfdndiicjgaa.C
