-- Written by xprint.py (wip/tools) out of the translation and of this project's hand texts. Not trusted: Lean checks it.
import Derived.Test.YtihmfdndiicjgaaCx0
import Derived.Test.YtihmfdndiicjgaaCx1
import Derived.Test.YtihmfdndiicjgaaCx2
namespace Go.Proofs.Ytihmfdndiicjgaa.C
open Go.RowKit Go.Proofs.YtihmfdndiicjgaaW.PrintWords Go.Proofs.YtihmfdndiicjgaaW.PrintLast Go.Proofs.YtihmfdndiicjgaaW.PrintMore
attribute [local go_sem] max2_int min2_int max_two min_two max_three min_three max_four min_four   -- for this text's walks alone
set_option linter.unusedVariables false
set_option linter.unusedSimpArgs false
/-! ### linker_Check: function 13 -/
mutual
def linker_Check.j0 : Nat → Bool → List Int → List (S39) → Int → Int → Option (Int)
 | 0, _, _, _, _, _ => none
 | k + 1, x3, x139000, x139001, x139002, x139003 => linker_Check.l0 k x3 x139001 (x139001.length : Int) 0 x139000 x139001 x139002 x139003
def linker_Check.l0 : Nat → Bool → List (S39) → Int → Int → List Int → List (S39) → Int → Int → Option (Int)
 | 0, _, _, _, _, _, _, _, _ => none
 | k + 1, x3, x36, x37, x38, x139000, x139001, x139002, x139003 => if x38 < x37 then (if 0 ≤ x38 then (if x38 < (x36.length : Int) then (if x3 = true then ((linker_in.f ((rd_T39 x36 x38).f3) 512).bind fun t143 => (linker_Check.l0 k t143 x36 x37 (wrap64 (x38 + 1)) x139000 x139001 x139002 x139003)) else (linker_Check.l0 k false x36 x37 (wrap64 (x38 + 1)) x139000 x139001 x139002 x139003)) else (none)) else (none)) else (if x3 = true then (linker_Check.l1 k x139001 (x139001.length : Int) 0 x139000 x139001 x139002 x139003) else (some 2))
def linker_Check.l1 : Nat → List (S39) → Int → Int → List Int → List (S39) → Int → Int → Option (Int)
 | 0, _, _, _, _, _, _, _ => none
 | k + 1, x52, x53, x54, x139000, x139001, x139002, x139003 => if x54 < x53 then (if 0 ≤ x54 then (if x54 < (x52.length : Int) then ((linker_named.f ((rd_T39 x52 x54).f0)).bind fun t146 => (if t146 = true then (linker_Check.l1 k x52 x53 (wrap64 (x54 + 1)) x139000 x139001 x139002 x139003) else (some 6))) else (none)) else (none)) else (linker_Check.l2 k 0 x139001 (x139001.length : Int) 0 x139000 x139001 x139002 x139003)
def linker_Check.l2 : Nat → Int → List (S39) → Int → Int → List Int → List (S39) → Int → Int → Option (Int)
 | 0, _, _, _, _, _, _, _, _ => none
 | k + 1, x8, x64, x65, x66, x139000, x139001, x139002, x139003 => if x66 < x65 then (if 0 ≤ x66 then (if x66 < (x64.length : Int) then (if ((rd_T39 x64 x66).f1) = x8 then (if ((rd_T39 x64 x66).f2) ≤ ((rd_T39 x64 x66).f1) then (some 14) else (linker_Check.l2 k ((rd_T39 x64 x66).f2) x64 x65 (wrap64 (x66 + 1)) x139000 x139001 x139002 x139003)) else (some 14)) else (none)) else (none)) else (if x8 = (x139000.length : Int) then (linker_Check.l3 k x139001 (x139001.length : Int) 0 x139000 x139001 x139002 x139003) else (some 14))
def linker_Check.l3 : Nat → List (S39) → Int → Int → List Int → List (S39) → Int → Int → Option (Int)
 | 0, _, _, _, _, _, _, _ => none
 | k + 1, x90, x91, x92, x139000, x139001, x139002, x139003 => if x92 < x91 then (if 0 ≤ x92 then (if x92 < (x90.length : Int) then (linker_Check.l4 k ((rd_T39 x90 x92).f1) x90 x91 x92 x139000 x139001 x139002 x139003 ((rd_T39 x90 x92).f0) ((rd_T39 x90 x92).f1) ((rd_T39 x90 x92).f2) ((rd_T39 x90 x92).f3)) else (none)) else (none)) else (some 0)
def linker_Check.l4 : Nat → Int → List (S39) → Int → Int → List Int → List (S39) → Int → Int → ByteArray → Int → Int → Int → Option (Int)
 | 0, _, _, _, _, _, _, _, _, _, _, _, _ => none
 | k + 1, x13, x90, x91, x92, x139000, x139001, x139002, x139003, x151000, x151001, x151002, x151003 => if x13 < x151002 then ((linker_checkWord.f k x139000 x139001 x139002 x139003 x151000 x151001 x151002 x151003 x13).bind fun t151 => (if t151 = 0 then (linker_Check.l4 k (wrap64 (x13 + 1)) x90 x91 x92 x139000 x139001 x139002 x139003 x151000 x151001 x151002 x151003) else (some t151))) else (linker_Check.l3 k x90 x91 (wrap64 (x92 + 1)) x139000 x139001 x139002 x139003)
end
def linker_Check.f (k : Nat) (l0_0 : List Int) (l0_1 : List (S39)) (a0_2 : Int) (a0_3 : Int) : Option (Int) := if (l0_0.length : Int) ≤ 4096 then (if (l0_1.length : Int) ≤ 8 then ((linker_in.f a0_2 64).bind fun t139 => (if t139 = true then ((linker_in.f a0_3 4).bind fun t140 => (linker_Check.j0 k t140 l0_0 l0_1 a0_2 a0_3)) else (linker_Check.j0 k false l0_0 l0_1 a0_2 a0_3))) else (linker_Check.j0 k false l0_0 l0_1 a0_2 a0_3)) else (linker_Check.j0 k false l0_0 l0_1 a0_2 a0_3)
theorem linker_Check.mono_l : ∀ k, (∀ y0 y1 y2 y3 y4, LeO (linker_Check.j0 k y0 y1 y2 y3 y4) (linker_Check.j0 (k + 1) y0 y1 y2 y3 y4)) ∧ (∀ y0 y1 y2 y3 y4 y5 y6 y7, LeO (linker_Check.l0 k y0 y1 y2 y3 y4 y5 y6 y7) (linker_Check.l0 (k + 1) y0 y1 y2 y3 y4 y5 y6 y7)) ∧ (∀ y0 y1 y2 y3 y4 y5 y6, LeO (linker_Check.l1 k y0 y1 y2 y3 y4 y5 y6) (linker_Check.l1 (k + 1) y0 y1 y2 y3 y4 y5 y6)) ∧ (∀ y0 y1 y2 y3 y4 y5 y6 y7, LeO (linker_Check.l2 k y0 y1 y2 y3 y4 y5 y6 y7) (linker_Check.l2 (k + 1) y0 y1 y2 y3 y4 y5 y6 y7)) ∧ (∀ y0 y1 y2 y3 y4 y5 y6, LeO (linker_Check.l3 k y0 y1 y2 y3 y4 y5 y6) (linker_Check.l3 (k + 1) y0 y1 y2 y3 y4 y5 y6)) ∧ (∀ y0 y1 y2 y3 y4 y5 y6 y7 y8 y9 y10 y11, LeO (linker_Check.l4 k y0 y1 y2 y3 y4 y5 y6 y7 y8 y9 y10 y11) (linker_Check.l4 (k + 1) y0 y1 y2 y3 y4 y5 y6 y7 y8 y9 y10 y11))
 | 0 => ⟨fun _ _ _ _ _ r h => by simp [linker_Check.j0] at h, fun _ _ _ _ _ _ _ _ r h => by simp [linker_Check.l0] at h, fun _ _ _ _ _ _ _ r h => by simp [linker_Check.l1] at h, fun _ _ _ _ _ _ _ _ r h => by simp [linker_Check.l2] at h, fun _ _ _ _ _ _ _ r h => by simp [linker_Check.l3] at h, fun _ _ _ _ _ _ _ _ _ _ _ _ r h => by simp [linker_Check.l4] at h⟩
 | k + 1 => by
  obtain ⟨ih0, ih1, ih2, ih3, ih4, ih5⟩ := linker_Check.mono_l k
  refine ⟨?_, ?_, ?_, ?_, ?_, ?_⟩
  ·intro y0 y1 y2 y3 y4
   unfold linker_Check.j0
   repeat' first
   | (with_reducible exact ih0 _ _ _ _ _)
   | (with_reducible exact ih1 _ _ _ _ _ _ _ _)
   | (with_reducible exact ih2 _ _ _ _ _ _ _)
   | (with_reducible exact ih3 _ _ _ _ _ _ _ _)
   | (with_reducible exact ih4 _ _ _ _ _ _ _)
   | (with_reducible exact ih5 _ _ _ _ _ _ _ _ _ _ _ _)
   | (with_reducible exact linker_checkWord.mono _ _ _ _ _ _ _ _ _ _)
   | (with_reducible exact LeO.refl _)
   | (with_reducible exact LeO.none _)
   | (with_reducible refine LeO.ite ?_ ?_)
   | (with_reducible refine LeO.bind ?_ (fun _ => ?_))
   | exact ih0 _ _ _ _ _
   | exact ih1 _ _ _ _ _ _ _ _
   | exact ih2 _ _ _ _ _ _ _
   | exact ih3 _ _ _ _ _ _ _ _
   | exact ih4 _ _ _ _ _ _ _
   | exact ih5 _ _ _ _ _ _ _ _ _ _ _ _
   | exact linker_checkWord.mono _ _ _ _ _ _ _ _ _ _
   | exact LeO.none _
   | refine LeO.ite ?_ ?_
   | refine LeO.bind ?_ (fun _ => ?_)
  ·intro y0 y1 y2 y3 y4 y5 y6 y7
   unfold linker_Check.l0
   repeat' first
   | (with_reducible exact ih0 _ _ _ _ _)
   | (with_reducible exact ih1 _ _ _ _ _ _ _ _)
   | (with_reducible exact ih2 _ _ _ _ _ _ _)
   | (with_reducible exact ih3 _ _ _ _ _ _ _ _)
   | (with_reducible exact ih4 _ _ _ _ _ _ _)
   | (with_reducible exact ih5 _ _ _ _ _ _ _ _ _ _ _ _)
   | (with_reducible exact linker_checkWord.mono _ _ _ _ _ _ _ _ _ _)
   | (with_reducible exact LeO.refl _)
   | (with_reducible exact LeO.none _)
   | (with_reducible refine LeO.ite ?_ ?_)
   | (with_reducible refine LeO.bind ?_ (fun _ => ?_))
   | exact ih0 _ _ _ _ _
   | exact ih1 _ _ _ _ _ _ _ _
   | exact ih2 _ _ _ _ _ _ _
   | exact ih3 _ _ _ _ _ _ _ _
   | exact ih4 _ _ _ _ _ _ _
   | exact ih5 _ _ _ _ _ _ _ _ _ _ _ _
   | exact linker_checkWord.mono _ _ _ _ _ _ _ _ _ _
   | exact LeO.none _
   | refine LeO.ite ?_ ?_
   | refine LeO.bind ?_ (fun _ => ?_)
  ·intro y0 y1 y2 y3 y4 y5 y6
   unfold linker_Check.l1
   repeat' first
   | (with_reducible exact ih0 _ _ _ _ _)
   | (with_reducible exact ih1 _ _ _ _ _ _ _ _)
   | (with_reducible exact ih2 _ _ _ _ _ _ _)
   | (with_reducible exact ih3 _ _ _ _ _ _ _ _)
   | (with_reducible exact ih4 _ _ _ _ _ _ _)
   | (with_reducible exact ih5 _ _ _ _ _ _ _ _ _ _ _ _)
   | (with_reducible exact linker_checkWord.mono _ _ _ _ _ _ _ _ _ _)
   | (with_reducible exact LeO.refl _)
   | (with_reducible exact LeO.none _)
   | (with_reducible refine LeO.ite ?_ ?_)
   | (with_reducible refine LeO.bind ?_ (fun _ => ?_))
   | exact ih0 _ _ _ _ _
   | exact ih1 _ _ _ _ _ _ _ _
   | exact ih2 _ _ _ _ _ _ _
   | exact ih3 _ _ _ _ _ _ _ _
   | exact ih4 _ _ _ _ _ _ _
   | exact ih5 _ _ _ _ _ _ _ _ _ _ _ _
   | exact linker_checkWord.mono _ _ _ _ _ _ _ _ _ _
   | exact LeO.none _
   | refine LeO.ite ?_ ?_
   | refine LeO.bind ?_ (fun _ => ?_)
  ·intro y0 y1 y2 y3 y4 y5 y6 y7
   unfold linker_Check.l2
   repeat' first
   | (with_reducible exact ih0 _ _ _ _ _)
   | (with_reducible exact ih1 _ _ _ _ _ _ _ _)
   | (with_reducible exact ih2 _ _ _ _ _ _ _)
   | (with_reducible exact ih3 _ _ _ _ _ _ _ _)
   | (with_reducible exact ih4 _ _ _ _ _ _ _)
   | (with_reducible exact ih5 _ _ _ _ _ _ _ _ _ _ _ _)
   | (with_reducible exact linker_checkWord.mono _ _ _ _ _ _ _ _ _ _)
   | (with_reducible exact LeO.refl _)
   | (with_reducible exact LeO.none _)
   | (with_reducible refine LeO.ite ?_ ?_)
   | (with_reducible refine LeO.bind ?_ (fun _ => ?_))
   | exact ih0 _ _ _ _ _
   | exact ih1 _ _ _ _ _ _ _ _
   | exact ih2 _ _ _ _ _ _ _
   | exact ih3 _ _ _ _ _ _ _ _
   | exact ih4 _ _ _ _ _ _ _
   | exact ih5 _ _ _ _ _ _ _ _ _ _ _ _
   | exact linker_checkWord.mono _ _ _ _ _ _ _ _ _ _
   | exact LeO.none _
   | refine LeO.ite ?_ ?_
   | refine LeO.bind ?_ (fun _ => ?_)
  ·intro y0 y1 y2 y3 y4 y5 y6
   unfold linker_Check.l3
   repeat' first
   | (with_reducible exact ih0 _ _ _ _ _)
   | (with_reducible exact ih1 _ _ _ _ _ _ _ _)
   | (with_reducible exact ih2 _ _ _ _ _ _ _)
   | (with_reducible exact ih3 _ _ _ _ _ _ _ _)
   | (with_reducible exact ih4 _ _ _ _ _ _ _)
   | (with_reducible exact ih5 _ _ _ _ _ _ _ _ _ _ _ _)
   | (with_reducible exact linker_checkWord.mono _ _ _ _ _ _ _ _ _ _)
   | (with_reducible exact LeO.refl _)
   | (with_reducible exact LeO.none _)
   | (with_reducible refine LeO.ite ?_ ?_)
   | (with_reducible refine LeO.bind ?_ (fun _ => ?_))
   | exact ih0 _ _ _ _ _
   | exact ih1 _ _ _ _ _ _ _ _
   | exact ih2 _ _ _ _ _ _ _
   | exact ih3 _ _ _ _ _ _ _ _
   | exact ih4 _ _ _ _ _ _ _
   | exact ih5 _ _ _ _ _ _ _ _ _ _ _ _
   | exact linker_checkWord.mono _ _ _ _ _ _ _ _ _ _
   | exact LeO.none _
   | refine LeO.ite ?_ ?_
   | refine LeO.bind ?_ (fun _ => ?_)
  ·intro y0 y1 y2 y3 y4 y5 y6 y7 y8 y9 y10 y11
   unfold linker_Check.l4
   repeat' first
   | (with_reducible exact ih0 _ _ _ _ _)
   | (with_reducible exact ih1 _ _ _ _ _ _ _ _)
   | (with_reducible exact ih2 _ _ _ _ _ _ _)
   | (with_reducible exact ih3 _ _ _ _ _ _ _ _)
   | (with_reducible exact ih4 _ _ _ _ _ _ _)
   | (with_reducible exact ih5 _ _ _ _ _ _ _ _ _ _ _ _)
   | (with_reducible exact linker_checkWord.mono _ _ _ _ _ _ _ _ _ _)
   | (with_reducible exact LeO.refl _)
   | (with_reducible exact LeO.none _)
   | (with_reducible refine LeO.ite ?_ ?_)
   | (with_reducible refine LeO.bind ?_ (fun _ => ?_))
   | exact ih0 _ _ _ _ _
   | exact ih1 _ _ _ _ _ _ _ _
   | exact ih2 _ _ _ _ _ _ _
   | exact ih3 _ _ _ _ _ _ _ _
   | exact ih4 _ _ _ _ _ _ _
   | exact ih5 _ _ _ _ _ _ _ _ _ _ _ _
   | exact linker_checkWord.mono _ _ _ _ _ _ _ _ _ _
   | exact LeO.none _
   | refine LeO.ite ?_ ?_
   | refine LeO.bind ?_ (fun _ => ?_)
theorem linker_Check.mono : ∀ a0 a1 a2 a3 k, LeO (linker_Check.f k a0 a1 a2 a3) (linker_Check.f (k + 1) a0 a1 a2 a3) := by
 intro a0 a1 a2 a3 k
 obtain ⟨ih0, ih1, ih2, ih3, ih4, ih5⟩ := linker_Check.mono_l k
 unfold linker_Check.f
 repeat' first
   | (with_reducible exact ih0 _ _ _ _ _)
   | (with_reducible exact ih1 _ _ _ _ _ _ _ _)
   | (with_reducible exact ih2 _ _ _ _ _ _ _)
   | (with_reducible exact ih3 _ _ _ _ _ _ _ _)
   | (with_reducible exact ih4 _ _ _ _ _ _ _)
   | (with_reducible exact ih5 _ _ _ _ _ _ _ _ _ _ _ _)
   | (with_reducible exact linker_checkWord.mono _ _ _ _ _ _ _ _ _ _)
   | (with_reducible exact LeO.refl _)
   | (with_reducible exact LeO.none _)
   | (with_reducible refine LeO.ite ?_ ?_)
   | (with_reducible refine LeO.bind ?_ (fun _ => ?_))
   | exact ih0 _ _ _ _ _
   | exact ih1 _ _ _ _ _ _ _ _
   | exact ih2 _ _ _ _ _ _ _
   | exact ih3 _ _ _ _ _ _ _ _
   | exact ih4 _ _ _ _ _ _ _
   | exact ih5 _ _ _ _ _ _ _ _ _ _ _ _
   | exact linker_checkWord.mono _ _ _ _ _ _ _ _ _ _
   | exact LeO.none _
   | refine LeO.ite ?_ ?_
   | refine LeO.bind ?_ (fun _ => ?_)
set_option maxHeartbeats 8000000 in
set_option maxRecDepth 100000 in
theorem linker_Check.calls (k : Nat) (A0_0 : Option Addr) (c0_0 : Nat) (l0_0 : List Int) (A0_1 : Option Addr) (c0_1 : Nat) (l0_1 : List (S39)) (a0_2 : Int) (a0_3 : Int) (r : Int) (w : World) (hr0_0 : Kd.C (Kd.int .u32) w A0_0 l0_0.length l0_0) (hc0_0 : l0_0.length ≤ c0_0) (hr0_1 : Kd.C k39 w A0_1 l0_1.length l0_1) (hc0_1 : l0_1.length ≤ c0_1) (h : linker_Check.f k l0_0 l0_1 a0_2 a0_3 = some r) :
  Calls Try.prog 13 #[.agg #[.slice A0_0 l0_0.length c0_0, .slice A0_1 l0_1.length c0_1, .int .i64 a0_2, .int .i64 a0_3]] w fun e w' => e = .returned (.int .i64 r) ∧ Below w.heap.size w w' := by
 have hu25 := Try.underlying25
 have hu39 := Try.underlying39
 have HR0_0 := Aside0.mk hr0_0
 have HC0_0 := Aside0.mk hc0_0
 clear hr0_0 hc0_0
 have HR0_1 := Aside0.mk hr0_1
 have HC0_1 := Aside0.mk hc0_1
 clear hr0_1 hc0_1
 have HB := Aside0.mk (Below.refl w.heap.size w)
 have H : (if (l0_0.length : Int) ≤ 4096 then (if (l0_1.length : Int) ≤ 8 then ((linker_in.f a0_2 64).bind fun t139 => (if t139 = true then ((linker_in.f a0_3 4).bind fun t140 => (linker_Check.j0 k t140 l0_0 l0_1 a0_2 a0_3)) else (linker_Check.j0 k false l0_0 l0_1 a0_2 a0_3))) else (linker_Check.j0 k false l0_0 l0_1 a0_2 a0_3)) else (linker_Check.j0 k false l0_0 l0_1 a0_2 a0_3)) = some r := h
 clear h
 have HC2 := Aside0.mk H
 clear H
 go_enter Try.func13, Try.ntmps13
 go_upto_region 1 with (first | ((with_reducible refine gate_dst (N := 1) rfl ?_); (try (refine gate_guard (by rfl) ?_; dsimp only)); refine box_event ?hg (N := 1) ?hd (cs := #[.slice A0_0 l0_0.length c0_0, .slice A0_1 l0_1.length c0_1, .int .i64 a0_2, .int .i64 a0_3]) (t := 25) ?hr ?_; (case hd => rfl); (case hg => rfl); (case hr => first | (go_simp; done) | (go_simp; rfl)); intro gb138 hg w3 hbox hb; have n0_ := Aside0.mk (below_step (tB0 HB.out) hb); have n1_ := Aside0.mk (hbox); have n2_ := Aside0.mk ((by rw [hg]; exact (below_size (tB0 HB.out)) : w.heap.size ≤ gb138)); have n3_ := Aside0.mk ((by rw [hg]; exact (below_size (tB0 HB.out)) : w.heap.size ≤ gb138)); clear HB; have HB := n0_; have BK138 := n1_; have GW138 := n2_; have GE138 := n3_; clear n0_ n1_ n2_ n3_; clear hb hbox hg))
 (try simp only [Act.put, pA, pB, pC])
 go_cut [3] (fun v3 wc => ∃ (kq : Nat) (x3_1 : Bool), v3 = .bool x3_1 ∧ Aside0 (linker_Check.j0 kq x3_1 l0_0 l0_1 a0_2 a0_3 = some r) ∧ Aside0 (kq ≤ k) ∧ Aside0 (wc.heap[gb138]? = some (.cells #[(.slice A0_0 l0_0.length c0_0), (.slice A0_1 l0_1.length c0_1), .int .i64 a0_2, .int .i64 a0_3] 25 (0, 0))) ∧ Aside0 (Below w.heap.size w wc))
 case first =>
  have H := HC2.out
  clear HC2
  by_cases c4 : (l0_0.length : Int) ≤ 4096
  ·rw [if_pos c4] at H
   have c4b0 : decide ((l0_0.length : Int) ≤ 4096) = true := decide_eq_true c4
   have c4b1 : decide (l0_0.length ≤ 4096) = true := decide_eq_true (by omega)
   clear c4
   (first | rw [c4b0] | (simp only [i64_w, i32_w]; rw [c4b0]) | skip)
   by_cases c5 : (l0_1.length : Int) ≤ 8
   ·rw [if_pos c5] at H
    have c5b0 : decide ((l0_1.length : Int) ≤ 8) = true := decide_eq_true c5
    have c5b1 : decide (l0_1.length ≤ 8) = true := decide_eq_true (by omega)
    clear c5
    replace H := Option.bind_eq_some_iff.mp H
    obtain ⟨t139, A60, H⟩ := H
    replace H : (if t139 = true then ((linker_in.f a0_3 4).bind fun t140 => (linker_Check.j0 k t140 l0_0 l0_1 a0_2 a0_3)) else (linker_Check.j0 k false l0_0 l0_1 a0_2 a0_3)) = some r := H
    have A6 := Aside0.mk A60
    clear A60
    by_cases c7 : t139 = true
    ·subst c7
     have H1 : ((linker_in.f a0_3 4).bind fun t140 => (linker_Check.j0 k t140 l0_0 l0_1 a0_2 a0_3)) = some r := by rw [if_pos rfl] at H; exact H
     clear H
     have H := H1
     clear H1
     replace H := Option.bind_eq_some_iff.mp H
     obtain ⟨t140, A80, H⟩ := H
     replace H : (linker_Check.j0 k t140 l0_0 l0_1 a0_2 a0_3) = some r := H
     have A8 := Aside0.mk A80
     clear A80
     have H' := Aside0.mk H
     clear H
     have hcz9_0 : w3.cell? ⟨gb138, 0, none⟩ = some (.slice A0_0 l0_0.length c0_0) := (blk_cell BK138.out 0).trans rfl
     have hcz9_1 : w3.cell? ⟨gb138, 1, none⟩ = some (.slice A0_1 l0_1.length c0_1) := (blk_cell BK138.out 1).trans rfl
     have hcz9_2 : w3.cell? ⟨gb138, 2, none⟩ = some (.int .i64 a0_2) := (blk_cell BK138.out 2).trans rfl
     have hcz9_3 : w3.cell? ⟨gb138, 3, none⟩ = some (.int .i64 a0_3) := (blk_cell BK138.out 3).trans rfl
     have hfz9_0 := blk_frozen BK138.out 0
     have hfz9_1 := blk_frozen BK138.out 1
     have hfz9_2 := blk_frozen BK138.out 2
     have hfz9_3 := blk_frozen BK138.out 3
     go_wp2_with (first | (go_at_call 40; (with_reducible refine (linker_in.calls a0_2 64 true _ A6.out).mono ?_); rintro e w' ⟨rfl, ⟨nd, rfl⟩⟩) | (go_at_call 40; (with_reducible refine (linker_in.calls a0_3 4 t140 _ A8.out).mono ?_); rintro e w' ⟨rfl, ⟨nd, rfl⟩⟩))
     go_meet
     case rel => exact ⟨_, (t140), (by first | rfl | (simp; done) | (simp [*]; done)), H', ⟨by first | omega | exact Nat.le_refl _⟩, ⟨tK BK138.out⟩, ⟨tB1 HB.out GE138.out⟩⟩
    ·replace c7 := Bool.eq_false_iff.mpr c7
     subst c7
     have H1 : (linker_Check.j0 k false l0_0 l0_1 a0_2 a0_3) = some r := by rw [if_neg (show ¬ (false = true) by decide)] at H; exact H
     clear H
     have H := H1
     clear H1
     have H' := Aside0.mk H
     clear H
     have hcz10_0 : w3.cell? ⟨gb138, 0, none⟩ = some (.slice A0_0 l0_0.length c0_0) := (blk_cell BK138.out 0).trans rfl
     have hcz10_1 : w3.cell? ⟨gb138, 1, none⟩ = some (.slice A0_1 l0_1.length c0_1) := (blk_cell BK138.out 1).trans rfl
     have hcz10_2 : w3.cell? ⟨gb138, 2, none⟩ = some (.int .i64 a0_2) := (blk_cell BK138.out 2).trans rfl
     have hcz10_3 : w3.cell? ⟨gb138, 3, none⟩ = some (.int .i64 a0_3) := (blk_cell BK138.out 3).trans rfl
     have hfz10_0 := blk_frozen BK138.out 0
     have hfz10_1 := blk_frozen BK138.out 1
     have hfz10_2 := blk_frozen BK138.out 2
     have hfz10_3 := blk_frozen BK138.out 3
     go_wp2_with (first | (go_at_call 40; (with_reducible refine (linker_in.calls a0_2 64 false _ A6.out).mono ?_); rintro e w' ⟨rfl, ⟨nd, rfl⟩⟩))
     go_meet
     case rel => exact ⟨_, (false), (by first | rfl | (simp; done) | (simp [*]; done)), H', ⟨by first | omega | exact Nat.le_refl _⟩, ⟨tK BK138.out⟩, ⟨tB1 HB.out GE138.out⟩⟩
   ·rw [if_neg c5] at H
    have c5b0 : decide ((l0_1.length : Int) ≤ 8) = false := decide_eq_false c5
    have c5b1 : decide (l0_1.length ≤ 8) = false := decide_eq_false (by omega)
    clear c5
    have H' := Aside0.mk H
    clear H
    have hcz11_0 : w3.cell? ⟨gb138, 0, none⟩ = some (.slice A0_0 l0_0.length c0_0) := (blk_cell BK138.out 0).trans rfl
    have hcz11_1 : w3.cell? ⟨gb138, 1, none⟩ = some (.slice A0_1 l0_1.length c0_1) := (blk_cell BK138.out 1).trans rfl
    have hcz11_2 : w3.cell? ⟨gb138, 2, none⟩ = some (.int .i64 a0_2) := (blk_cell BK138.out 2).trans rfl
    have hcz11_3 : w3.cell? ⟨gb138, 3, none⟩ = some (.int .i64 a0_3) := (blk_cell BK138.out 3).trans rfl
    have hfz11_0 := blk_frozen BK138.out 0
    have hfz11_1 := blk_frozen BK138.out 1
    have hfz11_2 := blk_frozen BK138.out 2
    have hfz11_3 := blk_frozen BK138.out 3
    go_wp2
    go_meet
    case rel => exact ⟨_, (false), (by first | rfl | (simp; done) | (simp [*]; done)), H', ⟨by first | omega | exact Nat.le_refl _⟩, ⟨tK BK138.out⟩, ⟨tB1 HB.out GE138.out⟩⟩
  ·rw [if_neg c4] at H
   have c4b0 : decide ((l0_0.length : Int) ≤ 4096) = false := decide_eq_false c4
   have c4b1 : decide (l0_0.length ≤ 4096) = false := decide_eq_false (by omega)
   clear c4
   (first | rw [c4b0] | (simp only [i64_w, i32_w]; rw [c4b0]) | skip)
   have H' := Aside0.mk H
   clear H
   have hcz12_0 : w3.cell? ⟨gb138, 0, none⟩ = some (.slice A0_0 l0_0.length c0_0) := (blk_cell BK138.out 0).trans rfl
   have hcz12_1 : w3.cell? ⟨gb138, 1, none⟩ = some (.slice A0_1 l0_1.length c0_1) := (blk_cell BK138.out 1).trans rfl
   have hcz12_2 : w3.cell? ⟨gb138, 2, none⟩ = some (.int .i64 a0_2) := (blk_cell BK138.out 2).trans rfl
   have hcz12_3 : w3.cell? ⟨gb138, 3, none⟩ = some (.int .i64 a0_3) := (blk_cell BK138.out 3).trans rfl
   have hfz12_0 := blk_frozen BK138.out 0
   have hfz12_1 := blk_frozen BK138.out 1
   have hfz12_2 := blk_frozen BK138.out 2
   have hfz12_3 := blk_frozen BK138.out 3
   go_wp2
   go_meet
   case rel => exact ⟨_, (false), (by first | rfl | (simp; done) | (simp [*]; done)), H', ⟨by first | omega | exact Nat.le_refl _⟩, ⟨tK BK138.out⟩, ⟨tB1 HB.out GE138.out⟩⟩
 case rest =>
  clear HC2
  (try clear c1);(try clear p2);(try clear c4);(try clear c4b0);(try clear c4b1);(try clear c5);(try clear c5b0);(try clear c5b1);(try clear c7);(try clear hcz10_0);(try clear hcz10_1);(try clear hcz10_2);(try clear hcz10_3);(try clear hcz11_0);(try clear hcz11_1);(try clear hcz11_2);(try clear hcz11_3);(try clear hcz12_0);(try clear hcz12_1);(try clear hcz12_2);(try clear hcz12_3);(try clear hcz9_0);(try clear hcz9_1);(try clear hcz9_2);(try clear hcz9_3);(try clear hfz10_0);(try clear hfz10_1);(try clear hfz10_2);(try clear hfz10_3);(try clear hfz11_0);(try clear hfz11_1);(try clear hfz11_2);(try clear hfz11_3);(try clear hfz12_0);(try clear hfz12_1);(try clear hfz12_2);(try clear hfz12_3);(try clear hfz9_0);(try clear hfz9_1);(try clear hfz9_2);(try clear hfz9_3)
  obtain ⟨kq, x3_1, rfl, HA, HJ1, BK138, HB⟩ := hcut
  cases kq with
  | zero => exact absurd HA.out (by simp [linker_Check.j0])
  | succ kj1 =>
   have H := HA.out
   clear HA
   simp only [linker_Check.j0] at H
   have H' := Aside0.mk H
   clear H
   have hcz13_0 : wc.cell? ⟨gb138, 0, none⟩ = some (.slice A0_0 l0_0.length c0_0) := (blk_cell BK138.out 0).trans rfl
   have hcz13_1 : wc.cell? ⟨gb138, 1, none⟩ = some (.slice A0_1 l0_1.length c0_1) := (blk_cell BK138.out 1).trans rfl
   have hcz13_2 : wc.cell? ⟨gb138, 2, none⟩ = some (.int .i64 a0_2) := (blk_cell BK138.out 2).trans rfl
   have hcz13_3 : wc.cell? ⟨gb138, 3, none⟩ = some (.int .i64 a0_3) := (blk_cell BK138.out 3).trans rfl
   have hfz13_0 := blk_frozen BK138.out 0
   have hfz13_1 := blk_frozen BK138.out 1
   have hfz13_2 := blk_frozen BK138.out 2
   have hfz13_3 := blk_frozen BK138.out 3
   go_wp2
   go_loopg [3, 38] kj1 (fun kq v3 v38 w' => ∃ (x3_2 : Bool) (x38_2 : Int), v3 = .bool x3_2 ∧ v38 = .int .i64 x38_2 ∧ Aside0 (linker_Check.l0 kq x3_2 l0_1 (l0_1.length : Int) x38_2 l0_0 l0_1 a0_2 a0_3 = some r) ∧ Aside0 (kq ≤ kj1) ∧ Aside0 (w'.heap[gb138]? = some (.cells #[(.slice A0_0 l0_0.length c0_0), (.slice A0_1 l0_1.length c0_1), .int .i64 a0_2, .int .i64 a0_3] 25 (0, 0))) ∧ Aside0 (Below w.heap.size w w'))
   case atStart => exact ⟨(x3_1), (0), (by first | rfl | (simp; done) | (simp [*]; done)), (by first | rfl | (simp; done) | (simp [*]; done)), H', ⟨Nat.le_refl _⟩, ⟨tK BK138.out⟩, ⟨tB1 HB.out GE138.out⟩⟩
   case round =>
    clear H'
    (try clear c1);(try clear p2);(try clear c4);(try clear c4b0);(try clear c4b1);(try clear c5);(try clear c5b0);(try clear c5b1);(try clear c7);(try clear c13);(try clear hcz10_0);(try clear hcz10_1);(try clear hcz10_2);(try clear hcz10_3);(try clear hcz11_0);(try clear hcz11_1);(try clear hcz11_2);(try clear hcz11_3);(try clear hcz12_0);(try clear hcz12_1);(try clear hcz12_2);(try clear hcz12_3);(try clear hcz13_0);(try clear hcz13_1);(try clear hcz13_2);(try clear hcz13_3);(try clear hcz9_0);(try clear hcz9_1);(try clear hcz9_2);(try clear hcz9_3);(try clear hfz10_0);(try clear hfz10_1);(try clear hfz10_2);(try clear hfz10_3);(try clear hfz11_0);(try clear hfz11_1);(try clear hfz11_2);(try clear hfz11_3);(try clear hfz12_0);(try clear hfz12_1);(try clear hfz12_2);(try clear hfz12_3);(try clear hfz13_0);(try clear hfz13_1);(try clear hfz13_2);(try clear hfz13_3);(try clear hfz9_0);(try clear hfz9_1);(try clear hfz9_2);(try clear hfz9_3);(try clear p2)
    obtain ⟨x3_2, x38_2, rfl, rfl, HA, HK2, BK138, HB⟩ := hrel
    cases gk with
    | zero => exact absurd HA.out (by simp [linker_Check.l0])
    | succ k2 =>
     have H := HA.out
     clear HA
     simp only [linker_Check.l0] at H
     by_cases c14 : x38_2 < (l0_1.length : Int)
     ·rw [if_pos c14] at H
      have c14b0 : decide (x38_2 < (l0_1.length : Int)) = true := decide_eq_true c14
      clear c14
      by_cases c15 : 0 ≤ x38_2
      rotate_left
      ·rw [if_neg c15] at H
       exact absurd H (by simp)
      rw [if_pos c15] at H
      have c15b0 : decide (0 ≤ x38_2) = true := decide_eq_true c15
      clear c15
      by_cases c16 : x38_2 < (l0_1.length : Int)
      rotate_left
      ·rw [if_neg c16] at H
       exact absurd H (by simp)
      rw [if_pos c16] at H
      have c16b0 : decide (x38_2 < (l0_1.length : Int)) = true := decide_eq_true c16
      clear c16
      by_cases c17 : x3_2 = true
      ·subst c17
       have H1 : ((linker_in.f ((rd_T39 l0_1 x38_2).f3) 512).bind fun t143 => (linker_Check.l0 k2 t143 l0_1 (l0_1.length : Int) (wrap64 (x38_2 + 1)) l0_0 l0_1 a0_2 a0_3)) = some r := by rw [if_pos rfl] at H; exact H
       clear H
       have H := H1
       clear H1
       replace H := Option.bind_eq_some_iff.mp H
       obtain ⟨t143, A180, H⟩ := H
       replace H : (linker_Check.l0 k2 t143 l0_1 (l0_1.length : Int) (wrap64 (x38_2 + 1)) l0_0 l0_1 a0_2 a0_3) = some r := H
       have A18 := Aside0.mk A180
       clear A180
       have H' := Aside0.mk H
       clear H
       have p141 : 0 ≤ (x38_2 : Int) := tD
       have q141 : x38_2 < (l0_1.length : Int) := tD
       obtain ⟨ad141, e141, hx141_0, hx141_1, hx141_2, hx141_3⟩ := at_T39 HR0_1.out x38_2 p141 q141
       cases e141
       replace hx141_0 := (HB.out.cell (World.block_lt_of_cell? w _ hx141_0)).trans hx141_0
       replace hx141_1 := (HB.out.cell (World.block_lt_of_cell? w _ hx141_1)).trans hx141_1
       replace hx141_2 := (HB.out.cell (World.block_lt_of_cell? w _ hx141_2)).trans hx141_2
       replace hx141_3 := (HB.out.cell (World.block_lt_of_cell? w _ hx141_3)).trans hx141_3
       replace p141 := eq_true p141
       replace q141 := eq_true q141
       go_wp2_with (first | ((with_reducible refine gate_dst (N := 5) rfl ?_); (try (refine gate_guard (by rfl) ?_; dsimp only)); refine box_event ?hg (N := 5) ?hd (cs := #[.string (⟨#[]⟩ : ByteArray), .int .i64 0, .int .i64 0, .int .i64 0]) (t := 39) ?hr ?_; (case hd => rfl); (case hg => rfl); (case hr => first | (go_simp; done) | (go_simp; rfl)); intro gb142 hg w19 hbox hb; have n0_ := Aside0.mk (blk_below (g := gb138) (o := .cells #[.slice A0_0 l0_0.length c0_0, .slice (some ad141) l0_1.length c0_1, .int .i64 a0_2, .int .i64 a0_3] 25 (0, 0)) (tK BK138.out) hb); have n1_ := Aside0.mk (below_step (tB1 HB.out GE138.out) hb); have n2_ := Aside0.mk (hbox); have n3_ := Aside0.mk ((by rw [hg]; exact (below_size (tB1 HB.out GE138.out)) : w.heap.size ≤ gb142)); have n4_ := Aside0.mk ((by rw [hg]; exact (below_size (tB1 HB.out GE138.out)) : w.heap.size ≤ gb142)); have n5_ := Aside0.mk ((by rw [hg]; exact Nat.ne_of_lt (blk_lt (g := gb138) (o := .cells #[.slice A0_0 l0_0.length c0_0, .slice (some ad141) l0_1.length c0_1, .int .i64 a0_2, .int .i64 a0_3] 25 (0, 0)) (tK BK138.out)) : gb138 ≠ gb142)); have n6_ := Aside0.mk ((by rw [hg]; exact Nat.ne_of_gt (blk_lt (g := gb138) (o := .cells #[.slice A0_0 l0_0.length c0_0, .slice (some ad141) l0_1.length c0_1, .int .i64 a0_2, .int .i64 a0_3] 25 (0, 0)) (tK BK138.out)) : gb142 ≠ gb138)); clear BK138; clear HB; have BK138 := n0_; have HB := n1_; have BK142 := n2_; have GW142 := n3_; have GE142 := n4_; have NB138_142 := n5_; have NB142_138 := n6_; clear n0_ n1_ n2_ n3_ n4_ n5_ n6_; clear hb hbox hg; have hnb20 := NB142_138.out; have hnc20 := NB138_142.out; have hcz21_0 : w19.cell? ⟨gb142, 0, none⟩ = some (.string (⟨#[]⟩ : ByteArray)) := (blk_cell BK142.out 0).trans rfl; have hcz21_1 : w19.cell? ⟨gb142, 1, none⟩ = some (.int .i64 0) := (blk_cell BK142.out 1).trans rfl; have hcz21_2 : w19.cell? ⟨gb142, 2, none⟩ = some (.int .i64 0) := (blk_cell BK142.out 2).trans rfl; have hcz21_3 : w19.cell? ⟨gb142, 3, none⟩ = some (.int .i64 0) := (blk_cell BK142.out 3).trans rfl; have hfz21_0 := blk_frozen BK142.out 0; have hfz21_1 := blk_frozen BK142.out 1; have hfz21_2 := blk_frozen BK142.out 2; have hfz21_3 := blk_frozen BK142.out 3) | (go_at_call 40; (with_reducible refine (linker_in.calls ((rd_T39 l0_1 x38_2).f3) 512 t143 _ A18.out).mono ?_); rintro e w' ⟨rfl, ⟨nd, rfl⟩⟩))
       go_roundg k2
       case measure => have := HJ1.out; have := HK2.out; omega
       case rel => exact ⟨(t143), (wrap64 (x38_2 + 1)), (by first | rfl | (simp; done) | (simp [*]; done)), (by first | rfl | (simp; done) | (simp [*]; done)), H', ⟨by have := HJ1.out; have := HK2.out; omega⟩, ⟨by (with_reducible repeat (first | refine blk_drewN ?_ _ | refine blk_drew ?_ | refine blk_alloc ?_ _)); refine blk_far ?_ NB138_142.out _; (with_reducible repeat (first | refine blk_drewN ?_ _ | refine blk_drew ?_ | refine blk_alloc ?_ _)); refine blk_far ?_ NB138_142.out _; (with_reducible repeat (first | refine blk_drewN ?_ _ | refine blk_drew ?_ | refine blk_alloc ?_ _)); refine blk_far ?_ NB138_142.out _; (with_reducible repeat (first | refine blk_drewN ?_ _ | refine blk_drew ?_ | refine blk_alloc ?_ _)); refine blk_far ?_ NB138_142.out _; (with_reducible repeat (first | refine blk_drewN ?_ _ | refine blk_drew ?_ | refine blk_alloc ?_ _)); exact BK138.out⟩, ⟨tB2 HB.out GE138.out GE142.out⟩⟩
      ·replace c17 := Bool.eq_false_iff.mpr c17
       subst c17
       have H1 : (linker_Check.l0 k2 false l0_1 (l0_1.length : Int) (wrap64 (x38_2 + 1)) l0_0 l0_1 a0_2 a0_3) = some r := by rw [if_neg (show ¬ (false = true) by decide)] at H; exact H
       clear H
       have H := H1
       clear H1
       have H' := Aside0.mk H
       clear H
       have p141 : 0 ≤ (x38_2 : Int) := tD
       have q141 : x38_2 < (l0_1.length : Int) := tD
       obtain ⟨ad141, e141, hx141_0, hx141_1, hx141_2, hx141_3⟩ := at_T39 HR0_1.out x38_2 p141 q141
       cases e141
       replace hx141_0 := (HB.out.cell (World.block_lt_of_cell? w _ hx141_0)).trans hx141_0
       replace hx141_1 := (HB.out.cell (World.block_lt_of_cell? w _ hx141_1)).trans hx141_1
       replace hx141_2 := (HB.out.cell (World.block_lt_of_cell? w _ hx141_2)).trans hx141_2
       replace hx141_3 := (HB.out.cell (World.block_lt_of_cell? w _ hx141_3)).trans hx141_3
       replace p141 := eq_true p141
       replace q141 := eq_true q141
       go_wp2_with (first | ((with_reducible refine gate_dst (N := 5) rfl ?_); (try (refine gate_guard (by rfl) ?_; dsimp only)); refine box_event ?hg (N := 5) ?hd (cs := #[.string (⟨#[]⟩ : ByteArray), .int .i64 0, .int .i64 0, .int .i64 0]) (t := 39) ?hr ?_; (case hd => rfl); (case hg => rfl); (case hr => first | (go_simp; done) | (go_simp; rfl)); intro gb142 hg w22 hbox hb; have n0_ := Aside0.mk (blk_below (g := gb138) (o := .cells #[.slice A0_0 l0_0.length c0_0, .slice (some ad141) l0_1.length c0_1, .int .i64 a0_2, .int .i64 a0_3] 25 (0, 0)) (tK BK138.out) hb); have n1_ := Aside0.mk (below_step (tB1 HB.out GE138.out) hb); have n2_ := Aside0.mk (hbox); have n3_ := Aside0.mk ((by rw [hg]; exact (below_size (tB1 HB.out GE138.out)) : w.heap.size ≤ gb142)); have n4_ := Aside0.mk ((by rw [hg]; exact (below_size (tB1 HB.out GE138.out)) : w.heap.size ≤ gb142)); have n5_ := Aside0.mk ((by rw [hg]; exact Nat.ne_of_lt (blk_lt (g := gb138) (o := .cells #[.slice A0_0 l0_0.length c0_0, .slice (some ad141) l0_1.length c0_1, .int .i64 a0_2, .int .i64 a0_3] 25 (0, 0)) (tK BK138.out)) : gb138 ≠ gb142)); have n6_ := Aside0.mk ((by rw [hg]; exact Nat.ne_of_gt (blk_lt (g := gb138) (o := .cells #[.slice A0_0 l0_0.length c0_0, .slice (some ad141) l0_1.length c0_1, .int .i64 a0_2, .int .i64 a0_3] 25 (0, 0)) (tK BK138.out)) : gb142 ≠ gb138)); clear BK138; clear HB; have BK138 := n0_; have HB := n1_; have BK142 := n2_; have GW142 := n3_; have GE142 := n4_; have NB138_142 := n5_; have NB142_138 := n6_; clear n0_ n1_ n2_ n3_ n4_ n5_ n6_; clear hb hbox hg; have hnb23 := NB142_138.out; have hnc23 := NB138_142.out; have hcz24_0 : w22.cell? ⟨gb142, 0, none⟩ = some (.string (⟨#[]⟩ : ByteArray)) := (blk_cell BK142.out 0).trans rfl; have hcz24_1 : w22.cell? ⟨gb142, 1, none⟩ = some (.int .i64 0) := (blk_cell BK142.out 1).trans rfl; have hcz24_2 : w22.cell? ⟨gb142, 2, none⟩ = some (.int .i64 0) := (blk_cell BK142.out 2).trans rfl; have hcz24_3 : w22.cell? ⟨gb142, 3, none⟩ = some (.int .i64 0) := (blk_cell BK142.out 3).trans rfl; have hfz24_0 := blk_frozen BK142.out 0; have hfz24_1 := blk_frozen BK142.out 1; have hfz24_2 := blk_frozen BK142.out 2; have hfz24_3 := blk_frozen BK142.out 3))
       go_roundg k2
       case measure => have := HJ1.out; have := HK2.out; omega
       case rel => exact ⟨(false), (wrap64 (x38_2 + 1)), (by first | rfl | (simp; done) | (simp [*]; done)), (by first | rfl | (simp; done) | (simp [*]; done)), H', ⟨by have := HJ1.out; have := HK2.out; omega⟩, ⟨by (with_reducible repeat (first | refine blk_drewN ?_ _ | refine blk_drew ?_ | refine blk_alloc ?_ _)); refine blk_far ?_ NB138_142.out _; (with_reducible repeat (first | refine blk_drewN ?_ _ | refine blk_drew ?_ | refine blk_alloc ?_ _)); refine blk_far ?_ NB138_142.out _; (with_reducible repeat (first | refine blk_drewN ?_ _ | refine blk_drew ?_ | refine blk_alloc ?_ _)); refine blk_far ?_ NB138_142.out _; (with_reducible repeat (first | refine blk_drewN ?_ _ | refine blk_drew ?_ | refine blk_alloc ?_ _)); refine blk_far ?_ NB138_142.out _; (with_reducible repeat (first | refine blk_drewN ?_ _ | refine blk_drew ?_ | refine blk_alloc ?_ _)); exact BK138.out⟩, ⟨tB2 HB.out GE138.out GE142.out⟩⟩
     ·rw [if_neg c14] at H
      have c14b0 : decide (x38_2 < (l0_1.length : Int)) = false := decide_eq_false c14
      clear c14
      by_cases c25 : x3_2 = true
      rotate_left
      ·replace c25 := Bool.eq_false_iff.mpr c25
       subst c25
       have H1 : (some 2) = some r := by rw [if_neg (show ¬ (false = true) by decide)] at H; exact H
       clear H
       have H := H1
       clear H1
       obtain rfl := Option.some.inj H
       go_wp2
       go_ret
       exact ⟨by first | rfl | (simp [errW_none, errW_some] <;> rfl) | (simp [*, errW_none, errW_some] <;> rfl), by repeat (first | (with_reducible first | exact HB.out | apply below_alloc | apply pw_below_drewN | apply below_drew1 | refine below_set ?_ GE138.out) | exact HB.out)⟩
      subst c25
      have H1 : (linker_Check.l1 k2 l0_1 (l0_1.length : Int) 0 l0_0 l0_1 a0_2 a0_3) = some r := by rw [if_pos rfl] at H; exact H
      clear H
      have H := H1
      clear H1
      have H' := Aside0.mk H
      clear H
      have hcz26_0 : wr.cell? ⟨gb138, 0, none⟩ = some (.slice A0_0 l0_0.length c0_0) := (blk_cell BK138.out 0).trans rfl
      have hcz26_1 : wr.cell? ⟨gb138, 1, none⟩ = some (.slice A0_1 l0_1.length c0_1) := (blk_cell BK138.out 1).trans rfl
      have hcz26_2 : wr.cell? ⟨gb138, 2, none⟩ = some (.int .i64 a0_2) := (blk_cell BK138.out 2).trans rfl
      have hcz26_3 : wr.cell? ⟨gb138, 3, none⟩ = some (.int .i64 a0_3) := (blk_cell BK138.out 3).trans rfl
      have hfz26_0 := blk_frozen BK138.out 0
      have hfz26_1 := blk_frozen BK138.out 1
      have hfz26_2 := blk_frozen BK138.out 2
      have hfz26_3 := blk_frozen BK138.out 3
      go_wp2
      go_loopg [54] k2 (fun kq v54 w' => ∃ (x54_3 : Int), v54 = .int .i64 x54_3 ∧ Aside0 (linker_Check.l1 kq l0_1 (l0_1.length : Int) x54_3 l0_0 l0_1 a0_2 a0_3 = some r) ∧ Aside0 (kq ≤ k2) ∧ Aside0 (w'.heap[gb138]? = some (.cells #[(.slice A0_0 l0_0.length c0_0), (.slice A0_1 l0_1.length c0_1), .int .i64 a0_2, .int .i64 a0_3] 25 (0, 0))) ∧ Aside0 (Below w.heap.size w w'))
      case atStart => exact ⟨(0), (by first | rfl | (simp; done) | (simp [*]; done)), H', ⟨Nat.le_refl _⟩, ⟨tK BK138.out⟩, ⟨tB1 HB.out GE138.out⟩⟩
      case round =>
       clear H'
       (try clear c1);(try clear p1);(try clear q1);(try clear hx1);(try clear c2);(try clear p2);(try clear c4);(try clear c4b0);(try clear c4b1);(try clear c5);(try clear c5b0);(try clear c5b1);(try clear p6);(try clear c7);(try clear c13);(try clear c14);(try clear c14b0);(try clear p14);(try clear q14);(try clear hx14);(try clear c15);(try clear c15b0);(try clear c16);(try clear c16b0);(try clear c17);(try clear c20);(try clear c23);(try clear c25);(try clear hcz10_0);(try clear hcz10_1);(try clear hcz10_2);(try clear hcz10_3);(try clear hcz11_0);(try clear hcz11_1);(try clear hcz11_2);(try clear hcz11_3);(try clear hcz12_0);(try clear hcz12_1);(try clear hcz12_2);(try clear hcz12_3);(try clear hcz13_0);(try clear hcz13_1);(try clear hcz13_2);(try clear hcz13_3);(try clear hcz21_0);(try clear hcz21_1);(try clear hcz21_2);(try clear hcz21_3);(try clear hcz24_0);(try clear hcz24_1);(try clear hcz24_2);(try clear hcz24_3);(try clear hcz26_0);(try clear hcz26_1);(try clear hcz26_2);(try clear hcz26_3);(try clear hcz9_0);(try clear hcz9_1);(try clear hcz9_2);(try clear hcz9_3);(try clear hfz10_0);(try clear hfz10_1);(try clear hfz10_2);(try clear hfz10_3);(try clear hfz11_0);(try clear hfz11_1);(try clear hfz11_2);(try clear hfz11_3);(try clear hfz12_0);(try clear hfz12_1);(try clear hfz12_2);(try clear hfz12_3);(try clear hfz13_0);(try clear hfz13_1);(try clear hfz13_2);(try clear hfz13_3);(try clear hfz21_0);(try clear hfz21_1);(try clear hfz21_2);(try clear hfz21_3);(try clear hfz24_0)
       (try clear hfz24_1);(try clear hfz24_2);(try clear hfz24_3);(try clear hfz26_0);(try clear hfz26_1);(try clear hfz26_2);(try clear hfz26_3);(try clear hfz9_0);(try clear hfz9_1);(try clear hfz9_2);(try clear hfz9_3);(try clear hx141_0);(try clear hx141_1);(try clear hx141_2);(try clear hx141_3);(try clear p141);(try clear p2);(try clear q141)
       obtain ⟨x54_3, rfl, HA, HK3, BK138, HB⟩ := hrel
       cases gk with
       | zero => exact absurd HA.out (by simp [linker_Check.l1])
       | succ k3 =>
        have H := HA.out
        clear HA
        simp only [linker_Check.l1] at H
        by_cases c27 : x54_3 < (l0_1.length : Int)
        ·rw [if_pos c27] at H
         have c27b0 : decide (x54_3 < (l0_1.length : Int)) = true := decide_eq_true c27
         clear c27
         by_cases c28 : 0 ≤ x54_3
         rotate_left
         ·rw [if_neg c28] at H
          exact absurd H (by simp)
         rw [if_pos c28] at H
         have c28b0 : decide (0 ≤ x54_3) = true := decide_eq_true c28
         clear c28
         by_cases c29 : x54_3 < (l0_1.length : Int)
         rotate_left
         ·rw [if_neg c29] at H
          exact absurd H (by simp)
         rw [if_pos c29] at H
         have c29b0 : decide (x54_3 < (l0_1.length : Int)) = true := decide_eq_true c29
         clear c29
         replace H := Option.bind_eq_some_iff.mp H
         obtain ⟨t146, A300, H⟩ := H
         replace H : (if t146 = true then (linker_Check.l1 k3 l0_1 (l0_1.length : Int) (wrap64 (x54_3 + 1)) l0_0 l0_1 a0_2 a0_3) else (some 6)) = some r := H
         have A30 := Aside0.mk A300
         clear A300
         by_cases c31 : t146 = true
         ·subst c31
          have H1 : (linker_Check.l1 k3 l0_1 (l0_1.length : Int) (wrap64 (x54_3 + 1)) l0_0 l0_1 a0_2 a0_3) = some r := by rw [if_pos rfl] at H; exact H
          clear H
          have H := H1
          clear H1
          have H' := Aside0.mk H
          clear H
          have p144 : 0 ≤ (x54_3 : Int) := tD
          have q144 : x54_3 < (l0_1.length : Int) := tD
          obtain ⟨ad144, e144, hx144_0, hx144_1, hx144_2, hx144_3⟩ := at_T39 HR0_1.out x54_3 p144 q144
          cases e144
          replace hx144_0 := (HB.out.cell (World.block_lt_of_cell? w _ hx144_0)).trans hx144_0
          replace hx144_1 := (HB.out.cell (World.block_lt_of_cell? w _ hx144_1)).trans hx144_1
          replace hx144_2 := (HB.out.cell (World.block_lt_of_cell? w _ hx144_2)).trans hx144_2
          replace hx144_3 := (HB.out.cell (World.block_lt_of_cell? w _ hx144_3)).trans hx144_3
          replace p144 := eq_true p144
          replace q144 := eq_true q144
          go_wp2_with (first | ((with_reducible refine gate_dst (N := 7) rfl ?_); (try (refine gate_guard (by rfl) ?_; dsimp only)); refine box_event ?hg (N := 7) ?hd (cs := #[.string (⟨#[]⟩ : ByteArray), .int .i64 0, .int .i64 0, .int .i64 0]) (t := 39) ?hr ?_; (case hd => rfl); (case hg => rfl); (case hr => first | (go_simp; done) | (go_simp; rfl)); intro gb145 hg w32 hbox hb; have n0_ := Aside0.mk (blk_below (g := gb138) (o := .cells #[.slice A0_0 l0_0.length c0_0, .slice (some ad144) l0_1.length c0_1, .int .i64 a0_2, .int .i64 a0_3] 25 (0, 0)) (tK BK138.out) hb); have n1_ := Aside0.mk (below_step (tB1 HB.out GE138.out) hb); have n2_ := Aside0.mk (hbox); have n3_ := Aside0.mk ((by rw [hg]; exact (below_size (tB1 HB.out GE138.out)) : w.heap.size ≤ gb145)); have n4_ := Aside0.mk ((by rw [hg]; exact (below_size (tB1 HB.out GE138.out)) : w.heap.size ≤ gb145)); have n5_ := Aside0.mk ((by rw [hg]; exact Nat.ne_of_lt (blk_lt (g := gb138) (o := .cells #[.slice A0_0 l0_0.length c0_0, .slice (some ad144) l0_1.length c0_1, .int .i64 a0_2, .int .i64 a0_3] 25 (0, 0)) (tK BK138.out)) : gb138 ≠ gb145)); have n6_ := Aside0.mk ((by rw [hg]; exact Nat.ne_of_gt (blk_lt (g := gb138) (o := .cells #[.slice A0_0 l0_0.length c0_0, .slice (some ad144) l0_1.length c0_1, .int .i64 a0_2, .int .i64 a0_3] 25 (0, 0)) (tK BK138.out)) : gb145 ≠ gb138)); clear BK138; clear HB; have BK138 := n0_; have HB := n1_; have BK145 := n2_; have GW145 := n3_; have GE145 := n4_; have NB138_145 := n5_; have NB145_138 := n6_; clear n0_ n1_ n2_ n3_ n4_ n5_ n6_; clear hb hbox hg; have hnb33 := NB145_138.out; have hnc33 := NB138_145.out; have hcz34_0 : w32.cell? ⟨gb145, 0, none⟩ = some (.string (⟨#[]⟩ : ByteArray)) := (blk_cell BK145.out 0).trans rfl; have hcz34_1 : w32.cell? ⟨gb145, 1, none⟩ = some (.int .i64 0) := (blk_cell BK145.out 1).trans rfl; have hcz34_2 : w32.cell? ⟨gb145, 2, none⟩ = some (.int .i64 0) := (blk_cell BK145.out 2).trans rfl; have hcz34_3 : w32.cell? ⟨gb145, 3, none⟩ = some (.int .i64 0) := (blk_cell BK145.out 3).trans rfl; have hfz34_0 := blk_frozen BK145.out 0; have hfz34_1 := blk_frozen BK145.out 1; have hfz34_2 := blk_frozen BK145.out 2; have hfz34_3 := blk_frozen BK145.out 3) | ((with_reducible refine gate_callee (f := 41) rfl ?_); refine goesL_ (some 60) rfl rfl Try.func41 (by kernel_rfl) rfl #[.string ((rd_T39 l0_1 x54_3).f0)] rfl tF ?_; (with_reducible refine (linker_named.calls ((rd_T39 l0_1 x54_3).f0) true _ A30.out).mono ?_); rintro e w' ⟨rfl, ⟨nd, rfl⟩⟩; refine ⟨_, rfl, ?_⟩))
          go_roundg k3
          case measure => have := HJ1.out; have := HK2.out; have := HK3.out; omega
          case rel => exact ⟨(wrap64 (x54_3 + 1)), (by first | rfl | (simp; done) | (simp [*]; done)), H', ⟨by have := HJ1.out; have := HK2.out; have := HK3.out; omega⟩, ⟨by (with_reducible repeat (first | refine blk_drewN ?_ _ | refine blk_drew ?_ | refine blk_alloc ?_ _)); refine blk_far ?_ NB138_145.out _; (with_reducible repeat (first | refine blk_drewN ?_ _ | refine blk_drew ?_ | refine blk_alloc ?_ _)); refine blk_far ?_ NB138_145.out _; (with_reducible repeat (first | refine blk_drewN ?_ _ | refine blk_drew ?_ | refine blk_alloc ?_ _)); refine blk_far ?_ NB138_145.out _; (with_reducible repeat (first | refine blk_drewN ?_ _ | refine blk_drew ?_ | refine blk_alloc ?_ _)); refine blk_far ?_ NB138_145.out _; (with_reducible repeat (first | refine blk_drewN ?_ _ | refine blk_drew ?_ | refine blk_alloc ?_ _)); exact BK138.out⟩, ⟨tB2 HB.out GE138.out GE145.out⟩⟩
         ·replace c31 := Bool.eq_false_iff.mpr c31
          subst c31
          have H1 : (some 6) = some r := by rw [if_neg (show ¬ (false = true) by decide)] at H; exact H
          clear H
          have H := H1
          clear H1
          obtain rfl := Option.some.inj H
          have p144 : 0 ≤ (x54_3 : Int) := tD
          have q144 : x54_3 < (l0_1.length : Int) := tD
          obtain ⟨ad144, e144, hx144_0, hx144_1, hx144_2, hx144_3⟩ := at_T39 HR0_1.out x54_3 p144 q144
          cases e144
          replace hx144_0 := (HB.out.cell (World.block_lt_of_cell? w _ hx144_0)).trans hx144_0
          replace hx144_1 := (HB.out.cell (World.block_lt_of_cell? w _ hx144_1)).trans hx144_1
          replace hx144_2 := (HB.out.cell (World.block_lt_of_cell? w _ hx144_2)).trans hx144_2
          replace hx144_3 := (HB.out.cell (World.block_lt_of_cell? w _ hx144_3)).trans hx144_3
          replace p144 := eq_true p144
          replace q144 := eq_true q144
          go_wp2_with (first | ((with_reducible refine gate_dst (N := 7) rfl ?_); (try (refine gate_guard (by rfl) ?_; dsimp only)); refine box_event ?hg (N := 7) ?hd (cs := #[.string (⟨#[]⟩ : ByteArray), .int .i64 0, .int .i64 0, .int .i64 0]) (t := 39) ?hr ?_; (case hd => rfl); (case hg => rfl); (case hr => first | (go_simp; done) | (go_simp; rfl)); intro gb145 hg w35 hbox hb; have n0_ := Aside0.mk (blk_below (g := gb138) (o := .cells #[.slice A0_0 l0_0.length c0_0, .slice (some ad144) l0_1.length c0_1, .int .i64 a0_2, .int .i64 a0_3] 25 (0, 0)) (tK BK138.out) hb); have n1_ := Aside0.mk (below_step (tB1 HB.out GE138.out) hb); have n2_ := Aside0.mk (hbox); have n3_ := Aside0.mk ((by rw [hg]; exact (below_size (tB1 HB.out GE138.out)) : w.heap.size ≤ gb145)); have n4_ := Aside0.mk ((by rw [hg]; exact (below_size (tB1 HB.out GE138.out)) : w.heap.size ≤ gb145)); have n5_ := Aside0.mk ((by rw [hg]; exact Nat.ne_of_lt (blk_lt (g := gb138) (o := .cells #[.slice A0_0 l0_0.length c0_0, .slice (some ad144) l0_1.length c0_1, .int .i64 a0_2, .int .i64 a0_3] 25 (0, 0)) (tK BK138.out)) : gb138 ≠ gb145)); have n6_ := Aside0.mk ((by rw [hg]; exact Nat.ne_of_gt (blk_lt (g := gb138) (o := .cells #[.slice A0_0 l0_0.length c0_0, .slice (some ad144) l0_1.length c0_1, .int .i64 a0_2, .int .i64 a0_3] 25 (0, 0)) (tK BK138.out)) : gb145 ≠ gb138)); clear BK138; clear HB; have BK138 := n0_; have HB := n1_; have BK145 := n2_; have GW145 := n3_; have GE145 := n4_; have NB138_145 := n5_; have NB145_138 := n6_; clear n0_ n1_ n2_ n3_ n4_ n5_ n6_; clear hb hbox hg; have hnb36 := NB145_138.out; have hnc36 := NB138_145.out; have hcz37_0 : w35.cell? ⟨gb145, 0, none⟩ = some (.string (⟨#[]⟩ : ByteArray)) := (blk_cell BK145.out 0).trans rfl; have hcz37_1 : w35.cell? ⟨gb145, 1, none⟩ = some (.int .i64 0) := (blk_cell BK145.out 1).trans rfl; have hcz37_2 : w35.cell? ⟨gb145, 2, none⟩ = some (.int .i64 0) := (blk_cell BK145.out 2).trans rfl; have hcz37_3 : w35.cell? ⟨gb145, 3, none⟩ = some (.int .i64 0) := (blk_cell BK145.out 3).trans rfl; have hfz37_0 := blk_frozen BK145.out 0; have hfz37_1 := blk_frozen BK145.out 1; have hfz37_2 := blk_frozen BK145.out 2; have hfz37_3 := blk_frozen BK145.out 3) | ((with_reducible refine gate_callee (f := 41) rfl ?_); refine goesL_ (some 60) rfl rfl Try.func41 (by kernel_rfl) rfl #[.string ((rd_T39 l0_1 x54_3).f0)] rfl tF ?_; (with_reducible refine (linker_named.calls ((rd_T39 l0_1 x54_3).f0) false _ A30.out).mono ?_); rintro e w' ⟨rfl, ⟨nd, rfl⟩⟩; refine ⟨_, rfl, ?_⟩))
          go_ret
          exact ⟨by first | rfl | (simp [errW_none, errW_some] <;> rfl) | (simp [*, errW_none, errW_some] <;> rfl), by repeat (first | (with_reducible first | exact HB.out | apply below_alloc | apply pw_below_drewN | apply below_drew1 | refine below_set ?_ GE138.out | refine below_set ?_ GE145.out) | exact HB.out)⟩
        ·rw [if_neg c27] at H
         have c27b0 : decide (x54_3 < (l0_1.length : Int)) = false := decide_eq_false c27
         clear c27
         have H' := Aside0.mk H
         clear H
         have hcz38_0 : wr.cell? ⟨gb138, 0, none⟩ = some (.slice A0_0 l0_0.length c0_0) := (blk_cell BK138.out 0).trans rfl
         have hcz38_1 : wr.cell? ⟨gb138, 1, none⟩ = some (.slice A0_1 l0_1.length c0_1) := (blk_cell BK138.out 1).trans rfl
         have hcz38_2 : wr.cell? ⟨gb138, 2, none⟩ = some (.int .i64 a0_2) := (blk_cell BK138.out 2).trans rfl
         have hcz38_3 : wr.cell? ⟨gb138, 3, none⟩ = some (.int .i64 a0_3) := (blk_cell BK138.out 3).trans rfl
         have hfz38_0 := blk_frozen BK138.out 0
         have hfz38_1 := blk_frozen BK138.out 1
         have hfz38_2 := blk_frozen BK138.out 2
         have hfz38_3 := blk_frozen BK138.out 3
         go_wp2
         go_loopg [8, 66] k3 (fun kq v8 v66 w' => ∃ (x8_4 : Int) (x66_4 : Int), v8 = .int .i64 x8_4 ∧ v66 = .int .i64 x66_4 ∧ Aside0 (linker_Check.l2 kq x8_4 l0_1 (l0_1.length : Int) x66_4 l0_0 l0_1 a0_2 a0_3 = some r) ∧ Aside0 (kq ≤ k3) ∧ Aside0 (w'.heap[gb138]? = some (.cells #[(.slice A0_0 l0_0.length c0_0), (.slice A0_1 l0_1.length c0_1), .int .i64 a0_2, .int .i64 a0_3] 25 (0, 0))) ∧ Aside0 (Below w.heap.size w w'))
         case atStart => exact ⟨(0), (0), (by first | rfl | (simp; done) | (simp [*]; done)), (by first | rfl | (simp; done) | (simp [*]; done)), H', ⟨Nat.le_refl _⟩, ⟨tK BK138.out⟩, ⟨tB1 HB.out GE138.out⟩⟩
         case round =>
          clear H'
          (try clear c1);(try clear p1);(try clear q1);(try clear hx1);(try clear c2);(try clear p2);(try clear c3);(try clear c4);(try clear c4b0);(try clear c4b1);(try clear c5);(try clear c5b0);(try clear c5b1);(try clear p6);(try clear c7);(try clear c13);(try clear c14);(try clear c14b0);(try clear p14);(try clear q14);(try clear hx14);(try clear c15);(try clear c15b0);(try clear c16);(try clear c16b0);(try clear c17);(try clear c20);(try clear c23);(try clear c25);(try clear c27);(try clear c27b0);(try clear c28);(try clear c28b0);(try clear c29);(try clear c29b0);(try clear c31);(try clear c33);(try clear c36);(try clear hcz10_0);(try clear hcz10_1);(try clear hcz10_2);(try clear hcz10_3);(try clear hcz11_0);(try clear hcz11_1);(try clear hcz11_2);(try clear hcz11_3);(try clear hcz12_0);(try clear hcz12_1);(try clear hcz12_2);(try clear hcz12_3);(try clear hcz13_0);(try clear hcz13_1);(try clear hcz13_2);(try clear hcz13_3);(try clear hcz21_0);(try clear hcz21_1);(try clear hcz21_2);(try clear hcz21_3);(try clear hcz24_0);(try clear hcz24_1);(try clear hcz24_2);(try clear hcz24_3);(try clear hcz26_0);(try clear hcz26_1);(try clear hcz26_2);(try clear hcz26_3);(try clear hcz34_0);(try clear hcz34_1);(try clear hcz34_2);(try clear hcz34_3);(try clear hcz37_0);(try clear hcz37_1);(try clear hcz37_2);(try clear hcz37_3);(try clear hcz38_0);(try clear hcz38_1);(try clear hcz38_2);(try clear hcz38_3);(try clear hcz9_0);(try clear hcz9_1);(try clear hcz9_2);(try clear hcz9_3)
          (try clear hfz10_0);(try clear hfz10_1);(try clear hfz10_2);(try clear hfz10_3);(try clear hfz11_0);(try clear hfz11_1);(try clear hfz11_2);(try clear hfz11_3);(try clear hfz12_0);(try clear hfz12_1);(try clear hfz12_2);(try clear hfz12_3);(try clear hfz13_0);(try clear hfz13_1);(try clear hfz13_2);(try clear hfz13_3);(try clear hfz21_0);(try clear hfz21_1);(try clear hfz21_2);(try clear hfz21_3);(try clear hfz24_0);(try clear hfz24_1);(try clear hfz24_2);(try clear hfz24_3);(try clear hfz26_0);(try clear hfz26_1);(try clear hfz26_2);(try clear hfz26_3);(try clear hfz34_0);(try clear hfz34_1);(try clear hfz34_2);(try clear hfz34_3);(try clear hfz37_0);(try clear hfz37_1);(try clear hfz37_2);(try clear hfz37_3);(try clear hfz38_0);(try clear hfz38_1);(try clear hfz38_2);(try clear hfz38_3);(try clear hfz9_0);(try clear hfz9_1);(try clear hfz9_2);(try clear hfz9_3);(try clear hx141_0);(try clear hx141_1);(try clear hx141_2);(try clear hx141_3);(try clear hx144_0);(try clear hx144_1);(try clear hx144_2);(try clear hx144_3);(try clear p1);(try clear p14);(try clear p141);(try clear p144);(try clear p2);(try clear p6);(try clear q1);(try clear q14);(try clear q141);(try clear q144)
          obtain ⟨x8_4, x66_4, rfl, rfl, HA, HK4, BK138, HB⟩ := hrel
          cases gk with
          | zero => exact absurd HA.out (by simp [linker_Check.l2])
          | succ k4 =>
           have H := HA.out
           clear HA
           simp only [linker_Check.l2] at H
           by_cases c39 : x66_4 < (l0_1.length : Int)
           ·rw [if_pos c39] at H
            have c39b0 : decide (x66_4 < (l0_1.length : Int)) = true := decide_eq_true c39
            clear c39
            by_cases c40 : 0 ≤ x66_4
            rotate_left
            ·rw [if_neg c40] at H
             exact absurd H (by simp)
            rw [if_pos c40] at H
            have c40b0 : decide (0 ≤ x66_4) = true := decide_eq_true c40
            clear c40
            by_cases c41 : x66_4 < (l0_1.length : Int)
            rotate_left
            ·rw [if_neg c41] at H
             exact absurd H (by simp)
            rw [if_pos c41] at H
            have c41b0 : decide (x66_4 < (l0_1.length : Int)) = true := decide_eq_true c41
            clear c41
            by_cases c42 : ((rd_T39 l0_1 x66_4).f1) = x8_4
            ·rw [if_pos c42] at H
             have c42b0 : (((rd_T39 l0_1 x66_4).f1) == x8_4) = true := beq_iff_eq.mpr c42
             have c42b1 : (((rd_T39 l0_1 x66_4).f1) != x8_4) = false := bne_eq_false_iff_eq.mpr c42
             clear c42
             by_cases c43 : ((rd_T39 l0_1 x66_4).f2) ≤ ((rd_T39 l0_1 x66_4).f1)
             ·rw [if_pos c43] at H
              have c43b0 : decide (((rd_T39 l0_1 x66_4).f2) ≤ ((rd_T39 l0_1 x66_4).f1)) = true := decide_eq_true c43
              clear c43
              obtain rfl := Option.some.inj H
              have p147 : 0 ≤ (x66_4 : Int) := tD
              have q147 : x66_4 < (l0_1.length : Int) := tD
              obtain ⟨ad147, e147, hx147_0, hx147_1, hx147_2, hx147_3⟩ := at_T39 HR0_1.out x66_4 p147 q147
              cases e147
              replace hx147_0 := (HB.out.cell (World.block_lt_of_cell? w _ hx147_0)).trans hx147_0
              replace hx147_1 := (HB.out.cell (World.block_lt_of_cell? w _ hx147_1)).trans hx147_1
              replace hx147_2 := (HB.out.cell (World.block_lt_of_cell? w _ hx147_2)).trans hx147_2
              replace hx147_3 := (HB.out.cell (World.block_lt_of_cell? w _ hx147_3)).trans hx147_3
              replace p147 := eq_true p147
              replace q147 := eq_true q147
              go_wp2_with (first | ((with_reducible refine gate_dst (N := 10) rfl ?_); (try (refine gate_guard (by rfl) ?_; dsimp only)); refine box_event ?hg (N := 10) ?hd (cs := #[.string (⟨#[]⟩ : ByteArray), .int .i64 0, .int .i64 0, .int .i64 0]) (t := 39) ?hr ?_; (case hd => rfl); (case hg => rfl); (case hr => first | (go_simp; done) | (go_simp; rfl)); intro gb148 hg w44 hbox hb; have n0_ := Aside0.mk (blk_below (g := gb138) (o := .cells #[.slice A0_0 l0_0.length c0_0, .slice (some ad147) l0_1.length c0_1, .int .i64 a0_2, .int .i64 a0_3] 25 (0, 0)) (tK BK138.out) hb); have n1_ := Aside0.mk (below_step (tB1 HB.out GE138.out) hb); have n2_ := Aside0.mk (hbox); have n3_ := Aside0.mk ((by rw [hg]; exact (below_size (tB1 HB.out GE138.out)) : w.heap.size ≤ gb148)); have n4_ := Aside0.mk ((by rw [hg]; exact (below_size (tB1 HB.out GE138.out)) : w.heap.size ≤ gb148)); have n5_ := Aside0.mk ((by rw [hg]; exact Nat.ne_of_lt (blk_lt (g := gb138) (o := .cells #[.slice A0_0 l0_0.length c0_0, .slice (some ad147) l0_1.length c0_1, .int .i64 a0_2, .int .i64 a0_3] 25 (0, 0)) (tK BK138.out)) : gb138 ≠ gb148)); have n6_ := Aside0.mk ((by rw [hg]; exact Nat.ne_of_gt (blk_lt (g := gb138) (o := .cells #[.slice A0_0 l0_0.length c0_0, .slice (some ad147) l0_1.length c0_1, .int .i64 a0_2, .int .i64 a0_3] 25 (0, 0)) (tK BK138.out)) : gb148 ≠ gb138)); clear BK138; clear HB; have BK138 := n0_; have HB := n1_; have BK148 := n2_; have GW148 := n3_; have GE148 := n4_; have NB138_148 := n5_; have NB148_138 := n6_; clear n0_ n1_ n2_ n3_ n4_ n5_ n6_; clear hb hbox hg; have hnb45 := NB148_138.out; have hnc45 := NB138_148.out; have hcz46_0 : w44.cell? ⟨gb148, 0, none⟩ = some (.string (⟨#[]⟩ : ByteArray)) := (blk_cell BK148.out 0).trans rfl; have hcz46_1 : w44.cell? ⟨gb148, 1, none⟩ = some (.int .i64 0) := (blk_cell BK148.out 1).trans rfl; have hcz46_2 : w44.cell? ⟨gb148, 2, none⟩ = some (.int .i64 0) := (blk_cell BK148.out 2).trans rfl; have hcz46_3 : w44.cell? ⟨gb148, 3, none⟩ = some (.int .i64 0) := (blk_cell BK148.out 3).trans rfl; have hfz46_0 := blk_frozen BK148.out 0; have hfz46_1 := blk_frozen BK148.out 1; have hfz46_2 := blk_frozen BK148.out 2; have hfz46_3 := blk_frozen BK148.out 3))
              go_ret
              exact ⟨by first | rfl | (simp [errW_none, errW_some] <;> rfl) | (simp [*, errW_none, errW_some] <;> rfl), by repeat (first | (with_reducible first | exact HB.out | apply below_alloc | apply pw_below_drewN | apply below_drew1 | refine below_set ?_ GE138.out | refine below_set ?_ GE148.out) | exact HB.out)⟩
             ·rw [if_neg c43] at H
              have c43b0 : decide (((rd_T39 l0_1 x66_4).f2) ≤ ((rd_T39 l0_1 x66_4).f1)) = false := decide_eq_false c43
              clear c43
              have H' := Aside0.mk H
              clear H
              have p147 : 0 ≤ (x66_4 : Int) := tD
              have q147 : x66_4 < (l0_1.length : Int) := tD
              obtain ⟨ad147, e147, hx147_0, hx147_1, hx147_2, hx147_3⟩ := at_T39 HR0_1.out x66_4 p147 q147
              cases e147
              replace hx147_0 := (HB.out.cell (World.block_lt_of_cell? w _ hx147_0)).trans hx147_0
              replace hx147_1 := (HB.out.cell (World.block_lt_of_cell? w _ hx147_1)).trans hx147_1
              replace hx147_2 := (HB.out.cell (World.block_lt_of_cell? w _ hx147_2)).trans hx147_2
              replace hx147_3 := (HB.out.cell (World.block_lt_of_cell? w _ hx147_3)).trans hx147_3
              replace p147 := eq_true p147
              replace q147 := eq_true q147
              go_wp2_with (first | ((with_reducible refine gate_dst (N := 10) rfl ?_); (try (refine gate_guard (by rfl) ?_; dsimp only)); refine box_event ?hg (N := 10) ?hd (cs := #[.string (⟨#[]⟩ : ByteArray), .int .i64 0, .int .i64 0, .int .i64 0]) (t := 39) ?hr ?_; (case hd => rfl); (case hg => rfl); (case hr => first | (go_simp; done) | (go_simp; rfl)); intro gb148 hg w47 hbox hb; have n0_ := Aside0.mk (blk_below (g := gb138) (o := .cells #[.slice A0_0 l0_0.length c0_0, .slice (some ad147) l0_1.length c0_1, .int .i64 a0_2, .int .i64 a0_3] 25 (0, 0)) (tK BK138.out) hb); have n1_ := Aside0.mk (below_step (tB1 HB.out GE138.out) hb); have n2_ := Aside0.mk (hbox); have n3_ := Aside0.mk ((by rw [hg]; exact (below_size (tB1 HB.out GE138.out)) : w.heap.size ≤ gb148)); have n4_ := Aside0.mk ((by rw [hg]; exact (below_size (tB1 HB.out GE138.out)) : w.heap.size ≤ gb148)); have n5_ := Aside0.mk ((by rw [hg]; exact Nat.ne_of_lt (blk_lt (g := gb138) (o := .cells #[.slice A0_0 l0_0.length c0_0, .slice (some ad147) l0_1.length c0_1, .int .i64 a0_2, .int .i64 a0_3] 25 (0, 0)) (tK BK138.out)) : gb138 ≠ gb148)); have n6_ := Aside0.mk ((by rw [hg]; exact Nat.ne_of_gt (blk_lt (g := gb138) (o := .cells #[.slice A0_0 l0_0.length c0_0, .slice (some ad147) l0_1.length c0_1, .int .i64 a0_2, .int .i64 a0_3] 25 (0, 0)) (tK BK138.out)) : gb148 ≠ gb138)); clear BK138; clear HB; have BK138 := n0_; have HB := n1_; have BK148 := n2_; have GW148 := n3_; have GE148 := n4_; have NB138_148 := n5_; have NB148_138 := n6_; clear n0_ n1_ n2_ n3_ n4_ n5_ n6_; clear hb hbox hg; have hnb48 := NB148_138.out; have hnc48 := NB138_148.out; have hcz49_0 : w47.cell? ⟨gb148, 0, none⟩ = some (.string (⟨#[]⟩ : ByteArray)) := (blk_cell BK148.out 0).trans rfl; have hcz49_1 : w47.cell? ⟨gb148, 1, none⟩ = some (.int .i64 0) := (blk_cell BK148.out 1).trans rfl; have hcz49_2 : w47.cell? ⟨gb148, 2, none⟩ = some (.int .i64 0) := (blk_cell BK148.out 2).trans rfl; have hcz49_3 : w47.cell? ⟨gb148, 3, none⟩ = some (.int .i64 0) := (blk_cell BK148.out 3).trans rfl; have hfz49_0 := blk_frozen BK148.out 0; have hfz49_1 := blk_frozen BK148.out 1; have hfz49_2 := blk_frozen BK148.out 2; have hfz49_3 := blk_frozen BK148.out 3))
              go_roundg k4
              case measure => have := HJ1.out; have := HK2.out; have := HK3.out; have := HK4.out; omega
              case rel => exact ⟨((rd_T39 l0_1 x66_4).f2), (wrap64 (x66_4 + 1)), (by first | rfl | (simp; done) | (simp [*]; done)), (by first | rfl | (simp; done) | (simp [*]; done)), H', ⟨by have := HJ1.out; have := HK2.out; have := HK3.out; have := HK4.out; omega⟩, ⟨by (with_reducible repeat (first | refine blk_drewN ?_ _ | refine blk_drew ?_ | refine blk_alloc ?_ _)); refine blk_far ?_ NB138_148.out _; (with_reducible repeat (first | refine blk_drewN ?_ _ | refine blk_drew ?_ | refine blk_alloc ?_ _)); refine blk_far ?_ NB138_148.out _; (with_reducible repeat (first | refine blk_drewN ?_ _ | refine blk_drew ?_ | refine blk_alloc ?_ _)); refine blk_far ?_ NB138_148.out _; (with_reducible repeat (first | refine blk_drewN ?_ _ | refine blk_drew ?_ | refine blk_alloc ?_ _)); refine blk_far ?_ NB138_148.out _; (with_reducible repeat (first | refine blk_drewN ?_ _ | refine blk_drew ?_ | refine blk_alloc ?_ _)); exact BK138.out⟩, ⟨tB2 HB.out GE138.out GE148.out⟩⟩
            ·rw [if_neg c42] at H
             have c42b0 : (((rd_T39 l0_1 x66_4).f1) == x8_4) = false := beq_eq_false_iff_ne.mpr c42
             have c42b1 : (((rd_T39 l0_1 x66_4).f1) != x8_4) = true := bne_iff_ne.mpr c42
             obtain rfl := Option.some.inj H
             have p147 : 0 ≤ (x66_4 : Int) := tD
             have q147 : x66_4 < (l0_1.length : Int) := tD
             obtain ⟨ad147, e147, hx147_0, hx147_1, hx147_2, hx147_3⟩ := at_T39 HR0_1.out x66_4 p147 q147
             cases e147
             replace hx147_0 := (HB.out.cell (World.block_lt_of_cell? w _ hx147_0)).trans hx147_0
             replace hx147_1 := (HB.out.cell (World.block_lt_of_cell? w _ hx147_1)).trans hx147_1
             replace hx147_2 := (HB.out.cell (World.block_lt_of_cell? w _ hx147_2)).trans hx147_2
             replace hx147_3 := (HB.out.cell (World.block_lt_of_cell? w _ hx147_3)).trans hx147_3
             replace p147 := eq_true p147
             replace q147 := eq_true q147
             go_wp2_with (first | ((with_reducible refine gate_dst (N := 10) rfl ?_); (try (refine gate_guard (by rfl) ?_; dsimp only)); refine box_event ?hg (N := 10) ?hd (cs := #[.string (⟨#[]⟩ : ByteArray), .int .i64 0, .int .i64 0, .int .i64 0]) (t := 39) ?hr ?_; (case hd => rfl); (case hg => rfl); (case hr => first | (go_simp; done) | (go_simp; rfl)); intro gb148 hg w50 hbox hb; have n0_ := Aside0.mk (blk_below (g := gb138) (o := .cells #[.slice A0_0 l0_0.length c0_0, .slice (some ad147) l0_1.length c0_1, .int .i64 a0_2, .int .i64 a0_3] 25 (0, 0)) (tK BK138.out) hb); have n1_ := Aside0.mk (below_step (tB1 HB.out GE138.out) hb); have n2_ := Aside0.mk (hbox); have n3_ := Aside0.mk ((by rw [hg]; exact (below_size (tB1 HB.out GE138.out)) : w.heap.size ≤ gb148)); have n4_ := Aside0.mk ((by rw [hg]; exact (below_size (tB1 HB.out GE138.out)) : w.heap.size ≤ gb148)); have n5_ := Aside0.mk ((by rw [hg]; exact Nat.ne_of_lt (blk_lt (g := gb138) (o := .cells #[.slice A0_0 l0_0.length c0_0, .slice (some ad147) l0_1.length c0_1, .int .i64 a0_2, .int .i64 a0_3] 25 (0, 0)) (tK BK138.out)) : gb138 ≠ gb148)); have n6_ := Aside0.mk ((by rw [hg]; exact Nat.ne_of_gt (blk_lt (g := gb138) (o := .cells #[.slice A0_0 l0_0.length c0_0, .slice (some ad147) l0_1.length c0_1, .int .i64 a0_2, .int .i64 a0_3] 25 (0, 0)) (tK BK138.out)) : gb148 ≠ gb138)); clear BK138; clear HB; have BK138 := n0_; have HB := n1_; have BK148 := n2_; have GW148 := n3_; have GE148 := n4_; have NB138_148 := n5_; have NB148_138 := n6_; clear n0_ n1_ n2_ n3_ n4_ n5_ n6_; clear hb hbox hg; have hnb51 := NB148_138.out; have hnc51 := NB138_148.out; have hcz52_0 : w50.cell? ⟨gb148, 0, none⟩ = some (.string (⟨#[]⟩ : ByteArray)) := (blk_cell BK148.out 0).trans rfl; have hcz52_1 : w50.cell? ⟨gb148, 1, none⟩ = some (.int .i64 0) := (blk_cell BK148.out 1).trans rfl; have hcz52_2 : w50.cell? ⟨gb148, 2, none⟩ = some (.int .i64 0) := (blk_cell BK148.out 2).trans rfl; have hcz52_3 : w50.cell? ⟨gb148, 3, none⟩ = some (.int .i64 0) := (blk_cell BK148.out 3).trans rfl; have hfz52_0 := blk_frozen BK148.out 0; have hfz52_1 := blk_frozen BK148.out 1; have hfz52_2 := blk_frozen BK148.out 2; have hfz52_3 := blk_frozen BK148.out 3))
             go_ret
             exact ⟨by first | rfl | (simp [errW_none, errW_some] <;> rfl) | (simp [*, errW_none, errW_some] <;> rfl), by repeat (first | (with_reducible first | exact HB.out | apply below_alloc | apply pw_below_drewN | apply below_drew1 | refine below_set ?_ GE138.out | refine below_set ?_ GE148.out) | exact HB.out)⟩
           ·rw [if_neg c39] at H
            have c39b0 : decide (x66_4 < (l0_1.length : Int)) = false := decide_eq_false c39
            clear c39
            by_cases c53 : x8_4 = (l0_0.length : Int)
            ·rw [if_pos c53] at H
             have c53b0 : (x8_4 == (l0_0.length : Int)) = true := beq_iff_eq.mpr c53
             have c53b1 : (x8_4 != (l0_0.length : Int)) = false := bne_eq_false_iff_eq.mpr c53
             clear c53
             have H' := Aside0.mk H
             clear H
             have hcz54_0 : wr.cell? ⟨gb138, 0, none⟩ = some (.slice A0_0 l0_0.length c0_0) := (blk_cell BK138.out 0).trans rfl
             have hcz54_1 : wr.cell? ⟨gb138, 1, none⟩ = some (.slice A0_1 l0_1.length c0_1) := (blk_cell BK138.out 1).trans rfl
             have hcz54_2 : wr.cell? ⟨gb138, 2, none⟩ = some (.int .i64 a0_2) := (blk_cell BK138.out 2).trans rfl
             have hcz54_3 : wr.cell? ⟨gb138, 3, none⟩ = some (.int .i64 a0_3) := (blk_cell BK138.out 3).trans rfl
             have hfz54_0 := blk_frozen BK138.out 0
             have hfz54_1 := blk_frozen BK138.out 1
             have hfz54_2 := blk_frozen BK138.out 2
             have hfz54_3 := blk_frozen BK138.out 3
             go_wp2
             go_loopg [92] k4 (fun kq v92 w' => ∃ (x92_5 : Int), v92 = .int .i64 x92_5 ∧ Aside0 (linker_Check.l3 kq l0_1 (l0_1.length : Int) x92_5 l0_0 l0_1 a0_2 a0_3 = some r) ∧ Aside0 (kq ≤ k4) ∧ Aside0 (w'.heap[gb138]? = some (.cells #[(.slice A0_0 l0_0.length c0_0), (.slice A0_1 l0_1.length c0_1), .int .i64 a0_2, .int .i64 a0_3] 25 (0, 0))) ∧ Aside0 (Below w.heap.size w w'))
             case atStart => exact ⟨(0), (by first | rfl | (simp; done) | (simp [*]; done)), H', ⟨Nat.le_refl _⟩, ⟨tK BK138.out⟩, ⟨tB1 HB.out GE138.out⟩⟩
             case round =>
              clear H'
              (try clear c1);(try clear p1);(try clear q1);(try clear hx1);(try clear c2);(try clear p2);(try clear c3);(try clear c4);(try clear c4b0);(try clear c4b1);(try clear c5);(try clear c5b0);(try clear c5b1);(try clear p6);(try clear c7);(try clear c13);(try clear c14);(try clear c14b0);(try clear p14);(try clear q14);(try clear hx14);(try clear c15);(try clear c15b0);(try clear c16);(try clear c16b0);(try clear c17);(try clear c20);(try clear c23);(try clear c25);(try clear c27);(try clear c27b0);(try clear c28);(try clear c28b0);(try clear c29);(try clear c29b0);(try clear c31);(try clear c33);(try clear c36);(try clear c39);(try clear c39b0);(try clear c40);(try clear c40b0);(try clear c41);(try clear c41b0);(try clear c42);(try clear c42b0);(try clear c42b1);(try clear c43);(try clear c43b0);(try clear c45);(try clear c48);(try clear c51);(try clear c53);(try clear c53b0);(try clear c53b1);(try clear hcz10_0);(try clear hcz10_1);(try clear hcz10_2);(try clear hcz10_3);(try clear hcz11_0);(try clear hcz11_1);(try clear hcz11_2);(try clear hcz11_3);(try clear hcz12_0);(try clear hcz12_1);(try clear hcz12_2);(try clear hcz12_3);(try clear hcz13_0);(try clear hcz13_1);(try clear hcz13_2);(try clear hcz13_3);(try clear hcz21_0);(try clear hcz21_1);(try clear hcz21_2);(try clear hcz21_3);(try clear hcz24_0);(try clear hcz24_1);(try clear hcz24_2);(try clear hcz24_3);(try clear hcz26_0);(try clear hcz26_1);(try clear hcz26_2);(try clear hcz26_3);(try clear hcz34_0)
              (try clear hcz34_1);(try clear hcz34_2);(try clear hcz34_3);(try clear hcz37_0);(try clear hcz37_1);(try clear hcz37_2);(try clear hcz37_3);(try clear hcz38_0);(try clear hcz38_1);(try clear hcz38_2);(try clear hcz38_3);(try clear hcz46_0);(try clear hcz46_1);(try clear hcz46_2);(try clear hcz46_3);(try clear hcz49_0);(try clear hcz49_1);(try clear hcz49_2);(try clear hcz49_3);(try clear hcz52_0);(try clear hcz52_1);(try clear hcz52_2);(try clear hcz52_3);(try clear hcz54_0);(try clear hcz54_1);(try clear hcz54_2);(try clear hcz54_3);(try clear hcz9_0);(try clear hcz9_1);(try clear hcz9_2);(try clear hcz9_3);(try clear hfz10_0);(try clear hfz10_1);(try clear hfz10_2);(try clear hfz10_3);(try clear hfz11_0);(try clear hfz11_1);(try clear hfz11_2);(try clear hfz11_3);(try clear hfz12_0);(try clear hfz12_1);(try clear hfz12_2);(try clear hfz12_3);(try clear hfz13_0);(try clear hfz13_1);(try clear hfz13_2);(try clear hfz13_3);(try clear hfz21_0);(try clear hfz21_1);(try clear hfz21_2);(try clear hfz21_3);(try clear hfz24_0);(try clear hfz24_1);(try clear hfz24_2);(try clear hfz24_3);(try clear hfz26_0);(try clear hfz26_1);(try clear hfz26_2);(try clear hfz26_3);(try clear hfz34_0);(try clear hfz34_1);(try clear hfz34_2);(try clear hfz34_3);(try clear hfz37_0);(try clear hfz37_1);(try clear hfz37_2);(try clear hfz37_3);(try clear hfz38_0);(try clear hfz38_1);(try clear hfz38_2);(try clear hfz38_3);(try clear hfz46_0);(try clear hfz46_1);(try clear hfz46_2)
              (try clear hfz46_3);(try clear hfz49_0);(try clear hfz49_1);(try clear hfz49_2);(try clear hfz49_3);(try clear hfz52_0);(try clear hfz52_1);(try clear hfz52_2);(try clear hfz52_3);(try clear hfz54_0);(try clear hfz54_1);(try clear hfz54_2);(try clear hfz54_3);(try clear hfz9_0);(try clear hfz9_1);(try clear hfz9_2);(try clear hfz9_3);(try clear hx141_0);(try clear hx141_1);(try clear hx141_2);(try clear hx141_3);(try clear hx144_0);(try clear hx144_1);(try clear hx144_2);(try clear hx144_3);(try clear hx147_0);(try clear hx147_1);(try clear hx147_2);(try clear hx147_3);(try clear p1);(try clear p14);(try clear p141);(try clear p144);(try clear p147);(try clear p2);(try clear p6);(try clear q1);(try clear q14);(try clear q141);(try clear q144);(try clear q147)
              obtain ⟨x92_5, rfl, HA, HK5, BK138, HB⟩ := hrel
              cases gk with
              | zero => exact absurd HA.out (by simp [linker_Check.l3])
              | succ k5 =>
               have H := HA.out
               clear HA
               simp only [linker_Check.l3] at H
               by_cases c55 : x92_5 < (l0_1.length : Int)
               rotate_left
               ·rw [if_neg c55] at H
                have c55b0 : decide (x92_5 < (l0_1.length : Int)) = false := decide_eq_false c55
                clear c55
                obtain rfl := Option.some.inj H
                go_wp2
                go_ret
                exact ⟨by first | rfl | (simp [errW_none, errW_some] <;> rfl) | (simp [*, errW_none, errW_some] <;> rfl), by repeat (first | (with_reducible first | exact HB.out | apply below_alloc | apply pw_below_drewN | apply below_drew1 | refine below_set ?_ GE138.out) | exact HB.out)⟩
               rw [if_pos c55] at H
               have c55b0 : decide (x92_5 < (l0_1.length : Int)) = true := decide_eq_true c55
               clear c55
               by_cases c56 : 0 ≤ x92_5
               rotate_left
               ·rw [if_neg c56] at H
                exact absurd H (by simp)
               rw [if_pos c56] at H
               have c56b0 : decide (0 ≤ x92_5) = true := decide_eq_true c56
               clear c56
               by_cases c57 : x92_5 < (l0_1.length : Int)
               rotate_left
               ·rw [if_neg c57] at H
                exact absurd H (by simp)
               rw [if_pos c57] at H
               have c57b0 : decide (x92_5 < (l0_1.length : Int)) = true := decide_eq_true c57
               clear c57
               have H' := Aside0.mk H
               clear H
               have p149 : 0 ≤ (x92_5 : Int) := tD
               have q149 : x92_5 < (l0_1.length : Int) := tD
               obtain ⟨ad149, e149, hx149_0, hx149_1, hx149_2, hx149_3⟩ := at_T39 HR0_1.out x92_5 p149 q149
               cases e149
               replace hx149_0 := (HB.out.cell (World.block_lt_of_cell? w _ hx149_0)).trans hx149_0
               replace hx149_1 := (HB.out.cell (World.block_lt_of_cell? w _ hx149_1)).trans hx149_1
               replace hx149_2 := (HB.out.cell (World.block_lt_of_cell? w _ hx149_2)).trans hx149_2
               replace hx149_3 := (HB.out.cell (World.block_lt_of_cell? w _ hx149_3)).trans hx149_3
               replace p149 := eq_true p149
               replace q149 := eq_true q149
               go_wp2_with (first | ((with_reducible refine gate_dst (N := 12) rfl ?_); (try (refine gate_guard (by rfl) ?_; dsimp only)); refine box_event ?hg (N := 12) ?hd (cs := #[.string (⟨#[]⟩ : ByteArray), .int .i64 0, .int .i64 0, .int .i64 0]) (t := 39) ?hr ?_; (case hd => rfl); (case hg => rfl); (case hr => first | (go_simp; done) | (go_simp; rfl)); intro gb150 hg w58 hbox hb; have n0_ := Aside0.mk (blk_below (g := gb138) (o := .cells #[.slice A0_0 l0_0.length c0_0, .slice (some ad149) l0_1.length c0_1, .int .i64 a0_2, .int .i64 a0_3] 25 (0, 0)) (tK BK138.out) hb); have n1_ := Aside0.mk (below_step (tB1 HB.out GE138.out) hb); have n2_ := Aside0.mk (hbox); have n3_ := Aside0.mk ((by rw [hg]; exact (below_size (tB1 HB.out GE138.out)) : w.heap.size ≤ gb150)); have n4_ := Aside0.mk ((by rw [hg]; exact (below_size (tB1 HB.out GE138.out)) : w.heap.size ≤ gb150)); have n5_ := Aside0.mk ((by rw [hg]; exact Nat.ne_of_lt (blk_lt (g := gb138) (o := .cells #[.slice A0_0 l0_0.length c0_0, .slice (some ad149) l0_1.length c0_1, .int .i64 a0_2, .int .i64 a0_3] 25 (0, 0)) (tK BK138.out)) : gb138 ≠ gb150)); have n6_ := Aside0.mk ((by rw [hg]; exact Nat.ne_of_gt (blk_lt (g := gb138) (o := .cells #[.slice A0_0 l0_0.length c0_0, .slice (some ad149) l0_1.length c0_1, .int .i64 a0_2, .int .i64 a0_3] 25 (0, 0)) (tK BK138.out)) : gb150 ≠ gb138)); clear BK138; clear HB; have BK138 := n0_; have HB := n1_; have BK150 := n2_; have GW150 := n3_; have GE150 := n4_; have NB138_150 := n5_; have NB150_138 := n6_; clear n0_ n1_ n2_ n3_ n4_ n5_ n6_; clear hb hbox hg; have hnb59 := NB150_138.out; have hnc59 := NB138_150.out; have hcz60_0 : w58.cell? ⟨gb150, 0, none⟩ = some (.string (⟨#[]⟩ : ByteArray)) := (blk_cell BK150.out 0).trans rfl; have hcz60_1 : w58.cell? ⟨gb150, 1, none⟩ = some (.int .i64 0) := (blk_cell BK150.out 1).trans rfl; have hcz60_2 : w58.cell? ⟨gb150, 2, none⟩ = some (.int .i64 0) := (blk_cell BK150.out 2).trans rfl; have hcz60_3 : w58.cell? ⟨gb150, 3, none⟩ = some (.int .i64 0) := (blk_cell BK150.out 3).trans rfl; have hfz60_0 := blk_frozen BK150.out 0; have hfz60_1 := blk_frozen BK150.out 1; have hfz60_2 := blk_frozen BK150.out 2; have hfz60_3 := blk_frozen BK150.out 3))
               go_loopg [13] k5 (fun kq v13 w' => ∃ (x13_6 : Int), v13 = .int .i64 x13_6 ∧ Aside0 (linker_Check.l4 kq x13_6 l0_1 (l0_1.length : Int) x92_5 l0_0 l0_1 a0_2 a0_3 ((rd_T39 l0_1 x92_5).f0) ((rd_T39 l0_1 x92_5).f1) ((rd_T39 l0_1 x92_5).f2) ((rd_T39 l0_1 x92_5).f3) = some r) ∧ Aside0 (kq ≤ k5) ∧ Aside0 (w'.heap[gb138]? = some (.cells #[(.slice A0_0 l0_0.length c0_0), (.slice (some ad149) l0_1.length c0_1), .int .i64 a0_2, .int .i64 a0_3] 25 (0, 0))) ∧ Aside0 (w'.heap[gb150]? = some (.cells #[.string ((rd_T39 l0_1 x92_5).f0), .int .i64 ((rd_T39 l0_1 x92_5).f1), .int .i64 ((rd_T39 l0_1 x92_5).f2), .int .i64 ((rd_T39 l0_1 x92_5).f3)] 39 (0, 0))) ∧ Aside0 (Below w.heap.size w w'))
               case atStart => exact ⟨((rd_T39 l0_1 x92_5).f1), (by first | rfl | (simp; done) | (simp [*]; done)), H', ⟨Nat.le_refl _⟩, ⟨by (with_reducible repeat (first | refine blk_drewN ?_ _ | refine blk_drew ?_ | refine blk_alloc ?_ _)); refine blk_far ?_ NB138_150.out _; (with_reducible repeat (first | refine blk_drewN ?_ _ | refine blk_drew ?_ | refine blk_alloc ?_ _)); refine blk_far ?_ NB138_150.out _; (with_reducible repeat (first | refine blk_drewN ?_ _ | refine blk_drew ?_ | refine blk_alloc ?_ _)); refine blk_far ?_ NB138_150.out _; (with_reducible repeat (first | refine blk_drewN ?_ _ | refine blk_drew ?_ | refine blk_alloc ?_ _)); refine blk_far ?_ NB138_150.out _; (with_reducible repeat (first | refine blk_drewN ?_ _ | refine blk_drew ?_ | refine blk_alloc ?_ _)); exact BK138.out⟩, ⟨by (with_reducible repeat (first | refine blk_drewN ?_ _ | refine blk_drew ?_ | refine blk_alloc ?_ _)); refine blk_put (cs := #[.string ((rd_T39 l0_1 x92_5).f0), .int .i64 ((rd_T39 l0_1 x92_5).f1), .int .i64 ((rd_T39 l0_1 x92_5).f2), .int .i64 0]) ?_ 3 _ rfl; (with_reducible repeat (first | refine blk_drewN ?_ _ | refine blk_drew ?_ | refine blk_alloc ?_ _)); refine blk_put (cs := #[.string ((rd_T39 l0_1 x92_5).f0), .int .i64 ((rd_T39 l0_1 x92_5).f1), .int .i64 0, .int .i64 0]) ?_ 2 _ rfl; (with_reducible repeat (first | refine blk_drewN ?_ _ | refine blk_drew ?_ | refine blk_alloc ?_ _)); refine blk_put (cs := #[.string ((rd_T39 l0_1 x92_5).f0), .int .i64 0, .int .i64 0, .int .i64 0]) ?_ 1 _ rfl; (with_reducible repeat (first | refine blk_drewN ?_ _ | refine blk_drew ?_ | refine blk_alloc ?_ _)); refine blk_put (cs := #[.string (⟨#[]⟩ : ByteArray), .int .i64 0, .int .i64 0, .int .i64 0]) ?_ 0 _ rfl; (with_reducible repeat (first | refine blk_drewN ?_ _ | refine blk_drew ?_ | refine blk_alloc ?_ _)); exact BK150.out⟩, ⟨tB2 HB.out GE138.out GE150.out⟩⟩
               case round =>
                clear H'
                (try clear c1);(try clear p1);(try clear q1);(try clear hx1);(try clear c2);(try clear p2);(try clear c3);(try clear c4);(try clear c4b0);(try clear c4b1);(try clear c5);(try clear c5b0);(try clear c5b1);(try clear p6);(try clear c7);(try clear c13);(try clear c14);(try clear c14b0);(try clear p14);(try clear q14);(try clear hx14);(try clear c15);(try clear c15b0);(try clear c16);(try clear c16b0);(try clear c17);(try clear c20);(try clear c23);(try clear c25);(try clear c27);(try clear c27b0);(try clear c28);(try clear c28b0);(try clear c29);(try clear c29b0);(try clear c31);(try clear c33);(try clear c36);(try clear c39);(try clear c39b0);(try clear c40);(try clear c40b0);(try clear c41);(try clear c41b0);(try clear c42);(try clear c42b0);(try clear c42b1);(try clear c43);(try clear c43b0);(try clear c45);(try clear c48);(try clear c51);(try clear c53);(try clear c53b0);(try clear c53b1);(try clear c55);(try clear c55b0);(try clear c56);(try clear c56b0);(try clear c57);(try clear c57b0);(try clear c59);(try clear hcz10_0);(try clear hcz10_1);(try clear hcz10_2);(try clear hcz10_3);(try clear hcz11_0);(try clear hcz11_1);(try clear hcz11_2);(try clear hcz11_3);(try clear hcz12_0);(try clear hcz12_1);(try clear hcz12_2);(try clear hcz12_3);(try clear hcz13_0);(try clear hcz13_1);(try clear hcz13_2);(try clear hcz13_3);(try clear hcz21_0);(try clear hcz21_1);(try clear hcz21_2);(try clear hcz21_3);(try clear hcz24_0);(try clear hcz24_1);(try clear hcz24_2)
                (try clear hcz24_3);(try clear hcz26_0);(try clear hcz26_1);(try clear hcz26_2);(try clear hcz26_3);(try clear hcz34_0);(try clear hcz34_1);(try clear hcz34_2);(try clear hcz34_3);(try clear hcz37_0);(try clear hcz37_1);(try clear hcz37_2);(try clear hcz37_3);(try clear hcz38_0);(try clear hcz38_1);(try clear hcz38_2);(try clear hcz38_3);(try clear hcz46_0);(try clear hcz46_1);(try clear hcz46_2);(try clear hcz46_3);(try clear hcz49_0);(try clear hcz49_1);(try clear hcz49_2);(try clear hcz49_3);(try clear hcz52_0);(try clear hcz52_1);(try clear hcz52_2);(try clear hcz52_3);(try clear hcz54_0);(try clear hcz54_1);(try clear hcz54_2);(try clear hcz54_3);(try clear hcz60_0);(try clear hcz60_1);(try clear hcz60_2);(try clear hcz60_3);(try clear hcz9_0);(try clear hcz9_1);(try clear hcz9_2);(try clear hcz9_3);(try clear hfz10_0);(try clear hfz10_1);(try clear hfz10_2);(try clear hfz10_3);(try clear hfz11_0);(try clear hfz11_1);(try clear hfz11_2);(try clear hfz11_3);(try clear hfz12_0);(try clear hfz12_1);(try clear hfz12_2);(try clear hfz12_3);(try clear hfz13_0);(try clear hfz13_1);(try clear hfz13_2);(try clear hfz13_3);(try clear hfz21_0);(try clear hfz21_1);(try clear hfz21_2);(try clear hfz21_3);(try clear hfz24_0);(try clear hfz24_1);(try clear hfz24_2);(try clear hfz24_3);(try clear hfz26_0);(try clear hfz26_1);(try clear hfz26_2);(try clear hfz26_3);(try clear hfz34_0);(try clear hfz34_1);(try clear hfz34_2);(try clear hfz34_3);(try clear hfz37_0)
                (try clear hfz37_1);(try clear hfz37_2);(try clear hfz37_3);(try clear hfz38_0);(try clear hfz38_1);(try clear hfz38_2);(try clear hfz38_3);(try clear hfz46_0);(try clear hfz46_1);(try clear hfz46_2);(try clear hfz46_3);(try clear hfz49_0);(try clear hfz49_1);(try clear hfz49_2);(try clear hfz49_3);(try clear hfz52_0);(try clear hfz52_1);(try clear hfz52_2);(try clear hfz52_3);(try clear hfz54_0);(try clear hfz54_1);(try clear hfz54_2);(try clear hfz54_3);(try clear hfz60_0);(try clear hfz60_1);(try clear hfz60_2);(try clear hfz60_3);(try clear hfz9_0);(try clear hfz9_1);(try clear hfz9_2);(try clear hfz9_3);(try clear hx141_0);(try clear hx141_1);(try clear hx141_2);(try clear hx141_3);(try clear hx144_0);(try clear hx144_1);(try clear hx144_2);(try clear hx144_3);(try clear hx147_0);(try clear hx147_1);(try clear hx147_2);(try clear hx147_3);(try clear hx149_0);(try clear hx149_1);(try clear hx149_2);(try clear hx149_3);(try clear p1);(try clear p14);(try clear p141);(try clear p144);(try clear p147);(try clear p149);(try clear p2);(try clear p6);(try clear q1);(try clear q14);(try clear q141);(try clear q144);(try clear q147);(try clear q149)
                obtain ⟨x13_6, rfl, HA, HK6, BK138, BK150, HB⟩ := hrel
                cases gk with
                | zero => exact absurd HA.out (by simp [linker_Check.l4])
                | succ k6 =>
                 have H := HA.out
                 clear HA
                 simp only [linker_Check.l4] at H
                 by_cases c61 : x13_6 < ((rd_T39 l0_1 x92_5).f2)
                 ·rw [if_pos c61] at H
                  have c61b0 : decide (x13_6 < ((rd_T39 l0_1 x92_5).f2)) = true := decide_eq_true c61
                  clear c61
                  replace H := Option.bind_eq_some_iff.mp H
                  obtain ⟨t151, A620, H⟩ := H
                  replace H : (if t151 = 0 then (linker_Check.l4 k6 (wrap64 (x13_6 + 1)) l0_1 (l0_1.length : Int) x92_5 l0_0 l0_1 a0_2 a0_3 ((rd_T39 l0_1 x92_5).f0) ((rd_T39 l0_1 x92_5).f1) ((rd_T39 l0_1 x92_5).f2) ((rd_T39 l0_1 x92_5).f3)) else (some t151)) = some r := H
                  have A62 := Aside0.mk A620
                  clear A620
                  by_cases c63 : t151 = 0
                  ·rw [if_pos c63] at H
                   have c63b0 : (t151 == 0) = true := beq_iff_eq.mpr c63
                   have c63b1 : (t151 != 0) = false := bne_eq_false_iff_eq.mpr c63
                   clear c63
                   have H' := Aside0.mk H
                   clear H
                   have hnb64 := NB150_138.out
                   have hnc64 := NB138_150.out
                   have hcz65_0 : wr.cell? ⟨gb150, 0, none⟩ = some (.string ((rd_T39 l0_1 x92_5).f0)) := (blk_cell BK150.out 0).trans rfl
                   have hcz65_1 : wr.cell? ⟨gb150, 1, none⟩ = some (.int .i64 ((rd_T39 l0_1 x92_5).f1)) := (blk_cell BK150.out 1).trans rfl
                   have hcz65_2 : wr.cell? ⟨gb150, 2, none⟩ = some (.int .i64 ((rd_T39 l0_1 x92_5).f2)) := (blk_cell BK150.out 2).trans rfl
                   have hcz65_3 : wr.cell? ⟨gb150, 3, none⟩ = some (.int .i64 ((rd_T39 l0_1 x92_5).f3)) := (blk_cell BK150.out 3).trans rfl
                   have hfz65_0 := blk_frozen BK150.out 0
                   have hfz65_1 := blk_frozen BK150.out 1
                   have hfz65_2 := blk_frozen BK150.out 2
                   have hfz65_3 := blk_frozen BK150.out 3
                   have hcz66_0 : wr.cell? ⟨gb138, 0, none⟩ = some (.slice A0_0 l0_0.length c0_0) := (blk_cell BK138.out 0).trans rfl
                   have hcz66_1 : wr.cell? ⟨gb138, 1, none⟩ = some (.slice (some ad149) l0_1.length c0_1) := (blk_cell BK138.out 1).trans rfl
                   have hcz66_2 : wr.cell? ⟨gb138, 2, none⟩ = some (.int .i64 a0_2) := (blk_cell BK138.out 2).trans rfl
                   have hcz66_3 : wr.cell? ⟨gb138, 3, none⟩ = some (.int .i64 a0_3) := (blk_cell BK138.out 3).trans rfl
                   have hfz66_0 := blk_frozen BK138.out 0
                   have hfz66_1 := blk_frozen BK138.out 1
                   have hfz66_2 := blk_frozen BK138.out 2
                   have hfz66_3 := blk_frozen BK138.out 3
                   go_wp2_with (first | ((with_reducible refine gate_callee (f := 42) rfl ?_); refine goesL_ (some 107) rfl rfl Try.func42 (by kernel_rfl) rfl #[.agg #[.slice A0_0 l0_0.length c0_0, .slice (some ad149) l0_1.length c0_1, .int .i64 a0_2, .int .i64 a0_3], .agg #[.string ((rd_T39 l0_1 x92_5).f0), .int .i64 ((rd_T39 l0_1 x92_5).f1), .int .i64 ((rd_T39 l0_1 x92_5).f2), .int .i64 ((rd_T39 l0_1 x92_5).f3)], .int .i64 x13_6] rfl tF ?_; (with_reducible refine (linker_checkWord.calls k6 _ _ l0_0 _ _ l0_1 a0_2 a0_3 ((rd_T39 l0_1 x92_5).f0) ((rd_T39 l0_1 x92_5).f1) ((rd_T39 l0_1 x92_5).f2) ((rd_T39 l0_1 x92_5).f3) x13_6 t151 _ ?side1 ?side2 ?side3 ?side4 A62.out).mono ?_); (case side1 => exact tC (Kd.C_below HR0_0.out HB.out)); (case side2 => exact HC0_0.out); (case side3 => exact tC (Kd.C_below HR0_1.out HB.out)); (case side4 => exact HC0_1.out); rintro e w67 ⟨rfl, hb⟩; refine ⟨_, rfl, ?_⟩; have n0_ := Aside0.mk (blk_below (g := gb138) (o := .cells #[.slice A0_0 l0_0.length c0_0, .slice (some ad149) l0_1.length c0_1, .int .i64 a0_2, .int .i64 a0_3] 25 (0, 0)) (tK BK138.out) hb); have n1_ := Aside0.mk (blk_below (g := gb150) (o := .cells #[.string ((rd_T39 l0_1 x92_5).f0), .int .i64 ((rd_T39 l0_1 x92_5).f1), .int .i64 ((rd_T39 l0_1 x92_5).f2), .int .i64 ((rd_T39 l0_1 x92_5).f3)] 39 (0, 0)) (tK BK150.out) hb); have n2_ := Aside0.mk (below_step (tB2 HB.out GE138.out GE150.out) hb); clear BK138; clear BK150; clear HB; have BK138 := n0_; have BK150 := n1_; have HB := n2_; clear n0_ n1_ n2_; (try clear hb); (try clear hb2); (try clear hk); (try clear hi)))
                   go_roundg k6
                   case measure => have := HJ1.out; have := HK2.out; have := HK3.out; have := HK4.out; have := HK5.out; have := HK6.out; omega
                   case rel => exact ⟨(wrap64 (x13_6 + 1)), (by first | rfl | (simp; done) | (simp [*]; done)), H', ⟨by have := HJ1.out; have := HK2.out; have := HK3.out; have := HK4.out; have := HK5.out; have := HK6.out; omega⟩, ⟨tK BK138.out⟩, ⟨tK BK150.out⟩, ⟨tB2 HB.out GE138.out GE150.out⟩⟩
                  ·rw [if_neg c63] at H
                   have c63b0 : (t151 == 0) = false := beq_eq_false_iff_ne.mpr c63
                   have c63b1 : (t151 != 0) = true := bne_iff_ne.mpr c63
                   obtain rfl := Option.some.inj H
                   have hnb68 := NB150_138.out
                   have hnc68 := NB138_150.out
                   have hcz69_0 : wr.cell? ⟨gb150, 0, none⟩ = some (.string ((rd_T39 l0_1 x92_5).f0)) := (blk_cell BK150.out 0).trans rfl
                   have hcz69_1 : wr.cell? ⟨gb150, 1, none⟩ = some (.int .i64 ((rd_T39 l0_1 x92_5).f1)) := (blk_cell BK150.out 1).trans rfl
                   have hcz69_2 : wr.cell? ⟨gb150, 2, none⟩ = some (.int .i64 ((rd_T39 l0_1 x92_5).f2)) := (blk_cell BK150.out 2).trans rfl
                   have hcz69_3 : wr.cell? ⟨gb150, 3, none⟩ = some (.int .i64 ((rd_T39 l0_1 x92_5).f3)) := (blk_cell BK150.out 3).trans rfl
                   have hfz69_0 := blk_frozen BK150.out 0
                   have hfz69_1 := blk_frozen BK150.out 1
                   have hfz69_2 := blk_frozen BK150.out 2
                   have hfz69_3 := blk_frozen BK150.out 3
                   have hcz70_0 : wr.cell? ⟨gb138, 0, none⟩ = some (.slice A0_0 l0_0.length c0_0) := (blk_cell BK138.out 0).trans rfl
                   have hcz70_1 : wr.cell? ⟨gb138, 1, none⟩ = some (.slice (some ad149) l0_1.length c0_1) := (blk_cell BK138.out 1).trans rfl
                   have hcz70_2 : wr.cell? ⟨gb138, 2, none⟩ = some (.int .i64 a0_2) := (blk_cell BK138.out 2).trans rfl
                   have hcz70_3 : wr.cell? ⟨gb138, 3, none⟩ = some (.int .i64 a0_3) := (blk_cell BK138.out 3).trans rfl
                   have hfz70_0 := blk_frozen BK138.out 0
                   have hfz70_1 := blk_frozen BK138.out 1
                   have hfz70_2 := blk_frozen BK138.out 2
                   have hfz70_3 := blk_frozen BK138.out 3
                   go_wp2_with (first | ((with_reducible refine gate_callee (f := 42) rfl ?_); refine goesL_ (some 107) rfl rfl Try.func42 (by kernel_rfl) rfl #[.agg #[.slice A0_0 l0_0.length c0_0, .slice (some ad149) l0_1.length c0_1, .int .i64 a0_2, .int .i64 a0_3], .agg #[.string ((rd_T39 l0_1 x92_5).f0), .int .i64 ((rd_T39 l0_1 x92_5).f1), .int .i64 ((rd_T39 l0_1 x92_5).f2), .int .i64 ((rd_T39 l0_1 x92_5).f3)], .int .i64 x13_6] rfl tF ?_; (with_reducible refine (linker_checkWord.calls k6 _ _ l0_0 _ _ l0_1 a0_2 a0_3 ((rd_T39 l0_1 x92_5).f0) ((rd_T39 l0_1 x92_5).f1) ((rd_T39 l0_1 x92_5).f2) ((rd_T39 l0_1 x92_5).f3) x13_6 t151 _ ?side1 ?side2 ?side3 ?side4 A62.out).mono ?_); (case side1 => exact tC (Kd.C_below HR0_0.out HB.out)); (case side2 => exact HC0_0.out); (case side3 => exact tC (Kd.C_below HR0_1.out HB.out)); (case side4 => exact HC0_1.out); rintro e w71 ⟨rfl, hb⟩; refine ⟨_, rfl, ?_⟩; have n0_ := Aside0.mk (blk_below (g := gb138) (o := .cells #[.slice A0_0 l0_0.length c0_0, .slice (some ad149) l0_1.length c0_1, .int .i64 a0_2, .int .i64 a0_3] 25 (0, 0)) (tK BK138.out) hb); have n1_ := Aside0.mk (blk_below (g := gb150) (o := .cells #[.string ((rd_T39 l0_1 x92_5).f0), .int .i64 ((rd_T39 l0_1 x92_5).f1), .int .i64 ((rd_T39 l0_1 x92_5).f2), .int .i64 ((rd_T39 l0_1 x92_5).f3)] 39 (0, 0)) (tK BK150.out) hb); have n2_ := Aside0.mk (below_step (tB2 HB.out GE138.out GE150.out) hb); clear BK138; clear BK150; clear HB; have BK138 := n0_; have BK150 := n1_; have HB := n2_; clear n0_ n1_ n2_; (try clear hb); (try clear hb2); (try clear hk); (try clear hi)))
                   go_ret
                   exact ⟨by first | rfl | (simp [errW_none, errW_some] <;> rfl) | (simp [*, errW_none, errW_some] <;> rfl), by repeat (first | (with_reducible first | exact HB.out | apply below_alloc | apply pw_below_drewN | apply below_drew1 | refine below_set ?_ GE138.out | refine below_set ?_ GE150.out) | exact HB.out)⟩
                 ·rw [if_neg c61] at H
                  have c61b0 : decide (x13_6 < ((rd_T39 l0_1 x92_5).f2)) = false := decide_eq_false c61
                  clear c61
                  have H' := Aside0.mk H
                  clear H
                  have hnb72 := NB150_138.out
                  have hnc72 := NB138_150.out
                  have hcz73_0 : wr.cell? ⟨gb150, 0, none⟩ = some (.string ((rd_T39 l0_1 x92_5).f0)) := (blk_cell BK150.out 0).trans rfl
                  have hcz73_1 : wr.cell? ⟨gb150, 1, none⟩ = some (.int .i64 ((rd_T39 l0_1 x92_5).f1)) := (blk_cell BK150.out 1).trans rfl
                  have hcz73_2 : wr.cell? ⟨gb150, 2, none⟩ = some (.int .i64 ((rd_T39 l0_1 x92_5).f2)) := (blk_cell BK150.out 2).trans rfl
                  have hcz73_3 : wr.cell? ⟨gb150, 3, none⟩ = some (.int .i64 ((rd_T39 l0_1 x92_5).f3)) := (blk_cell BK150.out 3).trans rfl
                  have hfz73_0 := blk_frozen BK150.out 0
                  have hfz73_1 := blk_frozen BK150.out 1
                  have hfz73_2 := blk_frozen BK150.out 2
                  have hfz73_3 := blk_frozen BK150.out 3
                  go_wp2
                  go_roundg k6
                  case measure => have := HJ1.out; have := HK2.out; have := HK3.out; have := HK4.out; have := HK5.out; have := HK6.out; omega
                  case rel => exact ⟨(wrap64 (x92_5 + 1)), (by first | rfl | (simp; done) | (simp [*]; done)), H', ⟨by have := HJ1.out; have := HK2.out; have := HK3.out; have := HK4.out; have := HK5.out; have := HK6.out; omega⟩, ⟨tK BK138.out⟩, ⟨tB2 HB.out GE138.out GE150.out⟩⟩
            ·rw [if_neg c53] at H
             have c53b0 : (x8_4 == (l0_0.length : Int)) = false := beq_eq_false_iff_ne.mpr c53
             have c53b1 : (x8_4 != (l0_0.length : Int)) = true := bne_iff_ne.mpr c53
             obtain rfl := Option.some.inj H
             have hcz74_0 : wr.cell? ⟨gb138, 0, none⟩ = some (.slice A0_0 l0_0.length c0_0) := (blk_cell BK138.out 0).trans rfl
             have hcz74_1 : wr.cell? ⟨gb138, 1, none⟩ = some (.slice A0_1 l0_1.length c0_1) := (blk_cell BK138.out 1).trans rfl
             have hcz74_2 : wr.cell? ⟨gb138, 2, none⟩ = some (.int .i64 a0_2) := (blk_cell BK138.out 2).trans rfl
             have hcz74_3 : wr.cell? ⟨gb138, 3, none⟩ = some (.int .i64 a0_3) := (blk_cell BK138.out 3).trans rfl
             have hfz74_0 := blk_frozen BK138.out 0
             have hfz74_1 := blk_frozen BK138.out 1
             have hfz74_2 := blk_frozen BK138.out 2
             have hfz74_3 := blk_frozen BK138.out 3
             go_wp2
             go_ret
             exact ⟨by first | rfl | (simp [errW_none, errW_some] <;> rfl) | (simp [*, errW_none, errW_some] <;> rfl), by repeat (first | (with_reducible first | exact HB.out | apply below_alloc | apply pw_below_drewN | apply below_drew1 | refine below_set ?_ GE138.out) | exact HB.out)⟩
end Go.Proofs.Ytihmfdndiicjgaa.C
