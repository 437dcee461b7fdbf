import Derived.Test.YtihmfdndiicjgaaCx0
import Derived.Test.YtihmfdndiicjgaaCx1
import Derived.Test.YtihmfdndiicjgaaCx2
namespace Go.Proofs.Ytihmfdndiicjgaa.C
open Go.RowKit Go.Proofs.YtihmfdndiicjgaaW.PrintWords Go.Proofs.YtihmfdndiicjgaaW.PrintLast Go.Proofs.YtihmfdndiicjgaaW.PrintMore
attribute [local go_sem] max2_int min2_int max_two min_two max_three min_three max_four min_four   -- for this text's walks alone
set_option linter.unusedVariables false
set_option linter.unusedSimpArgs false
mutual
def linker_Check.j0 : Nat → Bool → List Int → List (S39) → Int → Int → Option (Int)
 | 0, _, _, _, _, _ => none
 | k + 1, x3, x139000, x139001, x139002, x139003 => linker_Check.l0 k x3 x139001 (x139001.length : Int) 0 x139000 x139001 x139002 x139003
def linker_Check.l0 : Nat → Bool → List (S39) → Int → Int → List Int → List (S39) → Int → Int → Option (Int)
 | 0, _, _, _, _, _, _, _, _ => none
 | k + 1, x3, x36, x37, x38, x139000, x139001, x139002, x139003 => if x38 < x37 then (if 0 ≤ x38 then (if x38 < (x36.length : Int) then (if x3 = true then ((linker_in.f ((rd_T39 x36 x38).f3) 512).bind fun t143 => (linker_Check.l0 k t143 x36 x37 (wrap64 (x38 + 1)) x139000 x139001 x139002 x139003)) else (linker_Check.l0 k false x36 x37 (wrap64 (x38 + 1)) x139000 x139001 x139002 x139003)) else (none)) else (none)) else (if x3 = true then (linker_Check.l1 k x139001 (x139001.length : Int) 0 x139000 x139001 x139002 x139003) else (some 2))
def linker_Check.l1 : Nat → List (S39) → Int → Int → List Int → List (S39) → Int → Int → Option (Int)
 | 0, _, _, _, _, _, _, _ => none
 | k + 1, x52, x53, x54, x139000, x139001, x139002, x139003 => if x54 < x53 then (if 0 ≤ x54 then (if x54 < (x52.length : Int) then ((linker_named.f ((rd_T39 x52 x54).f0)).bind fun t146 => (if t146 = true then (linker_Check.l1 k x52 x53 (wrap64 (x54 + 1)) x139000 x139001 x139002 x139003) else (some 6))) else (none)) else (none)) else (linker_Check.l2 k 0 x139001 (x139001.length : Int) 0 x139000 x139001 x139002 x139003)
def linker_Check.l2 : Nat → Int → List (S39) → Int → Int → List Int → List (S39) → Int → Int → Option (Int)
 | 0, _, _, _, _, _, _, _, _ => none
 | k + 1, x8, x64, x65, x66, x139000, x139001, x139002, x139003 => if x66 < x65 then (if 0 ≤ x66 then (if x66 < (x64.length : Int) then (if ((rd_T39 x64 x66).f1) = x8 then (if ((rd_T39 x64 x66).f2) ≤ ((rd_T39 x64 x66).f1) then (some 14) else (linker_Check.l2 k ((rd_T39 x64 x66).f2) x64 x65 (wrap64 (x66 + 1)) x139000 x139001 x139002 x139003)) else (some 14)) else (none)) else (none)) else (if x8 = (x139000.length : Int) then (linker_Check.l3 k x139001 (x139001.length : Int) 0 x139000 x139001 x139002 x139003) else (some 14))
def linker_Check.l3 : Nat → List (S39) → Int → Int → List Int → List (S39) → Int → Int → Option (Int)
 | 0, _, _, _, _, _, _, _ => none
 | k + 1, x90, x91, x92, x139000, x139001, x139002, x139003 => if x92 < x91 then (if 0 ≤ x92 then (if x92 < (x90.length : Int) then (linker_Check.l4 k ((rd_T39 x90 x92).f1) x90 x91 x92 x139000 x139001 x139002 x139003 ((rd_T39 x90 x92).f0) ((rd_T39 x90 x92).f1) ((rd_T39 x90 x92).f2) ((rd_T39 x90 x92).f3)) else (none)) else (none)) else (some 0)
def linker_Check.l4 : Nat → Int → List (S39) → Int → Int → List Int → List (S39) → Int → Int → ByteArray → Int → Int → Int → Option (Int)
 | 0, _, _, _, _, _, _, _, _, _, _, _, _ => none
 | k + 1, x13, x90, x91, x92, x139000, x139001, x139002, x139003, x151000, x151001, x151002, x151003 => if x13 < x151002 then ((linker_checkWord.f k x139000 x139001 x139002 x139003 x151000 x151001 x151002 x151003 x13).bind fun t151 => (if t151 = 0 then (linker_Check.l4 k (wrap64 (x13 + 1)) x90 x91 x92 x139000 x139001 x139002 x139003 x151000 x151001 x151002 x151003) else (some t151))) else (linker_Check.l3 k x90 x91 (wrap64 (x92 + 1)) x139000 x139001 x139002 x139003)
end
def linker_Check.f (k : Nat) (l0_0 : List Int) (l0_1 : List (S39)) (a0_2 : Int) (a0_3 : Int) : Option (Int) := if (l0_0.length : Int) ≤ 4096 then (if (l0_1.length : Int) ≤ 8 then ((linker_in.f a0_2 64).bind fun t139 => (if t139 = true then ((linker_in.f a0_3 4).bind fun t140 => (linker_Check.j0 k t140 l0_0 l0_1 a0_2 a0_3)) else (linker_Check.j0 k false l0_0 l0_1 a0_2 a0_3))) else (linker_Check.j0 k false l0_0 l0_1 a0_2 a0_3)) else (linker_Check.j0 k false l0_0 l0_1 a0_2 a0_3)
theorem linker_Check.mono_l : ∀ k, (∀ y0 y1 y2 y3 y4, LeO (linker_Check.j0 k y0 y1 y2 y3 y4) (linker_Check.j0 (k + 1) y0 y1 y2 y3 y4)) ∧ (∀ y0 y1 y2 y3 y4 y5 y6 y7, LeO (linker_Check.l0 k y0 y1 y2 y3 y4 y5 y6 y7) (linker_Check.l0 (k + 1) y0 y1 y2 y3 y4 y5 y6 y7)) ∧ (∀ y0 y1 y2 y3 y4 y5 y6, LeO (linker_Check.l1 k y0 y1 y2 y3 y4 y5 y6) (linker_Check.l1 (k + 1) y0 y1 y2 y3 y4 y5 y6)) ∧ (∀ y0 y1 y2 y3 y4 y5 y6 y7, LeO (linker_Check.l2 k y0 y1 y2 y3 y4 y5 y6 y7) (linker_Check.l2 (k + 1) y0 y1 y2 y3 y4 y5 y6 y7)) ∧ (∀ y0 y1 y2 y3 y4 y5 y6, LeO (linker_Check.l3 k y0 y1 y2 y3 y4 y5 y6) (linker_Check.l3 (k + 1) y0 y1 y2 y3 y4 y5 y6)) ∧ (∀ y0 y1 y2 y3 y4 y5 y6 y7 y8 y9 y10 y11, LeO (linker_Check.l4 k y0 y1 y2 y3 y4 y5 y6 y7 y8 y9 y10 y11) (linker_Check.l4 (k + 1) y0 y1 y2 y3 y4 y5 y6 y7 y8 y9 y10 y11))
 | 0 => ⟨fun _ _ _ _ _ r h => by simp [linker_Check.j0] at h, fun _ _ _ _ _ _ _ _ r h => by simp [linker_Check.l0] at h, fun _ _ _ _ _ _ _ r h => by simp [linker_Check.l1] at h, fun _ _ _ _ _ _ _ _ r h => by simp [linker_Check.l2] at h, fun _ _ _ _ _ _ _ r h => by simp [linker_Check.l3] at h, fun _ _ _ _ _ _ _ _ _ _ _ _ r h => by simp [linker_Check.l4] at h⟩
 | k + 1 => by
  obtain ⟨ih0, ih1, ih2, ih3, ih4, ih5⟩ := linker_Check.mono_l k
  refine ⟨?_, ?_, ?_, ?_, ?_, ?_⟩
  all_goals intros
  all_goals (first | unfold linker_Check.j0 | unfold linker_Check.l0 | unfold linker_Check.l1 | unfold linker_Check.l2 | unfold linker_Check.l3 | unfold linker_Check.l4)
  all_goals repeat' first
  | (with_reducible exact ih0 _ _ _ _ _)
  | (with_reducible exact ih1 _ _ _ _ _ _ _ _)
  | (with_reducible exact ih2 _ _ _ _ _ _ _)
  | (with_reducible exact ih3 _ _ _ _ _ _ _ _)
  | (with_reducible exact ih4 _ _ _ _ _ _ _)
  | (with_reducible exact ih5 _ _ _ _ _ _ _ _ _ _ _ _)
  | (with_reducible exact linker_checkWord.mono _ _ _ _ _ _ _ _ _ _)
  | (with_reducible exact LeO.refl _)
  | (with_reducible exact LeO.none _)
  | (with_reducible refine LeO.ite ?_ ?_)
  | (with_reducible refine LeO.bind ?_ (fun _ => ?_))
  | exact ih0 _ _ _ _ _
  | exact ih1 _ _ _ _ _ _ _ _
  | exact ih2 _ _ _ _ _ _ _
  | exact ih3 _ _ _ _ _ _ _ _
  | exact ih4 _ _ _ _ _ _ _
  | exact ih5 _ _ _ _ _ _ _ _ _ _ _ _
  | exact linker_checkWord.mono _ _ _ _ _ _ _ _ _ _
  | exact LeO.none _
  | refine LeO.ite ?_ ?_
  | refine LeO.bind ?_ (fun _ => ?_)
theorem linker_Check.mono : ∀ a0 a1 a2 a3 k, LeO (linker_Check.f k a0 a1 a2 a3) (linker_Check.f (k + 1) a0 a1 a2 a3) := by
 intro a0 a1 a2 a3 k
 obtain ⟨ih0, ih1, ih2, ih3, ih4, ih5⟩ := linker_Check.mono_l k
 unfold linker_Check.f
 repeat' first
   | (with_reducible exact ih0 _ _ _ _ _)
   | (with_reducible exact ih1 _ _ _ _ _ _ _ _)
   | (with_reducible exact ih2 _ _ _ _ _ _ _)
   | (with_reducible exact ih3 _ _ _ _ _ _ _ _)
   | (with_reducible exact ih4 _ _ _ _ _ _ _)
   | (with_reducible exact ih5 _ _ _ _ _ _ _ _ _ _ _ _)
   | (with_reducible exact linker_checkWord.mono _ _ _ _ _ _ _ _ _ _)
   | (with_reducible exact LeO.refl _)
   | (with_reducible exact LeO.none _)
   | (with_reducible refine LeO.ite ?_ ?_)
   | (with_reducible refine LeO.bind ?_ (fun _ => ?_))
   | exact ih0 _ _ _ _ _
   | exact ih1 _ _ _ _ _ _ _ _
   | exact ih2 _ _ _ _ _ _ _
   | exact ih3 _ _ _ _ _ _ _ _
   | exact ih4 _ _ _ _ _ _ _
   | exact ih5 _ _ _ _ _ _ _ _ _ _ _ _
   | exact linker_checkWord.mono _ _ _ _ _ _ _ _ _ _
   | exact LeO.none _
   | refine LeO.ite ?_ ?_
   | refine LeO.bind ?_ (fun _ => ?_)
set_option maxHeartbeats 8000000 in
set_option maxRecDepth 100000 in
theorem linker_Check.calls (k : Nat) (A0_0 : Option Addr) (c0_0 : Nat) (l0_0 : List Int) (A0_1 : Option Addr) (c0_1 : Nat) (l0_1 : List (S39)) (a0_2 : Int) (a0_3 : Int) (r : Int) (w : World) (hr0_0 : Kd.C (Kd.int .u32) w A0_0 l0_0.length l0_0) (hc0_0 : l0_0.length ≤ c0_0) (hr0_1 : Kd.C k39 w A0_1 l0_1.length l0_1) (hc0_1 : l0_1.length ≤ c0_1) (h : linker_Check.f k l0_0 l0_1 a0_2 a0_3 = some r) :
  Calls Try.prog 13 #[.agg #[.slice A0_0 l0_0.length c0_0, .slice A0_1 l0_1.length c0_1, .int .i64 a0_2, .int .i64 a0_3]] w fun e w' => e = .returned (.int .i64 r) ∧ Below w.heap.size w w' := by
 have hu25 := Try.underlying25
 have hu39 := Try.underlying39
 have HR0_0 := aK hr0_0
 have HC0_0 := aK hc0_0
 clear hr0_0 hc0_0
 have HR0_1 := aK hr0_1
 have HC0_1 := aK hc0_1
 clear hr0_1 hc0_1
 have HB := aK (Below.refl w.heap.size w)
 have H : (if (l0_0.length : Int) ≤ 4096 then (if (l0_1.length : Int) ≤ 8 then ((linker_in.f a0_2 64).bind fun t139 => (if t139 = true then ((linker_in.f a0_3 4).bind fun t140 => (linker_Check.j0 k t140 l0_0 l0_1 a0_2 a0_3)) else (linker_Check.j0 k false l0_0 l0_1 a0_2 a0_3))) else (linker_Check.j0 k false l0_0 l0_1 a0_2 a0_3)) else (linker_Check.j0 k false l0_0 l0_1 a0_2 a0_3)) = some r := h
 clear h
 have HC2 := aK H
 clear H
 go_enter Try.func13, Try.ntmps13
 go_upto_region 1 with (first | ((refine gate_dst (N := 1) rfl ?_); (try (refine gate_guard (by rfl) ?_; dsimp only)); refine box_event ?hg (N := 1) ?hd (cs := #[.slice A0_0 l0_0.length c0_0, .slice A0_1 l0_1.length c0_1, .int .i64 a0_2, .int .i64 a0_3]) (t := 25) ?hr ?_; (case hd => rfl); (case hg => rfl); (case hr => first | (go_simp; done) | (go_simp; rfl)); intro gb138 hg w3 hbox hb; have BK138 := aK (hbox); have GW138 := aK ((by rw [hg]; exact (below_size (tB0 HB.out)) : w.heap.size ≤ gb138)); have GE138 := GW138; replace HB := aK (below_step (tB0 HB.out) hb); clear hb hbox hg))
 (try simp only [Act.put, pA, pB, pC])
 go_cut [3] (fun v3 wc => ∃ (kq : Nat) (x3_1 : Bool), v3 = .bool x3_1 ∧ Aside0 (linker_Check.j0 kq x3_1 l0_0 l0_1 a0_2 a0_3 = some r) ∧ Aside0 (kq ≤ k) ∧ Aside0 (wc.heap[gb138]? = some (.cells #[(.slice A0_0 l0_0.length c0_0), (.slice A0_1 l0_1.length c0_1), .int .i64 a0_2, .int .i64 a0_3] 25 (0, 0))) ∧ Aside0 (Below w.heap.size w wc))
 case first =>
  have H := HC2.out
  clear HC2
  by_cases c4 : (l0_0.length : Int) ≤ 4096
  ·rw [if_pos c4] at H
   have c4b0 : decide ((l0_0.length : Int) ≤ 4096) = true := decide_eq_true c4
   have c4b1 : decide (l0_0.length ≤ 4096) = true := decide_eq_true (by omega)
   clear c4
   (first | rw [c4b0] | (simp only [i64_w, i32_w]; rw [c4b0]) | skip)
   by_cases c5 : (l0_1.length : Int) ≤ 8
   ·rw [if_pos c5] at H
    have c5b0 : decide ((l0_1.length : Int) ≤ 8) = true := decide_eq_true c5
    have c5b1 : decide (l0_1.length ≤ 8) = true := decide_eq_true (by omega)
    clear c5
    replace H := bM H
    obtain ⟨t139, A60, H⟩ := H
    (try dsimp only at H)
    have A6 := aK A60
    clear A60
    by_cases c7 : t139 = true
    ·subst c7
     rw [if_pos rfl] at H
     replace H := bM H
     obtain ⟨t140, A80, H⟩ := H
     (try dsimp only at H)
     have A8 := aK A80
     clear A80
     have H' := aK H
     clear H
     have hcz9_0 := bc 0 BK138.out
     have hcz9_1 := bc 1 BK138.out
     have hcz9_2 := bc 2 BK138.out
     have hcz9_3 := bc 3 BK138.out
     have hfz9_0 := blk_frozen BK138.out 0
     have hfz9_1 := blk_frozen BK138.out 1
     have hfz9_2 := blk_frozen BK138.out 2
     have hfz9_3 := blk_frozen BK138.out 3
     go_wp2_with (first | (go_at_call 40; (with_reducible refine (linker_in.calls a0_2 64 true _ A6.out).mono ?_); rintro e w' ⟨rfl, ⟨nd, rfl⟩⟩) | (go_at_call 40; (with_reducible refine (linker_in.calls a0_3 4 t140 _ A8.out).mono ?_); rintro e w' ⟨rfl, ⟨nd, rfl⟩⟩))
     go_meet
     case rel => exact ⟨_, (t140), (by first | rfl | (simp; done) | (simp [*]; done)), H', ⟨by first | omega | exact Nat.le_refl _⟩, ⟨tK BK138.out⟩, ⟨tB1 HB.out GE138.out⟩⟩
    ·replace c7 := Bool.eq_false_iff.mpr c7
     subst c7
     rw [if_neg (show ¬ (false = true) by decide)] at H
     have H' := aK H
     clear H
     have hcz10_0 := bc 0 BK138.out
     have hcz10_1 := bc 1 BK138.out
     have hcz10_2 := bc 2 BK138.out
     have hcz10_3 := bc 3 BK138.out
     have hfz10_0 := blk_frozen BK138.out 0
     have hfz10_1 := blk_frozen BK138.out 1
     have hfz10_2 := blk_frozen BK138.out 2
     have hfz10_3 := blk_frozen BK138.out 3
     go_wp2_with (first | (go_at_call 40; (with_reducible refine (linker_in.calls a0_2 64 false _ A6.out).mono ?_); rintro e w' ⟨rfl, ⟨nd, rfl⟩⟩))
     go_meet
     case rel => exact ⟨_, (false), (by first | rfl | (simp; done) | (simp [*]; done)), H', ⟨by first | omega | exact Nat.le_refl _⟩, ⟨tK BK138.out⟩, ⟨tB1 HB.out GE138.out⟩⟩
   ·rw [if_neg c5] at H
    have c5b0 : decide ((l0_1.length : Int) ≤ 8) = false := decide_eq_false c5
    have c5b1 : decide (l0_1.length ≤ 8) = false := decide_eq_false (by omega)
    clear c5
    have H' := aK H
    clear H
    have hcz11_0 := bc 0 BK138.out
    have hcz11_1 := bc 1 BK138.out
    have hcz11_2 := bc 2 BK138.out
    have hcz11_3 := bc 3 BK138.out
    have hfz11_0 := blk_frozen BK138.out 0
    have hfz11_1 := blk_frozen BK138.out 1
    have hfz11_2 := blk_frozen BK138.out 2
    have hfz11_3 := blk_frozen BK138.out 3
    go_wp2
    go_meet
    case rel => exact ⟨_, (false), (by first | rfl | (simp; done) | (simp [*]; done)), H', ⟨by first | omega | exact Nat.le_refl _⟩, ⟨tK BK138.out⟩, ⟨tB1 HB.out GE138.out⟩⟩
  ·rw [if_neg c4] at H
   have c4b0 : decide ((l0_0.length : Int) ≤ 4096) = false := decide_eq_false c4
   have c4b1 : decide (l0_0.length ≤ 4096) = false := decide_eq_false (by omega)
   clear c4
   (first | rw [c4b0] | (simp only [i64_w, i32_w]; rw [c4b0]) | skip)
   have H' := aK H
   clear H
   have hcz12_0 := bc 0 BK138.out
   have hcz12_1 := bc 1 BK138.out
   have hcz12_2 := bc 2 BK138.out
   have hcz12_3 := bc 3 BK138.out
   have hfz12_0 := blk_frozen BK138.out 0
   have hfz12_1 := blk_frozen BK138.out 1
   have hfz12_2 := blk_frozen BK138.out 2
   have hfz12_3 := blk_frozen BK138.out 3
   go_wp2
   go_meet
   case rel => exact ⟨_, (false), (by first | rfl | (simp; done) | (simp [*]; done)), H', ⟨by first | omega | exact Nat.le_refl _⟩, ⟨tK BK138.out⟩, ⟨tB1 HB.out GE138.out⟩⟩
 clear HC2
 obtain ⟨kq, x3_1, rfl, HA, HJ1, BK138, HB⟩ := hcut
 cases kq with
 | zero => exact absurd HA.out (by simp [linker_Check.j0])
 | succ kj1 =>
  have H := HA.out
  clear HA
  simp only [linker_Check.j0] at H
  have H' := aK H
  clear H
  have hcz13_0 := bc 0 BK138.out
  have hcz13_1 := bc 1 BK138.out
  have hcz13_2 := bc 2 BK138.out
  have hcz13_3 := bc 3 BK138.out
  have hfz13_0 := blk_frozen BK138.out 0
  have hfz13_1 := blk_frozen BK138.out 1
  have hfz13_2 := blk_frozen BK138.out 2
  have hfz13_3 := blk_frozen BK138.out 3
  go_wp2
  go_loopg [3, 38] kj1 (fun kq v3 v38 w' => ∃ (x3_2 : Bool) (x38_2 : Int), v3 = .bool x3_2 ∧ v38 = .int .i64 x38_2 ∧ Aside0 (linker_Check.l0 kq x3_2 l0_1 (l0_1.length : Int) x38_2 l0_0 l0_1 a0_2 a0_3 = some r) ∧ Aside0 (kq ≤ kj1) ∧ Aside0 (w'.heap[gb138]? = some (.cells #[(.slice A0_0 l0_0.length c0_0), (.slice A0_1 l0_1.length c0_1), .int .i64 a0_2, .int .i64 a0_3] 25 (0, 0))) ∧ Aside0 (Below w.heap.size w w'))
  case atStart => exact ⟨(x3_1), (0), (by first | rfl | (simp; done) | (simp [*]; done)), (by first | rfl | (simp; done) | (simp [*]; done)), H', ⟨Nat.le_refl _⟩, ⟨tK BK138.out⟩, ⟨tB1 HB.out GE138.out⟩⟩
  clear H'
  obtain ⟨x3_2, x38_2, rfl, rfl, HA, HK2, BK138, HB⟩ := hrel
  cases gk with
  | zero => exact absurd HA.out (by simp [linker_Check.l0])
  | succ k2 =>
   have H := HA.out
   clear HA
   simp only [linker_Check.l0] at H
   by_cases c14 : x38_2 < (l0_1.length : Int)
   ·rw [if_pos c14] at H
    have c14b0 : decide (x38_2 < (l0_1.length : Int)) = true := decide_eq_true c14
    clear c14
    by_cases c15 : 0 ≤ x38_2
    rotate_left
    ·rw [if_neg c15] at H
     exact absurd H (by simp)
    rw [if_pos c15] at H
    have c15b0 : decide (0 ≤ x38_2) = true := decide_eq_true c15
    clear c15
    by_cases c16 : x38_2 < (l0_1.length : Int)
    rotate_left
    ·rw [if_neg c16] at H
     exact absurd H (by simp)
    rw [if_pos c16] at H
    have c16b0 : decide (x38_2 < (l0_1.length : Int)) = true := decide_eq_true c16
    clear c16
    by_cases c17 : x3_2 = true
    ·subst c17
     rw [if_pos rfl] at H
     replace H := bM H
     obtain ⟨t143, A180, H⟩ := H
     (try dsimp only at H)
     have A18 := aK A180
     clear A180
     have H' := aK H
     clear H
     have p141 : 0 ≤ (x38_2 : Int) := tD
     have q141 : x38_2 < (l0_1.length : Int) := tD
     obtain ⟨ad141, e141, hx141_0, hx141_1, hx141_2, hx141_3⟩ := at_T39 HR0_1.out x38_2 p141 q141
     cases e141
     replace hx141_0 := cB HB.out hx141_0
     replace hx141_1 := cB HB.out hx141_1
     replace hx141_2 := cB HB.out hx141_2
     replace hx141_3 := cB HB.out hx141_3
     replace p141 := eq_true p141
     replace q141 := eq_true q141
     go_wp2_with (first | ((refine gate_dst (N := 5) rfl ?_); (try (refine gate_guard (by rfl) ?_; dsimp only)); refine box_event ?hg (N := 5) ?hd (cs := #[.string (⟨#[]⟩ : ByteArray), .int .i64 0, .int .i64 0, .int .i64 0]) (t := 39) ?hr ?_; (case hd => rfl); (case hg => rfl); (case hr => first | (go_simp; done) | (go_simp; rfl)); intro gb142 hg w19 hbox hb; have BK142 := aK (hbox); have GW142 := aK ((by rw [hg]; exact (below_size (tB1 HB.out GE138.out)) : w.heap.size ≤ gb142)); have GE142 := GW142; replace HB := aK (below_step (tB1 HB.out GE138.out) hb); have NB138_142 := aK ((by rw [hg]; exact Nat.ne_of_lt (blk_lt (g := gb138) (o := .cells #[.slice A0_0 l0_0.length c0_0, .slice (some ad141) l0_1.length c0_1, .int .i64 a0_2, .int .i64 a0_3] 25 (0, 0)) (tK BK138.out)) : gb138 ≠ gb142)); have NB142_138 := aK ((by rw [hg]; exact Nat.ne_of_gt (blk_lt (g := gb138) (o := .cells #[.slice A0_0 l0_0.length c0_0, .slice (some ad141) l0_1.length c0_1, .int .i64 a0_2, .int .i64 a0_3] 25 (0, 0)) (tK BK138.out)) : gb142 ≠ gb138)); replace BK138 := aK (blk_below (g := gb138) (tK BK138.out) hb); clear hb hbox hg; have hnb20 := NB142_138.out; have hnc20 := NB138_142.out; have hcz21_0 := bc 0 BK142.out; have hcz21_1 := bc 1 BK142.out; have hcz21_2 := bc 2 BK142.out; have hcz21_3 := bc 3 BK142.out; have hfz21_0 := blk_frozen BK142.out 0; have hfz21_1 := blk_frozen BK142.out 1; have hfz21_2 := blk_frozen BK142.out 2; have hfz21_3 := blk_frozen BK142.out 3) | (go_at_call 40; (with_reducible refine (linker_in.calls ((rd_T39 l0_1 x38_2).f3) 512 t143 _ A18.out).mono ?_); rintro e w' ⟨rfl, ⟨nd, rfl⟩⟩))
     go_roundg k2
     case measure => have := HJ1.out; have := HK2.out; omega
     case rel => exact ⟨(t143), (wrap64 (x38_2 + 1)), (by first | rfl | (simp; done) | (simp [*]; done)), (by first | rfl | (simp; done) | (simp [*]; done)), H', ⟨by have := HJ1.out; have := HK2.out; omega⟩, ⟨by refine tK ?_; refine blk_far ?_ NB138_142.out _; refine tK ?_; refine blk_far ?_ NB138_142.out _; refine tK ?_; refine blk_far ?_ NB138_142.out _; refine tK ?_; refine blk_far ?_ NB138_142.out _; refine tK ?_; exact BK138.out⟩, ⟨tB2 HB.out GE138.out GE142.out⟩⟩
    ·replace c17 := Bool.eq_false_iff.mpr c17
     subst c17
     rw [if_neg (show ¬ (false = true) by decide)] at H
     have H' := aK H
     clear H
     have p141 : 0 ≤ (x38_2 : Int) := tD
     have q141 : x38_2 < (l0_1.length : Int) := tD
     obtain ⟨ad141, e141, hx141_0, hx141_1, hx141_2, hx141_3⟩ := at_T39 HR0_1.out x38_2 p141 q141
     cases e141
     replace hx141_0 := cB HB.out hx141_0
     replace hx141_1 := cB HB.out hx141_1
     replace hx141_2 := cB HB.out hx141_2
     replace hx141_3 := cB HB.out hx141_3
     replace p141 := eq_true p141
     replace q141 := eq_true q141
     go_wp2_with (first | ((refine gate_dst (N := 5) rfl ?_); (try (refine gate_guard (by rfl) ?_; dsimp only)); refine box_event ?hg (N := 5) ?hd (cs := #[.string (⟨#[]⟩ : ByteArray), .int .i64 0, .int .i64 0, .int .i64 0]) (t := 39) ?hr ?_; (case hd => rfl); (case hg => rfl); (case hr => first | (go_simp; done) | (go_simp; rfl)); intro gb142 hg w22 hbox hb; have BK142 := aK (hbox); have GW142 := aK ((by rw [hg]; exact (below_size (tB1 HB.out GE138.out)) : w.heap.size ≤ gb142)); have GE142 := GW142; replace HB := aK (below_step (tB1 HB.out GE138.out) hb); have NB138_142 := aK ((by rw [hg]; exact Nat.ne_of_lt (blk_lt (g := gb138) (o := .cells #[.slice A0_0 l0_0.length c0_0, .slice (some ad141) l0_1.length c0_1, .int .i64 a0_2, .int .i64 a0_3] 25 (0, 0)) (tK BK138.out)) : gb138 ≠ gb142)); have NB142_138 := aK ((by rw [hg]; exact Nat.ne_of_gt (blk_lt (g := gb138) (o := .cells #[.slice A0_0 l0_0.length c0_0, .slice (some ad141) l0_1.length c0_1, .int .i64 a0_2, .int .i64 a0_3] 25 (0, 0)) (tK BK138.out)) : gb142 ≠ gb138)); replace BK138 := aK (blk_below (g := gb138) (tK BK138.out) hb); clear hb hbox hg; have hnb23 := NB142_138.out; have hnc23 := NB138_142.out; have hcz24_0 := bc 0 BK142.out; have hcz24_1 := bc 1 BK142.out; have hcz24_2 := bc 2 BK142.out; have hcz24_3 := bc 3 BK142.out; have hfz24_0 := blk_frozen BK142.out 0; have hfz24_1 := blk_frozen BK142.out 1; have hfz24_2 := blk_frozen BK142.out 2; have hfz24_3 := blk_frozen BK142.out 3))
     go_roundg k2
     case measure => have := HJ1.out; have := HK2.out; omega
     case rel => exact ⟨(false), (wrap64 (x38_2 + 1)), (by first | rfl | (simp; done) | (simp [*]; done)), (by first | rfl | (simp; done) | (simp [*]; done)), H', ⟨by have := HJ1.out; have := HK2.out; omega⟩, ⟨by refine tK ?_; refine blk_far ?_ NB138_142.out _; refine tK ?_; refine blk_far ?_ NB138_142.out _; refine tK ?_; refine blk_far ?_ NB138_142.out _; refine tK ?_; refine blk_far ?_ NB138_142.out _; refine tK ?_; exact BK138.out⟩, ⟨tB2 HB.out GE138.out GE142.out⟩⟩
   ·rw [if_neg c14] at H
    have c14b0 : decide (x38_2 < (l0_1.length : Int)) = false := decide_eq_false c14
    clear c14
    by_cases c25 : x3_2 = true
    rotate_left
    ·replace c25 := Bool.eq_false_iff.mpr c25
     subst c25
     rw [if_neg (show ¬ (false = true) by decide)] at H
     obtain rfl := oI H
     go_wp2
     go_ret
     exact ⟨by first | rfl | (simp [errW_none, errW_some] <;> rfl) | (simp [*, errW_none, errW_some] <;> rfl), by repeat (first | (with_reducible first | exact HB.out | apply below_alloc | apply pw_below_drewN | apply below_drew1 | refine below_set ?_ GE138.out) | exact HB.out)⟩
    subst c25
    rw [if_pos rfl] at H
    have H' := aK H
    clear H
    have hcz26_0 := bc 0 BK138.out
    have hcz26_1 := bc 1 BK138.out
    have hcz26_2 := bc 2 BK138.out
    have hcz26_3 := bc 3 BK138.out
    have hfz26_0 := blk_frozen BK138.out 0
    have hfz26_1 := blk_frozen BK138.out 1
    have hfz26_2 := blk_frozen BK138.out 2
    have hfz26_3 := blk_frozen BK138.out 3
    go_wp2
    go_loopg [54] k2 (fun kq v54 w' => ∃ (x54_3 : Int), v54 = .int .i64 x54_3 ∧ Aside0 (linker_Check.l1 kq l0_1 (l0_1.length : Int) x54_3 l0_0 l0_1 a0_2 a0_3 = some r) ∧ Aside0 (kq ≤ k2) ∧ Aside0 (w'.heap[gb138]? = some (.cells #[(.slice A0_0 l0_0.length c0_0), (.slice A0_1 l0_1.length c0_1), .int .i64 a0_2, .int .i64 a0_3] 25 (0, 0))) ∧ Aside0 (Below w.heap.size w w'))
    case atStart => exact ⟨(0), (by first | rfl | (simp; done) | (simp [*]; done)), H', ⟨Nat.le_refl _⟩, ⟨tK BK138.out⟩, ⟨tB1 HB.out GE138.out⟩⟩
    clear H'
    obtain ⟨x54_3, rfl, HA, HK3, BK138, HB⟩ := hrel
    cases gk with
    | zero => exact absurd HA.out (by simp [linker_Check.l1])
    | succ k3 =>
     have H := HA.out
     clear HA
     simp only [linker_Check.l1] at H
     by_cases c27 : x54_3 < (l0_1.length : Int)
     ·rw [if_pos c27] at H
      have c27b0 : decide (x54_3 < (l0_1.length : Int)) = true := decide_eq_true c27
      clear c27
      by_cases c28 : 0 ≤ x54_3
      rotate_left
      ·rw [if_neg c28] at H
       exact absurd H (by simp)
      rw [if_pos c28] at H
      have c28b0 : decide (0 ≤ x54_3) = true := decide_eq_true c28
      clear c28
      by_cases c29 : x54_3 < (l0_1.length : Int)
      rotate_left
      ·rw [if_neg c29] at H
       exact absurd H (by simp)
      rw [if_pos c29] at H
      have c29b0 : decide (x54_3 < (l0_1.length : Int)) = true := decide_eq_true c29
      clear c29
      replace H := bM H
      obtain ⟨t146, A300, H⟩ := H
      (try dsimp only at H)
      have A30 := aK A300
      clear A300
      by_cases c31 : t146 = true
      ·subst c31
       rw [if_pos rfl] at H
       have H' := aK H
       clear H
       have p144 : 0 ≤ (x54_3 : Int) := tD
       have q144 : x54_3 < (l0_1.length : Int) := tD
       obtain ⟨ad144, e144, hx144_0, hx144_1, hx144_2, hx144_3⟩ := at_T39 HR0_1.out x54_3 p144 q144
       cases e144
       replace hx144_0 := cB HB.out hx144_0
       replace hx144_1 := cB HB.out hx144_1
       replace hx144_2 := cB HB.out hx144_2
       replace hx144_3 := cB HB.out hx144_3
       replace p144 := eq_true p144
       replace q144 := eq_true q144
       go_wp2_with (first | ((refine gate_dst (N := 7) rfl ?_); (try (refine gate_guard (by rfl) ?_; dsimp only)); refine box_event ?hg (N := 7) ?hd (cs := #[.string (⟨#[]⟩ : ByteArray), .int .i64 0, .int .i64 0, .int .i64 0]) (t := 39) ?hr ?_; (case hd => rfl); (case hg => rfl); (case hr => first | (go_simp; done) | (go_simp; rfl)); intro gb145 hg w32 hbox hb; have BK145 := aK (hbox); have GW145 := aK ((by rw [hg]; exact (below_size (tB1 HB.out GE138.out)) : w.heap.size ≤ gb145)); have GE145 := GW145; replace HB := aK (below_step (tB1 HB.out GE138.out) hb); have NB138_145 := aK ((by rw [hg]; exact Nat.ne_of_lt (blk_lt (g := gb138) (o := .cells #[.slice A0_0 l0_0.length c0_0, .slice (some ad144) l0_1.length c0_1, .int .i64 a0_2, .int .i64 a0_3] 25 (0, 0)) (tK BK138.out)) : gb138 ≠ gb145)); have NB145_138 := aK ((by rw [hg]; exact Nat.ne_of_gt (blk_lt (g := gb138) (o := .cells #[.slice A0_0 l0_0.length c0_0, .slice (some ad144) l0_1.length c0_1, .int .i64 a0_2, .int .i64 a0_3] 25 (0, 0)) (tK BK138.out)) : gb145 ≠ gb138)); replace BK138 := aK (blk_below (g := gb138) (tK BK138.out) hb); clear hb hbox hg; have hnb33 := NB145_138.out; have hnc33 := NB138_145.out; have hcz34_0 := bc 0 BK145.out; have hcz34_1 := bc 1 BK145.out; have hcz34_2 := bc 2 BK145.out; have hcz34_3 := bc 3 BK145.out; have hfz34_0 := blk_frozen BK145.out 0; have hfz34_1 := blk_frozen BK145.out 1; have hfz34_2 := blk_frozen BK145.out 2; have hfz34_3 := blk_frozen BK145.out 3) | ((refine gate_callee (f := 41) rfl ?_); refine goesL_ (some 60) rfl rfl Try.func41 (by kernel_rfl) rfl #[.string ((rd_T39 l0_1 x54_3).f0)] rfl tF ?_; (with_reducible refine (linker_named.calls ((rd_T39 l0_1 x54_3).f0) true _ A30.out).mono ?_); rintro e w' ⟨rfl, ⟨nd, rfl⟩⟩; refine ⟨_, rfl, ?_⟩))
       go_roundg k3
       case measure => have := HJ1.out; have := HK2.out; have := HK3.out; omega
       case rel => exact ⟨(wrap64 (x54_3 + 1)), (by first | rfl | (simp; done) | (simp [*]; done)), H', ⟨by have := HJ1.out; have := HK2.out; have := HK3.out; omega⟩, ⟨by refine tK ?_; refine blk_far ?_ NB138_145.out _; refine tK ?_; refine blk_far ?_ NB138_145.out _; refine tK ?_; refine blk_far ?_ NB138_145.out _; refine tK ?_; refine blk_far ?_ NB138_145.out _; refine tK ?_; exact BK138.out⟩, ⟨tB2 HB.out GE138.out GE145.out⟩⟩
      ·replace c31 := Bool.eq_false_iff.mpr c31
       subst c31
       rw [if_neg (show ¬ (false = true) by decide)] at H
       obtain rfl := oI H
       have p144 : 0 ≤ (x54_3 : Int) := tD
       have q144 : x54_3 < (l0_1.length : Int) := tD
       obtain ⟨ad144, e144, hx144_0, hx144_1, hx144_2, hx144_3⟩ := at_T39 HR0_1.out x54_3 p144 q144
       cases e144
       replace hx144_0 := cB HB.out hx144_0
       replace hx144_1 := cB HB.out hx144_1
       replace hx144_2 := cB HB.out hx144_2
       replace hx144_3 := cB HB.out hx144_3
       replace p144 := eq_true p144
       replace q144 := eq_true q144
       go_wp2_with (first | ((refine gate_dst (N := 7) rfl ?_); (try (refine gate_guard (by rfl) ?_; dsimp only)); refine box_event ?hg (N := 7) ?hd (cs := #[.string (⟨#[]⟩ : ByteArray), .int .i64 0, .int .i64 0, .int .i64 0]) (t := 39) ?hr ?_; (case hd => rfl); (case hg => rfl); (case hr => first | (go_simp; done) | (go_simp; rfl)); intro gb145 hg w35 hbox hb; have BK145 := aK (hbox); have GW145 := aK ((by rw [hg]; exact (below_size (tB1 HB.out GE138.out)) : w.heap.size ≤ gb145)); have GE145 := GW145; replace HB := aK (below_step (tB1 HB.out GE138.out) hb); have NB138_145 := aK ((by rw [hg]; exact Nat.ne_of_lt (blk_lt (g := gb138) (o := .cells #[.slice A0_0 l0_0.length c0_0, .slice (some ad144) l0_1.length c0_1, .int .i64 a0_2, .int .i64 a0_3] 25 (0, 0)) (tK BK138.out)) : gb138 ≠ gb145)); have NB145_138 := aK ((by rw [hg]; exact Nat.ne_of_gt (blk_lt (g := gb138) (o := .cells #[.slice A0_0 l0_0.length c0_0, .slice (some ad144) l0_1.length c0_1, .int .i64 a0_2, .int .i64 a0_3] 25 (0, 0)) (tK BK138.out)) : gb145 ≠ gb138)); replace BK138 := aK (blk_below (g := gb138) (tK BK138.out) hb); clear hb hbox hg; have hnb36 := NB145_138.out; have hnc36 := NB138_145.out; have hcz37_0 := bc 0 BK145.out; have hcz37_1 := bc 1 BK145.out; have hcz37_2 := bc 2 BK145.out; have hcz37_3 := bc 3 BK145.out; have hfz37_0 := blk_frozen BK145.out 0; have hfz37_1 := blk_frozen BK145.out 1; have hfz37_2 := blk_frozen BK145.out 2; have hfz37_3 := blk_frozen BK145.out 3) | ((refine gate_callee (f := 41) rfl ?_); refine goesL_ (some 60) rfl rfl Try.func41 (by kernel_rfl) rfl #[.string ((rd_T39 l0_1 x54_3).f0)] rfl tF ?_; (with_reducible refine (linker_named.calls ((rd_T39 l0_1 x54_3).f0) false _ A30.out).mono ?_); rintro e w' ⟨rfl, ⟨nd, rfl⟩⟩; refine ⟨_, rfl, ?_⟩))
       go_ret
       exact ⟨by first | rfl | (simp [errW_none, errW_some] <;> rfl) | (simp [*, errW_none, errW_some] <;> rfl), by repeat (first | (with_reducible first | exact HB.out | apply below_alloc | apply pw_below_drewN | apply below_drew1 | refine below_set ?_ GE138.out | refine below_set ?_ GE145.out) | exact HB.out)⟩
     ·rw [if_neg c27] at H
      have c27b0 : decide (x54_3 < (l0_1.length : Int)) = false := decide_eq_false c27
      clear c27
      have H' := aK H
      clear H
      have hcz38_0 := bc 0 BK138.out
      have hcz38_1 := bc 1 BK138.out
      have hcz38_2 := bc 2 BK138.out
      have hcz38_3 := bc 3 BK138.out
      have hfz38_0 := blk_frozen BK138.out 0
      have hfz38_1 := blk_frozen BK138.out 1
      have hfz38_2 := blk_frozen BK138.out 2
      have hfz38_3 := blk_frozen BK138.out 3
      go_wp2
      go_loopg [8, 66] k3 (fun kq v8 v66 w' => ∃ (x8_4 : Int) (x66_4 : Int), v8 = .int .i64 x8_4 ∧ v66 = .int .i64 x66_4 ∧ Aside0 (linker_Check.l2 kq x8_4 l0_1 (l0_1.length : Int) x66_4 l0_0 l0_1 a0_2 a0_3 = some r) ∧ Aside0 (kq ≤ k3) ∧ Aside0 (w'.heap[gb138]? = some (.cells #[(.slice A0_0 l0_0.length c0_0), (.slice A0_1 l0_1.length c0_1), .int .i64 a0_2, .int .i64 a0_3] 25 (0, 0))) ∧ Aside0 (Below w.heap.size w w'))
      case atStart => exact ⟨(0), (0), (by first | rfl | (simp; done) | (simp [*]; done)), (by first | rfl | (simp; done) | (simp [*]; done)), H', ⟨Nat.le_refl _⟩, ⟨tK BK138.out⟩, ⟨tB1 HB.out GE138.out⟩⟩
      clear H'
      obtain ⟨x8_4, x66_4, rfl, rfl, HA, HK4, BK138, HB⟩ := hrel
      cases gk with
      | zero => exact absurd HA.out (by simp [linker_Check.l2])
      | succ k4 =>
       have H := HA.out
       clear HA
       simp only [linker_Check.l2] at H
       by_cases c39 : x66_4 < (l0_1.length : Int)
       ·rw [if_pos c39] at H
        have c39b0 : decide (x66_4 < (l0_1.length : Int)) = true := decide_eq_true c39
        clear c39
        by_cases c40 : 0 ≤ x66_4
        rotate_left
        ·rw [if_neg c40] at H
         exact absurd H (by simp)
        rw [if_pos c40] at H
        have c40b0 : decide (0 ≤ x66_4) = true := decide_eq_true c40
        clear c40
        by_cases c41 : x66_4 < (l0_1.length : Int)
        rotate_left
        ·rw [if_neg c41] at H
         exact absurd H (by simp)
        rw [if_pos c41] at H
        have c41b0 : decide (x66_4 < (l0_1.length : Int)) = true := decide_eq_true c41
        clear c41
        by_cases c42 : ((rd_T39 l0_1 x66_4).f1) = x8_4
        ·rw [if_pos c42] at H
         have c42b0 : (((rd_T39 l0_1 x66_4).f1) == x8_4) = true := beq_iff_eq.mpr c42
         have c42b1 : (((rd_T39 l0_1 x66_4).f1) != x8_4) = false := bne_eq_false_iff_eq.mpr c42
         clear c42
         by_cases c43 : ((rd_T39 l0_1 x66_4).f2) ≤ ((rd_T39 l0_1 x66_4).f1)
         ·rw [if_pos c43] at H
          have c43b0 : decide (((rd_T39 l0_1 x66_4).f2) ≤ ((rd_T39 l0_1 x66_4).f1)) = true := decide_eq_true c43
          clear c43
          obtain rfl := oI H
          have p147 : 0 ≤ (x66_4 : Int) := tD
          have q147 : x66_4 < (l0_1.length : Int) := tD
          obtain ⟨ad147, e147, hx147_0, hx147_1, hx147_2, hx147_3⟩ := at_T39 HR0_1.out x66_4 p147 q147
          cases e147
          replace hx147_0 := cB HB.out hx147_0
          replace hx147_1 := cB HB.out hx147_1
          replace hx147_2 := cB HB.out hx147_2
          replace hx147_3 := cB HB.out hx147_3
          replace p147 := eq_true p147
          replace q147 := eq_true q147
          go_wp2_with (first | ((refine gate_dst (N := 10) rfl ?_); (try (refine gate_guard (by rfl) ?_; dsimp only)); refine box_event ?hg (N := 10) ?hd (cs := #[.string (⟨#[]⟩ : ByteArray), .int .i64 0, .int .i64 0, .int .i64 0]) (t := 39) ?hr ?_; (case hd => rfl); (case hg => rfl); (case hr => first | (go_simp; done) | (go_simp; rfl)); intro gb148 hg w44 hbox hb; have BK148 := aK (hbox); have GW148 := aK ((by rw [hg]; exact (below_size (tB1 HB.out GE138.out)) : w.heap.size ≤ gb148)); have GE148 := GW148; replace HB := aK (below_step (tB1 HB.out GE138.out) hb); have NB138_148 := aK ((by rw [hg]; exact Nat.ne_of_lt (blk_lt (g := gb138) (o := .cells #[.slice A0_0 l0_0.length c0_0, .slice (some ad147) l0_1.length c0_1, .int .i64 a0_2, .int .i64 a0_3] 25 (0, 0)) (tK BK138.out)) : gb138 ≠ gb148)); have NB148_138 := aK ((by rw [hg]; exact Nat.ne_of_gt (blk_lt (g := gb138) (o := .cells #[.slice A0_0 l0_0.length c0_0, .slice (some ad147) l0_1.length c0_1, .int .i64 a0_2, .int .i64 a0_3] 25 (0, 0)) (tK BK138.out)) : gb148 ≠ gb138)); replace BK138 := aK (blk_below (g := gb138) (tK BK138.out) hb); clear hb hbox hg; have hnb45 := NB148_138.out; have hnc45 := NB138_148.out; have hcz46_0 := bc 0 BK148.out; have hcz46_1 := bc 1 BK148.out; have hcz46_2 := bc 2 BK148.out; have hcz46_3 := bc 3 BK148.out; have hfz46_0 := blk_frozen BK148.out 0; have hfz46_1 := blk_frozen BK148.out 1; have hfz46_2 := blk_frozen BK148.out 2; have hfz46_3 := blk_frozen BK148.out 3))
          go_ret
          exact ⟨by first | rfl | (simp [errW_none, errW_some] <;> rfl) | (simp [*, errW_none, errW_some] <;> rfl), by repeat (first | (with_reducible first | exact HB.out | apply below_alloc | apply pw_below_drewN | apply below_drew1 | refine below_set ?_ GE138.out | refine below_set ?_ GE148.out) | exact HB.out)⟩
         ·rw [if_neg c43] at H
          have c43b0 : decide (((rd_T39 l0_1 x66_4).f2) ≤ ((rd_T39 l0_1 x66_4).f1)) = false := decide_eq_false c43
          clear c43
          have H' := aK H
          clear H
          have p147 : 0 ≤ (x66_4 : Int) := tD
          have q147 : x66_4 < (l0_1.length : Int) := tD
          obtain ⟨ad147, e147, hx147_0, hx147_1, hx147_2, hx147_3⟩ := at_T39 HR0_1.out x66_4 p147 q147
          cases e147
          replace hx147_0 := cB HB.out hx147_0
          replace hx147_1 := cB HB.out hx147_1
          replace hx147_2 := cB HB.out hx147_2
          replace hx147_3 := cB HB.out hx147_3
          replace p147 := eq_true p147
          replace q147 := eq_true q147
          go_wp2_with (first | ((refine gate_dst (N := 10) rfl ?_); (try (refine gate_guard (by rfl) ?_; dsimp only)); refine box_event ?hg (N := 10) ?hd (cs := #[.string (⟨#[]⟩ : ByteArray), .int .i64 0, .int .i64 0, .int .i64 0]) (t := 39) ?hr ?_; (case hd => rfl); (case hg => rfl); (case hr => first | (go_simp; done) | (go_simp; rfl)); intro gb148 hg w47 hbox hb; have BK148 := aK (hbox); have GW148 := aK ((by rw [hg]; exact (below_size (tB1 HB.out GE138.out)) : w.heap.size ≤ gb148)); have GE148 := GW148; replace HB := aK (below_step (tB1 HB.out GE138.out) hb); have NB138_148 := aK ((by rw [hg]; exact Nat.ne_of_lt (blk_lt (g := gb138) (o := .cells #[.slice A0_0 l0_0.length c0_0, .slice (some ad147) l0_1.length c0_1, .int .i64 a0_2, .int .i64 a0_3] 25 (0, 0)) (tK BK138.out)) : gb138 ≠ gb148)); have NB148_138 := aK ((by rw [hg]; exact Nat.ne_of_gt (blk_lt (g := gb138) (o := .cells #[.slice A0_0 l0_0.length c0_0, .slice (some ad147) l0_1.length c0_1, .int .i64 a0_2, .int .i64 a0_3] 25 (0, 0)) (tK BK138.out)) : gb148 ≠ gb138)); replace BK138 := aK (blk_below (g := gb138) (tK BK138.out) hb); clear hb hbox hg; have hnb48 := NB148_138.out; have hnc48 := NB138_148.out; have hcz49_0 := bc 0 BK148.out; have hcz49_1 := bc 1 BK148.out; have hcz49_2 := bc 2 BK148.out; have hcz49_3 := bc 3 BK148.out; have hfz49_0 := blk_frozen BK148.out 0; have hfz49_1 := blk_frozen BK148.out 1; have hfz49_2 := blk_frozen BK148.out 2; have hfz49_3 := blk_frozen BK148.out 3))
          go_roundg k4
          case measure => have := HJ1.out; have := HK2.out; have := HK3.out; have := HK4.out; omega
          case rel => exact ⟨((rd_T39 l0_1 x66_4).f2), (wrap64 (x66_4 + 1)), (by first | rfl | (simp; done) | (simp [*]; done)), (by first | rfl | (simp; done) | (simp [*]; done)), H', ⟨by have := HJ1.out; have := HK2.out; have := HK3.out; have := HK4.out; omega⟩, ⟨by refine tK ?_; refine blk_far ?_ NB138_148.out _; refine tK ?_; refine blk_far ?_ NB138_148.out _; refine tK ?_; refine blk_far ?_ NB138_148.out _; refine tK ?_; refine blk_far ?_ NB138_148.out _; refine tK ?_; exact BK138.out⟩, ⟨tB2 HB.out GE138.out GE148.out⟩⟩
        ·rw [if_neg c42] at H
         have c42b0 : (((rd_T39 l0_1 x66_4).f1) == x8_4) = false := beq_eq_false_iff_ne.mpr c42
         have c42b1 : (((rd_T39 l0_1 x66_4).f1) != x8_4) = true := bne_iff_ne.mpr c42
         obtain rfl := oI H
         have p147 : 0 ≤ (x66_4 : Int) := tD
         have q147 : x66_4 < (l0_1.length : Int) := tD
         obtain ⟨ad147, e147, hx147_0, hx147_1, hx147_2, hx147_3⟩ := at_T39 HR0_1.out x66_4 p147 q147
         cases e147
         replace hx147_0 := cB HB.out hx147_0
         replace hx147_1 := cB HB.out hx147_1
         replace hx147_2 := cB HB.out hx147_2
         replace hx147_3 := cB HB.out hx147_3
         replace p147 := eq_true p147
         replace q147 := eq_true q147
         go_wp2_with (first | ((refine gate_dst (N := 10) rfl ?_); (try (refine gate_guard (by rfl) ?_; dsimp only)); refine box_event ?hg (N := 10) ?hd (cs := #[.string (⟨#[]⟩ : ByteArray), .int .i64 0, .int .i64 0, .int .i64 0]) (t := 39) ?hr ?_; (case hd => rfl); (case hg => rfl); (case hr => first | (go_simp; done) | (go_simp; rfl)); intro gb148 hg w50 hbox hb; have BK148 := aK (hbox); have GW148 := aK ((by rw [hg]; exact (below_size (tB1 HB.out GE138.out)) : w.heap.size ≤ gb148)); have GE148 := GW148; replace HB := aK (below_step (tB1 HB.out GE138.out) hb); have NB138_148 := aK ((by rw [hg]; exact Nat.ne_of_lt (blk_lt (g := gb138) (o := .cells #[.slice A0_0 l0_0.length c0_0, .slice (some ad147) l0_1.length c0_1, .int .i64 a0_2, .int .i64 a0_3] 25 (0, 0)) (tK BK138.out)) : gb138 ≠ gb148)); have NB148_138 := aK ((by rw [hg]; exact Nat.ne_of_gt (blk_lt (g := gb138) (o := .cells #[.slice A0_0 l0_0.length c0_0, .slice (some ad147) l0_1.length c0_1, .int .i64 a0_2, .int .i64 a0_3] 25 (0, 0)) (tK BK138.out)) : gb148 ≠ gb138)); replace BK138 := aK (blk_below (g := gb138) (tK BK138.out) hb); clear hb hbox hg; have hnb51 := NB148_138.out; have hnc51 := NB138_148.out; have hcz52_0 := bc 0 BK148.out; have hcz52_1 := bc 1 BK148.out; have hcz52_2 := bc 2 BK148.out; have hcz52_3 := bc 3 BK148.out; have hfz52_0 := blk_frozen BK148.out 0; have hfz52_1 := blk_frozen BK148.out 1; have hfz52_2 := blk_frozen BK148.out 2; have hfz52_3 := blk_frozen BK148.out 3))
         go_ret
         exact ⟨by first | rfl | (simp [errW_none, errW_some] <;> rfl) | (simp [*, errW_none, errW_some] <;> rfl), by repeat (first | (with_reducible first | exact HB.out | apply below_alloc | apply pw_below_drewN | apply below_drew1 | refine below_set ?_ GE138.out | refine below_set ?_ GE148.out) | exact HB.out)⟩
       ·rw [if_neg c39] at H
        have c39b0 : decide (x66_4 < (l0_1.length : Int)) = false := decide_eq_false c39
        clear c39
        by_cases c53 : x8_4 = (l0_0.length : Int)
        ·rw [if_pos c53] at H
         have c53b0 : (x8_4 == (l0_0.length : Int)) = true := beq_iff_eq.mpr c53
         have c53b1 : (x8_4 != (l0_0.length : Int)) = false := bne_eq_false_iff_eq.mpr c53
         clear c53
         have H' := aK H
         clear H
         have hcz54_0 := bc 0 BK138.out
         have hcz54_1 := bc 1 BK138.out
         have hcz54_2 := bc 2 BK138.out
         have hcz54_3 := bc 3 BK138.out
         have hfz54_0 := blk_frozen BK138.out 0
         have hfz54_1 := blk_frozen BK138.out 1
         have hfz54_2 := blk_frozen BK138.out 2
         have hfz54_3 := blk_frozen BK138.out 3
         go_wp2
         go_loopg [92] k4 (fun kq v92 w' => ∃ (x92_5 : Int), v92 = .int .i64 x92_5 ∧ Aside0 (linker_Check.l3 kq l0_1 (l0_1.length : Int) x92_5 l0_0 l0_1 a0_2 a0_3 = some r) ∧ Aside0 (kq ≤ k4) ∧ Aside0 (w'.heap[gb138]? = some (.cells #[(.slice A0_0 l0_0.length c0_0), (.slice A0_1 l0_1.length c0_1), .int .i64 a0_2, .int .i64 a0_3] 25 (0, 0))) ∧ Aside0 (Below w.heap.size w w'))
         case atStart => exact ⟨(0), (by first | rfl | (simp; done) | (simp [*]; done)), H', ⟨Nat.le_refl _⟩, ⟨tK BK138.out⟩, ⟨tB1 HB.out GE138.out⟩⟩
         clear H'
         obtain ⟨x92_5, rfl, HA, HK5, BK138, HB⟩ := hrel
         cases gk with
         | zero => exact absurd HA.out (by simp [linker_Check.l3])
         | succ k5 =>
          have H := HA.out
          clear HA
          simp only [linker_Check.l3] at H
          by_cases c55 : x92_5 < (l0_1.length : Int)
          rotate_left
          ·rw [if_neg c55] at H
           have c55b0 : decide (x92_5 < (l0_1.length : Int)) = false := decide_eq_false c55
           clear c55
           obtain rfl := oI H
           go_wp2
           go_ret
           exact ⟨by first | rfl | (simp [errW_none, errW_some] <;> rfl) | (simp [*, errW_none, errW_some] <;> rfl), by repeat (first | (with_reducible first | exact HB.out | apply below_alloc | apply pw_below_drewN | apply below_drew1 | refine below_set ?_ GE138.out) | exact HB.out)⟩
          rw [if_pos c55] at H
          have c55b0 : decide (x92_5 < (l0_1.length : Int)) = true := decide_eq_true c55
          clear c55
          by_cases c56 : 0 ≤ x92_5
          rotate_left
          ·rw [if_neg c56] at H
           exact absurd H (by simp)
          rw [if_pos c56] at H
          have c56b0 : decide (0 ≤ x92_5) = true := decide_eq_true c56
          clear c56
          by_cases c57 : x92_5 < (l0_1.length : Int)
          rotate_left
          ·rw [if_neg c57] at H
           exact absurd H (by simp)
          rw [if_pos c57] at H
          have c57b0 : decide (x92_5 < (l0_1.length : Int)) = true := decide_eq_true c57
          clear c57
          have H' := aK H
          clear H
          have p149 : 0 ≤ (x92_5 : Int) := tD
          have q149 : x92_5 < (l0_1.length : Int) := tD
          obtain ⟨ad149, e149, hx149_0, hx149_1, hx149_2, hx149_3⟩ := at_T39 HR0_1.out x92_5 p149 q149
          cases e149
          replace hx149_0 := cB HB.out hx149_0
          replace hx149_1 := cB HB.out hx149_1
          replace hx149_2 := cB HB.out hx149_2
          replace hx149_3 := cB HB.out hx149_3
          replace p149 := eq_true p149
          replace q149 := eq_true q149
          go_wp2_with (first | ((refine gate_dst (N := 12) rfl ?_); (try (refine gate_guard (by rfl) ?_; dsimp only)); refine box_event ?hg (N := 12) ?hd (cs := #[.string (⟨#[]⟩ : ByteArray), .int .i64 0, .int .i64 0, .int .i64 0]) (t := 39) ?hr ?_; (case hd => rfl); (case hg => rfl); (case hr => first | (go_simp; done) | (go_simp; rfl)); intro gb150 hg w58 hbox hb; have BK150 := aK (hbox); have GW150 := aK ((by rw [hg]; exact (below_size (tB1 HB.out GE138.out)) : w.heap.size ≤ gb150)); have GE150 := GW150; replace HB := aK (below_step (tB1 HB.out GE138.out) hb); have NB138_150 := aK ((by rw [hg]; exact Nat.ne_of_lt (blk_lt (g := gb138) (o := .cells #[.slice A0_0 l0_0.length c0_0, .slice (some ad149) l0_1.length c0_1, .int .i64 a0_2, .int .i64 a0_3] 25 (0, 0)) (tK BK138.out)) : gb138 ≠ gb150)); have NB150_138 := aK ((by rw [hg]; exact Nat.ne_of_gt (blk_lt (g := gb138) (o := .cells #[.slice A0_0 l0_0.length c0_0, .slice (some ad149) l0_1.length c0_1, .int .i64 a0_2, .int .i64 a0_3] 25 (0, 0)) (tK BK138.out)) : gb150 ≠ gb138)); replace BK138 := aK (blk_below (g := gb138) (tK BK138.out) hb); clear hb hbox hg; have hnb59 := NB150_138.out; have hnc59 := NB138_150.out; have hcz60_0 := bc 0 BK150.out; have hcz60_1 := bc 1 BK150.out; have hcz60_2 := bc 2 BK150.out; have hcz60_3 := bc 3 BK150.out; have hfz60_0 := blk_frozen BK150.out 0; have hfz60_1 := blk_frozen BK150.out 1; have hfz60_2 := blk_frozen BK150.out 2; have hfz60_3 := blk_frozen BK150.out 3))
          go_loopg [13] k5 (fun kq v13 w' => ∃ (x13_6 : Int), v13 = .int .i64 x13_6 ∧ Aside0 (linker_Check.l4 kq x13_6 l0_1 (l0_1.length : Int) x92_5 l0_0 l0_1 a0_2 a0_3 ((rd_T39 l0_1 x92_5).f0) ((rd_T39 l0_1 x92_5).f1) ((rd_T39 l0_1 x92_5).f2) ((rd_T39 l0_1 x92_5).f3) = some r) ∧ Aside0 (kq ≤ k5) ∧ Aside0 (w'.heap[gb138]? = some (.cells #[(.slice A0_0 l0_0.length c0_0), (.slice (some ad149) l0_1.length c0_1), .int .i64 a0_2, .int .i64 a0_3] 25 (0, 0))) ∧ Aside0 (w'.heap[gb150]? = some (.cells #[.string ((rd_T39 l0_1 x92_5).f0), .int .i64 ((rd_T39 l0_1 x92_5).f1), .int .i64 ((rd_T39 l0_1 x92_5).f2), .int .i64 ((rd_T39 l0_1 x92_5).f3)] 39 (0, 0))) ∧ Aside0 (Below w.heap.size w w'))
          case atStart => exact ⟨((rd_T39 l0_1 x92_5).f1), (by first | rfl | (simp; done) | (simp [*]; done)), H', ⟨Nat.le_refl _⟩, ⟨by refine tK ?_; refine blk_far ?_ NB138_150.out _; refine tK ?_; refine blk_far ?_ NB138_150.out _; refine tK ?_; refine blk_far ?_ NB138_150.out _; refine tK ?_; refine blk_far ?_ NB138_150.out _; refine tK ?_; exact BK138.out⟩, ⟨by refine tK ?_; refine blk_put (cs := #[.string ((rd_T39 l0_1 x92_5).f0), .int .i64 ((rd_T39 l0_1 x92_5).f1), .int .i64 ((rd_T39 l0_1 x92_5).f2), .int .i64 0]) ?_ 3 _ rfl; refine tK ?_; refine blk_put (cs := #[.string ((rd_T39 l0_1 x92_5).f0), .int .i64 ((rd_T39 l0_1 x92_5).f1), .int .i64 0, .int .i64 0]) ?_ 2 _ rfl; refine tK ?_; refine blk_put (cs := #[.string ((rd_T39 l0_1 x92_5).f0), .int .i64 0, .int .i64 0, .int .i64 0]) ?_ 1 _ rfl; refine tK ?_; refine blk_put (cs := #[.string (⟨#[]⟩ : ByteArray), .int .i64 0, .int .i64 0, .int .i64 0]) ?_ 0 _ rfl; refine tK ?_; exact BK150.out⟩, ⟨tB2 HB.out GE138.out GE150.out⟩⟩
          clear H'
          obtain ⟨x13_6, rfl, HA, HK6, BK138, BK150, HB⟩ := hrel
          cases gk with
          | zero => exact absurd HA.out (by simp [linker_Check.l4])
          | succ k6 =>
           have H := HA.out
           clear HA
           simp only [linker_Check.l4] at H
           by_cases c61 : x13_6 < ((rd_T39 l0_1 x92_5).f2)
           ·rw [if_pos c61] at H
            have c61b0 : decide (x13_6 < ((rd_T39 l0_1 x92_5).f2)) = true := decide_eq_true c61
            clear c61
            replace H := bM H
            obtain ⟨t151, A620, H⟩ := H
            (try dsimp only at H)
            have A62 := aK A620
            clear A620
            by_cases c63 : t151 = 0
            ·rw [if_pos c63] at H
             have c63b0 : (t151 == 0) = true := beq_iff_eq.mpr c63
             have c63b1 : (t151 != 0) = false := bne_eq_false_iff_eq.mpr c63
             clear c63
             have H' := aK H
             clear H
             have hnb64 := NB150_138.out
             have hnc64 := NB138_150.out
             have hcz65_0 := bc 0 BK150.out
             have hcz65_1 := bc 1 BK150.out
             have hcz65_2 := bc 2 BK150.out
             have hcz65_3 := bc 3 BK150.out
             have hfz65_0 := blk_frozen BK150.out 0
             have hfz65_1 := blk_frozen BK150.out 1
             have hfz65_2 := blk_frozen BK150.out 2
             have hfz65_3 := blk_frozen BK150.out 3
             have hcz66_0 := bc 0 BK138.out
             have hcz66_1 := bc 1 BK138.out
             have hcz66_2 := bc 2 BK138.out
             have hcz66_3 := bc 3 BK138.out
             have hfz66_0 := blk_frozen BK138.out 0
             have hfz66_1 := blk_frozen BK138.out 1
             have hfz66_2 := blk_frozen BK138.out 2
             have hfz66_3 := blk_frozen BK138.out 3
             go_wp2_with (first | ((refine gate_callee (f := 42) rfl ?_); refine goesL_ (some 107) rfl rfl Try.func42 (by kernel_rfl) rfl #[.agg #[.slice A0_0 l0_0.length c0_0, .slice (some ad149) l0_1.length c0_1, .int .i64 a0_2, .int .i64 a0_3], .agg #[.string ((rd_T39 l0_1 x92_5).f0), .int .i64 ((rd_T39 l0_1 x92_5).f1), .int .i64 ((rd_T39 l0_1 x92_5).f2), .int .i64 ((rd_T39 l0_1 x92_5).f3)], .int .i64 x13_6] rfl tF ?_; (with_reducible refine (linker_checkWord.calls k6 _ _ l0_0 _ _ l0_1 a0_2 a0_3 ((rd_T39 l0_1 x92_5).f0) ((rd_T39 l0_1 x92_5).f1) ((rd_T39 l0_1 x92_5).f2) ((rd_T39 l0_1 x92_5).f3) x13_6 t151 _ ?side1 ?side2 ?side3 ?side4 A62.out).mono ?_); (case side1 => exact tC (Kd.C_below HR0_0.out HB.out)); (case side2 => exact HC0_0.out); (case side3 => exact tC (Kd.C_below HR0_1.out HB.out)); (case side4 => exact HC0_1.out); rintro e w67 ⟨rfl, hb⟩; refine ⟨_, rfl, ?_⟩; replace BK138 := aK (blk_below (g := gb138) (tK BK138.out) hb); replace BK150 := aK (blk_below (g := gb150) (tK BK150.out) hb); replace HB := aK (below_step (tB2 HB.out GE138.out GE150.out) hb)))
             go_roundg k6
             case measure => have := HJ1.out; have := HK2.out; have := HK3.out; have := HK4.out; have := HK5.out; have := HK6.out; omega
             case rel => exact ⟨(wrap64 (x13_6 + 1)), (by first | rfl | (simp; done) | (simp [*]; done)), H', ⟨by have := HJ1.out; have := HK2.out; have := HK3.out; have := HK4.out; have := HK5.out; have := HK6.out; omega⟩, ⟨tK BK138.out⟩, ⟨tK BK150.out⟩, ⟨tB2 HB.out GE138.out GE150.out⟩⟩
            ·rw [if_neg c63] at H
             have c63b0 : (t151 == 0) = false := beq_eq_false_iff_ne.mpr c63
             have c63b1 : (t151 != 0) = true := bne_iff_ne.mpr c63
             obtain rfl := oI H
             have hnb68 := NB150_138.out
             have hnc68 := NB138_150.out
             have hcz69_0 := bc 0 BK150.out
             have hcz69_1 := bc 1 BK150.out
             have hcz69_2 := bc 2 BK150.out
             have hcz69_3 := bc 3 BK150.out
             have hfz69_0 := blk_frozen BK150.out 0
             have hfz69_1 := blk_frozen BK150.out 1
             have hfz69_2 := blk_frozen BK150.out 2
             have hfz69_3 := blk_frozen BK150.out 3
             have hcz70_0 := bc 0 BK138.out
             have hcz70_1 := bc 1 BK138.out
             have hcz70_2 := bc 2 BK138.out
             have hcz70_3 := bc 3 BK138.out
             have hfz70_0 := blk_frozen BK138.out 0
             have hfz70_1 := blk_frozen BK138.out 1
             have hfz70_2 := blk_frozen BK138.out 2
             have hfz70_3 := blk_frozen BK138.out 3
             go_wp2_with (first | ((refine gate_callee (f := 42) rfl ?_); refine goesL_ (some 107) rfl rfl Try.func42 (by kernel_rfl) rfl #[.agg #[.slice A0_0 l0_0.length c0_0, .slice (some ad149) l0_1.length c0_1, .int .i64 a0_2, .int .i64 a0_3], .agg #[.string ((rd_T39 l0_1 x92_5).f0), .int .i64 ((rd_T39 l0_1 x92_5).f1), .int .i64 ((rd_T39 l0_1 x92_5).f2), .int .i64 ((rd_T39 l0_1 x92_5).f3)], .int .i64 x13_6] rfl tF ?_; (with_reducible refine (linker_checkWord.calls k6 _ _ l0_0 _ _ l0_1 a0_2 a0_3 ((rd_T39 l0_1 x92_5).f0) ((rd_T39 l0_1 x92_5).f1) ((rd_T39 l0_1 x92_5).f2) ((rd_T39 l0_1 x92_5).f3) x13_6 t151 _ ?side1 ?side2 ?side3 ?side4 A62.out).mono ?_); (case side1 => exact tC (Kd.C_below HR0_0.out HB.out)); (case side2 => exact HC0_0.out); (case side3 => exact tC (Kd.C_below HR0_1.out HB.out)); (case side4 => exact HC0_1.out); rintro e w71 ⟨rfl, hb⟩; refine ⟨_, rfl, ?_⟩; replace BK138 := aK (blk_below (g := gb138) (tK BK138.out) hb); replace BK150 := aK (blk_below (g := gb150) (tK BK150.out) hb); replace HB := aK (below_step (tB2 HB.out GE138.out GE150.out) hb)))
             go_ret
             exact ⟨by first | rfl | (simp [errW_none, errW_some] <;> rfl) | (simp [*, errW_none, errW_some] <;> rfl), by repeat (first | (with_reducible first | exact HB.out | apply below_alloc | apply pw_below_drewN | apply below_drew1 | refine below_set ?_ GE138.out | refine below_set ?_ GE150.out) | exact HB.out)⟩
           ·rw [if_neg c61] at H
            have c61b0 : decide (x13_6 < ((rd_T39 l0_1 x92_5).f2)) = false := decide_eq_false c61
            clear c61
            have H' := aK H
            clear H
            have hnb72 := NB150_138.out
            have hnc72 := NB138_150.out
            have hcz73_0 := bc 0 BK150.out
            have hcz73_1 := bc 1 BK150.out
            have hcz73_2 := bc 2 BK150.out
            have hcz73_3 := bc 3 BK150.out
            have hfz73_0 := blk_frozen BK150.out 0
            have hfz73_1 := blk_frozen BK150.out 1
            have hfz73_2 := blk_frozen BK150.out 2
            have hfz73_3 := blk_frozen BK150.out 3
            go_wp2
            go_roundg k6
            case measure => have := HJ1.out; have := HK2.out; have := HK3.out; have := HK4.out; have := HK5.out; have := HK6.out; omega
            case rel => exact ⟨(wrap64 (x92_5 + 1)), (by first | rfl | (simp; done) | (simp [*]; done)), H', ⟨by have := HJ1.out; have := HK2.out; have := HK3.out; have := HK4.out; have := HK5.out; have := HK6.out; omega⟩, ⟨tK BK138.out⟩, ⟨tB2 HB.out GE138.out GE150.out⟩⟩
        ·rw [if_neg c53] at H
         have c53b0 : (x8_4 == (l0_0.length : Int)) = false := beq_eq_false_iff_ne.mpr c53
         have c53b1 : (x8_4 != (l0_0.length : Int)) = true := bne_iff_ne.mpr c53
         obtain rfl := oI H
         have hcz74_0 := bc 0 BK138.out
         have hcz74_1 := bc 1 BK138.out
         have hcz74_2 := bc 2 BK138.out
         have hcz74_3 := bc 3 BK138.out
         have hfz74_0 := blk_frozen BK138.out 0
         have hfz74_1 := blk_frozen BK138.out 1
         have hfz74_2 := blk_frozen BK138.out 2
         have hfz74_3 := blk_frozen BK138.out 3
         go_wp2
         go_ret
         exact ⟨by first | rfl | (simp [errW_none, errW_some] <;> rfl) | (simp [*, errW_none, errW_some] <;> rfl), by repeat (first | (with_reducible first | exact HB.out | apply below_alloc | apply pw_below_drewN | apply below_drew1 | refine below_set ?_ GE138.out) | exact HB.out)⟩
end Go.Proofs.Ytihmfdndiicjgaa.C
