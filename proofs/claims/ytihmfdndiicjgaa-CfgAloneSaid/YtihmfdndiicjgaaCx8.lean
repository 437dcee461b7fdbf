-- Written by xprint.py (wip/tools) out of the translation and of this project's hand texts. Not trusted: Lean checks it.
import Derived.Test.YtihmfdndiicjgaaCx0
import Derived.Test.YtihmfdndiicjgaaCx6
import Derived.Test.YtihmfdndiicjgaaCx7
namespace Go.Proofs.Ytihmfdndiicjgaa.C
open Go.RowKit Go.Proofs.YtihmfdndiicjgaaW.PrintWords Go.Proofs.YtihmfdndiicjgaaW.PrintLast Go.Proofs.YtihmfdndiicjgaaW.PrintMore
attribute [local go_sem] max2_int min2_int max_two min_two max_three min_three max_four min_four   -- for this text's walks alone
set_option linter.unusedVariables false
set_option linter.unusedSimpArgs false
/-! ### ontimelaw24_is: function 16 -/
mutual
def ontimelaw24_is.j0 : Nat → List (S104) → Bool → List (S51) → List (List Int) → Option (Bool)
 | 0, _, _, _, _ => none
 | k + 1, x1, x21, x246000, x246001 => if x21 = true then (some false) else ((ontimeref24_Prev.f k x1).bind fun t246 => (ontimelaw24_is.l0 k x1 t246 x246000 (x246000.length : Int) 0 x246000 x246001))
def ontimelaw24_is.l0 : Nat → List (S104) → List (List Int) → List (S51) → Int → Int → List (S51) → List (List Int) → Option (Bool)
 | 0, _, _, _, _, _, _, _ => none
 | k + 1, x1, x5, x25, x26, x27, x246000, x246001 => if x27 < x26 then (if 0 ≤ x27 then (if x27 < (x25.length : Int) then (if x27 < (x1.length : Int) then (if ((rd_T51 x25 x27).f0) = ((rd_T104 x1 x27).f0) then (if ((rd_T51 x25 x27).f1) = ((rd_T104 x1 x27).f1) then ((ontimelaw24_ints.f k ((rd_T51 x25 x27).f2) ((rd_T104 x1 x27).f2)).bind fun t254 => (if t254 = true then (if x27 < (x246001.length : Int) then (if x27 < (x5.length : Int) then ((ontimelaw24_ints.f k (rd_L11 x246001 x27) (rd_L11 x5 x27)).bind fun t257 => (if t257 = true then (ontimelaw24_is.l0 k x1 x5 x25 x26 (wrap64 (x27 + 1)) x246000 x246001) else (some false))) else (none)) else (none)) else (some false))) else (some false)) else (some false)) else (none)) else (none)) else (none)) else (some true)
end
def ontimelaw24_is.f (k : Nat) (l0_0 : List (S51)) (l0_1 : List (List Int)) (l1 : List (S104)) : Option (Bool) := if (l0_0.length : Int) = (l1.length : Int) then (ontimelaw24_is.j0 k l1 ((l0_1.length : Int) != (l1.length : Int)) l0_0 l0_1) else (ontimelaw24_is.j0 k l1 true l0_0 l0_1)
theorem ontimelaw24_is.mono_l : ∀ k, (∀ y0 y1 y2 y3, LeO (ontimelaw24_is.j0 k y0 y1 y2 y3) (ontimelaw24_is.j0 (k + 1) y0 y1 y2 y3)) ∧ (∀ y0 y1 y2 y3 y4 y5 y6, LeO (ontimelaw24_is.l0 k y0 y1 y2 y3 y4 y5 y6) (ontimelaw24_is.l0 (k + 1) y0 y1 y2 y3 y4 y5 y6))
 | 0 => ⟨fun _ _ _ _ r h => by simp [ontimelaw24_is.j0] at h, fun _ _ _ _ _ _ _ r h => by simp [ontimelaw24_is.l0] at h⟩
 | k + 1 => by
  obtain ⟨ih0, ih1⟩ := ontimelaw24_is.mono_l k
  refine ⟨?_, ?_⟩
  ·intro y0 y1 y2 y3
   unfold ontimelaw24_is.j0
   repeat' first
   | (with_reducible exact ih0 _ _ _ _)
   | (with_reducible exact ih1 _ _ _ _ _ _ _)
   | (with_reducible exact ontimelaw24_ints.mono _ _ _)
   | (with_reducible exact ontimeref24_Prev.mono _ _)
   | (with_reducible exact LeO.refl _)
   | (with_reducible exact LeO.none _)
   | (with_reducible refine LeO.ite ?_ ?_)
   | (with_reducible refine LeO.bind ?_ (fun _ => ?_))
   | exact ih0 _ _ _ _
   | exact ih1 _ _ _ _ _ _ _
   | exact ontimelaw24_ints.mono _ _ _
   | exact ontimeref24_Prev.mono _ _
   | exact LeO.none _
   | refine LeO.ite ?_ ?_
   | refine LeO.bind ?_ (fun _ => ?_)
  ·intro y0 y1 y2 y3 y4 y5 y6
   unfold ontimelaw24_is.l0
   repeat' first
   | (with_reducible exact ih0 _ _ _ _)
   | (with_reducible exact ih1 _ _ _ _ _ _ _)
   | (with_reducible exact ontimelaw24_ints.mono _ _ _)
   | (with_reducible exact ontimeref24_Prev.mono _ _)
   | (with_reducible exact LeO.refl _)
   | (with_reducible exact LeO.none _)
   | (with_reducible refine LeO.ite ?_ ?_)
   | (with_reducible refine LeO.bind ?_ (fun _ => ?_))
   | exact ih0 _ _ _ _
   | exact ih1 _ _ _ _ _ _ _
   | exact ontimelaw24_ints.mono _ _ _
   | exact ontimeref24_Prev.mono _ _
   | exact LeO.none _
   | refine LeO.ite ?_ ?_
   | refine LeO.bind ?_ (fun _ => ?_)
theorem ontimelaw24_is.mono : ∀ a0 a1 a2 k, LeO (ontimelaw24_is.f k a0 a1 a2) (ontimelaw24_is.f (k + 1) a0 a1 a2) := by
 intro a0 a1 a2 k
 obtain ⟨ih0, ih1⟩ := ontimelaw24_is.mono_l k
 unfold ontimelaw24_is.f
 repeat' first
   | (with_reducible exact ih0 _ _ _ _)
   | (with_reducible exact ih1 _ _ _ _ _ _ _)
   | (with_reducible exact ontimelaw24_ints.mono _ _ _)
   | (with_reducible exact ontimeref24_Prev.mono _ _)
   | (with_reducible exact LeO.refl _)
   | (with_reducible exact LeO.none _)
   | (with_reducible refine LeO.ite ?_ ?_)
   | (with_reducible refine LeO.bind ?_ (fun _ => ?_))
   | exact ih0 _ _ _ _
   | exact ih1 _ _ _ _ _ _ _
   | exact ontimelaw24_ints.mono _ _ _
   | exact ontimeref24_Prev.mono _ _
   | exact LeO.none _
   | refine LeO.ite ?_ ?_
   | refine LeO.bind ?_ (fun _ => ?_)
def ontimelaw24_is.T7 : Bool × List (List Nat × List Nat) := (true, [([], []), ([0], [0]), ([], []), ([], []), ([2, 3], [2, 3]), ([4], [4]), ([5], [5]), ([1, 6], [1, 6]), ([7], [7]), ([8], [8]), ([9, 8], [8, 9]), ([8], [8]), ([8], [8]), ([11, 12, 8], [8, 11, 12]), ([13, 8], [8, 13]), ([14, 8], [8, 14]), ([10, 15, 8], [8, 10, 15]), ([8, 16], [8, 16]), ([17, 8], [17]), ([18], [18]), ([19, 18], [18, 19]), ([18], [18]), ([18], [18]), ([21, 22, 18], [18, 21, 22]), ([23, 18], [18, 23]), ([24, 18], [18, 24]), ([20, 25, 18, 18], [18, 20, 25]), ([26, 18], [18, 26]), ([18, 27], [18, 27]), ([28, 26], [28]), ([29], [29]), ([30, 29], [29, 30]), ([29], [29]), ([31, 32, 29], [29, 31, 32]), ([33, 29], [29, 33]), ([29], [29]), ([29], [29]), ([35, 36, 29], [29, 35, 36]), ([37, 29], [29, 37]), ([34, 38, 29, 29], [29, 34, 38]), ([39, 29], [29, 39]), ([29, 40], [29, 40])])
def ontimelaw24_is.B7 : List Nat := [0, 1, 0, 0, 12, 28, 60, 127, 255, 511, 1023, 511, 511, 6655, 14847, 31231, 65535, 131071, 262143, 524287, 1048575, 524287, 524287, 6815743, 15204351, 31981567, 67108863, 134217727, 268435455, 536870911, 1073741823, 2147483647, 1073741823, 8589934591, 17179869183, 1073741823, 1073741823, 104152956927, 241591910399, 549755813887, 1099511627775, 2199023255551]
theorem ontimelaw24_is.tab7 : rtab .any (opsOf Try.f16 7) = ontimelaw24_is.T7 := by kernel_rfl
theorem ontimelaw24_is.bits7 : waitsOk ontimelaw24_is.T7.2 ontimelaw24_is.B7 = true := by kernel_rfl
set_option maxHeartbeats 8000000 in
set_option maxRecDepth 100000 in
theorem ontimelaw24_is.calls (k : Nat) (A0_0 : Option Addr) (c0_0 : Nat) (l0_0 : List (S51)) (A0_1 : Option Addr) (c0_1 : Nat) (l0_1 : List (List Int)) (A1 : Option Addr) (c1 : Nat) (l1 : List (S104)) (r : Bool) (w : World) (hr0_0 : Kd.C k51 w A0_0 l0_0.length l0_0) (hc0_0 : l0_0.length ≤ c0_0) (hr0_1 : Kd.C (Kd.slice 3 (Kd.int .i64)) w A0_1 l0_1.length l0_1) (hc0_1 : l0_1.length ≤ c0_1) (hr1 : Kd.C k104 w A1 l1.length l1) (hc1 : l1.length ≤ c1) (h : ontimelaw24_is.f k l0_0 l0_1 l1 = some r) (hrt : r = true) :
  Calls Try.prog 16 #[.agg #[.slice A0_0 l0_0.length c0_0, .slice A0_1 l0_1.length c0_1], .slice A1 l1.length c1] w fun e w' => e = .returned (.bool r) ∧ Below w.heap.size w w' := by
 have HRT := Aside0.mk hrt
 clear hrt
 have hu31 := Try.underlying31
 have hu51 := Try.underlying51
 have HR0_0 := Aside0.mk hr0_0
 have HC0_0 := Aside0.mk hc0_0
 clear hr0_0 hc0_0
 have HR0_1 := Aside0.mk hr0_1
 have HC0_1 := Aside0.mk hc0_1
 clear hr0_1 hc0_1
 have HR1 := Aside0.mk hr1
 have HC1 := Aside0.mk hc1
 clear hr1 hc1
 have HB := Aside0.mk (Below.refl w.heap.size w)
 have H : (if (l0_0.length : Int) = (l1.length : Int) then (ontimelaw24_is.j0 k l1 ((l0_1.length : Int) != (l1.length : Int)) l0_0 l0_1) else (ontimelaw24_is.j0 k l1 true l0_0 l0_1)) = some r := h
 clear h
 have HC3 := Aside0.mk H
 clear H
 go_enter Try.func16, Try.ntmps16
 go_upto_region 1 with (first | ((with_reducible refine gate_dst (N := 2) rfl ?_); (try (refine gate_guard (by rfl) ?_; dsimp only)); refine box_event ?hg (N := 2) ?hd (cs := #[.slice A0_0 l0_0.length c0_0, .slice A0_1 l0_1.length c0_1]) (t := 31) ?hr ?_; (case hd => rfl); (case hg => rfl); (case hr => first | (go_simp; done) | (go_simp; rfl)); intro gb245 hg w4 hbox hb; have n0_ := Aside0.mk (below_step (tB0 HB.out) hb); have n1_ := Aside0.mk (hbox); have n2_ := Aside0.mk ((by rw [hg]; exact (below_size (tB0 HB.out)) : w.heap.size ≤ gb245)); have n3_ := Aside0.mk ((by rw [hg]; exact (below_size (tB0 HB.out)) : w.heap.size ≤ gb245)); clear HB; have HB := n0_; have BK245 := n1_; have GW245 := n2_; have GE245 := n3_; clear n0_ n1_ n2_ n3_; clear hb hbox hg))
 (try simp only [Act.put, pA, pB, pC])
 go_cut [21] (fun v21 wc => ∃ (kq : Nat) (x21_2 : Bool), v21 = .bool x21_2 ∧ Aside0 (ontimelaw24_is.j0 kq l1 x21_2 l0_0 l0_1 = some r) ∧ Aside0 (kq ≤ k) ∧ Aside0 (wc.heap[gb245]? = some (.cells #[(.slice A0_0 l0_0.length c0_0), (.slice A0_1 l0_1.length c0_1)] 31 (0, 0))) ∧ Aside0 (Below w.heap.size w wc))
 case first =>
  have H := HC3.out
  clear HC3
  by_cases c5 : (l0_0.length : Int) = (l1.length : Int)
  ·rw [if_pos c5] at H
   have c5b0 : ((l0_0.length : Int) == (l1.length : Int)) = true := beq_iff_eq.mpr c5
   have c5b1 : ((l0_0.length : Int) != (l1.length : Int)) = false := bne_eq_false_iff_eq.mpr c5
   have c5b2 : (l0_0.length == l1.length) = true := by first | simpa using c5 | (simp at c5 ⊢; omega)
   clear c5
   (first | rw [c5b0] | (simp only [i64_w, i32_w]; rw [c5b0]) | skip)
   have H' := Aside0.mk H
   clear H
   have hcz6_0 : w4.cell? ⟨gb245, 0, none⟩ = some (.slice A0_0 l0_0.length c0_0) := (blk_cell BK245.out 0).trans rfl
   have hcz6_1 : w4.cell? ⟨gb245, 1, none⟩ = some (.slice A0_1 l0_1.length c0_1) := (blk_cell BK245.out 1).trans rfl
   have hfz6_0 := blk_frozen BK245.out 0
   have hfz6_1 := blk_frozen BK245.out 1
   go_wp2
   go_meet
   case rel => exact ⟨_, (((l0_1.length : Int) != (l1.length : Int))), (by first | rfl | (simp; done) | (simp [*]; done)), H', ⟨by first | omega | exact Nat.le_refl _⟩, ⟨tK BK245.out⟩, ⟨tB1 HB.out GE245.out⟩⟩
  ·rw [if_neg c5] at H
   have c5b0 : ((l0_0.length : Int) == (l1.length : Int)) = false := beq_eq_false_iff_ne.mpr c5
   have c5b1 : ((l0_0.length : Int) != (l1.length : Int)) = true := bne_iff_ne.mpr c5
   have c5b2 : (l0_0.length == l1.length) = false := by first | simpa using c5 | (simp at c5 ⊢; omega)
   (first | rw [c5b0] | (simp only [i64_w, i32_w]; rw [c5b0]) | skip)
   have H' := Aside0.mk H
   clear H
   have hcz7_0 : w4.cell? ⟨gb245, 0, none⟩ = some (.slice A0_0 l0_0.length c0_0) := (blk_cell BK245.out 0).trans rfl
   have hcz7_1 : w4.cell? ⟨gb245, 1, none⟩ = some (.slice A0_1 l0_1.length c0_1) := (blk_cell BK245.out 1).trans rfl
   have hfz7_0 := blk_frozen BK245.out 0
   have hfz7_1 := blk_frozen BK245.out 1
   go_wp2
   go_meet
   case rel => exact ⟨_, (true), (by first | rfl | (simp; done) | (simp [*]; done)), H', ⟨by first | omega | exact Nat.le_refl _⟩, ⟨tK BK245.out⟩, ⟨tB1 HB.out GE245.out⟩⟩
 case rest =>
  as_aux_lemma =>
  clear HC3
  (try clear c1);(try clear p2);(try clear c5);(try clear c5b0);(try clear c5b1);(try clear c5b2);(try clear hcz6_0);(try clear hcz6_1);(try clear hcz7_0);(try clear hcz7_1);(try clear hfz6_0);(try clear hfz6_1);(try clear hfz7_0);(try clear hfz7_1)
  obtain ⟨kq, x21_2, rfl, HA, HJ2, BK245, HB⟩ := hcut
  cases kq with
  | zero => exact absurd HA.out (by simp [ontimelaw24_is.j0])
  | succ kj2 =>
   have H := HA.out
   clear HA
   simp only [ontimelaw24_is.j0] at H
   by_cases c8 : x21_2 = true
   ·subst c8
    have H1 : (some false) = some r := by rw [if_pos rfl] at H; exact H
    exact absurd ((Option.some.inj H1).trans HRT.out) (by decide)
   replace c8 := Bool.eq_false_iff.mpr c8
   subst c8
   have H1 : ((ontimeref24_Prev.f kj2 l1).bind fun t246 => (ontimelaw24_is.l0 kj2 l1 t246 l0_0 (l0_0.length : Int) 0 l0_0 l0_1)) = some r := by rw [if_neg (show ¬ (false = true) by decide)] at H; exact H
   clear H
   have H := H1
   clear H1
   replace H := Option.bind_eq_some_iff.mp H
   obtain ⟨t246, A90, H⟩ := H
   replace H : (ontimelaw24_is.l0 kj2 l1 t246 l0_0 (l0_0.length : Int) 0 l0_0 l0_1) = some r := H
   have A9 := Aside0.mk A90
   clear A90
   have H' := Aside0.mk H
   clear H
   go_wp2_with (first | ((with_reducible refine gate_callee (f := 46) rfl ?_); refine goesL_ (some 23) rfl rfl Try.func46 (by kernel_rfl) rfl #[.slice A1 l1.length c1] rfl tF ?_; (with_reducible refine (ontimeref24_Prev.calls kj2 _ _ l1 t246 _ ?side1 ?side2 A9.out).mono ?_); (case side1 => exact tC (Kd.C_below HR1.out HB.out)); (case side2 => exact HC1.out); rintro e w10 ⟨v247, rfl, ho0, hb⟩; refine ⟨_, rfl, ?_⟩; have n0_ := Aside0.mk (Kd.S_lower ho0 (below_size (tB1 HB.out GE245.out))); have n1_ := Aside0.mk (blk_below (g := gb245) (o := .cells #[.slice A0_0 l0_0.length c0_0, .slice A0_1 l0_1.length c0_1] 31 (0, 0)) (tK BK245.out) hb); have n2_ := Aside0.mk (below_step (tB1 HB.out GE245.out) hb); clear BK245; clear HB; have HO248 := n0_; have BK245 := n1_; have HB := n2_; clear n0_ n1_ n2_; (try clear hb); (try clear hb2); (try clear hk); (try clear hi); (try clear ho0); have hcz11_0 : w10.cell? ⟨gb245, 0, none⟩ = some (.slice A0_0 l0_0.length c0_0) := (blk_cell BK245.out 0).trans rfl; have hcz11_1 : w10.cell? ⟨gb245, 1, none⟩ = some (.slice A0_1 l0_1.length c0_1) := (blk_cell BK245.out 1).trans rfl; have hfz11_0 := blk_frozen BK245.out 0; have hfz11_1 := blk_frozen BK245.out 1))
   go_loopg [27] kj2 (fun kq v27 w' => ∃ (x27_2 : Int), v27 = .int .i64 x27_2 ∧ Aside0 (ontimelaw24_is.l0 kq l1 t246 l0_0 (l0_0.length : Int) x27_2 l0_0 l0_1 = some r) ∧ Aside0 (kq ≤ kj2) ∧ Aside0 (Kd.S (Kd.slice 3 (Kd.int .i64)) 49 w' w.heap.size (fun _ => True) v247 t246) ∧ Aside0 (w'.heap[gb245]? = some (.cells #[(.slice A0_0 l0_0.length c0_0), (.slice A0_1 l0_1.length c0_1)] 31 (0, 0))) ∧ Aside0 (Below w.heap.size w w'))
   case atStart => exact ⟨(0), (by first | rfl | (simp; done) | (simp [*]; done)), H', ⟨Nat.le_refl _⟩, ⟨tS HO248.out⟩, ⟨tK BK245.out⟩, ⟨tB1 HB.out GE245.out⟩⟩
   case round =>
    as_aux_lemma =>
    clear H'
    (try clear c1);(try clear p2);(try clear c4);(try clear c5);(try clear c5b0);(try clear c5b1);(try clear c5b2);(try clear c8);(try clear hcz11_0);(try clear hcz11_1);(try clear hcz6_0);(try clear hcz6_1);(try clear hcz7_0);(try clear hcz7_1);(try clear hfz11_0);(try clear hfz11_1);(try clear hfz6_0);(try clear hfz6_1);(try clear hfz7_0);(try clear hfz7_1);(try clear p2)
    obtain ⟨x27_2, rfl, HA, HK2, HO_5, BK245, HB⟩ := hrel
    cases gk with
    | zero => exact absurd HA.out (by simp [ontimelaw24_is.l0])
    | succ k2 =>
     have H := HA.out
     clear HA
     simp only [ontimelaw24_is.l0] at H
     by_cases c12 : x27_2 < (l0_0.length : Int)
     rotate_left
     ·rw [if_neg c12] at H
      have c12b0 : decide (x27_2 < (l0_0.length : Int)) = false := decide_eq_false c12
      clear c12
      obtain rfl := Option.some.inj H
      go_wp2
      go_ret
      exact ⟨by first | rfl | (simp [errW_none, errW_some] <;> rfl) | (simp [*, errW_none, errW_some] <;> rfl), by repeat (first | (with_reducible first | exact HB.out | apply below_alloc | apply pw_below_drewN | apply below_drew1 | refine below_set ?_ GE245.out) | exact HB.out)⟩
     as_aux_lemma =>
     rw [if_pos c12] at H
     have c12b0 : decide (x27_2 < (l0_0.length : Int)) = true := decide_eq_true c12
     clear c12
     by_cases c13 : 0 ≤ x27_2
     rotate_left
     ·rw [if_neg c13] at H
      exact absurd H (by simp)
     as_aux_lemma =>
     rw [if_pos c13] at H
     have c13b0 : decide (0 ≤ x27_2) = true := decide_eq_true c13
     clear c13
     by_cases c14 : x27_2 < (l0_0.length : Int)
     rotate_left
     ·rw [if_neg c14] at H
      exact absurd H (by simp)
     as_aux_lemma =>
     rw [if_pos c14] at H
     have c14b0 : decide (x27_2 < (l0_0.length : Int)) = true := decide_eq_true c14
     clear c14
     by_cases c15 : x27_2 < (l1.length : Int)
     rotate_left
     ·rw [if_neg c15] at H
      exact absurd H (by simp)
     as_aux_lemma =>
     rw [if_pos c15] at H
     have c15b0 : decide (x27_2 < (l1.length : Int)) = true := decide_eq_true c15
     clear c15
     by_cases c16 : ((rd_T51 l0_0 x27_2).f0) = ((rd_T104 l1 x27_2).f0)
     ·as_aux_lemma =>
      rw [if_pos c16] at H
      have c16b0 : (((rd_T51 l0_0 x27_2).f0) == ((rd_T104 l1 x27_2).f0)) = true := beq_iff_eq.mpr c16
      have c16b1 : (((rd_T51 l0_0 x27_2).f0) != ((rd_T104 l1 x27_2).f0)) = false := bne_eq_false_iff_eq.mpr c16
      clear c16
      by_cases c17 : ((rd_T51 l0_0 x27_2).f1) = ((rd_T104 l1 x27_2).f1)
      ·as_aux_lemma =>
       rw [if_pos c17] at H
       have c17b0 : (((rd_T51 l0_0 x27_2).f1) == ((rd_T104 l1 x27_2).f1)) = true := beq_iff_eq.mpr c17
       have c17b1 : (((rd_T51 l0_0 x27_2).f1) != ((rd_T104 l1 x27_2).f1)) = false := bne_eq_false_iff_eq.mpr c17
       clear c17
       replace H := Option.bind_eq_some_iff.mp H
       obtain ⟨t254, A180, H⟩ := H
       replace H : (if t254 = true then (if x27_2 < (l0_1.length : Int) then (if x27_2 < (t246.length : Int) then ((ontimelaw24_ints.f k2 (rd_L11 l0_1 x27_2) (rd_L11 t246 x27_2)).bind fun t257 => (if t257 = true then (ontimelaw24_is.l0 k2 l1 t246 l0_0 (l0_0.length : Int) (wrap64 (x27_2 + 1)) l0_0 l0_1) else (some false))) else (none)) else (none)) else (some false)) = some r := H
       have A18 := Aside0.mk A180
       clear A180
       by_cases c19 : t254 = true
       rotate_left
       ·replace c19 := Bool.eq_false_iff.mpr c19
        subst c19
        have H1 : (some false) = some r := by rw [if_neg (show ¬ (false = true) by decide)] at H; exact H
        exact absurd ((Option.some.inj H1).trans HRT.out) (by decide)
       subst c19
       have H1 : (if x27_2 < (l0_1.length : Int) then (if x27_2 < (t246.length : Int) then ((ontimelaw24_ints.f k2 (rd_L11 l0_1 x27_2) (rd_L11 t246 x27_2)).bind fun t257 => (if t257 = true then (ontimelaw24_is.l0 k2 l1 t246 l0_0 (l0_0.length : Int) (wrap64 (x27_2 + 1)) l0_0 l0_1) else (some false))) else (none)) else (none)) = some r := by rw [if_pos rfl] at H; exact H
       clear H
       have H := H1
       clear H1
       by_cases c20 : x27_2 < (l0_1.length : Int)
       rotate_left
       ·rw [if_neg c20] at H
        exact absurd H (by simp)
       as_aux_lemma =>
       rw [if_pos c20] at H
       have c20b0 : decide (x27_2 < (l0_1.length : Int)) = true := decide_eq_true c20
       clear c20
       by_cases c21 : x27_2 < (t246.length : Int)
       rotate_left
       ·rw [if_neg c21] at H
        exact absurd H (by simp)
       as_aux_lemma =>
       rw [if_pos c21] at H
       have c21b0 : decide (x27_2 < (t246.length : Int)) = true := decide_eq_true c21
       clear c21
       replace H := Option.bind_eq_some_iff.mp H
       obtain ⟨t257, A220, H⟩ := H
       replace H : (if t257 = true then (ontimelaw24_is.l0 k2 l1 t246 l0_0 (l0_0.length : Int) (wrap64 (x27_2 + 1)) l0_0 l0_1) else (some false)) = some r := H
       have A22 := Aside0.mk A220
       clear A220
       by_cases c23 : t257 = true
       rotate_left
       ·replace c23 := Bool.eq_false_iff.mpr c23
        subst c23
        have H1 : (some false) = some r := by rw [if_neg (show ¬ (false = true) by decide)] at H; exact H
        exact absurd ((Option.some.inj H1).trans HRT.out) (by decide)
       subst c23
       have H1 : (ontimelaw24_is.l0 k2 l1 t246 l0_0 (l0_0.length : Int) (wrap64 (x27_2 + 1)) l0_0 l0_1) = some r := by rw [if_pos rfl] at H; exact H
       clear H
       have H := H1
       clear H1
       have H' := Aside0.mk H
       clear H
       have p249 : 0 ≤ (x27_2 : Int) := tD
       have q249 : x27_2 < (l0_0.length : Int) := tD
       obtain ⟨ad249, A249_2, c249_2, e249, hx249_0, hx249_1, hx249_2, hl249_2, hi249_2⟩ := at_T51 HR0_0.out x27_2 p249 q249
       cases e249
       replace hx249_0 := (HB.out.cell (World.block_lt_of_cell? w _ hx249_0)).trans hx249_0
       replace hx249_1 := (HB.out.cell (World.block_lt_of_cell? w _ hx249_1)).trans hx249_1
       replace hx249_2 := (HB.out.cell (World.block_lt_of_cell? w _ hx249_2)).trans hx249_2
       have HR249_2 := Aside0.mk hi249_2
       have HC249_2 := Aside0.mk hl249_2
       clear hi249_2 hl249_2
       replace p249 := eq_true p249
       replace q249 := eq_true q249
       try go_wp2_with (first | ((with_reducible refine gate_dst (N := 7) rfl ?_); (try (refine gate_guard (by rfl) ?_; dsimp only)); refine box_event ?hg (N := 7) ?hd (cs := #[.int .i64 0, .int .i64 0, .slice none 0 0]) (t := 51) ?hr ?_; (case hd => rfl); (case hg => rfl); (case hr => first | (go_simp; done) | (go_simp; rfl)); intro gb250 hg w24 hbox hb; have n0_ := Aside0.mk (Kd.S_below (tS HO_5.out) hb); have n1_ := Aside0.mk (blk_below (g := gb245) (o := .cells #[.slice (some ad249) l0_0.length c0_0, .slice A0_1 l0_1.length c0_1] 31 (0, 0)) (tK BK245.out) hb); have n2_ := Aside0.mk (below_step (tB1 HB.out GE245.out) hb); have n3_ := Aside0.mk (hbox); have n4_ := Aside0.mk ((by rw [hg]; exact (below_size (tB1 HB.out GE245.out)) : w.heap.size ≤ gb250)); have n5_ := Aside0.mk ((by rw [hg]; exact (below_size (tB1 HB.out GE245.out)) : w.heap.size ≤ gb250)); have n6_ := Aside0.mk ((by rw [hg]; exact Nat.ne_of_lt (blk_lt (g := gb245) (o := .cells #[.slice (some ad249) l0_0.length c0_0, .slice A0_1 l0_1.length c0_1] 31 (0, 0)) (tK BK245.out)) : gb245 ≠ gb250)); have n7_ := Aside0.mk ((by rw [hg]; exact Nat.ne_of_gt (blk_lt (g := gb245) (o := .cells #[.slice (some ad249) l0_0.length c0_0, .slice A0_1 l0_1.length c0_1] 31 (0, 0)) (tK BK245.out)) : gb250 ≠ gb245)); clear HO_5; clear BK245; clear HB; have HO_5 := n0_; have BK245 := n1_; have HB := n2_; have BK250 := n3_; have GW250 := n4_; have GE250 := n5_; have NB245_250 := n6_; have NB250_245 := n7_; clear n0_ n1_ n2_ n3_ n4_ n5_ n6_ n7_; clear hb hbox hg; have hnb25 := NB250_245.out; have hnc25 := NB245_250.out; have hcz26_0 : w24.cell? ⟨gb250, 0, none⟩ = some (.int .i64 0) := (blk_cell BK250.out 0).trans rfl; have hcz26_1 : w24.cell? ⟨gb250, 1, none⟩ = some (.int .i64 0) := (blk_cell BK250.out 1).trans rfl; have hcz26_2 : w24.cell? ⟨gb250, 2, none⟩ = some (.slice none 0 0) := (blk_cell BK250.out 2).trans rfl; have hfz26_0 := blk_frozen BK250.out 0; have hfz26_1 := blk_frozen BK250.out 1; have hfz26_2 := blk_frozen BK250.out 2))
       have n0_ : Aside0 (Kd.S (Kd.slice 3 (Kd.int .i64)) 49 (((w24.setCell ⟨gb250, 0, none⟩ (.int .i64 ((rd_T51 l0_0 x27_2).f0))).setCell ⟨gb250, 1, none⟩ (.int .i64 ((rd_T51 l0_0 x27_2).f1))).setCell ⟨gb250, 2, none⟩ (.slice A249_2 ((rd_T51 l0_0 x27_2).f2).length c249_2)) w.heap.size (fun _ => True) v247 t246) := ⟨by (with_reducible repeat (first | apply Kd.S_alloc | apply Kd.S_drewN | apply Kd.S_drew)); exact Kd.S_mono (Kd.S_far (p := ⟨gb250, 2, none⟩) (Kd.S_far (p := ⟨gb250, 1, none⟩) (Kd.S_far (p := ⟨gb250, 0, none⟩) (Kd.S_types HO_5.out BK250.out (by decide)) (fun _ hk => hk.2) (.int .i64 ((rd_T51 l0_0 x27_2).f0))) (fun _ hk => hk.2) (.int .i64 ((rd_T51 l0_0 x27_2).f1))) (fun _ hk => hk.2) (.slice A249_2 ((rd_T51 l0_0 x27_2).f2).length c249_2)) (fun _ hk => trivial)⟩
       have n1_ : Aside0 ((((w24.setCell ⟨gb250, 0, none⟩ (.int .i64 ((rd_T51 l0_0 x27_2).f0))).setCell ⟨gb250, 1, none⟩ (.int .i64 ((rd_T51 l0_0 x27_2).f1))).setCell ⟨gb250, 2, none⟩ (.slice A249_2 ((rd_T51 l0_0 x27_2).f2).length c249_2)).heap[gb245]? = some (.cells #[.slice (some ad249) l0_0.length c0_0, .slice A0_1 l0_1.length c0_1] 31 (0, 0))) := ⟨by (with_reducible repeat (first | refine blk_drewN ?_ _ | refine blk_drew ?_ | refine blk_alloc ?_ _)); refine blk_far ?_ NB245_250.out _; (with_reducible repeat (first | refine blk_drewN ?_ _ | refine blk_drew ?_ | refine blk_alloc ?_ _)); refine blk_far ?_ NB245_250.out _; (with_reducible repeat (first | refine blk_drewN ?_ _ | refine blk_drew ?_ | refine blk_alloc ?_ _)); refine blk_far ?_ NB245_250.out _; (with_reducible repeat (first | refine blk_drewN ?_ _ | refine blk_drew ?_ | refine blk_alloc ?_ _)); exact BK245.out⟩
       have n2_ : Aside0 ((((w24.setCell ⟨gb250, 0, none⟩ (.int .i64 ((rd_T51 l0_0 x27_2).f0))).setCell ⟨gb250, 1, none⟩ (.int .i64 ((rd_T51 l0_0 x27_2).f1))).setCell ⟨gb250, 2, none⟩ (.slice A249_2 ((rd_T51 l0_0 x27_2).f2).length c249_2)).heap[gb250]? = some (.cells #[.int .i64 ((rd_T51 l0_0 x27_2).f0), .int .i64 ((rd_T51 l0_0 x27_2).f1), .slice A249_2 ((rd_T51 l0_0 x27_2).f2).length c249_2] 51 (0, 0))) := ⟨by (with_reducible repeat (first | refine blk_drewN ?_ _ | refine blk_drew ?_ | refine blk_alloc ?_ _)); refine blk_put (cs := #[.int .i64 ((rd_T51 l0_0 x27_2).f0), .int .i64 ((rd_T51 l0_0 x27_2).f1), .slice none 0 0]) ?_ 2 _ rfl; (with_reducible repeat (first | refine blk_drewN ?_ _ | refine blk_drew ?_ | refine blk_alloc ?_ _)); refine blk_put (cs := #[.int .i64 ((rd_T51 l0_0 x27_2).f0), .int .i64 0, .slice none 0 0]) ?_ 1 _ rfl; (with_reducible repeat (first | refine blk_drewN ?_ _ | refine blk_drew ?_ | refine blk_alloc ?_ _)); refine blk_put (cs := #[.int .i64 0, .int .i64 0, .slice none 0 0]) ?_ 0 _ rfl; (with_reducible repeat (first | refine blk_drewN ?_ _ | refine blk_drew ?_ | refine blk_alloc ?_ _)); exact BK250.out⟩
       have n3_ : Aside0 (Below w.heap.size w (((w24.setCell ⟨gb250, 0, none⟩ (.int .i64 ((rd_T51 l0_0 x27_2).f0))).setCell ⟨gb250, 1, none⟩ (.int .i64 ((rd_T51 l0_0 x27_2).f1))).setCell ⟨gb250, 2, none⟩ (.slice A249_2 ((rd_T51 l0_0 x27_2).f2).length c249_2))) := ⟨tB2 HB.out GE245.out GE250.out⟩
       (try clear HO_5)
       (try clear BK245)
       (try clear BK250)
       (try clear HB)
       generalize (((w24.setCell ⟨gb250, 0, none⟩ (.int .i64 ((rd_T51 l0_0 x27_2).f0))).setCell ⟨gb250, 1, none⟩ (.int .i64 ((rd_T51 l0_0 x27_2).f1))).setCell ⟨gb250, 2, none⟩ (.slice A249_2 ((rd_T51 l0_0 x27_2).f2).length c249_2)) = w27 at n0_ n1_ n2_ n3_ ⊢
       have HO_5 := n0_
       have BK245 := n1_
       have BK250 := n2_
       have HB := n3_
       clear n0_ n1_ n2_ n3_
       have n0_ := Aside0.mk (Kd.S_drew HO_5.out)
       have n1_ := Aside0.mk (blk_drew BK245.out)
       have n2_ := Aside0.mk (blk_drew BK250.out)
       have n3_ := Aside0.mk (below_drew1 HB.out)
       clear HO_5 BK245 BK250 HB
       have HO_5 := n0_
       have BK245 := n1_
       have BK250 := n2_
       have HB := n3_
       clear n0_ n1_ n2_ n3_
       have p251 : 0 ≤ (x27_2 : Int) := tD
       have q251 : x27_2 < (l1.length : Int) := tD
       obtain ⟨ad251, A251_2, c251_2, e251, hx251_0, hx251_1, hx251_2, hl251_2, hi251_2⟩ := at_T104 HR1.out x27_2 p251 q251
       have hw251_2 := hx251_2
       have hw251_1 := hx251_1
       have hw251_0 := hx251_0
       cases e251
       replace hx251_0 := (HB.out.cell (World.block_lt_of_cell? w _ hx251_0)).trans hx251_0
       replace hx251_1 := (HB.out.cell (World.block_lt_of_cell? w _ hx251_1)).trans hx251_1
       replace hx251_2 := (HB.out.cell (World.block_lt_of_cell? w _ hx251_2)).trans hx251_2
       have HR251_2 := Aside0.mk hi251_2
       have HC251_2 := Aside0.mk hl251_2
       clear hi251_2 hl251_2
       replace p251 := eq_true p251
       replace q251 := eq_true q251
       have p252 : 0 ≤ (x27_2 : Int) := tD
       have q252 : x27_2 < (l1.length : Int) := tD
       obtain ⟨ad252, A252_2, c252_2, e252, hx252_0, hx252_1, hx252_2, hl252_2, hi252_2⟩ := at_T104 HR1.out x27_2 p252 q252
       have hw252_2 := hx252_2
       have hw252_1 := hx252_1
       have hw252_0 := hx252_0
       obtain rfl : ad251 = ad252 := (by injection e252)
       replace hx252_0 := (HB.out.cell (World.block_lt_of_cell? w _ hx252_0)).trans hx252_0
       replace hx252_1 := (HB.out.cell (World.block_lt_of_cell? w _ hx252_1)).trans hx252_1
       replace hx252_2 := (HB.out.cell (World.block_lt_of_cell? w _ hx252_2)).trans hx252_2
       have HR252_2 := Aside0.mk hi252_2
       have HC252_2 := Aside0.mk hl252_2
       clear hi252_2 hl252_2
       replace p252 := eq_true p252
       replace q252 := eq_true q252
       have ea_ := Option.some.inj (hx251_2.symm.trans hx252_2)
       injection ea_ with ea_ en_ ec_
       subst ea_
       subst ec_
       clear en_
       have p253 : 0 ≤ (x27_2 : Int) := tD
       have q253 : x27_2 < (l1.length : Int) := tD
       obtain ⟨ad253, A253_2, c253_2, e253, hx253_0, hx253_1, hx253_2, hl253_2, hi253_2⟩ := at_T104 HR1.out x27_2 p253 q253
       have hw253_2 := hx253_2
       have hw253_1 := hx253_1
       have hw253_0 := hx253_0
       obtain rfl : ad251 = ad253 := (by injection e253)
       replace hx253_0 := (HB.out.cell (World.block_lt_of_cell? w _ hx253_0)).trans hx253_0
       replace hx253_1 := (HB.out.cell (World.block_lt_of_cell? w _ hx253_1)).trans hx253_1
       replace hx253_2 := (HB.out.cell (World.block_lt_of_cell? w _ hx253_2)).trans hx253_2
       have HR253_2 := Aside0.mk hi253_2
       have HC253_2 := Aside0.mk hl253_2
       clear hi253_2 hl253_2
       replace p253 := eq_true p253
       replace q253 := eq_true q253
       have ea_ := Option.some.inj (hx251_2.symm.trans hx253_2)
       injection ea_ with ea_ en_ ec_
       subst ea_
       subst ec_
       clear en_
       have p255 : 0 ≤ (x27_2 : Int) := tD
       have q255 : x27_2 < (l0_1.length : Int) := tD
       obtain ⟨ad255, A255_0, c255_0, e255, hx255_0, hl255_0, hi255_0⟩ := at_L11 HR0_1.out x27_2 p255 q255
       have hw255_0 := hx255_0
       cases e255
       replace hx255_0 := (HB.out.cell (World.block_lt_of_cell? w _ hx255_0)).trans hx255_0
       have HR255_0 := Aside0.mk hi255_0
       have HC255_0 := Aside0.mk hl255_0
       clear hi255_0 hl255_0
       replace p255 := eq_true p255
       replace q255 := eq_true q255
       have p256 : 0 ≤ (x27_2 : Int) := tD
       have q256 : x27_2 < (t246.length : Int) := tD
       (try (obtain ⟨Ao_, co_, eo_⟩ := Kd.S_slice HO_5.out; subst eo_))
       obtain ⟨ad256, A256_0, c256_0, e256, hx256_0, hl256_0, hi256_0⟩ := at_L11 (Kd.S_reads' HO_5.out).2.2 x27_2 p256 q256
       cases e256
       obtain ⟨ce256, hce256, hMe256, hcc256⟩ := Kd.S_get HO_5.out [] x27_2 p256 (by first | exact q256 | exact tD | (have e_ := (Kd.S_reads' HO_5.out).1; omega))
       obtain ⟨ve256_0, rfl, ge256_0⟩ := hMe256
       have hv256_0 := hcc256 0 _ rfl
       rw [Nat.add_zero, show ((Kd.slice 3 (Kd.int .i64))).sz = 1 from rfl, Nat.mul_one] at hv256_0
       replace hv256_0 := Option.some.inj (hv256_0.symm.trans hx256_0)
       rw [hv256_0] at ge256_0
       have HL256_0 := Aside0.mk (show Kd.R (Kd.int .i64) 3 _ _ _ _ (rd_L11 t246 x27_2) from ge256_0)
       clear hv256_0 ge256_0 hcc256 hce256
       have HR256_0 := Aside0.mk hi256_0
       have HC256_0 := Aside0.mk hl256_0
       clear hi256_0 hl256_0
       replace p256 := eq_true p256
       replace q256 := eq_true q256
       refine start_ (n := 42) (S := fun w' => w'.cell? ⟨gb250, 0, none⟩ = some (.int .i64 ((rd_T51 l0_0 x27_2).f0)) ∧ w'.cell? ⟨gb250, 1, none⟩ = some (.int .i64 ((rd_T51 l0_0 x27_2).f1)) ∧ w'.cell? ⟨gb250, 2, none⟩ = some (.slice A249_2 ((rd_T51 l0_0 x27_2).f2).length c249_2) ∧ w'.cell? ⟨gb245, 0, none⟩ = some (.slice (some ad249) l0_0.length c0_0) ∧ w'.cell? ⟨gb245, 1, none⟩ = some (.slice (some ad255) l0_1.length c0_1) ∧ w'.cell? (ad251.add ((x27_2).toNat * 3)) = some (.int .i64 ((rd_T104 l1 x27_2).f0)) ∧ w'.cell? ⟨(ad251.add ((x27_2).toNat * 3)).block, (ad251.add ((x27_2).toNat * 3)).off + 1, none⟩ = some (.int .i64 ((rd_T104 l1 x27_2).f1)) ∧ w'.cell? ⟨(ad251.add ((x27_2).toNat * 3)).block, (ad251.add ((x27_2).toNat * 3)).off + 2, none⟩ = some (.slice A251_2 ((rd_T104 l1 x27_2).f2).length c251_2) ∧ w'.cell? (ad251.add ((x27_2).toNat * 3)) = some (.int .i64 ((rd_T104 l1 x27_2).f0)) ∧ w'.cell? ⟨(ad251.add ((x27_2).toNat * 3)).block, (ad251.add ((x27_2).toNat * 3)).off + 1, none⟩ = some (.int .i64 ((rd_T104 l1 x27_2).f1)) ∧ w'.cell? ⟨(ad251.add ((x27_2).toNat * 3)).block, (ad251.add ((x27_2).toNat * 3)).off + 2, none⟩ = some (.slice A251_2 ((rd_T104 l1 x27_2).f2).length c251_2) ∧ w'.cell? (ad251.add ((x27_2).toNat * 3)) = some (.int .i64 ((rd_T104 l1 x27_2).f0)) ∧ w'.cell? ⟨(ad251.add ((x27_2).toNat * 3)).block, (ad251.add ((x27_2).toNat * 3)).off + 1, none⟩ = some (.int .i64 ((rd_T104 l1 x27_2).f1)) ∧ w'.cell? ⟨(ad251.add ((x27_2).toNat * 3)).block, (ad251.add ((x27_2).toNat * 3)).off + 2, none⟩ = some (.slice A251_2 ((rd_T104 l1 x27_2).f2).length c251_2) ∧ w'.cell? (ad255.add (x27_2).toNat) = some (.slice A255_0 (rd_L11 l0_1 x27_2).length c255_0) ∧ w'.cell? (ad256.add (x27_2).toNat) = some (.slice A256_0 (rd_L11 t246 x27_2).length c256_0)) (ds := []) #[false, false, false, false, false, false, false, false, false, false, false, false, false, false, false, false, false, false, false, false, false, false, false, false, false, false, false, false, false, false, false, false, false, false, false, false, false, false, false, false, false, false] (by kernel_rfl) rfl rfl ⟨(blk_cell BK250.out 0).trans rfl, (blk_cell BK250.out 1).trans rfl, (blk_cell BK250.out 2).trans rfl, (blk_cell BK245.out 0).trans rfl, (blk_cell BK245.out 1).trans rfl, ((HB.out.cell (World.block_lt_of_cell? w _ hw251_0)).trans hw251_0), ((HB.out.cell (World.block_lt_of_cell? w _ hw251_1)).trans hw251_1), ((HB.out.cell (World.block_lt_of_cell? w _ hw251_2)).trans hw251_2), ((HB.out.cell (World.block_lt_of_cell? w _ hw252_0)).trans hw252_0), ((HB.out.cell (World.block_lt_of_cell? w _ hw252_1)).trans hw252_1), ((HB.out.cell (World.block_lt_of_cell? w _ hw252_2)).trans hw252_2), ((HB.out.cell (World.block_lt_of_cell? w _ hw253_0)).trans hw253_0), ((HB.out.cell (World.block_lt_of_cell? w _ hw253_1)).trans hw253_1), ((HB.out.cell (World.block_lt_of_cell? w _ hw253_2)).trans hw253_2), ((HB.out.cell (World.block_lt_of_cell? w _ hw255_0)).trans hw255_0), hx256_0⟩ (fun hHeld => ?_); refine with_tabW ontimelaw24_is.tab7 ontimelaw24_is.bits7 (fun HT_ HW_ => ?_)
       generalize w27.drew = w28 at HO_5 BK245 BK250 HB HL256_0 HR251_2 HR252_2 HR253_2 HR255_0 HR256_0 hx251_0 hx251_1 hx251_2 hx252_0 hx252_1 hx252_2 hx253_0 hx253_1 hx253_2 hx255_0 hx256_0 hHeld ⊢
       refine pure_ (i := 0) (N := some 32) (v := ?_) (a' := ?_) #[true, false, false, false, false, false, false, false, false, false, false, false, false, false, false, false, false, false, false, false, false, false, false, false, false, false, false, false, false, false, false, false, false, false, false, false, false, false, false, false, false, false] rfl rfl (any_of HT_.out (by kernel_rfl)) (fun _ _ _ h => h) (Or.inl ⟨by rfl, ?_⟩) ?_ ?_
       rotate_left
       ·intro w'
        go_simp
        with_reducible rfl
       rotate_left
       ·simp only [Act.put, pA, pB, pC, i64_w, i32_w]
        rfl
       refine pure_ (i := 2) (N := some 34) (v := ?_) (a' := ?_) #[true, false, true, false, false, false, false, false, false, false, false, false, false, false, false, false, false, false, false, false, false, false, false, false, false, false, false, false, false, false, false, false, false, false, false, false, false, false, false, false, false, false] rfl rfl (any_of HT_.out (by kernel_rfl)) (fun _ _ _ h => h) (Or.inl ⟨by rfl, ?_⟩) ?_ ?_
       rotate_left
       ·intro w'
        go_simp
        with_reducible rfl
       rotate_left
       ·simp only [Act.put, pA, pB, pC, i64_w, i32_w]
        rfl
       refine pure_ (i := 3) (N := some 35) (v := ?_) (a' := ?_) #[true, false, true, true, false, false, false, false, false, false, false, false, false, false, false, false, false, false, false, false, false, false, false, false, false, false, false, false, false, false, false, false, false, false, false, false, false, false, false, false, false, false] rfl rfl (any_of HT_.out (by kernel_rfl)) (fun _ _ _ h => h) (Or.inl ⟨by rfl, ?_⟩) ?_ ?_
       rotate_left
       ·intro w'
        go_simp
        with_reducible rfl
       rotate_left
       ·simp only [Act.put, pA, pB, pC, i64_w, i32_w]
        rfl
       refine pure_ (i := 4) (N := some 36) (v := ?_) (a' := ?_) #[true, false, true, true, true, false, false, false, false, false, false, false, false, false, false, false, false, false, false, false, false, false, false, false, false, false, false, false, false, false, false, false, false, false, false, false, false, false, false, false, false, false] rfl rfl (any_of HT_.out (by kernel_rfl)) (fun _ _ _ h => h) (Or.inl ⟨by rfl, ?_⟩) ?_ ?_
       rotate_left
       ·intro w'
        go_simp
        with_reducible rfl
       rotate_left
       ·simp only [Act.put, pA, pB, pC, i64_w, i32_w]
        rfl
       refine pure_ (i := 5) (N := some 37) (v := ?_) (a' := ?_) #[true, false, true, true, true, true, false, false, false, false, false, false, false, false, false, false, false, false, false, false, false, false, false, false, false, false, false, false, false, false, false, false, false, false, false, false, false, false, false, false, false, false] rfl rfl (any_of HT_.out (by kernel_rfl)) (fun _ _ _ h => h) (Or.inl ⟨by rfl, ?_⟩) ?_ ?_
       rotate_left
       ·intro w'
        go_simp
        with_reducible rfl
       rotate_left
       ·simp only [Act.put, pA, pB, pC, i64_w, i32_w]
        rfl
       refine take_ (i := 1) (N := some 33) (v := ?_) (a' := ?_) #[true, true, true, true, true, true, false, false, false, false, false, false, false, false, false, false, false, false, false, false, false, false, false, false, false, false, false, false, false, false, false, false, false, false, false, false, false, false, false, false, false, false] rfl rfl (take_ofW HT_.out HW_.out (by kernel_rfl)) (fun _ _ _ h => h) (Or.inl ⟨by rfl, ?_⟩) hHeld ?_ ?_
       rotate_left
       ·rintro w' ⟨s0, s1, s2, s3, s4, s5, s6, s7, s8, s9, s10, s11, s12, s13, s14, s15⟩
        go_simp
        with_reducible rfl
       rotate_left
       ·simp only [Act.put, pA, pB, pC, i64_w, i32_w]
        rfl
       refine take_ (i := 6) (N := some 38) (v := ?_) (a' := ?_) #[true, true, true, true, true, true, true, false, false, false, false, false, false, false, false, false, false, false, false, false, false, false, false, false, false, false, false, false, false, false, false, false, false, false, false, false, false, false, false, false, false, false] rfl rfl (take_ofW HT_.out HW_.out (by kernel_rfl)) (fun _ _ _ h => h) (Or.inl ⟨by rfl, ?_⟩) hHeld ?_ ?_
       rotate_left
       ·rintro w' ⟨s0, s1, s2, s3, s4, s5, s6, s7, s8, s9, s10, s11, s12, s13, s14, s15⟩
        go_simp
        with_reducible rfl
       rotate_left
       ·simp only [Act.put, pA, pB, pC, i64_w, i32_w]
        rfl
       refine pure_ (i := 7) (N := some 39) (v := ?_) (a' := ?_) #[true, true, true, true, true, true, true, true, false, false, false, false, false, false, false, false, false, false, false, false, false, false, false, false, false, false, false, false, false, false, false, false, false, false, false, false, false, false, false, false, false, false] rfl rfl (any_of HT_.out (by kernel_rfl)) (fun _ _ _ h => h) (Or.inl ⟨by rfl, ?_⟩) ?_ ?_
       rotate_left
       ·intro w'
        go_simp
        with_reducible rfl
       rotate_left
       ·simp only [Act.put, pA, pB, pC, i64_w, i32_w]
        rfl
       refine pure_ (i := 8) (N := some 40) (v := ?_) (a' := ?_) #[true, true, true, true, true, true, true, true, true, false, false, false, false, false, false, false, false, false, false, false, false, false, false, false, false, false, false, false, false, false, false, false, false, false, false, false, false, false, false, false, false, false] rfl rfl (any_of HT_.out (by kernel_rfl)) (fun _ _ _ h => h) (Or.inl ⟨by rfl, ?_⟩) ?_ ?_
       rotate_left
       ·intro w'
        go_simp
        with_reducible rfl
       rotate_left
       ·simp only [Act.put, pA, pB, pC, i64_w, i32_w]
        rfl
       refine pure_ (i := 9) (N := some 41) (v := ?_) (a' := ?_) #[true, true, true, true, true, true, true, true, true, true, false, false, false, false, false, false, false, false, false, false, false, false, false, false, false, false, false, false, false, false, false, false, false, false, false, false, false, false, false, false, false, false] rfl rfl (any_of HT_.out (by kernel_rfl)) (fun _ _ _ h => h) (Or.inl ⟨by rfl, ?_⟩) ?_ ?_
       rotate_left
       ·intro w'
        go_simp
        with_reducible rfl
       rotate_left
       ·simp only [Act.put, pA, pB, pC, i64_w, i32_w]
        rfl
       refine pure_ (i := 11) (N := some 43) (v := ?_) (a' := ?_) #[true, true, true, true, true, true, true, true, true, true, false, true, false, false, false, false, false, false, false, false, false, false, false, false, false, false, false, false, false, false, false, false, false, false, false, false, false, false, false, false, false, false] rfl rfl (any_of HT_.out (by kernel_rfl)) (fun _ _ _ h => h) (Or.inl ⟨by rfl, ?_⟩) ?_ ?_
       rotate_left
       ·intro w'
        go_simp
        with_reducible rfl
       rotate_left
       ·simp only [Act.put, pA, pB, pC, i64_w, i32_w]
        rfl
       refine pure_ (i := 12) (N := some 44) (v := ?_) (a' := ?_) #[true, true, true, true, true, true, true, true, true, true, false, true, true, false, false, false, false, false, false, false, false, false, false, false, false, false, false, false, false, false, false, false, false, false, false, false, false, false, false, false, false, false] rfl rfl (any_of HT_.out (by kernel_rfl)) (fun _ _ _ h => h) (Or.inl ⟨by rfl, ?_⟩) ?_ ?_
       rotate_left
       ·intro w'
        go_simp
        with_reducible rfl
       rotate_left
       ·simp only [Act.put, pA, pB, pC, i64_w, i32_w]
        rfl
       refine pure_ (i := 13) (N := some 45) (v := ?_) (a' := ?_) #[true, true, true, true, true, true, true, true, true, true, false, true, true, true, false, false, false, false, false, false, false, false, false, false, false, false, false, false, false, false, false, false, false, false, false, false, false, false, false, false, false, false] rfl rfl (any_of HT_.out (by kernel_rfl)) (fun _ _ _ h => h) (Or.inl ⟨by rfl, ?_⟩) ?_ ?_
       rotate_left
       ·intro w'
        go_simp
        with_reducible rfl
       rotate_left
       ·simp only [Act.put, pA, pB, pC, i64_w, i32_w]
        rfl
       refine pure_ (i := 14) (N := some 46) (v := ?_) (a' := ?_) #[true, true, true, true, true, true, true, true, true, true, false, true, true, true, true, false, false, false, false, false, false, false, false, false, false, false, false, false, false, false, false, false, false, false, false, false, false, false, false, false, false, false] rfl rfl (any_of HT_.out (by kernel_rfl)) (fun _ _ _ h => h) (Or.inl ⟨by rfl, ?_⟩) ?_ ?_
       rotate_left
       ·intro w'
        go_simp
        with_reducible rfl
       rotate_left
       ·simp only [Act.put, pA, pB, pC, i64_w, i32_w]
        rfl
       refine take_ (i := 10) (N := some 42) (v := ?_) (a' := ?_) #[true, true, true, true, true, true, true, true, true, true, true, true, true, true, true, false, false, false, false, false, false, false, false, false, false, false, false, false, false, false, false, false, false, false, false, false, false, false, false, false, false, false] rfl rfl (take_ofW HT_.out HW_.out (by kernel_rfl)) (fun _ _ _ h => h) (Or.inl ⟨by rfl, ?_⟩) hHeld ?_ ?_
       rotate_left
       ·rintro w' ⟨s0, s1, s2, s3, s4, s5, s6, s7, s8, s9, s10, s11, s12, s13, s14, s15⟩
        go_simp
        with_reducible rfl
       rotate_left
       ·simp only [Act.put, pA, pB, pC, i64_w, i32_w]
        rfl
       refine take_ (i := 15) (N := some 47) (v := ?_) (a' := ?_) #[true, true, true, true, true, true, true, true, true, true, true, true, true, true, true, true, false, false, false, false, false, false, false, false, false, false, false, false, false, false, false, false, false, false, false, false, false, false, false, false, false, false] rfl rfl (take_ofW HT_.out HW_.out (by kernel_rfl)) (fun _ _ _ h => h) (Or.inl ⟨by rfl, ?_⟩) hHeld ?_ ?_
       rotate_left
       ·rintro w' ⟨s0, s1, s2, s3, s4, s5, s6, s7, s8, s9, s10, s11, s12, s13, s14, s15⟩
        go_simp
        with_reducible rfl
       rotate_left
       ·simp only [Act.put, pA, pB, pC, i64_w, i32_w]
        rfl
       refine pure_ (i := 16) (N := some 48) (v := ?_) (a' := ?_) #[true, true, true, true, true, true, true, true, true, true, true, true, true, true, true, true, true, false, false, false, false, false, false, false, false, false, false, false, false, false, false, false, false, false, false, false, false, false, false, false, false, false] rfl rfl (any_of HT_.out (by kernel_rfl)) (fun _ _ _ h => h) (Or.inl ⟨by rfl, ?_⟩) ?_ ?_
       rotate_left
       ·intro w'
        go_simp
        with_reducible rfl
       rotate_left
       ·simp only [Act.put, pA, pB, pC, i64_w, i32_w]
        rfl
       refine pure_ (i := 17) (N := some 49) (v := ?_) (a' := ?_) #[true, true, true, true, true, true, true, true, true, true, true, true, true, true, true, true, true, true, false, false, false, false, false, false, false, false, false, false, false, false, false, false, false, false, false, false, false, false, false, false, false, false] rfl rfl (any_of HT_.out (by kernel_rfl)) (fun _ _ _ h => h) (Or.inl ⟨by rfl, ?_⟩) ?_ ?_
       rotate_left
       ·intro w'
        go_simp
        with_reducible rfl
       rotate_left
       ·simp only [Act.put, pA, pB, pC, i64_w, i32_w]
        rfl
       refine pure_ (i := 18) (N := some 50) (v := ?_) (a' := ?_) #[true, true, true, true, true, true, true, true, true, true, true, true, true, true, true, true, true, true, true, false, false, false, false, false, false, false, false, false, false, false, false, false, false, false, false, false, false, false, false, false, false, false] rfl rfl (any_of HT_.out (by kernel_rfl)) (fun _ _ _ h => h) (Or.inl ⟨by rfl, ?_⟩) ?_ ?_
       rotate_left
       ·intro w'
        go_simp
        with_reducible rfl
       rotate_left
       ·simp only [Act.put, pA, pB, pC, i64_w, i32_w]
        rfl
       refine pure_ (i := 19) (N := some 51) (v := ?_) (a' := ?_) #[true, true, true, true, true, true, true, true, true, true, true, true, true, true, true, true, true, true, true, true, false, false, false, false, false, false, false, false, false, false, false, false, false, false, false, false, false, false, false, false, false, false] rfl rfl (any_of HT_.out (by kernel_rfl)) (fun _ _ _ h => h) (Or.inl ⟨by rfl, ?_⟩) ?_ ?_
       rotate_left
       ·intro w'
        go_simp
        with_reducible rfl
       rotate_left
       ·simp only [Act.put, pA, pB, pC, i64_w, i32_w]
        rfl
       refine pure_ (i := 21) (N := some 53) (v := ?_) (a' := ?_) #[true, true, true, true, true, true, true, true, true, true, true, true, true, true, true, true, true, true, true, true, false, true, false, false, false, false, false, false, false, false, false, false, false, false, false, false, false, false, false, false, false, false] rfl rfl (any_of HT_.out (by kernel_rfl)) (fun _ _ _ h => h) (Or.inl ⟨by rfl, ?_⟩) ?_ ?_
       rotate_left
       ·intro w'
        go_simp
        with_reducible rfl
       rotate_left
       ·simp only [Act.put, pA, pB, pC, i64_w, i32_w]
        rfl
       refine pure_ (i := 22) (N := some 54) (v := ?_) (a' := ?_) #[true, true, true, true, true, true, true, true, true, true, true, true, true, true, true, true, true, true, true, true, false, true, true, false, false, false, false, false, false, false, false, false, false, false, false, false, false, false, false, false, false, false] rfl rfl (any_of HT_.out (by kernel_rfl)) (fun _ _ _ h => h) (Or.inl ⟨by rfl, ?_⟩) ?_ ?_
       rotate_left
       ·intro w'
        go_simp
        with_reducible rfl
       rotate_left
       ·simp only [Act.put, pA, pB, pC, i64_w, i32_w]
        rfl
       refine pure_ (i := 23) (N := some 55) (v := ?_) (a' := ?_) #[true, true, true, true, true, true, true, true, true, true, true, true, true, true, true, true, true, true, true, true, false, true, true, true, false, false, false, false, false, false, false, false, false, false, false, false, false, false, false, false, false, false] rfl rfl (any_of HT_.out (by kernel_rfl)) (fun _ _ _ h => h) (Or.inl ⟨by rfl, ?_⟩) ?_ ?_
       rotate_left
       ·intro w'
        go_simp
        with_reducible rfl
       rotate_left
       ·simp only [Act.put, pA, pB, pC, i64_w, i32_w]
        rfl
       refine pure_ (i := 24) (N := some 56) (v := ?_) (a' := ?_) #[true, true, true, true, true, true, true, true, true, true, true, true, true, true, true, true, true, true, true, true, false, true, true, true, true, false, false, false, false, false, false, false, false, false, false, false, false, false, false, false, false, false] rfl rfl (any_of HT_.out (by kernel_rfl)) (fun _ _ _ h => h) (Or.inl ⟨by rfl, ?_⟩) ?_ ?_
       rotate_left
       ·intro w'
        go_simp
        with_reducible rfl
       rotate_left
       ·simp only [Act.put, pA, pB, pC, i64_w, i32_w]
        rfl
       refine take_ (i := 20) (N := some 52) (v := ?_) (a' := ?_) #[true, true, true, true, true, true, true, true, true, true, true, true, true, true, true, true, true, true, true, true, true, true, true, true, true, false, false, false, false, false, false, false, false, false, false, false, false, false, false, false, false, false] rfl rfl (take_ofW HT_.out HW_.out (by kernel_rfl)) (fun _ _ _ h => h) (Or.inl ⟨by rfl, ?_⟩) hHeld ?_ ?_
       rotate_left
       ·rintro w' ⟨s0, s1, s2, s3, s4, s5, s6, s7, s8, s9, s10, s11, s12, s13, s14, s15⟩
        go_simp
        with_reducible rfl
       rotate_left
       ·simp only [Act.put, pA, pB, pC, i64_w, i32_w]
        rfl
       refine take_ (i := 25) (N := some 57) (v := ?_) (a' := ?_) #[true, true, true, true, true, true, true, true, true, true, true, true, true, true, true, true, true, true, true, true, true, true, true, true, true, true, false, false, false, false, false, false, false, false, false, false, false, false, false, false, false, false] rfl rfl (take_ofW HT_.out HW_.out (by kernel_rfl)) (fun _ _ _ h => h) (Or.inl ⟨by rfl, ?_⟩) hHeld ?_ ?_
       rotate_left
       ·rintro w' ⟨s0, s1, s2, s3, s4, s5, s6, s7, s8, s9, s10, s11, s12, s13, s14, s15⟩
        go_simp
        with_reducible rfl
       rotate_left
       ·simp only [Act.put, pA, pB, pC, i64_w, i32_w]
        rfl
       refine one_ (i := 26) (N := some 58) #[true, true, true, true, true, true, true, true, true, true, true, true, true, true, true, true, true, true, true, true, true, true, true, true, true, true, true, false, false, false, false, false, false, false, false, false, false, false, false, false, false, false] rfl rfl (one_of HT_.out (by kernel_rfl)) (by decide) (fun K hK => ?_)
       refine goes_ Try.func28 (by kernel_rfl) rfl #[.slice A249_2 ((rd_T51 l0_0 x27_2).f2).length c249_2, .slice A251_2 ((rd_T104 l1 x27_2).f2).length c251_2] (by rfl) rfl rfl tF ?_
       with_reducible refine (ontimelaw24_ints.calls k2 _ _ ((rd_T51 l0_0 x27_2).f2) _ _ ((rd_T104 l1 x27_2).f2) true _ ?side1 ?side2 ?side3 ?side4 A18.out).mono ?_
       (case side1 => exact tC (Kd.C_below HR249_2.out HB.out))
       (case side2 => exact HC249_2.out)
       (case side3 => exact tC (Kd.C_below HR253_2.out HB.out))
       (case side4 => exact HC253_2.out)
       rintro e w' ⟨rfl, ⟨nd, rfl⟩⟩
       refine ⟨_, rfl, ?_⟩
       obtain ⟨Ao29, co29, eo29⟩ := Kd.S_slice HO_5.out
       (first | subst eo29 | (injection eo29 with f1_ f2_ f3_; have f4_ := f1_.symm; have f5_ := f3_.symm; clear f1_ f2_ f3_; subst f4_; subst f5_))
       refine hK.out _ _ ⟨(blk_cell BK250.out 0).trans rfl, (blk_cell BK250.out 1).trans rfl, (blk_cell BK250.out 2).trans rfl, (blk_cell BK245.out 0).trans rfl, (blk_cell BK245.out 1).trans rfl, ((HB.out.cell (World.block_lt_of_cell? w _ hw251_0)).trans hw251_0), ((HB.out.cell (World.block_lt_of_cell? w _ hw251_1)).trans hw251_1), ((HB.out.cell (World.block_lt_of_cell? w _ hw251_2)).trans hw251_2), ((HB.out.cell (World.block_lt_of_cell? w _ hw252_0)).trans hw252_0), ((HB.out.cell (World.block_lt_of_cell? w _ hw252_1)).trans hw252_1), ((HB.out.cell (World.block_lt_of_cell? w _ hw252_2)).trans hw252_2), ((HB.out.cell (World.block_lt_of_cell? w _ hw253_0)).trans hw253_0), ((HB.out.cell (World.block_lt_of_cell? w _ hw253_1)).trans hw253_1), ((HB.out.cell (World.block_lt_of_cell? w _ hw253_2)).trans hw253_2), ((HB.out.cell (World.block_lt_of_cell? w _ hw255_0)).trans hw255_0), hHeld.2.2.2.2.2.2.2.2.2.2.2.2.2.2.2⟩ (fun hHeld => ?_)
       clear hK K
       refine norm_ (a' := ?_) ?_ ?_
       rotate_left
       ·show Act.put _ (some 58) _ = _
        simp only [Act.put, pA, pB, pC, i64_w, i32_w]
        rfl
       refine pure_ (i := 27) (N := some 59) (v := ?_) (a' := ?_) #[true, true, true, true, true, true, true, true, true, true, true, true, true, true, true, true, true, true, true, true, true, true, true, true, true, true, true, true, false, false, false, false, false, false, false, false, false, false, false, false, false, false] rfl rfl (any_of HT_.out (by kernel_rfl)) (fun _ _ _ h => h) (Or.inl ⟨by rfl, ?_⟩) ?_ ?_
       rotate_left
       ·intro w'
        go_simp
        with_reducible rfl
       rotate_left
       ·simp only [Act.put, pA, pB, pC, i64_w, i32_w]
        rfl
       refine pure_ (i := 28) (N := some 60) (v := ?_) (a' := ?_) #[true, true, true, true, true, true, true, true, true, true, true, true, true, true, true, true, true, true, true, true, true, true, true, true, true, true, true, true, true, false, false, false, false, false, false, false, false, false, false, false, false, false] rfl rfl (any_of HT_.out (by kernel_rfl)) (fun _ _ _ h => h) (Or.inl ⟨by rfl, ?_⟩) ?_ ?_
       rotate_left
       ·intro w'
        go_simp
        with_reducible rfl
       rotate_left
       ·simp only [Act.put, pA, pB, pC, i64_w, i32_w]
        rfl
       refine pure_ (i := 29) (N := some 61) (v := ?_) (a' := ?_) #[true, true, true, true, true, true, true, true, true, true, true, true, true, true, true, true, true, true, true, true, true, true, true, true, true, true, true, true, true, true, false, false, false, false, false, false, false, false, false, false, false, false] rfl rfl (any_of HT_.out (by kernel_rfl)) (fun _ _ _ h => h) (Or.inl ⟨by rfl, ?_⟩) ?_ ?_
       rotate_left
       ·intro w'
        go_simp
        with_reducible rfl
       rotate_left
       ·simp only [Act.put, pA, pB, pC, i64_w, i32_w]
        rfl
       refine pure_ (i := 30) (N := some 62) (v := ?_) (a' := ?_) #[true, true, true, true, true, true, true, true, true, true, true, true, true, true, true, true, true, true, true, true, true, true, true, true, true, true, true, true, true, true, true, false, false, false, false, false, false, false, false, false, false, false] rfl rfl (any_of HT_.out (by kernel_rfl)) (fun _ _ _ h => h) (Or.inl ⟨by rfl, ?_⟩) ?_ ?_
       rotate_left
       ·intro w'
        go_simp
        with_reducible rfl
       rotate_left
       ·simp only [Act.put, pA, pB, pC, i64_w, i32_w]
        rfl
       refine pure_ (i := 32) (N := some 64) (v := ?_) (a' := ?_) #[true, true, true, true, true, true, true, true, true, true, true, true, true, true, true, true, true, true, true, true, true, true, true, true, true, true, true, true, true, true, true, false, true, false, false, false, false, false, false, false, false, false] rfl rfl (any_of HT_.out (by kernel_rfl)) (fun _ _ _ h => h) (Or.inl ⟨by rfl, ?_⟩) ?_ ?_
       rotate_left
       ·intro w'
        go_simp
        with_reducible rfl
       rotate_left
       ·simp only [Act.put, pA, pB, pC, i64_w, i32_w]
        rfl
       refine pure_ (i := 35) (N := some 67) (v := ?_) (a' := ?_) #[true, true, true, true, true, true, true, true, true, true, true, true, true, true, true, true, true, true, true, true, true, true, true, true, true, true, true, true, true, true, true, false, true, false, false, true, false, false, false, false, false, false] rfl rfl (any_of HT_.out (by kernel_rfl)) (fun _ _ _ h => h) (Or.inl ⟨by rfl, ?_⟩) ?_ ?_
       rotate_left
       ·intro w'
        go_simp
        with_reducible rfl
       rotate_left
       ·simp only [Act.put, pA, pB, pC, i64_w, i32_w]
        rfl
       refine pure_ (i := 36) (N := some 68) (v := ?_) (a' := ?_) #[true, true, true, true, true, true, true, true, true, true, true, true, true, true, true, true, true, true, true, true, true, true, true, true, true, true, true, true, true, true, true, false, true, false, false, true, true, false, false, false, false, false] rfl rfl (any_of HT_.out (by kernel_rfl)) (fun _ _ _ h => h) (Or.inl ⟨by rfl, ?_⟩) ?_ ?_
       rotate_left
       ·intro w'
        go_simp
        with_reducible rfl
       rotate_left
       ·simp only [Act.put, pA, pB, pC, i64_w, i32_w]
        rfl
       refine pure_ (i := 37) (N := some 69) (v := ?_) (a' := ?_) #[true, true, true, true, true, true, true, true, true, true, true, true, true, true, true, true, true, true, true, true, true, true, true, true, true, true, true, true, true, true, true, false, true, false, false, true, true, true, false, false, false, false] rfl rfl (any_of HT_.out (by kernel_rfl)) (fun _ _ _ h => h) (Or.inl ⟨by rfl, ?_⟩) ?_ ?_
       rotate_left
       ·intro w'
        go_simp
        with_reducible rfl
       rotate_left
       ·simp only [Act.put, pA, pB, pC, i64_w, i32_w]
        rfl
       refine take_ (i := 31) (N := some 63) (v := ?_) (a' := ?_) #[true, true, true, true, true, true, true, true, true, true, true, true, true, true, true, true, true, true, true, true, true, true, true, true, true, true, true, true, true, true, true, true, true, false, false, true, true, true, false, false, false, false] rfl rfl (take_ofW HT_.out HW_.out (by kernel_rfl)) (fun _ _ _ h => h) (Or.inl ⟨by rfl, ?_⟩) hHeld ?_ ?_
       rotate_left
       ·rintro w' ⟨s0, s1, s2, s3, s4, s5, s6, s7, s8, s9, s10, s11, s12, s13, s14, s15⟩
        go_simp
        with_reducible rfl
       rotate_left
       ·simp only [Act.put, pA, pB, pC, i64_w, i32_w]
        rfl
       refine pure_ (i := 33) (N := some 65) (v := ?_) (a' := ?_) #[true, true, true, true, true, true, true, true, true, true, true, true, true, true, true, true, true, true, true, true, true, true, true, true, true, true, true, true, true, true, true, true, true, true, false, true, true, true, false, false, false, false] rfl rfl (any_of HT_.out (by kernel_rfl)) (fun _ _ _ h => h) (Or.inl ⟨by rfl, ?_⟩) ?_ ?_
       rotate_left
       ·intro w'
        go_simp
        with_reducible rfl
       rotate_left
       ·simp only [Act.put, pA, pB, pC, i64_w, i32_w]
        rfl
       refine take_ (i := 34) (N := some 66) (v := ?_) (a' := ?_) #[true, true, true, true, true, true, true, true, true, true, true, true, true, true, true, true, true, true, true, true, true, true, true, true, true, true, true, true, true, true, true, true, true, true, true, true, true, true, false, false, false, false] rfl rfl (take_ofW HT_.out HW_.out (by kernel_rfl)) (fun _ _ _ h => h) (Or.inl ⟨by rfl, ?_⟩) hHeld ?_ ?_
       rotate_left
       ·rintro w' ⟨s0, s1, s2, s3, s4, s5, s6, s7, s8, s9, s10, s11, s12, s13, s14, s15⟩
        go_simp
        with_reducible rfl
       rotate_left
       ·simp only [Act.put, pA, pB, pC, i64_w, i32_w]
        rfl
       refine take_ (i := 38) (N := some 70) (v := ?_) (a' := ?_) #[true, true, true, true, true, true, true, true, true, true, true, true, true, true, true, true, true, true, true, true, true, true, true, true, true, true, true, true, true, true, true, true, true, true, true, true, true, true, true, false, false, false] rfl rfl (take_ofW HT_.out HW_.out (by kernel_rfl)) (fun _ _ _ h => h) (Or.inl ⟨by rfl, ?_⟩) hHeld ?_ ?_
       rotate_left
       ·rintro w' ⟨s0, s1, s2, s3, s4, s5, s6, s7, s8, s9, s10, s11, s12, s13, s14, s15⟩
        go_simp
        with_reducible rfl
       rotate_left
       ·simp only [Act.put, pA, pB, pC, i64_w, i32_w]
        rfl
       refine one_ (i := 39) (N := some 71) #[true, true, true, true, true, true, true, true, true, true, true, true, true, true, true, true, true, true, true, true, true, true, true, true, true, true, true, true, true, true, true, true, true, true, true, true, true, true, true, true, false, false] rfl rfl (one_of HT_.out (by kernel_rfl)) (by decide) (fun K hK => ?_)
       refine goes_ Try.func28 (by kernel_rfl) rfl #[.slice A255_0 (rd_L11 l0_1 x27_2).length c255_0, .slice A256_0 (rd_L11 t246 x27_2).length c256_0] (by rfl) rfl rfl tF ?_
       with_reducible refine (ontimelaw24_ints.calls k2 _ _ (rd_L11 l0_1 x27_2) _ _ (rd_L11 t246 x27_2) true _ ?side1 ?side2 ?side3 ?side4 A22.out).mono ?_
       (case side1 => exact tC (Kd.C_below HR255_0.out (tB2 HB.out GE245.out GE250.out)))
       (case side2 => exact HC255_0.out)
       (case side3 => repeat (first | exact (by repeat (first | (with_reducible exact HR256_0.out) | (with_reducible refine Kd.C_alloc ?_ _) | (with_reducible refine Kd.C_drewN ?_ _) | (with_reducible refine Kd.C_drew ?_) | exact HR256_0.out)) | (with_reducible refine Kd.C_alloc ?_ _) | (with_reducible refine Kd.C_drewN ?_ _) | (with_reducible refine Kd.C_drew ?_)))
       (case side4 => exact HC256_0.out)
       rintro e w' ⟨rfl, ⟨nd, rfl⟩⟩
       refine ⟨_, rfl, ?_⟩
       refine hK.out _ _ ⟨(blk_cell BK250.out 0).trans rfl, (blk_cell BK250.out 1).trans rfl, (blk_cell BK250.out 2).trans rfl, (blk_cell BK245.out 0).trans rfl, (blk_cell BK245.out 1).trans rfl, ((HB.out.cell (World.block_lt_of_cell? w _ hw251_0)).trans hw251_0), ((HB.out.cell (World.block_lt_of_cell? w _ hw251_1)).trans hw251_1), ((HB.out.cell (World.block_lt_of_cell? w _ hw251_2)).trans hw251_2), ((HB.out.cell (World.block_lt_of_cell? w _ hw252_0)).trans hw252_0), ((HB.out.cell (World.block_lt_of_cell? w _ hw252_1)).trans hw252_1), ((HB.out.cell (World.block_lt_of_cell? w _ hw252_2)).trans hw252_2), ((HB.out.cell (World.block_lt_of_cell? w _ hw253_0)).trans hw253_0), ((HB.out.cell (World.block_lt_of_cell? w _ hw253_1)).trans hw253_1), ((HB.out.cell (World.block_lt_of_cell? w _ hw253_2)).trans hw253_2), ((HB.out.cell (World.block_lt_of_cell? w _ hw255_0)).trans hw255_0), hHeld.2.2.2.2.2.2.2.2.2.2.2.2.2.2.2⟩ (fun hHeld => ?_)
       clear hK K
       refine norm_ (a' := ?_) ?_ ?_
       rotate_left
       ·show Act.put _ (some 71) _ = _
        simp only [Act.put, pA, pB, pC, i64_w, i32_w]
        rfl
       refine pure_ (i := 40) (N := some 72) (v := ?_) (a' := ?_) #[true, true, true, true, true, true, true, true, true, true, true, true, true, true, true, true, true, true, true, true, true, true, true, true, true, true, true, true, true, true, true, true, true, true, true, true, true, true, true, true, true, false] rfl rfl (any_of HT_.out (by kernel_rfl)) (fun _ _ _ h => h) (Or.inl ⟨by rfl, ?_⟩) ?_ ?_
       rotate_left
       ·intro w'
        go_simp
        with_reducible rfl
       rotate_left
       ·simp only [Act.put, pA, pB, pC, i64_w, i32_w]
        rfl
       refine pure_ (i := 41) (N := some 73) (v := ?_) (a' := ?_) #[true, true, true, true, true, true, true, true, true, true, true, true, true, true, true, true, true, true, true, true, true, true, true, true, true, true, true, true, true, true, true, true, true, true, true, true, true, true, true, true, true, true] rfl rfl (any_of HT_.out (by kernel_rfl)) (fun _ _ _ h => h) (Or.inl ⟨by rfl, ?_⟩) ?_ ?_
       rotate_left
       ·intro w'
        go_simp
        with_reducible rfl
       rotate_left
       ·simp only [Act.put, pA, pB, pC, i64_w, i32_w]
        rfl
       refine done_ (done_of HT_.out (by kernel_rfl)) ?_
       try go_wp2
       go_roundg k2
       case measure => have := HJ2.out; have := HK2.out; omega
       case rel => exact ⟨(wrap64 (x27_2 + 1)), (by first | rfl | (simp; done) | (simp [*]; done)), H', ⟨by have := HJ2.out; have := HK2.out; omega⟩, ⟨tS HO_5.out⟩, ⟨tK BK245.out⟩, ⟨tB2 HB.out GE245.out GE250.out⟩⟩
      ·as_aux_lemma =>
       rw [if_neg c17] at H
       have c17b0 : (((rd_T51 l0_0 x27_2).f1) == ((rd_T104 l1 x27_2).f1)) = false := beq_eq_false_iff_ne.mpr c17
       have c17b1 : (((rd_T51 l0_0 x27_2).f1) != ((rd_T104 l1 x27_2).f1)) = true := bne_iff_ne.mpr c17
       obtain rfl := Option.some.inj H
       have p249 : 0 ≤ (x27_2 : Int) := tD
       have q249 : x27_2 < (l0_0.length : Int) := tD
       obtain ⟨ad249, A249_2, c249_2, e249, hx249_0, hx249_1, hx249_2, hl249_2, hi249_2⟩ := at_T51 HR0_0.out x27_2 p249 q249
       cases e249
       replace hx249_0 := (HB.out.cell (World.block_lt_of_cell? w _ hx249_0)).trans hx249_0
       replace hx249_1 := (HB.out.cell (World.block_lt_of_cell? w _ hx249_1)).trans hx249_1
       replace hx249_2 := (HB.out.cell (World.block_lt_of_cell? w _ hx249_2)).trans hx249_2
       have HR249_2 := Aside0.mk hi249_2
       have HC249_2 := Aside0.mk hl249_2
       clear hi249_2 hl249_2
       replace p249 := eq_true p249
       replace q249 := eq_true q249
       try go_wp2_with (first | ((with_reducible refine gate_dst (N := 7) rfl ?_); (try (refine gate_guard (by rfl) ?_; dsimp only)); refine box_event ?hg (N := 7) ?hd (cs := #[.int .i64 0, .int .i64 0, .slice none 0 0]) (t := 51) ?hr ?_; (case hd => rfl); (case hg => rfl); (case hr => first | (go_simp; done) | (go_simp; rfl)); intro gb250 hg w41 hbox hb; have n0_ := Aside0.mk (Kd.S_below (tS HO_5.out) hb); have n1_ := Aside0.mk (blk_below (g := gb245) (o := .cells #[.slice (some ad249) l0_0.length c0_0, .slice A0_1 l0_1.length c0_1] 31 (0, 0)) (tK BK245.out) hb); have n2_ := Aside0.mk (below_step (tB1 HB.out GE245.out) hb); have n3_ := Aside0.mk (hbox); have n4_ := Aside0.mk ((by rw [hg]; exact (below_size (tB1 HB.out GE245.out)) : w.heap.size ≤ gb250)); have n5_ := Aside0.mk ((by rw [hg]; exact (below_size (tB1 HB.out GE245.out)) : w.heap.size ≤ gb250)); have n6_ := Aside0.mk ((by rw [hg]; exact Nat.ne_of_lt (blk_lt (g := gb245) (o := .cells #[.slice (some ad249) l0_0.length c0_0, .slice A0_1 l0_1.length c0_1] 31 (0, 0)) (tK BK245.out)) : gb245 ≠ gb250)); have n7_ := Aside0.mk ((by rw [hg]; exact Nat.ne_of_gt (blk_lt (g := gb245) (o := .cells #[.slice (some ad249) l0_0.length c0_0, .slice A0_1 l0_1.length c0_1] 31 (0, 0)) (tK BK245.out)) : gb250 ≠ gb245)); clear HO_5; clear BK245; clear HB; have HO_5 := n0_; have BK245 := n1_; have HB := n2_; have BK250 := n3_; have GW250 := n4_; have GE250 := n5_; have NB245_250 := n6_; have NB250_245 := n7_; clear n0_ n1_ n2_ n3_ n4_ n5_ n6_ n7_; clear hb hbox hg; have hnb42 := NB250_245.out; have hnc42 := NB245_250.out; have hcz43_0 : w41.cell? ⟨gb250, 0, none⟩ = some (.int .i64 0) := (blk_cell BK250.out 0).trans rfl; have hcz43_1 : w41.cell? ⟨gb250, 1, none⟩ = some (.int .i64 0) := (blk_cell BK250.out 1).trans rfl; have hcz43_2 : w41.cell? ⟨gb250, 2, none⟩ = some (.slice none 0 0) := (blk_cell BK250.out 2).trans rfl; have hfz43_0 := blk_frozen BK250.out 0; have hfz43_1 := blk_frozen BK250.out 1; have hfz43_2 := blk_frozen BK250.out 2))
       have n0_ : Aside0 (Kd.S (Kd.slice 3 (Kd.int .i64)) 49 (((w41.setCell ⟨gb250, 0, none⟩ (.int .i64 ((rd_T51 l0_0 x27_2).f0))).setCell ⟨gb250, 1, none⟩ (.int .i64 ((rd_T51 l0_0 x27_2).f1))).setCell ⟨gb250, 2, none⟩ (.slice A249_2 ((rd_T51 l0_0 x27_2).f2).length c249_2)) w.heap.size (fun _ => True) v247 t246) := ⟨by (with_reducible repeat (first | apply Kd.S_alloc | apply Kd.S_drewN | apply Kd.S_drew)); exact Kd.S_mono (Kd.S_far (p := ⟨gb250, 2, none⟩) (Kd.S_far (p := ⟨gb250, 1, none⟩) (Kd.S_far (p := ⟨gb250, 0, none⟩) (Kd.S_types HO_5.out BK250.out (by decide)) (fun _ hk => hk.2) (.int .i64 ((rd_T51 l0_0 x27_2).f0))) (fun _ hk => hk.2) (.int .i64 ((rd_T51 l0_0 x27_2).f1))) (fun _ hk => hk.2) (.slice A249_2 ((rd_T51 l0_0 x27_2).f2).length c249_2)) (fun _ hk => trivial)⟩
       have n1_ : Aside0 ((((w41.setCell ⟨gb250, 0, none⟩ (.int .i64 ((rd_T51 l0_0 x27_2).f0))).setCell ⟨gb250, 1, none⟩ (.int .i64 ((rd_T51 l0_0 x27_2).f1))).setCell ⟨gb250, 2, none⟩ (.slice A249_2 ((rd_T51 l0_0 x27_2).f2).length c249_2)).heap[gb245]? = some (.cells #[.slice (some ad249) l0_0.length c0_0, .slice A0_1 l0_1.length c0_1] 31 (0, 0))) := ⟨by (with_reducible repeat (first | refine blk_drewN ?_ _ | refine blk_drew ?_ | refine blk_alloc ?_ _)); refine blk_far ?_ NB245_250.out _; (with_reducible repeat (first | refine blk_drewN ?_ _ | refine blk_drew ?_ | refine blk_alloc ?_ _)); refine blk_far ?_ NB245_250.out _; (with_reducible repeat (first | refine blk_drewN ?_ _ | refine blk_drew ?_ | refine blk_alloc ?_ _)); refine blk_far ?_ NB245_250.out _; (with_reducible repeat (first | refine blk_drewN ?_ _ | refine blk_drew ?_ | refine blk_alloc ?_ _)); exact BK245.out⟩
       have n2_ : Aside0 ((((w41.setCell ⟨gb250, 0, none⟩ (.int .i64 ((rd_T51 l0_0 x27_2).f0))).setCell ⟨gb250, 1, none⟩ (.int .i64 ((rd_T51 l0_0 x27_2).f1))).setCell ⟨gb250, 2, none⟩ (.slice A249_2 ((rd_T51 l0_0 x27_2).f2).length c249_2)).heap[gb250]? = some (.cells #[.int .i64 ((rd_T51 l0_0 x27_2).f0), .int .i64 ((rd_T51 l0_0 x27_2).f1), .slice A249_2 ((rd_T51 l0_0 x27_2).f2).length c249_2] 51 (0, 0))) := ⟨by (with_reducible repeat (first | refine blk_drewN ?_ _ | refine blk_drew ?_ | refine blk_alloc ?_ _)); refine blk_put (cs := #[.int .i64 ((rd_T51 l0_0 x27_2).f0), .int .i64 ((rd_T51 l0_0 x27_2).f1), .slice none 0 0]) ?_ 2 _ rfl; (with_reducible repeat (first | refine blk_drewN ?_ _ | refine blk_drew ?_ | refine blk_alloc ?_ _)); refine blk_put (cs := #[.int .i64 ((rd_T51 l0_0 x27_2).f0), .int .i64 0, .slice none 0 0]) ?_ 1 _ rfl; (with_reducible repeat (first | refine blk_drewN ?_ _ | refine blk_drew ?_ | refine blk_alloc ?_ _)); refine blk_put (cs := #[.int .i64 0, .int .i64 0, .slice none 0 0]) ?_ 0 _ rfl; (with_reducible repeat (first | refine blk_drewN ?_ _ | refine blk_drew ?_ | refine blk_alloc ?_ _)); exact BK250.out⟩
       have n3_ : Aside0 (Below w.heap.size w (((w41.setCell ⟨gb250, 0, none⟩ (.int .i64 ((rd_T51 l0_0 x27_2).f0))).setCell ⟨gb250, 1, none⟩ (.int .i64 ((rd_T51 l0_0 x27_2).f1))).setCell ⟨gb250, 2, none⟩ (.slice A249_2 ((rd_T51 l0_0 x27_2).f2).length c249_2))) := ⟨tB2 HB.out GE245.out GE250.out⟩
       (try clear HO_5)
       (try clear BK245)
       (try clear BK250)
       (try clear HB)
       generalize (((w41.setCell ⟨gb250, 0, none⟩ (.int .i64 ((rd_T51 l0_0 x27_2).f0))).setCell ⟨gb250, 1, none⟩ (.int .i64 ((rd_T51 l0_0 x27_2).f1))).setCell ⟨gb250, 2, none⟩ (.slice A249_2 ((rd_T51 l0_0 x27_2).f2).length c249_2)) = w44 at n0_ n1_ n2_ n3_ ⊢
       have HO_5 := n0_
       have BK245 := n1_
       have BK250 := n2_
       have HB := n3_
       clear n0_ n1_ n2_ n3_
       have n0_ := Aside0.mk (Kd.S_drew HO_5.out)
       have n1_ := Aside0.mk (blk_drew BK245.out)
       have n2_ := Aside0.mk (blk_drew BK250.out)
       have n3_ := Aside0.mk (below_drew1 HB.out)
       clear HO_5 BK245 BK250 HB
       have HO_5 := n0_
       have BK245 := n1_
       have BK250 := n2_
       have HB := n3_
       clear n0_ n1_ n2_ n3_
       have p251 : 0 ≤ (x27_2 : Int) := tD
       have q251 : x27_2 < (l1.length : Int) := tD
       obtain ⟨ad251, A251_2, c251_2, e251, hx251_0, hx251_1, hx251_2, hl251_2, hi251_2⟩ := at_T104 HR1.out x27_2 p251 q251
       have hw251_2 := hx251_2
       have hw251_1 := hx251_1
       have hw251_0 := hx251_0
       cases e251
       replace hx251_0 := (HB.out.cell (World.block_lt_of_cell? w _ hx251_0)).trans hx251_0
       replace hx251_1 := (HB.out.cell (World.block_lt_of_cell? w _ hx251_1)).trans hx251_1
       replace hx251_2 := (HB.out.cell (World.block_lt_of_cell? w _ hx251_2)).trans hx251_2
       have HR251_2 := Aside0.mk hi251_2
       have HC251_2 := Aside0.mk hl251_2
       clear hi251_2 hl251_2
       replace p251 := eq_true p251
       replace q251 := eq_true q251
       have p252 : 0 ≤ (x27_2 : Int) := tD
       have q252 : x27_2 < (l1.length : Int) := tD
       obtain ⟨ad252, A252_2, c252_2, e252, hx252_0, hx252_1, hx252_2, hl252_2, hi252_2⟩ := at_T104 HR1.out x27_2 p252 q252
       have hw252_2 := hx252_2
       have hw252_1 := hx252_1
       have hw252_0 := hx252_0
       obtain rfl : ad251 = ad252 := (by injection e252)
       replace hx252_0 := (HB.out.cell (World.block_lt_of_cell? w _ hx252_0)).trans hx252_0
       replace hx252_1 := (HB.out.cell (World.block_lt_of_cell? w _ hx252_1)).trans hx252_1
       replace hx252_2 := (HB.out.cell (World.block_lt_of_cell? w _ hx252_2)).trans hx252_2
       have HR252_2 := Aside0.mk hi252_2
       have HC252_2 := Aside0.mk hl252_2
       clear hi252_2 hl252_2
       replace p252 := eq_true p252
       replace q252 := eq_true q252
       have ea_ := Option.some.inj (hx251_2.symm.trans hx252_2)
       injection ea_ with ea_ en_ ec_
       subst ea_
       subst ec_
       clear en_
       refine start_ (n := 42) (S := fun w' => w'.cell? ⟨gb250, 0, none⟩ = some (.int .i64 ((rd_T51 l0_0 x27_2).f0)) ∧ w'.cell? ⟨gb250, 1, none⟩ = some (.int .i64 ((rd_T51 l0_0 x27_2).f1)) ∧ w'.cell? ⟨gb250, 2, none⟩ = some (.slice A249_2 ((rd_T51 l0_0 x27_2).f2).length c249_2) ∧ w'.cell? (ad251.add ((x27_2).toNat * 3)) = some (.int .i64 ((rd_T104 l1 x27_2).f0)) ∧ w'.cell? ⟨(ad251.add ((x27_2).toNat * 3)).block, (ad251.add ((x27_2).toNat * 3)).off + 1, none⟩ = some (.int .i64 ((rd_T104 l1 x27_2).f1)) ∧ w'.cell? ⟨(ad251.add ((x27_2).toNat * 3)).block, (ad251.add ((x27_2).toNat * 3)).off + 2, none⟩ = some (.slice A251_2 ((rd_T104 l1 x27_2).f2).length c251_2) ∧ w'.cell? (ad251.add ((x27_2).toNat * 3)) = some (.int .i64 ((rd_T104 l1 x27_2).f0)) ∧ w'.cell? ⟨(ad251.add ((x27_2).toNat * 3)).block, (ad251.add ((x27_2).toNat * 3)).off + 1, none⟩ = some (.int .i64 ((rd_T104 l1 x27_2).f1)) ∧ w'.cell? ⟨(ad251.add ((x27_2).toNat * 3)).block, (ad251.add ((x27_2).toNat * 3)).off + 2, none⟩ = some (.slice A251_2 ((rd_T104 l1 x27_2).f2).length c251_2)) (ds := []) #[false, false, false, false, false, false, false, false, false, false, false, false, false, false, false, false, false, false, false, false, false, false, false, false, false, false, false, false, false, false, false, false, false, false, false, false, false, false, false, false, false, false] (by kernel_rfl) rfl rfl ⟨(blk_cell BK250.out 0).trans rfl, (blk_cell BK250.out 1).trans rfl, (blk_cell BK250.out 2).trans rfl, ((HB.out.cell (World.block_lt_of_cell? w _ hw251_0)).trans hw251_0), ((HB.out.cell (World.block_lt_of_cell? w _ hw251_1)).trans hw251_1), ((HB.out.cell (World.block_lt_of_cell? w _ hw251_2)).trans hw251_2), ((HB.out.cell (World.block_lt_of_cell? w _ hw252_0)).trans hw252_0), ((HB.out.cell (World.block_lt_of_cell? w _ hw252_1)).trans hw252_1), ((HB.out.cell (World.block_lt_of_cell? w _ hw252_2)).trans hw252_2)⟩ (fun hHeld => ?_); refine with_tabW ontimelaw24_is.tab7 ontimelaw24_is.bits7 (fun HT_ HW_ => ?_)
       generalize w44.drew = w45 at HO_5 BK245 BK250 HB HR251_2 HR252_2 hx251_0 hx251_1 hx251_2 hx252_0 hx252_1 hx252_2 hHeld ⊢
       refine pure_ (i := 0) (N := some 32) (v := ?_) (a' := ?_) #[true, false, false, false, false, false, false, false, false, false, false, false, false, false, false, false, false, false, false, false, false, false, false, false, false, false, false, false, false, false, false, false, false, false, false, false, false, false, false, false, false, false] rfl rfl (any_of HT_.out (by kernel_rfl)) (fun _ _ _ h => h) (Or.inl ⟨by rfl, ?_⟩) ?_ ?_
       rotate_left
       ·intro w'
        go_simp
        with_reducible rfl
       rotate_left
       ·simp only [Act.put, pA, pB, pC, i64_w, i32_w]
        rfl
       refine pure_ (i := 2) (N := some 34) (v := ?_) (a' := ?_) #[true, false, true, false, false, false, false, false, false, false, false, false, false, false, false, false, false, false, false, false, false, false, false, false, false, false, false, false, false, false, false, false, false, false, false, false, false, false, false, false, false, false] rfl rfl (any_of HT_.out (by kernel_rfl)) (fun _ _ _ h => h) (Or.inl ⟨by rfl, ?_⟩) ?_ ?_
       rotate_left
       ·intro w'
        go_simp
        with_reducible rfl
       rotate_left
       ·simp only [Act.put, pA, pB, pC, i64_w, i32_w]
        rfl
       refine pure_ (i := 3) (N := some 35) (v := ?_) (a' := ?_) #[true, false, true, true, false, false, false, false, false, false, false, false, false, false, false, false, false, false, false, false, false, false, false, false, false, false, false, false, false, false, false, false, false, false, false, false, false, false, false, false, false, false] rfl rfl (any_of HT_.out (by kernel_rfl)) (fun _ _ _ h => h) (Or.inl ⟨by rfl, ?_⟩) ?_ ?_
       rotate_left
       ·intro w'
        go_simp
        with_reducible rfl
       rotate_left
       ·simp only [Act.put, pA, pB, pC, i64_w, i32_w]
        rfl
       refine pure_ (i := 4) (N := some 36) (v := ?_) (a' := ?_) #[true, false, true, true, true, false, false, false, false, false, false, false, false, false, false, false, false, false, false, false, false, false, false, false, false, false, false, false, false, false, false, false, false, false, false, false, false, false, false, false, false, false] rfl rfl (any_of HT_.out (by kernel_rfl)) (fun _ _ _ h => h) (Or.inl ⟨by rfl, ?_⟩) ?_ ?_
       rotate_left
       ·intro w'
        go_simp
        with_reducible rfl
       rotate_left
       ·simp only [Act.put, pA, pB, pC, i64_w, i32_w]
        rfl
       refine pure_ (i := 5) (N := some 37) (v := ?_) (a' := ?_) #[true, false, true, true, true, true, false, false, false, false, false, false, false, false, false, false, false, false, false, false, false, false, false, false, false, false, false, false, false, false, false, false, false, false, false, false, false, false, false, false, false, false] rfl rfl (any_of HT_.out (by kernel_rfl)) (fun _ _ _ h => h) (Or.inl ⟨by rfl, ?_⟩) ?_ ?_
       rotate_left
       ·intro w'
        go_simp
        with_reducible rfl
       rotate_left
       ·simp only [Act.put, pA, pB, pC, i64_w, i32_w]
        rfl
       refine take_ (i := 1) (N := some 33) (v := ?_) (a' := ?_) #[true, true, true, true, true, true, false, false, false, false, false, false, false, false, false, false, false, false, false, false, false, false, false, false, false, false, false, false, false, false, false, false, false, false, false, false, false, false, false, false, false, false] rfl rfl (take_ofW HT_.out HW_.out (by kernel_rfl)) (fun _ _ _ h => h) (Or.inl ⟨by rfl, ?_⟩) hHeld ?_ ?_
       rotate_left
       ·rintro w' ⟨s0, s1, s2, s3, s4, s5, s6, s7, s8⟩
        go_simp
        with_reducible rfl
       rotate_left
       ·simp only [Act.put, pA, pB, pC, i64_w, i32_w]
        rfl
       refine take_ (i := 6) (N := some 38) (v := ?_) (a' := ?_) #[true, true, true, true, true, true, true, false, false, false, false, false, false, false, false, false, false, false, false, false, false, false, false, false, false, false, false, false, false, false, false, false, false, false, false, false, false, false, false, false, false, false] rfl rfl (take_ofW HT_.out HW_.out (by kernel_rfl)) (fun _ _ _ h => h) (Or.inl ⟨by rfl, ?_⟩) hHeld ?_ ?_
       rotate_left
       ·rintro w' ⟨s0, s1, s2, s3, s4, s5, s6, s7, s8⟩
        go_simp
        with_reducible rfl
       rotate_left
       ·simp only [Act.put, pA, pB, pC, i64_w, i32_w]
        rfl
       refine pure_ (i := 7) (N := some 39) (v := ?_) (a' := ?_) #[true, true, true, true, true, true, true, true, false, false, false, false, false, false, false, false, false, false, false, false, false, false, false, false, false, false, false, false, false, false, false, false, false, false, false, false, false, false, false, false, false, false] rfl rfl (any_of HT_.out (by kernel_rfl)) (fun _ _ _ h => h) (Or.inl ⟨by rfl, ?_⟩) ?_ ?_
       rotate_left
       ·intro w'
        go_simp
        with_reducible rfl
       rotate_left
       ·simp only [Act.put, pA, pB, pC, i64_w, i32_w]
        rfl
       refine pure_ (i := 8) (N := some 40) (v := ?_) (a' := ?_) #[true, true, true, true, true, true, true, true, true, false, false, false, false, false, false, false, false, false, false, false, false, false, false, false, false, false, false, false, false, false, false, false, false, false, false, false, false, false, false, false, false, false] rfl rfl (any_of HT_.out (by kernel_rfl)) (fun _ _ _ h => h) (Or.inl ⟨by rfl, ?_⟩) ?_ ?_
       rotate_left
       ·intro w'
        go_simp
        with_reducible rfl
       rotate_left
       ·simp only [Act.put, pA, pB, pC, i64_w, i32_w]
        rfl
       refine pure_ (i := 9) (N := some 41) (v := ?_) (a' := ?_) #[true, true, true, true, true, true, true, true, true, true, false, false, false, false, false, false, false, false, false, false, false, false, false, false, false, false, false, false, false, false, false, false, false, false, false, false, false, false, false, false, false, false] rfl rfl (any_of HT_.out (by kernel_rfl)) (fun _ _ _ h => h) (Or.inl ⟨by rfl, ?_⟩) ?_ ?_
       rotate_left
       ·intro w'
        go_simp
        with_reducible rfl
       rotate_left
       ·simp only [Act.put, pA, pB, pC, i64_w, i32_w]
        rfl
       refine pure_ (i := 11) (N := some 43) (v := ?_) (a' := ?_) #[true, true, true, true, true, true, true, true, true, true, false, true, false, false, false, false, false, false, false, false, false, false, false, false, false, false, false, false, false, false, false, false, false, false, false, false, false, false, false, false, false, false] rfl rfl (any_of HT_.out (by kernel_rfl)) (fun _ _ _ h => h) (Or.inl ⟨by rfl, ?_⟩) ?_ ?_
       rotate_left
       ·intro w'
        go_simp
        with_reducible rfl
       rotate_left
       ·simp only [Act.put, pA, pB, pC, i64_w, i32_w]
        rfl
       refine pure_ (i := 12) (N := some 44) (v := ?_) (a' := ?_) #[true, true, true, true, true, true, true, true, true, true, false, true, true, false, false, false, false, false, false, false, false, false, false, false, false, false, false, false, false, false, false, false, false, false, false, false, false, false, false, false, false, false] rfl rfl (any_of HT_.out (by kernel_rfl)) (fun _ _ _ h => h) (Or.inl ⟨by rfl, ?_⟩) ?_ ?_
       rotate_left
       ·intro w'
        go_simp
        with_reducible rfl
       rotate_left
       ·simp only [Act.put, pA, pB, pC, i64_w, i32_w]
        rfl
       refine pure_ (i := 13) (N := some 45) (v := ?_) (a' := ?_) #[true, true, true, true, true, true, true, true, true, true, false, true, true, true, false, false, false, false, false, false, false, false, false, false, false, false, false, false, false, false, false, false, false, false, false, false, false, false, false, false, false, false] rfl rfl (any_of HT_.out (by kernel_rfl)) (fun _ _ _ h => h) (Or.inl ⟨by rfl, ?_⟩) ?_ ?_
       rotate_left
       ·intro w'
        go_simp
        with_reducible rfl
       rotate_left
       ·simp only [Act.put, pA, pB, pC, i64_w, i32_w]
        rfl
       refine pure_ (i := 14) (N := some 46) (v := ?_) (a' := ?_) #[true, true, true, true, true, true, true, true, true, true, false, true, true, true, true, false, false, false, false, false, false, false, false, false, false, false, false, false, false, false, false, false, false, false, false, false, false, false, false, false, false, false] rfl rfl (any_of HT_.out (by kernel_rfl)) (fun _ _ _ h => h) (Or.inl ⟨by rfl, ?_⟩) ?_ ?_
       rotate_left
       ·intro w'
        go_simp
        with_reducible rfl
       rotate_left
       ·simp only [Act.put, pA, pB, pC, i64_w, i32_w]
        rfl
       refine take_ (i := 10) (N := some 42) (v := ?_) (a' := ?_) #[true, true, true, true, true, true, true, true, true, true, true, true, true, true, true, false, false, false, false, false, false, false, false, false, false, false, false, false, false, false, false, false, false, false, false, false, false, false, false, false, false, false] rfl rfl (take_ofW HT_.out HW_.out (by kernel_rfl)) (fun _ _ _ h => h) (Or.inl ⟨by rfl, ?_⟩) hHeld ?_ ?_
       rotate_left
       ·rintro w' ⟨s0, s1, s2, s3, s4, s5, s6, s7, s8⟩
        go_simp
        with_reducible rfl
       rotate_left
       ·simp only [Act.put, pA, pB, pC, i64_w, i32_w]
        rfl
       refine take_ (i := 15) (N := some 47) (v := ?_) (a' := ?_) #[true, true, true, true, true, true, true, true, true, true, true, true, true, true, true, true, false, false, false, false, false, false, false, false, false, false, false, false, false, false, false, false, false, false, false, false, false, false, false, false, false, false] rfl rfl (take_ofW HT_.out HW_.out (by kernel_rfl)) (fun _ _ _ h => h) (Or.inl ⟨by rfl, ?_⟩) hHeld ?_ ?_
       rotate_left
       ·rintro w' ⟨s0, s1, s2, s3, s4, s5, s6, s7, s8⟩
        go_simp
        with_reducible rfl
       rotate_left
       ·simp only [Act.put, pA, pB, pC, i64_w, i32_w]
        rfl
       refine pure_ (i := 16) (N := some 48) (v := ?_) (a' := ?_) #[true, true, true, true, true, true, true, true, true, true, true, true, true, true, true, true, true, false, false, false, false, false, false, false, false, false, false, false, false, false, false, false, false, false, false, false, false, false, false, false, false, false] rfl rfl (any_of HT_.out (by kernel_rfl)) (fun _ _ _ h => h) (Or.inl ⟨by rfl, ?_⟩) ?_ ?_
       rotate_left
       ·intro w'
        go_simp
        with_reducible rfl
       rotate_left
       ·simp only [Act.put, pA, pB, pC, i64_w, i32_w]
        rfl
       refine pure_ (i := 17) (N := some 49) (v := ?_) (a' := ?_) #[true, true, true, true, true, true, true, true, true, true, true, true, true, true, true, true, true, true, false, false, false, false, false, false, false, false, false, false, false, false, false, false, false, false, false, false, false, false, false, false, false, false] rfl rfl (any_of HT_.out (by kernel_rfl)) (fun _ _ _ h => h) (Or.inl ⟨by rfl, ?_⟩) ?_ ?_
       rotate_left
       ·intro w'
        go_simp
        with_reducible rfl
       rotate_left
       ·simp only [Act.put, pA, pB, pC, i64_w, i32_w]
        rfl
       refine pure_ (i := 18) (N := some 50) (v := ?_) (a' := ?_) #[true, true, true, true, true, true, true, true, true, true, true, true, true, true, true, true, true, true, true, false, false, false, false, false, false, false, false, false, false, false, false, false, false, false, false, false, false, false, false, false, false, false] rfl rfl (any_of HT_.out (by kernel_rfl)) (fun _ _ _ h => h) (Or.inl ⟨by rfl, ?_⟩) ?_ ?_
       rotate_left
       ·intro w'
        go_simp
        with_reducible rfl
       rotate_left
       ·simp only [Act.put, pA, pB, pC, i64_w, i32_w]
        rfl
       refine pure_ (i := 19) (N := some 51) (v := undef) (a' := ?_) #[true, true, true, true, true, true, true, true, true, true, true, true, true, true, true, true, true, true, true, true, false, false, false, false, false, false, false, false, false, false, false, false, false, false, false, false, false, false, false, false, false, false] rfl rfl (any_of HT_.out (by kernel_rfl)) (fun _ _ _ h => h) (Or.inr ⟨by rfl, rfl⟩) ?_ ?_
       rotate_left
       ·simp only [Act.put, pA, pB, pC, i64_w, i32_w]
        rfl
       refine pure_ (i := 20) (N := some 52) (v := undef) (a' := ?_) #[true, true, true, true, true, true, true, true, true, true, true, true, true, true, true, true, true, true, true, true, true, false, false, false, false, false, false, false, false, false, false, false, false, false, false, false, false, false, false, false, false, false] rfl rfl (any_of HT_.out (by kernel_rfl)) (fun _ _ _ h => h) (Or.inr ⟨by rfl, rfl⟩) ?_ ?_
       rotate_left
       ·simp only [Act.put, pA, pB, pC, i64_w, i32_w]
        rfl
       refine pure_ (i := 21) (N := some 53) (v := undef) (a' := ?_) #[true, true, true, true, true, true, true, true, true, true, true, true, true, true, true, true, true, true, true, true, true, true, false, false, false, false, false, false, false, false, false, false, false, false, false, false, false, false, false, false, false, false] rfl rfl (any_of HT_.out (by kernel_rfl)) (fun _ _ _ h => h) (Or.inr ⟨by rfl, rfl⟩) ?_ ?_
       rotate_left
       ·simp only [Act.put, pA, pB, pC, i64_w, i32_w]
        rfl
       refine pure_ (i := 22) (N := some 54) (v := undef) (a' := ?_) #[true, true, true, true, true, true, true, true, true, true, true, true, true, true, true, true, true, true, true, true, true, true, true, false, false, false, false, false, false, false, false, false, false, false, false, false, false, false, false, false, false, false] rfl rfl (any_of HT_.out (by kernel_rfl)) (fun _ _ _ h => h) (Or.inr ⟨by rfl, rfl⟩) ?_ ?_
       rotate_left
       ·simp only [Act.put, pA, pB, pC, i64_w, i32_w]
        rfl
       refine pure_ (i := 23) (N := some 55) (v := undef) (a' := ?_) #[true, true, true, true, true, true, true, true, true, true, true, true, true, true, true, true, true, true, true, true, true, true, true, true, false, false, false, false, false, false, false, false, false, false, false, false, false, false, false, false, false, false] rfl rfl (any_of HT_.out (by kernel_rfl)) (fun _ _ _ h => h) (Or.inr ⟨by rfl, rfl⟩) ?_ ?_
       rotate_left
       ·simp only [Act.put, pA, pB, pC, i64_w, i32_w]
        rfl
       refine pure_ (i := 24) (N := some 56) (v := undef) (a' := ?_) #[true, true, true, true, true, true, true, true, true, true, true, true, true, true, true, true, true, true, true, true, true, true, true, true, true, false, false, false, false, false, false, false, false, false, false, false, false, false, false, false, false, false] rfl rfl (any_of HT_.out (by kernel_rfl)) (fun _ _ _ h => h) (Or.inr ⟨by rfl, rfl⟩) ?_ ?_
       rotate_left
       ·simp only [Act.put, pA, pB, pC, i64_w, i32_w]
        rfl
       refine pure_ (i := 25) (N := some 57) (v := undef) (a' := ?_) #[true, true, true, true, true, true, true, true, true, true, true, true, true, true, true, true, true, true, true, true, true, true, true, true, true, true, false, false, false, false, false, false, false, false, false, false, false, false, false, false, false, false] rfl rfl (any_of HT_.out (by kernel_rfl)) (fun _ _ _ h => h) (Or.inr ⟨by rfl, rfl⟩) ?_ ?_
       rotate_left
       ·simp only [Act.put, pA, pB, pC, i64_w, i32_w]
        rfl
       refine pure_ (i := 26) (N := some 58) (v := undef) (a' := ?_) #[true, true, true, true, true, true, true, true, true, true, true, true, true, true, true, true, true, true, true, true, true, true, true, true, true, true, true, false, false, false, false, false, false, false, false, false, false, false, false, false, false, false] rfl rfl (any_of HT_.out (by kernel_rfl)) (fun _ _ _ h => h) (Or.inr ⟨by rfl, rfl⟩) ?_ ?_
       rotate_left
       ·simp only [Act.put, pA, pB, pC, i64_w, i32_w]
        rfl
       refine pure_ (i := 27) (N := some 59) (v := undef) (a' := ?_) #[true, true, true, true, true, true, true, true, true, true, true, true, true, true, true, true, true, true, true, true, true, true, true, true, true, true, true, true, false, false, false, false, false, false, false, false, false, false, false, false, false, false] rfl rfl (any_of HT_.out (by kernel_rfl)) (fun _ _ _ h => h) (Or.inr ⟨by rfl, rfl⟩) ?_ ?_
       rotate_left
       ·simp only [Act.put, pA, pB, pC, i64_w, i32_w]
        rfl
       refine pure_ (i := 28) (N := some 60) (v := ?_) (a' := ?_) #[true, true, true, true, true, true, true, true, true, true, true, true, true, true, true, true, true, true, true, true, true, true, true, true, true, true, true, true, true, false, false, false, false, false, false, false, false, false, false, false, false, false] rfl rfl (any_of HT_.out (by kernel_rfl)) (fun _ _ _ h => h) (Or.inl ⟨by rfl, ?_⟩) ?_ ?_
       rotate_left
       ·intro w'
        go_simp
        with_reducible rfl
       rotate_left
       ·simp only [Act.put, pA, pB, pC, i64_w, i32_w]
        rfl
       refine pure_ (i := 29) (N := some 61) (v := ?_) (a' := ?_) #[true, true, true, true, true, true, true, true, true, true, true, true, true, true, true, true, true, true, true, true, true, true, true, true, true, true, true, true, true, true, false, false, false, false, false, false, false, false, false, false, false, false] rfl rfl (any_of HT_.out (by kernel_rfl)) (fun _ _ _ h => h) (Or.inl ⟨by rfl, ?_⟩) ?_ ?_
       rotate_left
       ·intro w'
        go_simp
        with_reducible rfl
       rotate_left
       ·simp only [Act.put, pA, pB, pC, i64_w, i32_w]
        rfl
       refine pure_ (i := 30) (N := some 62) (v := undef) (a' := ?_) #[true, true, true, true, true, true, true, true, true, true, true, true, true, true, true, true, true, true, true, true, true, true, true, true, true, true, true, true, true, true, true, false, false, false, false, false, false, false, false, false, false, false] rfl rfl (any_of HT_.out (by kernel_rfl)) (fun _ _ _ h => h) (Or.inr ⟨by rfl, rfl⟩) ?_ ?_
       rotate_left
       ·simp only [Act.put, pA, pB, pC, i64_w, i32_w]
        rfl
       refine pure_ (i := 31) (N := some 63) (v := undef) (a' := ?_) #[true, true, true, true, true, true, true, true, true, true, true, true, true, true, true, true, true, true, true, true, true, true, true, true, true, true, true, true, true, true, true, true, false, false, false, false, false, false, false, false, false, false] rfl rfl (any_of HT_.out (by kernel_rfl)) (fun _ _ _ h => h) (Or.inr ⟨by rfl, rfl⟩) ?_ ?_
       rotate_left
       ·simp only [Act.put, pA, pB, pC, i64_w, i32_w]
        rfl
       refine pure_ (i := 32) (N := some 64) (v := undef) (a' := ?_) #[true, true, true, true, true, true, true, true, true, true, true, true, true, true, true, true, true, true, true, true, true, true, true, true, true, true, true, true, true, true, true, true, true, false, false, false, false, false, false, false, false, false] rfl rfl (any_of HT_.out (by kernel_rfl)) (fun _ _ _ h => h) (Or.inr ⟨by rfl, rfl⟩) ?_ ?_
       rotate_left
       ·simp only [Act.put, pA, pB, pC, i64_w, i32_w]
        rfl
       refine pure_ (i := 33) (N := some 65) (v := undef) (a' := ?_) #[true, true, true, true, true, true, true, true, true, true, true, true, true, true, true, true, true, true, true, true, true, true, true, true, true, true, true, true, true, true, true, true, true, true, false, false, false, false, false, false, false, false] rfl rfl (any_of HT_.out (by kernel_rfl)) (fun _ _ _ h => h) (Or.inr ⟨by rfl, rfl⟩) ?_ ?_
       rotate_left
       ·simp only [Act.put, pA, pB, pC, i64_w, i32_w]
        rfl
       refine pure_ (i := 34) (N := some 66) (v := undef) (a' := ?_) #[true, true, true, true, true, true, true, true, true, true, true, true, true, true, true, true, true, true, true, true, true, true, true, true, true, true, true, true, true, true, true, true, true, true, true, false, false, false, false, false, false, false] rfl rfl (any_of HT_.out (by kernel_rfl)) (fun _ _ _ h => h) (Or.inr ⟨by rfl, rfl⟩) ?_ ?_
       rotate_left
       ·simp only [Act.put, pA, pB, pC, i64_w, i32_w]
        rfl
       refine pure_ (i := 35) (N := some 67) (v := undef) (a' := ?_) #[true, true, true, true, true, true, true, true, true, true, true, true, true, true, true, true, true, true, true, true, true, true, true, true, true, true, true, true, true, true, true, true, true, true, true, true, false, false, false, false, false, false] rfl rfl (any_of HT_.out (by kernel_rfl)) (fun _ _ _ h => h) (Or.inr ⟨by rfl, rfl⟩) ?_ ?_
       rotate_left
       ·simp only [Act.put, pA, pB, pC, i64_w, i32_w]
        rfl
       refine pure_ (i := 36) (N := some 68) (v := undef) (a' := ?_) #[true, true, true, true, true, true, true, true, true, true, true, true, true, true, true, true, true, true, true, true, true, true, true, true, true, true, true, true, true, true, true, true, true, true, true, true, true, false, false, false, false, false] rfl rfl (any_of HT_.out (by kernel_rfl)) (fun _ _ _ h => h) (Or.inr ⟨by rfl, rfl⟩) ?_ ?_
       rotate_left
       ·simp only [Act.put, pA, pB, pC, i64_w, i32_w]
        rfl
       refine pure_ (i := 37) (N := some 69) (v := undef) (a' := ?_) #[true, true, true, true, true, true, true, true, true, true, true, true, true, true, true, true, true, true, true, true, true, true, true, true, true, true, true, true, true, true, true, true, true, true, true, true, true, true, false, false, false, false] rfl rfl (any_of HT_.out (by kernel_rfl)) (fun _ _ _ h => h) (Or.inr ⟨by rfl, rfl⟩) ?_ ?_
       rotate_left
       ·simp only [Act.put, pA, pB, pC, i64_w, i32_w]
        rfl
       refine pure_ (i := 38) (N := some 70) (v := undef) (a' := ?_) #[true, true, true, true, true, true, true, true, true, true, true, true, true, true, true, true, true, true, true, true, true, true, true, true, true, true, true, true, true, true, true, true, true, true, true, true, true, true, true, false, false, false] rfl rfl (any_of HT_.out (by kernel_rfl)) (fun _ _ _ h => h) (Or.inr ⟨by rfl, rfl⟩) ?_ ?_
       rotate_left
       ·simp only [Act.put, pA, pB, pC, i64_w, i32_w]
        rfl
       refine pure_ (i := 39) (N := some 71) (v := undef) (a' := ?_) #[true, true, true, true, true, true, true, true, true, true, true, true, true, true, true, true, true, true, true, true, true, true, true, true, true, true, true, true, true, true, true, true, true, true, true, true, true, true, true, true, false, false] rfl rfl (any_of HT_.out (by kernel_rfl)) (fun _ _ _ h => h) (Or.inr ⟨by rfl, rfl⟩) ?_ ?_
       rotate_left
       ·simp only [Act.put, pA, pB, pC, i64_w, i32_w]
        rfl
       refine pure_ (i := 40) (N := some 72) (v := undef) (a' := ?_) #[true, true, true, true, true, true, true, true, true, true, true, true, true, true, true, true, true, true, true, true, true, true, true, true, true, true, true, true, true, true, true, true, true, true, true, true, true, true, true, true, true, false] rfl rfl (any_of HT_.out (by kernel_rfl)) (fun _ _ _ h => h) (Or.inr ⟨by rfl, rfl⟩) ?_ ?_
       rotate_left
       ·simp only [Act.put, pA, pB, pC, i64_w, i32_w]
        rfl
       refine pure_ (i := 41) (N := some 73) (v := ?_) (a' := ?_) #[true, true, true, true, true, true, true, true, true, true, true, true, true, true, true, true, true, true, true, true, true, true, true, true, true, true, true, true, true, true, true, true, true, true, true, true, true, true, true, true, true, true] rfl rfl (any_of HT_.out (by kernel_rfl)) (fun _ _ _ h => h) (Or.inl ⟨by rfl, ?_⟩) ?_ ?_
       rotate_left
       ·intro w'
        go_simp
        with_reducible rfl
       rotate_left
       ·simp only [Act.put, pA, pB, pC, i64_w, i32_w]
        rfl
       refine done_ (done_of HT_.out (by kernel_rfl)) ?_
       try go_wp2
       go_ret
       exact ⟨by first | rfl | (simp [errW_none, errW_some] <;> rfl) | (simp [*, errW_none, errW_some] <;> rfl), by repeat (first | (with_reducible first | exact HB.out | apply below_alloc | apply pw_below_drewN | apply below_drew1 | refine below_set ?_ GE245.out | refine below_set ?_ GE250.out) | exact HB.out)⟩
     ·as_aux_lemma =>
      rw [if_neg c16] at H
      have c16b0 : (((rd_T51 l0_0 x27_2).f0) == ((rd_T104 l1 x27_2).f0)) = false := beq_eq_false_iff_ne.mpr c16
      have c16b1 : (((rd_T51 l0_0 x27_2).f0) != ((rd_T104 l1 x27_2).f0)) = true := bne_iff_ne.mpr c16
      obtain rfl := Option.some.inj H
      have p249 : 0 ≤ (x27_2 : Int) := tD
      have q249 : x27_2 < (l0_0.length : Int) := tD
      obtain ⟨ad249, A249_2, c249_2, e249, hx249_0, hx249_1, hx249_2, hl249_2, hi249_2⟩ := at_T51 HR0_0.out x27_2 p249 q249
      cases e249
      replace hx249_0 := (HB.out.cell (World.block_lt_of_cell? w _ hx249_0)).trans hx249_0
      replace hx249_1 := (HB.out.cell (World.block_lt_of_cell? w _ hx249_1)).trans hx249_1
      replace hx249_2 := (HB.out.cell (World.block_lt_of_cell? w _ hx249_2)).trans hx249_2
      have HR249_2 := Aside0.mk hi249_2
      have HC249_2 := Aside0.mk hl249_2
      clear hi249_2 hl249_2
      replace p249 := eq_true p249
      replace q249 := eq_true q249
      try go_wp2_with (first | ((with_reducible refine gate_dst (N := 7) rfl ?_); (try (refine gate_guard (by rfl) ?_; dsimp only)); refine box_event ?hg (N := 7) ?hd (cs := #[.int .i64 0, .int .i64 0, .slice none 0 0]) (t := 51) ?hr ?_; (case hd => rfl); (case hg => rfl); (case hr => first | (go_simp; done) | (go_simp; rfl)); intro gb250 hg w46 hbox hb; have n0_ := Aside0.mk (Kd.S_below (tS HO_5.out) hb); have n1_ := Aside0.mk (blk_below (g := gb245) (o := .cells #[.slice (some ad249) l0_0.length c0_0, .slice A0_1 l0_1.length c0_1] 31 (0, 0)) (tK BK245.out) hb); have n2_ := Aside0.mk (below_step (tB1 HB.out GE245.out) hb); have n3_ := Aside0.mk (hbox); have n4_ := Aside0.mk ((by rw [hg]; exact (below_size (tB1 HB.out GE245.out)) : w.heap.size ≤ gb250)); have n5_ := Aside0.mk ((by rw [hg]; exact (below_size (tB1 HB.out GE245.out)) : w.heap.size ≤ gb250)); have n6_ := Aside0.mk ((by rw [hg]; exact Nat.ne_of_lt (blk_lt (g := gb245) (o := .cells #[.slice (some ad249) l0_0.length c0_0, .slice A0_1 l0_1.length c0_1] 31 (0, 0)) (tK BK245.out)) : gb245 ≠ gb250)); have n7_ := Aside0.mk ((by rw [hg]; exact Nat.ne_of_gt (blk_lt (g := gb245) (o := .cells #[.slice (some ad249) l0_0.length c0_0, .slice A0_1 l0_1.length c0_1] 31 (0, 0)) (tK BK245.out)) : gb250 ≠ gb245)); clear HO_5; clear BK245; clear HB; have HO_5 := n0_; have BK245 := n1_; have HB := n2_; have BK250 := n3_; have GW250 := n4_; have GE250 := n5_; have NB245_250 := n6_; have NB250_245 := n7_; clear n0_ n1_ n2_ n3_ n4_ n5_ n6_ n7_; clear hb hbox hg; have hnb47 := NB250_245.out; have hnc47 := NB245_250.out; have hcz48_0 : w46.cell? ⟨gb250, 0, none⟩ = some (.int .i64 0) := (blk_cell BK250.out 0).trans rfl; have hcz48_1 : w46.cell? ⟨gb250, 1, none⟩ = some (.int .i64 0) := (blk_cell BK250.out 1).trans rfl; have hcz48_2 : w46.cell? ⟨gb250, 2, none⟩ = some (.slice none 0 0) := (blk_cell BK250.out 2).trans rfl; have hfz48_0 := blk_frozen BK250.out 0; have hfz48_1 := blk_frozen BK250.out 1; have hfz48_2 := blk_frozen BK250.out 2))
      have n0_ : Aside0 (Kd.S (Kd.slice 3 (Kd.int .i64)) 49 (((w46.setCell ⟨gb250, 0, none⟩ (.int .i64 ((rd_T51 l0_0 x27_2).f0))).setCell ⟨gb250, 1, none⟩ (.int .i64 ((rd_T51 l0_0 x27_2).f1))).setCell ⟨gb250, 2, none⟩ (.slice A249_2 ((rd_T51 l0_0 x27_2).f2).length c249_2)) w.heap.size (fun _ => True) v247 t246) := ⟨by (with_reducible repeat (first | apply Kd.S_alloc | apply Kd.S_drewN | apply Kd.S_drew)); exact Kd.S_mono (Kd.S_far (p := ⟨gb250, 2, none⟩) (Kd.S_far (p := ⟨gb250, 1, none⟩) (Kd.S_far (p := ⟨gb250, 0, none⟩) (Kd.S_types HO_5.out BK250.out (by decide)) (fun _ hk => hk.2) (.int .i64 ((rd_T51 l0_0 x27_2).f0))) (fun _ hk => hk.2) (.int .i64 ((rd_T51 l0_0 x27_2).f1))) (fun _ hk => hk.2) (.slice A249_2 ((rd_T51 l0_0 x27_2).f2).length c249_2)) (fun _ hk => trivial)⟩
      have n1_ : Aside0 ((((w46.setCell ⟨gb250, 0, none⟩ (.int .i64 ((rd_T51 l0_0 x27_2).f0))).setCell ⟨gb250, 1, none⟩ (.int .i64 ((rd_T51 l0_0 x27_2).f1))).setCell ⟨gb250, 2, none⟩ (.slice A249_2 ((rd_T51 l0_0 x27_2).f2).length c249_2)).heap[gb245]? = some (.cells #[.slice (some ad249) l0_0.length c0_0, .slice A0_1 l0_1.length c0_1] 31 (0, 0))) := ⟨by (with_reducible repeat (first | refine blk_drewN ?_ _ | refine blk_drew ?_ | refine blk_alloc ?_ _)); refine blk_far ?_ NB245_250.out _; (with_reducible repeat (first | refine blk_drewN ?_ _ | refine blk_drew ?_ | refine blk_alloc ?_ _)); refine blk_far ?_ NB245_250.out _; (with_reducible repeat (first | refine blk_drewN ?_ _ | refine blk_drew ?_ | refine blk_alloc ?_ _)); refine blk_far ?_ NB245_250.out _; (with_reducible repeat (first | refine blk_drewN ?_ _ | refine blk_drew ?_ | refine blk_alloc ?_ _)); exact BK245.out⟩
      have n2_ : Aside0 ((((w46.setCell ⟨gb250, 0, none⟩ (.int .i64 ((rd_T51 l0_0 x27_2).f0))).setCell ⟨gb250, 1, none⟩ (.int .i64 ((rd_T51 l0_0 x27_2).f1))).setCell ⟨gb250, 2, none⟩ (.slice A249_2 ((rd_T51 l0_0 x27_2).f2).length c249_2)).heap[gb250]? = some (.cells #[.int .i64 ((rd_T51 l0_0 x27_2).f0), .int .i64 ((rd_T51 l0_0 x27_2).f1), .slice A249_2 ((rd_T51 l0_0 x27_2).f2).length c249_2] 51 (0, 0))) := ⟨by (with_reducible repeat (first | refine blk_drewN ?_ _ | refine blk_drew ?_ | refine blk_alloc ?_ _)); refine blk_put (cs := #[.int .i64 ((rd_T51 l0_0 x27_2).f0), .int .i64 ((rd_T51 l0_0 x27_2).f1), .slice none 0 0]) ?_ 2 _ rfl; (with_reducible repeat (first | refine blk_drewN ?_ _ | refine blk_drew ?_ | refine blk_alloc ?_ _)); refine blk_put (cs := #[.int .i64 ((rd_T51 l0_0 x27_2).f0), .int .i64 0, .slice none 0 0]) ?_ 1 _ rfl; (with_reducible repeat (first | refine blk_drewN ?_ _ | refine blk_drew ?_ | refine blk_alloc ?_ _)); refine blk_put (cs := #[.int .i64 0, .int .i64 0, .slice none 0 0]) ?_ 0 _ rfl; (with_reducible repeat (first | refine blk_drewN ?_ _ | refine blk_drew ?_ | refine blk_alloc ?_ _)); exact BK250.out⟩
      have n3_ : Aside0 (Below w.heap.size w (((w46.setCell ⟨gb250, 0, none⟩ (.int .i64 ((rd_T51 l0_0 x27_2).f0))).setCell ⟨gb250, 1, none⟩ (.int .i64 ((rd_T51 l0_0 x27_2).f1))).setCell ⟨gb250, 2, none⟩ (.slice A249_2 ((rd_T51 l0_0 x27_2).f2).length c249_2))) := ⟨tB2 HB.out GE245.out GE250.out⟩
      (try clear HO_5)
      (try clear BK245)
      (try clear BK250)
      (try clear HB)
      generalize (((w46.setCell ⟨gb250, 0, none⟩ (.int .i64 ((rd_T51 l0_0 x27_2).f0))).setCell ⟨gb250, 1, none⟩ (.int .i64 ((rd_T51 l0_0 x27_2).f1))).setCell ⟨gb250, 2, none⟩ (.slice A249_2 ((rd_T51 l0_0 x27_2).f2).length c249_2)) = w49 at n0_ n1_ n2_ n3_ ⊢
      have HO_5 := n0_
      have BK245 := n1_
      have BK250 := n2_
      have HB := n3_
      clear n0_ n1_ n2_ n3_
      have n0_ := Aside0.mk (Kd.S_drew HO_5.out)
      have n1_ := Aside0.mk (blk_drew BK245.out)
      have n2_ := Aside0.mk (blk_drew BK250.out)
      have n3_ := Aside0.mk (below_drew1 HB.out)
      clear HO_5 BK245 BK250 HB
      have HO_5 := n0_
      have BK245 := n1_
      have BK250 := n2_
      have HB := n3_
      clear n0_ n1_ n2_ n3_
      have p251 : 0 ≤ (x27_2 : Int) := tD
      have q251 : x27_2 < (l1.length : Int) := tD
      obtain ⟨ad251, A251_2, c251_2, e251, hx251_0, hx251_1, hx251_2, hl251_2, hi251_2⟩ := at_T104 HR1.out x27_2 p251 q251
      have hw251_2 := hx251_2
      have hw251_1 := hx251_1
      have hw251_0 := hx251_0
      cases e251
      replace hx251_0 := (HB.out.cell (World.block_lt_of_cell? w _ hx251_0)).trans hx251_0
      replace hx251_1 := (HB.out.cell (World.block_lt_of_cell? w _ hx251_1)).trans hx251_1
      replace hx251_2 := (HB.out.cell (World.block_lt_of_cell? w _ hx251_2)).trans hx251_2
      have HR251_2 := Aside0.mk hi251_2
      have HC251_2 := Aside0.mk hl251_2
      clear hi251_2 hl251_2
      replace p251 := eq_true p251
      replace q251 := eq_true q251
      refine start_ (n := 42) (S := fun w' => w'.cell? ⟨gb250, 0, none⟩ = some (.int .i64 ((rd_T51 l0_0 x27_2).f0)) ∧ w'.cell? ⟨gb250, 1, none⟩ = some (.int .i64 ((rd_T51 l0_0 x27_2).f1)) ∧ w'.cell? ⟨gb250, 2, none⟩ = some (.slice A249_2 ((rd_T51 l0_0 x27_2).f2).length c249_2) ∧ w'.cell? (ad251.add ((x27_2).toNat * 3)) = some (.int .i64 ((rd_T104 l1 x27_2).f0)) ∧ w'.cell? ⟨(ad251.add ((x27_2).toNat * 3)).block, (ad251.add ((x27_2).toNat * 3)).off + 1, none⟩ = some (.int .i64 ((rd_T104 l1 x27_2).f1)) ∧ w'.cell? ⟨(ad251.add ((x27_2).toNat * 3)).block, (ad251.add ((x27_2).toNat * 3)).off + 2, none⟩ = some (.slice A251_2 ((rd_T104 l1 x27_2).f2).length c251_2)) (ds := []) #[false, false, false, false, false, false, false, false, false, false, false, false, false, false, false, false, false, false, false, false, false, false, false, false, false, false, false, false, false, false, false, false, false, false, false, false, false, false, false, false, false, false] (by kernel_rfl) rfl rfl ⟨(blk_cell BK250.out 0).trans rfl, (blk_cell BK250.out 1).trans rfl, (blk_cell BK250.out 2).trans rfl, ((HB.out.cell (World.block_lt_of_cell? w _ hw251_0)).trans hw251_0), ((HB.out.cell (World.block_lt_of_cell? w _ hw251_1)).trans hw251_1), ((HB.out.cell (World.block_lt_of_cell? w _ hw251_2)).trans hw251_2)⟩ (fun hHeld => ?_); refine with_tabW ontimelaw24_is.tab7 ontimelaw24_is.bits7 (fun HT_ HW_ => ?_)
      generalize w49.drew = w50 at HO_5 BK245 BK250 HB HR251_2 hx251_0 hx251_1 hx251_2 hHeld ⊢
      refine pure_ (i := 0) (N := some 32) (v := ?_) (a' := ?_) #[true, false, false, false, false, false, false, false, false, false, false, false, false, false, false, false, false, false, false, false, false, false, false, false, false, false, false, false, false, false, false, false, false, false, false, false, false, false, false, false, false, false] rfl rfl (any_of HT_.out (by kernel_rfl)) (fun _ _ _ h => h) (Or.inl ⟨by rfl, ?_⟩) ?_ ?_
      rotate_left
      ·intro w'
       go_simp
       with_reducible rfl
      rotate_left
      ·simp only [Act.put, pA, pB, pC, i64_w, i32_w]
       rfl
      refine pure_ (i := 2) (N := some 34) (v := ?_) (a' := ?_) #[true, false, true, false, false, false, false, false, false, false, false, false, false, false, false, false, false, false, false, false, false, false, false, false, false, false, false, false, false, false, false, false, false, false, false, false, false, false, false, false, false, false] rfl rfl (any_of HT_.out (by kernel_rfl)) (fun _ _ _ h => h) (Or.inl ⟨by rfl, ?_⟩) ?_ ?_
      rotate_left
      ·intro w'
       go_simp
       with_reducible rfl
      rotate_left
      ·simp only [Act.put, pA, pB, pC, i64_w, i32_w]
       rfl
      refine pure_ (i := 3) (N := some 35) (v := ?_) (a' := ?_) #[true, false, true, true, false, false, false, false, false, false, false, false, false, false, false, false, false, false, false, false, false, false, false, false, false, false, false, false, false, false, false, false, false, false, false, false, false, false, false, false, false, false] rfl rfl (any_of HT_.out (by kernel_rfl)) (fun _ _ _ h => h) (Or.inl ⟨by rfl, ?_⟩) ?_ ?_
      rotate_left
      ·intro w'
       go_simp
       with_reducible rfl
      rotate_left
      ·simp only [Act.put, pA, pB, pC, i64_w, i32_w]
       rfl
      refine pure_ (i := 4) (N := some 36) (v := ?_) (a' := ?_) #[true, false, true, true, true, false, false, false, false, false, false, false, false, false, false, false, false, false, false, false, false, false, false, false, false, false, false, false, false, false, false, false, false, false, false, false, false, false, false, false, false, false] rfl rfl (any_of HT_.out (by kernel_rfl)) (fun _ _ _ h => h) (Or.inl ⟨by rfl, ?_⟩) ?_ ?_
      rotate_left
      ·intro w'
       go_simp
       with_reducible rfl
      rotate_left
      ·simp only [Act.put, pA, pB, pC, i64_w, i32_w]
       rfl
      refine pure_ (i := 5) (N := some 37) (v := ?_) (a' := ?_) #[true, false, true, true, true, true, false, false, false, false, false, false, false, false, false, false, false, false, false, false, false, false, false, false, false, false, false, false, false, false, false, false, false, false, false, false, false, false, false, false, false, false] rfl rfl (any_of HT_.out (by kernel_rfl)) (fun _ _ _ h => h) (Or.inl ⟨by rfl, ?_⟩) ?_ ?_
      rotate_left
      ·intro w'
       go_simp
       with_reducible rfl
      rotate_left
      ·simp only [Act.put, pA, pB, pC, i64_w, i32_w]
       rfl
      refine take_ (i := 1) (N := some 33) (v := ?_) (a' := ?_) #[true, true, true, true, true, true, false, false, false, false, false, false, false, false, false, false, false, false, false, false, false, false, false, false, false, false, false, false, false, false, false, false, false, false, false, false, false, false, false, false, false, false] rfl rfl (take_ofW HT_.out HW_.out (by kernel_rfl)) (fun _ _ _ h => h) (Or.inl ⟨by rfl, ?_⟩) hHeld ?_ ?_
      rotate_left
      ·rintro w' ⟨s0, s1, s2, s3, s4, s5⟩
       go_simp
       with_reducible rfl
      rotate_left
      ·simp only [Act.put, pA, pB, pC, i64_w, i32_w]
       rfl
      refine take_ (i := 6) (N := some 38) (v := ?_) (a' := ?_) #[true, true, true, true, true, true, true, false, false, false, false, false, false, false, false, false, false, false, false, false, false, false, false, false, false, false, false, false, false, false, false, false, false, false, false, false, false, false, false, false, false, false] rfl rfl (take_ofW HT_.out HW_.out (by kernel_rfl)) (fun _ _ _ h => h) (Or.inl ⟨by rfl, ?_⟩) hHeld ?_ ?_
      rotate_left
      ·rintro w' ⟨s0, s1, s2, s3, s4, s5⟩
       go_simp
       with_reducible rfl
      rotate_left
      ·simp only [Act.put, pA, pB, pC, i64_w, i32_w]
       rfl
      refine pure_ (i := 7) (N := some 39) (v := ?_) (a' := ?_) #[true, true, true, true, true, true, true, true, false, false, false, false, false, false, false, false, false, false, false, false, false, false, false, false, false, false, false, false, false, false, false, false, false, false, false, false, false, false, false, false, false, false] rfl rfl (any_of HT_.out (by kernel_rfl)) (fun _ _ _ h => h) (Or.inl ⟨by rfl, ?_⟩) ?_ ?_
      rotate_left
      ·intro w'
       go_simp
       with_reducible rfl
      rotate_left
      ·simp only [Act.put, pA, pB, pC, i64_w, i32_w]
       rfl
      refine pure_ (i := 8) (N := some 40) (v := ?_) (a' := ?_) #[true, true, true, true, true, true, true, true, true, false, false, false, false, false, false, false, false, false, false, false, false, false, false, false, false, false, false, false, false, false, false, false, false, false, false, false, false, false, false, false, false, false] rfl rfl (any_of HT_.out (by kernel_rfl)) (fun _ _ _ h => h) (Or.inl ⟨by rfl, ?_⟩) ?_ ?_
      rotate_left
      ·intro w'
       go_simp
       with_reducible rfl
      rotate_left
      ·simp only [Act.put, pA, pB, pC, i64_w, i32_w]
       rfl
      refine pure_ (i := 9) (N := some 41) (v := undef) (a' := ?_) #[true, true, true, true, true, true, true, true, true, true, false, false, false, false, false, false, false, false, false, false, false, false, false, false, false, false, false, false, false, false, false, false, false, false, false, false, false, false, false, false, false, false] rfl rfl (any_of HT_.out (by kernel_rfl)) (fun _ _ _ h => h) (Or.inr ⟨by rfl, rfl⟩) ?_ ?_
      rotate_left
      ·simp only [Act.put, pA, pB, pC, i64_w, i32_w]
       rfl
      refine pure_ (i := 10) (N := some 42) (v := undef) (a' := ?_) #[true, true, true, true, true, true, true, true, true, true, true, false, false, false, false, false, false, false, false, false, false, false, false, false, false, false, false, false, false, false, false, false, false, false, false, false, false, false, false, false, false, false] rfl rfl (any_of HT_.out (by kernel_rfl)) (fun _ _ _ h => h) (Or.inr ⟨by rfl, rfl⟩) ?_ ?_
      rotate_left
      ·simp only [Act.put, pA, pB, pC, i64_w, i32_w]
       rfl
      refine pure_ (i := 11) (N := some 43) (v := undef) (a' := ?_) #[true, true, true, true, true, true, true, true, true, true, true, true, false, false, false, false, false, false, false, false, false, false, false, false, false, false, false, false, false, false, false, false, false, false, false, false, false, false, false, false, false, false] rfl rfl (any_of HT_.out (by kernel_rfl)) (fun _ _ _ h => h) (Or.inr ⟨by rfl, rfl⟩) ?_ ?_
      rotate_left
      ·simp only [Act.put, pA, pB, pC, i64_w, i32_w]
       rfl
      refine pure_ (i := 12) (N := some 44) (v := undef) (a' := ?_) #[true, true, true, true, true, true, true, true, true, true, true, true, true, false, false, false, false, false, false, false, false, false, false, false, false, false, false, false, false, false, false, false, false, false, false, false, false, false, false, false, false, false] rfl rfl (any_of HT_.out (by kernel_rfl)) (fun _ _ _ h => h) (Or.inr ⟨by rfl, rfl⟩) ?_ ?_
      rotate_left
      ·simp only [Act.put, pA, pB, pC, i64_w, i32_w]
       rfl
      refine pure_ (i := 13) (N := some 45) (v := undef) (a' := ?_) #[true, true, true, true, true, true, true, true, true, true, true, true, true, true, false, false, false, false, false, false, false, false, false, false, false, false, false, false, false, false, false, false, false, false, false, false, false, false, false, false, false, false] rfl rfl (any_of HT_.out (by kernel_rfl)) (fun _ _ _ h => h) (Or.inr ⟨by rfl, rfl⟩) ?_ ?_
      rotate_left
      ·simp only [Act.put, pA, pB, pC, i64_w, i32_w]
       rfl
      refine pure_ (i := 14) (N := some 46) (v := undef) (a' := ?_) #[true, true, true, true, true, true, true, true, true, true, true, true, true, true, true, false, false, false, false, false, false, false, false, false, false, false, false, false, false, false, false, false, false, false, false, false, false, false, false, false, false, false] rfl rfl (any_of HT_.out (by kernel_rfl)) (fun _ _ _ h => h) (Or.inr ⟨by rfl, rfl⟩) ?_ ?_
      rotate_left
      ·simp only [Act.put, pA, pB, pC, i64_w, i32_w]
       rfl
      refine pure_ (i := 15) (N := some 47) (v := undef) (a' := ?_) #[true, true, true, true, true, true, true, true, true, true, true, true, true, true, true, true, false, false, false, false, false, false, false, false, false, false, false, false, false, false, false, false, false, false, false, false, false, false, false, false, false, false] rfl rfl (any_of HT_.out (by kernel_rfl)) (fun _ _ _ h => h) (Or.inr ⟨by rfl, rfl⟩) ?_ ?_
      rotate_left
      ·simp only [Act.put, pA, pB, pC, i64_w, i32_w]
       rfl
      refine pure_ (i := 16) (N := some 48) (v := undef) (a' := ?_) #[true, true, true, true, true, true, true, true, true, true, true, true, true, true, true, true, true, false, false, false, false, false, false, false, false, false, false, false, false, false, false, false, false, false, false, false, false, false, false, false, false, false] rfl rfl (any_of HT_.out (by kernel_rfl)) (fun _ _ _ h => h) (Or.inr ⟨by rfl, rfl⟩) ?_ ?_
      rotate_left
      ·simp only [Act.put, pA, pB, pC, i64_w, i32_w]
       rfl
      refine pure_ (i := 17) (N := some 49) (v := ?_) (a' := ?_) #[true, true, true, true, true, true, true, true, true, true, true, true, true, true, true, true, true, true, false, false, false, false, false, false, false, false, false, false, false, false, false, false, false, false, false, false, false, false, false, false, false, false] rfl rfl (any_of HT_.out (by kernel_rfl)) (fun _ _ _ h => h) (Or.inl ⟨by rfl, ?_⟩) ?_ ?_
      rotate_left
      ·intro w'
       go_simp
       with_reducible rfl
      rotate_left
      ·simp only [Act.put, pA, pB, pC, i64_w, i32_w]
       rfl
      refine pure_ (i := 18) (N := some 50) (v := ?_) (a' := ?_) #[true, true, true, true, true, true, true, true, true, true, true, true, true, true, true, true, true, true, true, false, false, false, false, false, false, false, false, false, false, false, false, false, false, false, false, false, false, false, false, false, false, false] rfl rfl (any_of HT_.out (by kernel_rfl)) (fun _ _ _ h => h) (Or.inl ⟨by rfl, ?_⟩) ?_ ?_
      rotate_left
      ·intro w'
       go_simp
       with_reducible rfl
      rotate_left
      ·simp only [Act.put, pA, pB, pC, i64_w, i32_w]
       rfl
      refine pure_ (i := 19) (N := some 51) (v := undef) (a' := ?_) #[true, true, true, true, true, true, true, true, true, true, true, true, true, true, true, true, true, true, true, true, false, false, false, false, false, false, false, false, false, false, false, false, false, false, false, false, false, false, false, false, false, false] rfl rfl (any_of HT_.out (by kernel_rfl)) (fun _ _ _ h => h) (Or.inr ⟨by rfl, rfl⟩) ?_ ?_
      rotate_left
      ·simp only [Act.put, pA, pB, pC, i64_w, i32_w]
       rfl
      refine pure_ (i := 20) (N := some 52) (v := undef) (a' := ?_) #[true, true, true, true, true, true, true, true, true, true, true, true, true, true, true, true, true, true, true, true, true, false, false, false, false, false, false, false, false, false, false, false, false, false, false, false, false, false, false, false, false, false] rfl rfl (any_of HT_.out (by kernel_rfl)) (fun _ _ _ h => h) (Or.inr ⟨by rfl, rfl⟩) ?_ ?_
      rotate_left
      ·simp only [Act.put, pA, pB, pC, i64_w, i32_w]
       rfl
      refine pure_ (i := 21) (N := some 53) (v := undef) (a' := ?_) #[true, true, true, true, true, true, true, true, true, true, true, true, true, true, true, true, true, true, true, true, true, true, false, false, false, false, false, false, false, false, false, false, false, false, false, false, false, false, false, false, false, false] rfl rfl (any_of HT_.out (by kernel_rfl)) (fun _ _ _ h => h) (Or.inr ⟨by rfl, rfl⟩) ?_ ?_
      rotate_left
      ·simp only [Act.put, pA, pB, pC, i64_w, i32_w]
       rfl
      refine pure_ (i := 22) (N := some 54) (v := undef) (a' := ?_) #[true, true, true, true, true, true, true, true, true, true, true, true, true, true, true, true, true, true, true, true, true, true, true, false, false, false, false, false, false, false, false, false, false, false, false, false, false, false, false, false, false, false] rfl rfl (any_of HT_.out (by kernel_rfl)) (fun _ _ _ h => h) (Or.inr ⟨by rfl, rfl⟩) ?_ ?_
      rotate_left
      ·simp only [Act.put, pA, pB, pC, i64_w, i32_w]
       rfl
      refine pure_ (i := 23) (N := some 55) (v := undef) (a' := ?_) #[true, true, true, true, true, true, true, true, true, true, true, true, true, true, true, true, true, true, true, true, true, true, true, true, false, false, false, false, false, false, false, false, false, false, false, false, false, false, false, false, false, false] rfl rfl (any_of HT_.out (by kernel_rfl)) (fun _ _ _ h => h) (Or.inr ⟨by rfl, rfl⟩) ?_ ?_
      rotate_left
      ·simp only [Act.put, pA, pB, pC, i64_w, i32_w]
       rfl
      refine pure_ (i := 24) (N := some 56) (v := undef) (a' := ?_) #[true, true, true, true, true, true, true, true, true, true, true, true, true, true, true, true, true, true, true, true, true, true, true, true, true, false, false, false, false, false, false, false, false, false, false, false, false, false, false, false, false, false] rfl rfl (any_of HT_.out (by kernel_rfl)) (fun _ _ _ h => h) (Or.inr ⟨by rfl, rfl⟩) ?_ ?_
      rotate_left
      ·simp only [Act.put, pA, pB, pC, i64_w, i32_w]
       rfl
      refine pure_ (i := 25) (N := some 57) (v := undef) (a' := ?_) #[true, true, true, true, true, true, true, true, true, true, true, true, true, true, true, true, true, true, true, true, true, true, true, true, true, true, false, false, false, false, false, false, false, false, false, false, false, false, false, false, false, false] rfl rfl (any_of HT_.out (by kernel_rfl)) (fun _ _ _ h => h) (Or.inr ⟨by rfl, rfl⟩) ?_ ?_
      rotate_left
      ·simp only [Act.put, pA, pB, pC, i64_w, i32_w]
       rfl
      refine pure_ (i := 26) (N := some 58) (v := undef) (a' := ?_) #[true, true, true, true, true, true, true, true, true, true, true, true, true, true, true, true, true, true, true, true, true, true, true, true, true, true, true, false, false, false, false, false, false, false, false, false, false, false, false, false, false, false] rfl rfl (any_of HT_.out (by kernel_rfl)) (fun _ _ _ h => h) (Or.inr ⟨by rfl, rfl⟩) ?_ ?_
      rotate_left
      ·simp only [Act.put, pA, pB, pC, i64_w, i32_w]
       rfl
      refine pure_ (i := 27) (N := some 59) (v := undef) (a' := ?_) #[true, true, true, true, true, true, true, true, true, true, true, true, true, true, true, true, true, true, true, true, true, true, true, true, true, true, true, true, false, false, false, false, false, false, false, false, false, false, false, false, false, false] rfl rfl (any_of HT_.out (by kernel_rfl)) (fun _ _ _ h => h) (Or.inr ⟨by rfl, rfl⟩) ?_ ?_
      rotate_left
      ·simp only [Act.put, pA, pB, pC, i64_w, i32_w]
       rfl
      refine pure_ (i := 28) (N := some 60) (v := ?_) (a' := ?_) #[true, true, true, true, true, true, true, true, true, true, true, true, true, true, true, true, true, true, true, true, true, true, true, true, true, true, true, true, true, false, false, false, false, false, false, false, false, false, false, false, false, false] rfl rfl (any_of HT_.out (by kernel_rfl)) (fun _ _ _ h => h) (Or.inl ⟨by rfl, ?_⟩) ?_ ?_
      rotate_left
      ·intro w'
       go_simp
       with_reducible rfl
      rotate_left
      ·simp only [Act.put, pA, pB, pC, i64_w, i32_w]
       rfl
      refine pure_ (i := 29) (N := some 61) (v := ?_) (a' := ?_) #[true, true, true, true, true, true, true, true, true, true, true, true, true, true, true, true, true, true, true, true, true, true, true, true, true, true, true, true, true, true, false, false, false, false, false, false, false, false, false, false, false, false] rfl rfl (any_of HT_.out (by kernel_rfl)) (fun _ _ _ h => h) (Or.inl ⟨by rfl, ?_⟩) ?_ ?_
      rotate_left
      ·intro w'
       go_simp
       with_reducible rfl
      rotate_left
      ·simp only [Act.put, pA, pB, pC, i64_w, i32_w]
       rfl
      refine pure_ (i := 30) (N := some 62) (v := undef) (a' := ?_) #[true, true, true, true, true, true, true, true, true, true, true, true, true, true, true, true, true, true, true, true, true, true, true, true, true, true, true, true, true, true, true, false, false, false, false, false, false, false, false, false, false, false] rfl rfl (any_of HT_.out (by kernel_rfl)) (fun _ _ _ h => h) (Or.inr ⟨by rfl, rfl⟩) ?_ ?_
      rotate_left
      ·simp only [Act.put, pA, pB, pC, i64_w, i32_w]
       rfl
      refine pure_ (i := 31) (N := some 63) (v := undef) (a' := ?_) #[true, true, true, true, true, true, true, true, true, true, true, true, true, true, true, true, true, true, true, true, true, true, true, true, true, true, true, true, true, true, true, true, false, false, false, false, false, false, false, false, false, false] rfl rfl (any_of HT_.out (by kernel_rfl)) (fun _ _ _ h => h) (Or.inr ⟨by rfl, rfl⟩) ?_ ?_
      rotate_left
      ·simp only [Act.put, pA, pB, pC, i64_w, i32_w]
       rfl
      refine pure_ (i := 32) (N := some 64) (v := undef) (a' := ?_) #[true, true, true, true, true, true, true, true, true, true, true, true, true, true, true, true, true, true, true, true, true, true, true, true, true, true, true, true, true, true, true, true, true, false, false, false, false, false, false, false, false, false] rfl rfl (any_of HT_.out (by kernel_rfl)) (fun _ _ _ h => h) (Or.inr ⟨by rfl, rfl⟩) ?_ ?_
      rotate_left
      ·simp only [Act.put, pA, pB, pC, i64_w, i32_w]
       rfl
      refine pure_ (i := 33) (N := some 65) (v := undef) (a' := ?_) #[true, true, true, true, true, true, true, true, true, true, true, true, true, true, true, true, true, true, true, true, true, true, true, true, true, true, true, true, true, true, true, true, true, true, false, false, false, false, false, false, false, false] rfl rfl (any_of HT_.out (by kernel_rfl)) (fun _ _ _ h => h) (Or.inr ⟨by rfl, rfl⟩) ?_ ?_
      rotate_left
      ·simp only [Act.put, pA, pB, pC, i64_w, i32_w]
       rfl
      refine pure_ (i := 34) (N := some 66) (v := undef) (a' := ?_) #[true, true, true, true, true, true, true, true, true, true, true, true, true, true, true, true, true, true, true, true, true, true, true, true, true, true, true, true, true, true, true, true, true, true, true, false, false, false, false, false, false, false] rfl rfl (any_of HT_.out (by kernel_rfl)) (fun _ _ _ h => h) (Or.inr ⟨by rfl, rfl⟩) ?_ ?_
      rotate_left
      ·simp only [Act.put, pA, pB, pC, i64_w, i32_w]
       rfl
      refine pure_ (i := 35) (N := some 67) (v := undef) (a' := ?_) #[true, true, true, true, true, true, true, true, true, true, true, true, true, true, true, true, true, true, true, true, true, true, true, true, true, true, true, true, true, true, true, true, true, true, true, true, false, false, false, false, false, false] rfl rfl (any_of HT_.out (by kernel_rfl)) (fun _ _ _ h => h) (Or.inr ⟨by rfl, rfl⟩) ?_ ?_
      rotate_left
      ·simp only [Act.put, pA, pB, pC, i64_w, i32_w]
       rfl
      refine pure_ (i := 36) (N := some 68) (v := undef) (a' := ?_) #[true, true, true, true, true, true, true, true, true, true, true, true, true, true, true, true, true, true, true, true, true, true, true, true, true, true, true, true, true, true, true, true, true, true, true, true, true, false, false, false, false, false] rfl rfl (any_of HT_.out (by kernel_rfl)) (fun _ _ _ h => h) (Or.inr ⟨by rfl, rfl⟩) ?_ ?_
      rotate_left
      ·simp only [Act.put, pA, pB, pC, i64_w, i32_w]
       rfl
      refine pure_ (i := 37) (N := some 69) (v := undef) (a' := ?_) #[true, true, true, true, true, true, true, true, true, true, true, true, true, true, true, true, true, true, true, true, true, true, true, true, true, true, true, true, true, true, true, true, true, true, true, true, true, true, false, false, false, false] rfl rfl (any_of HT_.out (by kernel_rfl)) (fun _ _ _ h => h) (Or.inr ⟨by rfl, rfl⟩) ?_ ?_
      rotate_left
      ·simp only [Act.put, pA, pB, pC, i64_w, i32_w]
       rfl
      refine pure_ (i := 38) (N := some 70) (v := undef) (a' := ?_) #[true, true, true, true, true, true, true, true, true, true, true, true, true, true, true, true, true, true, true, true, true, true, true, true, true, true, true, true, true, true, true, true, true, true, true, true, true, true, true, false, false, false] rfl rfl (any_of HT_.out (by kernel_rfl)) (fun _ _ _ h => h) (Or.inr ⟨by rfl, rfl⟩) ?_ ?_
      rotate_left
      ·simp only [Act.put, pA, pB, pC, i64_w, i32_w]
       rfl
      refine pure_ (i := 39) (N := some 71) (v := undef) (a' := ?_) #[true, true, true, true, true, true, true, true, true, true, true, true, true, true, true, true, true, true, true, true, true, true, true, true, true, true, true, true, true, true, true, true, true, true, true, true, true, true, true, true, false, false] rfl rfl (any_of HT_.out (by kernel_rfl)) (fun _ _ _ h => h) (Or.inr ⟨by rfl, rfl⟩) ?_ ?_
      rotate_left
      ·simp only [Act.put, pA, pB, pC, i64_w, i32_w]
       rfl
      refine pure_ (i := 40) (N := some 72) (v := undef) (a' := ?_) #[true, true, true, true, true, true, true, true, true, true, true, true, true, true, true, true, true, true, true, true, true, true, true, true, true, true, true, true, true, true, true, true, true, true, true, true, true, true, true, true, true, false] rfl rfl (any_of HT_.out (by kernel_rfl)) (fun _ _ _ h => h) (Or.inr ⟨by rfl, rfl⟩) ?_ ?_
      rotate_left
      ·simp only [Act.put, pA, pB, pC, i64_w, i32_w]
       rfl
      refine pure_ (i := 41) (N := some 73) (v := ?_) (a' := ?_) #[true, true, true, true, true, true, true, true, true, true, true, true, true, true, true, true, true, true, true, true, true, true, true, true, true, true, true, true, true, true, true, true, true, true, true, true, true, true, true, true, true, true] rfl rfl (any_of HT_.out (by kernel_rfl)) (fun _ _ _ h => h) (Or.inl ⟨by rfl, ?_⟩) ?_ ?_
      rotate_left
      ·intro w'
       go_simp
       with_reducible rfl
      rotate_left
      ·simp only [Act.put, pA, pB, pC, i64_w, i32_w]
       rfl
      refine done_ (done_of HT_.out (by kernel_rfl)) ?_
      try go_wp2
      go_ret
      exact ⟨by first | rfl | (simp [errW_none, errW_some] <;> rfl) | (simp [*, errW_none, errW_some] <;> rfl), by repeat (first | (with_reducible first | exact HB.out | apply below_alloc | apply pw_below_drewN | apply below_drew1 | refine below_set ?_ GE245.out | refine below_set ?_ GE250.out) | exact HB.out)⟩
end Go.Proofs.Ytihmfdndiicjgaa.C
