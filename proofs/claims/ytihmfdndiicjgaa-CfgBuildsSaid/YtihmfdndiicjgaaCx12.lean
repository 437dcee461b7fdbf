import Derived.Test.YtihmfdndiicjgaaCx0
import Derived.Test.YtihmfdndiicjgaaCx11
namespace Go.Proofs.Ytihmfdndiicjgaa.C
open Go.RowKit Go.Proofs.YtihmfdndiicjgaaW.PrintWords Go.Proofs.YtihmfdndiicjgaaW.PrintLast Go.Proofs.YtihmfdndiicjgaaW.PrintMore
attribute [local go_sem] max2_int min2_int max_two min_two max_three min_three max_four min_four   -- for this text's walks alone
set_option linter.unusedVariables false
set_option linter.unusedSimpArgs false
mutual
def ontimelaw24_is.j0 : Nat → List (S104) → Bool → List (S51) → List (List Int) → Option (Bool)
 | 0, _, _, _, _ => none
 | k + 1, x1, x21, x323000, x323001 => if x21 = true then (some false) else ((ontimeref24_Prev.f k x1).bind fun t323 => (ontimelaw24_is.l0 k x1 t323 x323000 (x323000.length : Int) 0 x323000 x323001))
def ontimelaw24_is.l0 : Nat → List (S104) → List (List Int) → List (S51) → Int → Int → List (S51) → List (List Int) → Option (Bool)
 | 0, _, _, _, _, _, _, _ => none
 | k + 1, x1, x5, x25, x26, x27, x323000, x323001 => if x27 < x26 then (if 0 ≤ x27 then (if x27 < (x25.length : Int) then (if x27 < (x1.length : Int) then (if ((rd_T51 x25 x27).f0) = ((rd_T104 x1 x27).f0) then (if ((rd_T51 x25 x27).f1) = ((rd_T104 x1 x27).f1) then ((ontimelaw24_ints.f k ((rd_T51 x25 x27).f2) ((rd_T104 x1 x27).f2)).bind fun t331 => (if t331 = true then (if x27 < (x323001.length : Int) then (if x27 < (x5.length : Int) then ((ontimelaw24_ints.f k (rd_L11 x323001 x27) (rd_L11 x5 x27)).bind fun t334 => (if t334 = true then (ontimelaw24_is.l0 k x1 x5 x25 x26 (wrap64 (x27 + 1)) x323000 x323001) else (some false))) else (none)) else (none)) else (some false))) else (some false)) else (some false)) else (none)) else (none)) else (none)) else (some true)
end
def ontimelaw24_is.f (k : Nat) (l0_0 : List (S51)) (l0_1 : List (List Int)) (l1 : List (S104)) : Option (Bool) := if (l0_0.length : Int) = (l1.length : Int) then (ontimelaw24_is.j0 k l1 ((l0_1.length : Int) != (l1.length : Int)) l0_0 l0_1) else (ontimelaw24_is.j0 k l1 true l0_0 l0_1)
def ontimelaw24_is.T7 : Bool × List (List Nat × List Nat) := (true, [([], []), ([0], [0]), ([], []), ([], []), ([2, 3], [2, 3]), ([4], [4]), ([5], [5]), ([1, 6], [1, 6]), ([7], [7]), ([8], [8]), ([9, 8], [8, 9]), ([8], [8]), ([8], [8]), ([11, 12, 8], [8, 11, 12]), ([13, 8], [8, 13]), ([14, 8], [8, 14]), ([10, 15, 8], [8, 10, 15]), ([8, 16], [8, 16]), ([17, 8], [17]), ([18], [18]), ([19, 18], [18, 19]), ([18], [18]), ([18], [18]), ([21, 22, 18], [18, 21, 22]), ([23, 18], [18, 23]), ([24, 18], [18, 24]), ([20, 25, 18, 18], [18, 20, 25]), ([26, 18], [18, 26]), ([18, 27], [18, 27]), ([28, 26], [28]), ([29], [29]), ([30, 29], [29, 30]), ([29], [29]), ([31, 32, 29], [29, 31, 32]), ([33, 29], [29, 33]), ([29], [29]), ([29], [29]), ([35, 36, 29], [29, 35, 36]), ([37, 29], [29, 37]), ([34, 38, 29, 29], [29, 34, 38]), ([39, 29], [29, 39]), ([29, 40], [29, 40])])
def ontimelaw24_is.B7 : List Nat := [0, 1, 0, 0, 12, 28, 60, 127, 255, 511, 1023, 511, 511, 6655, 14847, 31231, 65535, 131071, 262143, 524287, 1048575, 524287, 524287, 6815743, 15204351, 31981567, 67108863, 134217727, 268435455, 536870911, 1073741823, 2147483647, 1073741823, 8589934591, 17179869183, 1073741823, 1073741823, 104152956927, 241591910399, 549755813887, 1099511627775, 2199023255551]
theorem ontimelaw24_is.tab7 : rtab .any (opsOf Try.f16 7) = ontimelaw24_is.T7 := by kernel_rfl
theorem ontimelaw24_is.bits7 : waitsOk ontimelaw24_is.T7.2 ontimelaw24_is.B7 = true := by kernel_rfl
set_option maxHeartbeats 8000000 in
set_option maxRecDepth 100000 in
theorem ontimelaw24_is.calls (k : Nat) (A0_0 : Option Addr) (c0_0 : Nat) (l0_0 : List (S51)) (A0_1 : Option Addr) (c0_1 : Nat) (l0_1 : List (List Int)) (A1 : Option Addr) (c1 : Nat) (l1 : List (S104)) (r : Bool) (w : World) (hr0_0 : Kd.C k51 w A0_0 l0_0.length l0_0) (hc0_0 : l0_0.length ≤ c0_0) (hr0_1 : Kd.C (Kd.slice 3 (Kd.int .i64)) w A0_1 l0_1.length l0_1) (hc0_1 : l0_1.length ≤ c0_1) (hr1 : Kd.C k104 w A1 l1.length l1) (hc1 : l1.length ≤ c1) (h : ontimelaw24_is.f k l0_0 l0_1 l1 = some r) (hrt : r = true) :
  Calls Try.prog 16 #[.agg #[.slice A0_0 l0_0.length c0_0, .slice A0_1 l0_1.length c0_1], .slice A1 l1.length c1] w fun e w' => e = .returned (.bool r) ∧ Below w.heap.size w w' := by
 have HRT := aK hrt
 clear hrt
 have hu31 := Try.underlying31
 have hu51 := Try.underlying51
 have HR0_0 := aK hr0_0
 have HC0_0 := aK hc0_0
 clear hr0_0 hc0_0
 have HR0_1 := aK hr0_1
 have HC0_1 := aK hc0_1
 clear hr0_1 hc0_1
 have HR1 := aK hr1
 have HC1 := aK hc1
 clear hr1 hc1
 have HB := aK (Below.refl w.heap.size w)
 have H : (if (l0_0.length : Int) = (l1.length : Int) then (ontimelaw24_is.j0 k l1 ((l0_1.length : Int) != (l1.length : Int)) l0_0 l0_1) else (ontimelaw24_is.j0 k l1 true l0_0 l0_1)) = some r := h
 clear h
 have HC3 := aK H
 clear H
 go_enter Try.func16, Try.ntmps16
 go_upto_region 1 with (first | ((refine gate_dst (N := 2) rfl ?_); (try (refine gate_guard (by rfl) ?_; dsimp only)); refine box_event ?hg (N := 2) ?hd (cs := #[.slice A0_0 l0_0.length c0_0, .slice A0_1 l0_1.length c0_1]) (t := 31) ?hr ?_; (case hd => rfl); (case hg => rfl); (case hr => first | (go_simp; done) | (go_simp; rfl)); intro gb322 hg w4 hbox hb; have BK322 := aK (hbox); have GW322 := aK ((by rw [hg]; exact (below_size (tB0 HB.out)) : w.heap.size ≤ gb322)); have GE322 := GW322; replace HB := aK (below_step (tB0 HB.out) hb); clear hb hbox hg))
 (try simp only [Act.put, pA, pB, pC])
 go_cut [21] (fun v21 wc => ∃ (kq : Nat) (x21_2 : Bool), v21 = .bool x21_2 ∧ Aside0 (ontimelaw24_is.j0 kq l1 x21_2 l0_0 l0_1 = some r) ∧ Aside0 (kq ≤ k) ∧ Aside0 (wc.heap[gb322]? = some (.cells #[(.slice A0_0 l0_0.length c0_0), (.slice A0_1 l0_1.length c0_1)] 31 (0, 0))) ∧ Aside0 (Below w.heap.size w wc))
 case first =>
  have H := HC3.out
  clear HC3
  by_cases c5 : (l0_0.length : Int) = (l1.length : Int)
  ·rw [if_pos c5] at H
   have c5b0 : ((l0_0.length : Int) == (l1.length : Int)) = true := beq_iff_eq.mpr c5
   have c5b1 : ((l0_0.length : Int) != (l1.length : Int)) = false := bne_eq_false_iff_eq.mpr c5
   have c5b2 : (l0_0.length == l1.length) = true := by first | simpa using c5 | (simp at c5 ⊢; omega)
   clear c5
   (first | rw [c5b0] | (simp only [i64_w, i32_w]; rw [c5b0]) | skip)
   have H' := aK H
   clear H
   have hcz6_0 := bc 0 BK322.out
   have hcz6_1 := bc 1 BK322.out
   have hfz6_0 := blk_frozen BK322.out 0
   have hfz6_1 := blk_frozen BK322.out 1
   go_wp2
   go_meet
   case rel => exact ⟨_, (((l0_1.length : Int) != (l1.length : Int))), (by first | rfl | (simp; done) | (simp [*]; done)), H', ⟨by first | omega | exact Nat.le_refl _⟩, ⟨tK BK322.out⟩, ⟨tB1 HB.out GE322.out⟩⟩
  ·rw [if_neg c5] at H
   have c5b0 : ((l0_0.length : Int) == (l1.length : Int)) = false := beq_eq_false_iff_ne.mpr c5
   have c5b1 : ((l0_0.length : Int) != (l1.length : Int)) = true := bne_iff_ne.mpr c5
   have c5b2 : (l0_0.length == l1.length) = false := by first | simpa using c5 | (simp at c5 ⊢; omega)
   (first | rw [c5b0] | (simp only [i64_w, i32_w]; rw [c5b0]) | skip)
   have H' := aK H
   clear H
   have hcz7_0 := bc 0 BK322.out
   have hcz7_1 := bc 1 BK322.out
   have hfz7_0 := blk_frozen BK322.out 0
   have hfz7_1 := blk_frozen BK322.out 1
   go_wp2
   go_meet
   case rel => exact ⟨_, (true), (by first | rfl | (simp; done) | (simp [*]; done)), H', ⟨by first | omega | exact Nat.le_refl _⟩, ⟨tK BK322.out⟩, ⟨tB1 HB.out GE322.out⟩⟩
 as_aux_lemma =>
 clear HC3
 obtain ⟨kq, x21_2, rfl, HA, HJ2, BK322, HB⟩ := hcut
 cases kq with
 | zero => exact absurd HA.out (by simp [ontimelaw24_is.j0])
 | succ kj2 =>
  have H := HA.out
  clear HA
  simp only [ontimelaw24_is.j0] at H
  by_cases c8 : x21_2 = true
  ·subst c8
   have H1 : (some false) = some r := by rw [if_pos rfl] at H; exact H
   exact absurd ((oI H1).trans HRT.out) (by decide)
  replace c8 := Bool.eq_false_iff.mpr c8
  subst c8
  rw [if_neg (show ¬ (false = true) by decide)] at H
  replace H := bM H
  obtain ⟨t323, A90, H⟩ := H
  (try dsimp only at H)
  have A9 := aK A90
  clear A90
  have H' := aK H
  clear H
  go_wp2_with (first | ((refine gate_callee (f := 46) rfl ?_); refine goesL_ (some 23) rfl rfl Try.func46 (by kernel_rfl) rfl #[.slice A1 l1.length c1] rfl tF ?_; (with_reducible refine (ontimeref24_Prev.calls kj2 _ _ l1 t323 _ ?side1 ?side2 A9.out).mono ?_); (case side1 => exact tC (Kd.C_below HR1.out HB.out)); (case side2 => exact HC1.out); rintro e w10 ⟨v324, rfl, ho0, hb⟩; refine ⟨_, rfl, ?_⟩; have HO325 := aK (Kd.S_lower ho0 (below_size (tB1 HB.out GE322.out))); replace BK322 := aK (blk_below (g := gb322) (tK BK322.out) hb); replace HB := aK (below_step (tB1 HB.out GE322.out) hb); have hcz11_0 := bc 0 BK322.out; have hcz11_1 := bc 1 BK322.out; have hfz11_0 := blk_frozen BK322.out 0; have hfz11_1 := blk_frozen BK322.out 1))
  go_loopg [27] kj2 (fun kq v27 w' => ∃ (x27_2 : Int), v27 = .int .i64 x27_2 ∧ Aside0 (ontimelaw24_is.l0 kq l1 t323 l0_0 (l0_0.length : Int) x27_2 l0_0 l0_1 = some r) ∧ Aside0 (kq ≤ kj2) ∧ Aside0 (Kd.S (Kd.slice 3 (Kd.int .i64)) 49 w' w.heap.size (fun _ => True) v324 t323) ∧ Aside0 (w'.heap[gb322]? = some (.cells #[(.slice A0_0 l0_0.length c0_0), (.slice A0_1 l0_1.length c0_1)] 31 (0, 0))) ∧ Aside0 (Below w.heap.size w w'))
  case atStart => exact ⟨(0), (by first | rfl | (simp; done) | (simp [*]; done)), H', ⟨Nat.le_refl _⟩, ⟨tS HO325.out⟩, ⟨tK BK322.out⟩, ⟨tB1 HB.out GE322.out⟩⟩
  as_aux_lemma =>
  clear H'
  obtain ⟨x27_2, rfl, HA, HK2, HO_5, BK322, HB⟩ := hrel
  cases gk with
  | zero => exact absurd HA.out (by simp [ontimelaw24_is.l0])
  | succ k2 =>
   have H := HA.out
   clear HA
   simp only [ontimelaw24_is.l0] at H
   by_cases c12 : x27_2 < (l0_0.length : Int)
   rotate_left
   ·rw [if_neg c12] at H
    have c12b0 : decide (x27_2 < (l0_0.length : Int)) = false := decide_eq_false c12
    clear c12
    obtain rfl := oI H
    go_wp2
    go_ret
    exact ⟨by first | rfl | (simp [errW_none, errW_some] <;> rfl) | (simp [*, errW_none, errW_some] <;> rfl), by repeat (first | (with_reducible first | exact HB.out | apply below_alloc | apply pw_below_drewN | apply below_drew1 | refine below_set ?_ GE322.out) | exact HB.out)⟩
   as_aux_lemma =>
   rw [if_pos c12] at H
   have c12b0 : decide (x27_2 < (l0_0.length : Int)) = true := decide_eq_true c12
   clear c12
   by_cases c13 : 0 ≤ x27_2
   rotate_left
   ·rw [if_neg c13] at H
    exact absurd H (by simp)
   as_aux_lemma =>
   rw [if_pos c13] at H
   have c13b0 : decide (0 ≤ x27_2) = true := decide_eq_true c13
   clear c13
   by_cases c14 : x27_2 < (l0_0.length : Int)
   rotate_left
   ·rw [if_neg c14] at H
    exact absurd H (by simp)
   as_aux_lemma =>
   rw [if_pos c14] at H
   have c14b0 : decide (x27_2 < (l0_0.length : Int)) = true := decide_eq_true c14
   clear c14
   by_cases c15 : x27_2 < (l1.length : Int)
   rotate_left
   ·rw [if_neg c15] at H
    exact absurd H (by simp)
   as_aux_lemma =>
   rw [if_pos c15] at H
   have c15b0 : decide (x27_2 < (l1.length : Int)) = true := decide_eq_true c15
   clear c15
   by_cases c16 : ((rd_T51 l0_0 x27_2).f0) = ((rd_T104 l1 x27_2).f0)
   ·as_aux_lemma =>
    rw [if_pos c16] at H
    have c16b0 : (((rd_T51 l0_0 x27_2).f0) == ((rd_T104 l1 x27_2).f0)) = true := beq_iff_eq.mpr c16
    have c16b1 : (((rd_T51 l0_0 x27_2).f0) != ((rd_T104 l1 x27_2).f0)) = false := bne_eq_false_iff_eq.mpr c16
    clear c16
    by_cases c17 : ((rd_T51 l0_0 x27_2).f1) = ((rd_T104 l1 x27_2).f1)
    ·as_aux_lemma =>
     rw [if_pos c17] at H
     have c17b0 : (((rd_T51 l0_0 x27_2).f1) == ((rd_T104 l1 x27_2).f1)) = true := beq_iff_eq.mpr c17
     have c17b1 : (((rd_T51 l0_0 x27_2).f1) != ((rd_T104 l1 x27_2).f1)) = false := bne_eq_false_iff_eq.mpr c17
     clear c17
     replace H := bM H
     obtain ⟨t331, A180, H⟩ := H
     (try dsimp only at H)
     have A18 := aK A180
     clear A180
     by_cases c19 : t331 = true
     rotate_left
     ·replace c19 := Bool.eq_false_iff.mpr c19
      subst c19
      have H1 : (some false) = some r := by rw [if_neg (show ¬ (false = true) by decide)] at H; exact H
      exact absurd ((oI H1).trans HRT.out) (by decide)
     subst c19
     rw [if_pos rfl] at H
     by_cases c20 : x27_2 < (l0_1.length : Int)
     rotate_left
     ·rw [if_neg c20] at H
      exact absurd H (by simp)
     as_aux_lemma =>
     rw [if_pos c20] at H
     have c20b0 : decide (x27_2 < (l0_1.length : Int)) = true := decide_eq_true c20
     clear c20
     by_cases c21 : x27_2 < (t323.length : Int)
     rotate_left
     ·rw [if_neg c21] at H
      exact absurd H (by simp)
     as_aux_lemma =>
     rw [if_pos c21] at H
     have c21b0 : decide (x27_2 < (t323.length : Int)) = true := decide_eq_true c21
     clear c21
     replace H := bM H
     obtain ⟨t334, A220, H⟩ := H
     (try dsimp only at H)
     have A22 := aK A220
     clear A220
     by_cases c23 : t334 = true
     rotate_left
     ·replace c23 := Bool.eq_false_iff.mpr c23
      subst c23
      have H1 : (some false) = some r := by rw [if_neg (show ¬ (false = true) by decide)] at H; exact H
      exact absurd ((oI H1).trans HRT.out) (by decide)
     subst c23
     rw [if_pos rfl] at H
     have H' := aK H
     clear H
     have p326 : 0 ≤ (x27_2 : Int) := tD
     have q326 : x27_2 < (l0_0.length : Int) := tD
     obtain ⟨ad326, A326_2, c326_2, e326, hx326_0, hx326_1, hx326_2, hl326_2, hi326_2⟩ := at_T51 HR0_0.out x27_2 p326 q326
     cases e326
     replace hx326_0 := cB HB.out hx326_0
     replace hx326_1 := cB HB.out hx326_1
     replace hx326_2 := cB HB.out hx326_2
     have HR326_2 := aK hi326_2
     have HC326_2 := aK hl326_2
     clear hi326_2 hl326_2
     replace p326 := eq_true p326
     replace q326 := eq_true q326
     try go_wp2_with (first | ((refine gate_dst (N := 7) rfl ?_); (try (refine gate_guard (by rfl) ?_; dsimp only)); refine box_event ?hg (N := 7) ?hd (cs := #[.int .i64 0, .int .i64 0, .slice none 0 0]) (t := 51) ?hr ?_; (case hd => rfl); (case hg => rfl); (case hr => first | (go_simp; done) | (go_simp; rfl)); intro gb327 hg w24 hbox hb; replace HO_5 := aK (Kd.S_below (tS HO_5.out) hb); have BK327 := aK (hbox); have GW327 := aK ((by rw [hg]; exact (below_size (tB1 HB.out GE322.out)) : w.heap.size ≤ gb327)); have GE327 := GW327; replace HB := aK (below_step (tB1 HB.out GE322.out) hb); have NB322_327 := aK ((by rw [hg]; exact Nat.ne_of_lt (blk_lt (g := gb322) (o := .cells #[.slice (some ad326) l0_0.length c0_0, .slice A0_1 l0_1.length c0_1] 31 (0, 0)) (tK BK322.out)) : gb322 ≠ gb327)); have NB327_322 := aK ((by rw [hg]; exact Nat.ne_of_gt (blk_lt (g := gb322) (o := .cells #[.slice (some ad326) l0_0.length c0_0, .slice A0_1 l0_1.length c0_1] 31 (0, 0)) (tK BK322.out)) : gb327 ≠ gb322)); replace BK322 := aK (blk_below (g := gb322) (tK BK322.out) hb); clear hb hbox hg; have hnb25 := NB327_322.out; have hnc25 := NB322_327.out; have hcz26_0 := bc 0 BK327.out; have hcz26_1 := bc 1 BK327.out; have hcz26_2 := bc 2 BK327.out; have hfz26_0 := blk_frozen BK327.out 0; have hfz26_1 := blk_frozen BK327.out 1; have hfz26_2 := blk_frozen BK327.out 2))
     have n0_ : Aside0 (Kd.S (Kd.slice 3 (Kd.int .i64)) 49 (((w24.setCell ⟨gb327, 0, none⟩ (.int .i64 ((rd_T51 l0_0 x27_2).f0))).setCell ⟨gb327, 1, none⟩ (.int .i64 ((rd_T51 l0_0 x27_2).f1))).setCell ⟨gb327, 2, none⟩ (.slice A326_2 ((rd_T51 l0_0 x27_2).f2).length c326_2)) w.heap.size (fun _ => True) v324 t323) := ⟨by (with_reducible repeat (first | apply Kd.S_alloc | apply Kd.S_drewN | apply Kd.S_drew)); exact Kd.S_mono (Kd.S_far (p := ⟨gb327, 2, none⟩) (Kd.S_far (p := ⟨gb327, 1, none⟩) (Kd.S_far (p := ⟨gb327, 0, none⟩) (Kd.S_types HO_5.out BK327.out (by decide)) (fun _ hk => hk.2) (.int .i64 ((rd_T51 l0_0 x27_2).f0))) (fun _ hk => hk.2) (.int .i64 ((rd_T51 l0_0 x27_2).f1))) (fun _ hk => hk.2) (.slice A326_2 ((rd_T51 l0_0 x27_2).f2).length c326_2)) (fun _ hk => trivial)⟩
     have n1_ : Aside0 ((((w24.setCell ⟨gb327, 0, none⟩ (.int .i64 ((rd_T51 l0_0 x27_2).f0))).setCell ⟨gb327, 1, none⟩ (.int .i64 ((rd_T51 l0_0 x27_2).f1))).setCell ⟨gb327, 2, none⟩ (.slice A326_2 ((rd_T51 l0_0 x27_2).f2).length c326_2)).heap[gb322]? = some (.cells #[.slice (some ad326) l0_0.length c0_0, .slice A0_1 l0_1.length c0_1] 31 (0, 0))) := ⟨by refine tK ?_; refine blk_far ?_ NB322_327.out _; refine tK ?_; refine blk_far ?_ NB322_327.out _; refine tK ?_; refine blk_far ?_ NB322_327.out _; refine tK ?_; exact BK322.out⟩
     have n2_ : Aside0 ((((w24.setCell ⟨gb327, 0, none⟩ (.int .i64 ((rd_T51 l0_0 x27_2).f0))).setCell ⟨gb327, 1, none⟩ (.int .i64 ((rd_T51 l0_0 x27_2).f1))).setCell ⟨gb327, 2, none⟩ (.slice A326_2 ((rd_T51 l0_0 x27_2).f2).length c326_2)).heap[gb327]? = some (.cells #[.int .i64 ((rd_T51 l0_0 x27_2).f0), .int .i64 ((rd_T51 l0_0 x27_2).f1), .slice A326_2 ((rd_T51 l0_0 x27_2).f2).length c326_2] 51 (0, 0))) := ⟨by refine tK ?_; refine blk_put (cs := #[.int .i64 ((rd_T51 l0_0 x27_2).f0), .int .i64 ((rd_T51 l0_0 x27_2).f1), .slice none 0 0]) ?_ 2 _ rfl; refine tK ?_; refine blk_put (cs := #[.int .i64 ((rd_T51 l0_0 x27_2).f0), .int .i64 0, .slice none 0 0]) ?_ 1 _ rfl; refine tK ?_; refine blk_put (cs := #[.int .i64 0, .int .i64 0, .slice none 0 0]) ?_ 0 _ rfl; refine tK ?_; exact BK327.out⟩
     have n3_ : Aside0 (Below w.heap.size w (((w24.setCell ⟨gb327, 0, none⟩ (.int .i64 ((rd_T51 l0_0 x27_2).f0))).setCell ⟨gb327, 1, none⟩ (.int .i64 ((rd_T51 l0_0 x27_2).f1))).setCell ⟨gb327, 2, none⟩ (.slice A326_2 ((rd_T51 l0_0 x27_2).f2).length c326_2))) := ⟨tB2 HB.out GE322.out GE327.out⟩
     generalize (((w24.setCell ⟨gb327, 0, none⟩ (.int .i64 ((rd_T51 l0_0 x27_2).f0))).setCell ⟨gb327, 1, none⟩ (.int .i64 ((rd_T51 l0_0 x27_2).f1))).setCell ⟨gb327, 2, none⟩ (.slice A326_2 ((rd_T51 l0_0 x27_2).f2).length c326_2)) = w27 at n0_ n1_ n2_ n3_ ⊢
     have HO_5 := n0_
     have BK322 := n1_
     have BK327 := n2_
     have HB := n3_
     clear n0_ n1_ n2_ n3_
     replace HO_5 := aK (Kd.S_drew HO_5.out)
     replace BK322 := aK (blk_drew BK322.out)
     replace BK327 := aK (blk_drew BK327.out)
     replace HB := aK (below_drew1 HB.out)
     have p328 : 0 ≤ (x27_2 : Int) := tD
     have q328 : x27_2 < (l1.length : Int) := tD
     obtain ⟨ad328, A328_2, c328_2, e328, hx328_0, hx328_1, hx328_2, hl328_2, hi328_2⟩ := at_T104 HR1.out x27_2 p328 q328
     have hw328_2 := hx328_2
     have hw328_1 := hx328_1
     have hw328_0 := hx328_0
     cases e328
     replace hx328_0 := cB HB.out hx328_0
     replace hx328_1 := cB HB.out hx328_1
     replace hx328_2 := cB HB.out hx328_2
     have HR328_2 := aK hi328_2
     have HC328_2 := aK hl328_2
     clear hi328_2 hl328_2
     replace p328 := eq_true p328
     replace q328 := eq_true q328
     have p329 : 0 ≤ (x27_2 : Int) := tD
     have q329 : x27_2 < (l1.length : Int) := tD
     obtain ⟨ad329, A329_2, c329_2, e329, hx329_0, hx329_1, hx329_2, hl329_2, hi329_2⟩ := at_T104 HR1.out x27_2 p329 q329
     have hw329_2 := hx329_2
     have hw329_1 := hx329_1
     have hw329_0 := hx329_0
     obtain rfl : ad328 = ad329 := (by injection e329)
     replace hx329_0 := cB HB.out hx329_0
     replace hx329_1 := cB HB.out hx329_1
     replace hx329_2 := cB HB.out hx329_2
     have HR329_2 := aK hi329_2
     have HC329_2 := aK hl329_2
     clear hi329_2 hl329_2
     replace p329 := eq_true p329
     replace q329 := eq_true q329
     have ea_ := oI (hx328_2.symm.trans hx329_2)
     injection ea_ with ea_ en_ ec_
     subst ea_
     subst ec_
     clear en_
     have p330 : 0 ≤ (x27_2 : Int) := tD
     have q330 : x27_2 < (l1.length : Int) := tD
     obtain ⟨ad330, A330_2, c330_2, e330, hx330_0, hx330_1, hx330_2, hl330_2, hi330_2⟩ := at_T104 HR1.out x27_2 p330 q330
     have hw330_2 := hx330_2
     have hw330_1 := hx330_1
     have hw330_0 := hx330_0
     obtain rfl : ad328 = ad330 := (by injection e330)
     replace hx330_0 := cB HB.out hx330_0
     replace hx330_1 := cB HB.out hx330_1
     replace hx330_2 := cB HB.out hx330_2
     have HR330_2 := aK hi330_2
     have HC330_2 := aK hl330_2
     clear hi330_2 hl330_2
     replace p330 := eq_true p330
     replace q330 := eq_true q330
     have ea_ := oI (hx328_2.symm.trans hx330_2)
     injection ea_ with ea_ en_ ec_
     subst ea_
     subst ec_
     clear en_
     have p332 : 0 ≤ (x27_2 : Int) := tD
     have q332 : x27_2 < (l0_1.length : Int) := tD
     obtain ⟨ad332, A332_0, c332_0, e332, hx332_0, hl332_0, hi332_0⟩ := at_L11 HR0_1.out x27_2 p332 q332
     have hw332_0 := hx332_0
     cases e332
     replace hx332_0 := cB HB.out hx332_0
     have HR332_0 := aK hi332_0
     have HC332_0 := aK hl332_0
     clear hi332_0 hl332_0
     replace p332 := eq_true p332
     replace q332 := eq_true q332
     have p333 : 0 ≤ (x27_2 : Int) := tD
     have q333 : x27_2 < (t323.length : Int) := tD
     (try (obtain ⟨Ao_, co_, eo_⟩ := Kd.S_slice HO_5.out; subst eo_))
     obtain ⟨ad333, A333_0, c333_0, e333, hx333_0, hl333_0, hi333_0⟩ := at_L11 (Kd.S_reads' HO_5.out).2.2 x27_2 p333 q333
     cases e333
     obtain ⟨ce333, hce333, hMe333, hcc333⟩ := Kd.S_get HO_5.out [] x27_2 p333 (by first | exact q333 | exact tD | (have e_ := (Kd.S_reads' HO_5.out).1; omega))
     obtain ⟨ve333_0, rfl, ge333_0⟩ := hMe333
     have hv333_0 := hcc333 0 _ rfl
     rw [Nat.add_zero, show ((Kd.slice 3 (Kd.int .i64))).sz = 1 from rfl, Nat.mul_one] at hv333_0
     replace hv333_0 := oI (hv333_0.symm.trans hx333_0)
     rw [hv333_0] at ge333_0
     have HL333_0 := aK (show Kd.R (Kd.int .i64) 3 _ _ _ _ (rd_L11 t323 x27_2) from ge333_0)
     clear hv333_0 ge333_0 hcc333 hce333
     have HR333_0 := aK hi333_0
     have HC333_0 := aK hl333_0
     clear hi333_0 hl333_0
     replace p333 := eq_true p333
     replace q333 := eq_true q333
     refine start_ (n := 42) (S := fun w' => w'.cell? ⟨gb327, 0, none⟩ = some (.int .i64 ((rd_T51 l0_0 x27_2).f0)) ∧ w'.cell? ⟨gb327, 1, none⟩ = some (.int .i64 ((rd_T51 l0_0 x27_2).f1)) ∧ w'.cell? ⟨gb327, 2, none⟩ = some (.slice A326_2 ((rd_T51 l0_0 x27_2).f2).length c326_2) ∧ w'.cell? ⟨gb322, 0, none⟩ = some (.slice (some ad326) l0_0.length c0_0) ∧ w'.cell? ⟨gb322, 1, none⟩ = some (.slice (some ad332) l0_1.length c0_1) ∧ w'.cell? (ad328.add ((x27_2).toNat * 3)) = some (.int .i64 ((rd_T104 l1 x27_2).f0)) ∧ w'.cell? ⟨(ad328.add ((x27_2).toNat * 3)).block, (ad328.add ((x27_2).toNat * 3)).off + 1, none⟩ = some (.int .i64 ((rd_T104 l1 x27_2).f1)) ∧ w'.cell? ⟨(ad328.add ((x27_2).toNat * 3)).block, (ad328.add ((x27_2).toNat * 3)).off + 2, none⟩ = some (.slice A328_2 ((rd_T104 l1 x27_2).f2).length c328_2) ∧ w'.cell? (ad328.add ((x27_2).toNat * 3)) = some (.int .i64 ((rd_T104 l1 x27_2).f0)) ∧ w'.cell? ⟨(ad328.add ((x27_2).toNat * 3)).block, (ad328.add ((x27_2).toNat * 3)).off + 1, none⟩ = some (.int .i64 ((rd_T104 l1 x27_2).f1)) ∧ w'.cell? ⟨(ad328.add ((x27_2).toNat * 3)).block, (ad328.add ((x27_2).toNat * 3)).off + 2, none⟩ = some (.slice A328_2 ((rd_T104 l1 x27_2).f2).length c328_2) ∧ w'.cell? (ad328.add ((x27_2).toNat * 3)) = some (.int .i64 ((rd_T104 l1 x27_2).f0)) ∧ w'.cell? ⟨(ad328.add ((x27_2).toNat * 3)).block, (ad328.add ((x27_2).toNat * 3)).off + 1, none⟩ = some (.int .i64 ((rd_T104 l1 x27_2).f1)) ∧ w'.cell? ⟨(ad328.add ((x27_2).toNat * 3)).block, (ad328.add ((x27_2).toNat * 3)).off + 2, none⟩ = some (.slice A328_2 ((rd_T104 l1 x27_2).f2).length c328_2) ∧ w'.cell? (ad332.add (x27_2).toNat) = some (.slice A332_0 (rd_L11 l0_1 x27_2).length c332_0) ∧ w'.cell? (ad333.add (x27_2).toNat) = some (.slice A333_0 (rd_L11 t323 x27_2).length c333_0)) (ds := []) #[F_, F_, F_, F_, F_, F_, F_, F_, F_, F_, F_, F_, F_, F_, F_, F_, F_, F_, F_, F_, F_, F_, F_, F_, F_, F_, F_, F_, F_, F_, F_, F_, F_, F_, F_, F_, F_, F_, F_, F_, F_, F_] (by kernel_rfl) rfl rfl ⟨(blk_cell BK327.out 0).trans rfl, (blk_cell BK327.out 1).trans rfl, (blk_cell BK327.out 2).trans rfl, (blk_cell BK322.out 0).trans rfl, (blk_cell BK322.out 1).trans rfl, (cB HB.out hw328_0), (cB HB.out hw328_1), (cB HB.out hw328_2), (cB HB.out hw329_0), (cB HB.out hw329_1), (cB HB.out hw329_2), (cB HB.out hw330_0), (cB HB.out hw330_1), (cB HB.out hw330_2), (cB HB.out hw332_0), hx333_0⟩ (fun hHeld => ?_); refine with_tabW ontimelaw24_is.tab7 ontimelaw24_is.bits7 (fun HT_ HW_ => ?_)
     generalize w27.drew = w28 at HO_5 BK322 BK327 HB HL333_0 HR328_2 HR329_2 HR330_2 HR332_0 HR333_0 hx328_0 hx328_1 hx328_2 hx329_0 hx329_1 hx329_2 hx330_0 hx330_1 hx330_2 hx332_0 hx333_0 hHeld ⊢
     refine pure_ (i := 0) (N := some 32) (v := ?_) (a' := ?_) #[T_, F_, F_, F_, F_, F_, F_, F_, F_, F_, F_, F_, F_, F_, F_, F_, F_, F_, F_, F_, F_, F_, F_, F_, F_, F_, F_, F_, F_, F_, F_, F_, F_, F_, F_, F_, F_, F_, F_, F_, F_, F_] rfl rfl (any_of HT_.out (by kernel_rfl)) (fun _ _ _ h => h) (Or.inl ⟨by rfl, ?_⟩) ?_ ?_
     rotate_left
     ·intro w'
      go_simp
      with_reducible rfl
     rotate_left
     ·simp only [Act.put, pA, pB, pC, i64_w, i32_w]
      rfl
     refine pure_ (i := 2) (N := some 34) (v := ?_) (a' := ?_) #[T_, F_, T_, F_, F_, F_, F_, F_, F_, F_, F_, F_, F_, F_, F_, F_, F_, F_, F_, F_, F_, F_, F_, F_, F_, F_, F_, F_, F_, F_, F_, F_, F_, F_, F_, F_, F_, F_, F_, F_, F_, F_] rfl rfl (any_of HT_.out (by kernel_rfl)) (fun _ _ _ h => h) (Or.inl ⟨by rfl, ?_⟩) ?_ ?_
     rotate_left
     ·intro w'
      go_simp
      with_reducible rfl
     rotate_left
     ·simp only [Act.put, pA, pB, pC, i64_w, i32_w]
      rfl
     refine pure_ (i := 3) (N := some 35) (v := ?_) (a' := ?_) #[T_, F_, T_, T_, F_, F_, F_, F_, F_, F_, F_, F_, F_, F_, F_, F_, F_, F_, F_, F_, F_, F_, F_, F_, F_, F_, F_, F_, F_, F_, F_, F_, F_, F_, F_, F_, F_, F_, F_, F_, F_, F_] rfl rfl (any_of HT_.out (by kernel_rfl)) (fun _ _ _ h => h) (Or.inl ⟨by rfl, ?_⟩) ?_ ?_
     rotate_left
     ·intro w'
      go_simp
      with_reducible rfl
     rotate_left
     ·simp only [Act.put, pA, pB, pC, i64_w, i32_w]
      rfl
     refine pure_ (i := 4) (N := some 36) (v := ?_) (a' := ?_) #[T_, F_, T_, T_, T_, F_, F_, F_, F_, F_, F_, F_, F_, F_, F_, F_, F_, F_, F_, F_, F_, F_, F_, F_, F_, F_, F_, F_, F_, F_, F_, F_, F_, F_, F_, F_, F_, F_, F_, F_, F_, F_] rfl rfl (any_of HT_.out (by kernel_rfl)) (fun _ _ _ h => h) (Or.inl ⟨by rfl, ?_⟩) ?_ ?_
     rotate_left
     ·intro w'
      go_simp
      with_reducible rfl
     rotate_left
     ·simp only [Act.put, pA, pB, pC, i64_w, i32_w]
      rfl
     refine pure_ (i := 5) (N := some 37) (v := ?_) (a' := ?_) #[T_, F_, T_, T_, T_, T_, F_, F_, F_, F_, F_, F_, F_, F_, F_, F_, F_, F_, F_, F_, F_, F_, F_, F_, F_, F_, F_, F_, F_, F_, F_, F_, F_, F_, F_, F_, F_, F_, F_, F_, F_, F_] rfl rfl (any_of HT_.out (by kernel_rfl)) (fun _ _ _ h => h) (Or.inl ⟨by rfl, ?_⟩) ?_ ?_
     rotate_left
     ·intro w'
      go_simp
      with_reducible rfl
     rotate_left
     ·simp only [Act.put, pA, pB, pC, i64_w, i32_w]
      rfl
     refine take_ (i := 1) (N := some 33) (v := ?_) (a' := ?_) #[T_, T_, T_, T_, T_, T_, F_, F_, F_, F_, F_, F_, F_, F_, F_, F_, F_, F_, F_, F_, F_, F_, F_, F_, F_, F_, F_, F_, F_, F_, F_, F_, F_, F_, F_, F_, F_, F_, F_, F_, F_, F_] rfl rfl (take_ofW HT_.out HW_.out (by kernel_rfl)) (fun _ _ _ h => h) (Or.inl ⟨by rfl, ?_⟩) hHeld ?_ ?_
     rotate_left
     ·rintro w' ⟨s0, s1, s2, s3, s4, s5, s6, s7, s8, s9, s10, s11, s12, s13, s14, s15⟩
      go_simp
      with_reducible rfl
     rotate_left
     ·simp only [Act.put, pA, pB, pC, i64_w, i32_w]
      rfl
     refine take_ (i := 6) (N := some 38) (v := ?_) (a' := ?_) #[T_, T_, T_, T_, T_, T_, T_, F_, F_, F_, F_, F_, F_, F_, F_, F_, F_, F_, F_, F_, F_, F_, F_, F_, F_, F_, F_, F_, F_, F_, F_, F_, F_, F_, F_, F_, F_, F_, F_, F_, F_, F_] rfl rfl (take_ofW HT_.out HW_.out (by kernel_rfl)) (fun _ _ _ h => h) (Or.inl ⟨by rfl, ?_⟩) hHeld ?_ ?_
     rotate_left
     ·rintro w' ⟨s0, s1, s2, s3, s4, s5, s6, s7, s8, s9, s10, s11, s12, s13, s14, s15⟩
      go_simp
      with_reducible rfl
     rotate_left
     ·simp only [Act.put, pA, pB, pC, i64_w, i32_w]
      rfl
     refine pure_ (i := 7) (N := some 39) (v := ?_) (a' := ?_) #[T_, T_, T_, T_, T_, T_, T_, T_, F_, F_, F_, F_, F_, F_, F_, F_, F_, F_, F_, F_, F_, F_, F_, F_, F_, F_, F_, F_, F_, F_, F_, F_, F_, F_, F_, F_, F_, F_, F_, F_, F_, F_] rfl rfl (any_of HT_.out (by kernel_rfl)) (fun _ _ _ h => h) (Or.inl ⟨by rfl, ?_⟩) ?_ ?_
     rotate_left
     ·intro w'
      go_simp
      with_reducible rfl
     rotate_left
     ·simp only [Act.put, pA, pB, pC, i64_w, i32_w]
      rfl
     refine pure_ (i := 8) (N := some 40) (v := ?_) (a' := ?_) #[T_, T_, T_, T_, T_, T_, T_, T_, T_, F_, F_, F_, F_, F_, F_, F_, F_, F_, F_, F_, F_, F_, F_, F_, F_, F_, F_, F_, F_, F_, F_, F_, F_, F_, F_, F_, F_, F_, F_, F_, F_, F_] rfl rfl (any_of HT_.out (by kernel_rfl)) (fun _ _ _ h => h) (Or.inl ⟨by rfl, ?_⟩) ?_ ?_
     rotate_left
     ·intro w'
      go_simp
      with_reducible rfl
     rotate_left
     ·simp only [Act.put, pA, pB, pC, i64_w, i32_w]
      rfl
     refine pure_ (i := 9) (N := some 41) (v := ?_) (a' := ?_) #[T_, T_, T_, T_, T_, T_, T_, T_, T_, T_, F_, F_, F_, F_, F_, F_, F_, F_, F_, F_, F_, F_, F_, F_, F_, F_, F_, F_, F_, F_, F_, F_, F_, F_, F_, F_, F_, F_, F_, F_, F_, F_] rfl rfl (any_of HT_.out (by kernel_rfl)) (fun _ _ _ h => h) (Or.inl ⟨by rfl, ?_⟩) ?_ ?_
     rotate_left
     ·intro w'
      go_simp
      with_reducible rfl
     rotate_left
     ·simp only [Act.put, pA, pB, pC, i64_w, i32_w]
      rfl
     refine pure_ (i := 11) (N := some 43) (v := ?_) (a' := ?_) #[T_, T_, T_, T_, T_, T_, T_, T_, T_, T_, F_, T_, F_, F_, F_, F_, F_, F_, F_, F_, F_, F_, F_, F_, F_, F_, F_, F_, F_, F_, F_, F_, F_, F_, F_, F_, F_, F_, F_, F_, F_, F_] rfl rfl (any_of HT_.out (by kernel_rfl)) (fun _ _ _ h => h) (Or.inl ⟨by rfl, ?_⟩) ?_ ?_
     rotate_left
     ·intro w'
      go_simp
      with_reducible rfl
     rotate_left
     ·simp only [Act.put, pA, pB, pC, i64_w, i32_w]
      rfl
     refine pure_ (i := 12) (N := some 44) (v := ?_) (a' := ?_) #[T_, T_, T_, T_, T_, T_, T_, T_, T_, T_, F_, T_, T_, F_, F_, F_, F_, F_, F_, F_, F_, F_, F_, F_, F_, F_, F_, F_, F_, F_, F_, F_, F_, F_, F_, F_, F_, F_, F_, F_, F_, F_] rfl rfl (any_of HT_.out (by kernel_rfl)) (fun _ _ _ h => h) (Or.inl ⟨by rfl, ?_⟩) ?_ ?_
     rotate_left
     ·intro w'
      go_simp
      with_reducible rfl
     rotate_left
     ·simp only [Act.put, pA, pB, pC, i64_w, i32_w]
      rfl
     refine pure_ (i := 13) (N := some 45) (v := ?_) (a' := ?_) #[T_, T_, T_, T_, T_, T_, T_, T_, T_, T_, F_, T_, T_, T_, F_, F_, F_, F_, F_, F_, F_, F_, F_, F_, F_, F_, F_, F_, F_, F_, F_, F_, F_, F_, F_, F_, F_, F_, F_, F_, F_, F_] rfl rfl (any_of HT_.out (by kernel_rfl)) (fun _ _ _ h => h) (Or.inl ⟨by rfl, ?_⟩) ?_ ?_
     rotate_left
     ·intro w'
      go_simp
      with_reducible rfl
     rotate_left
     ·simp only [Act.put, pA, pB, pC, i64_w, i32_w]
      rfl
     refine pure_ (i := 14) (N := some 46) (v := ?_) (a' := ?_) #[T_, T_, T_, T_, T_, T_, T_, T_, T_, T_, F_, T_, T_, T_, T_, F_, F_, F_, F_, F_, F_, F_, F_, F_, F_, F_, F_, F_, F_, F_, F_, F_, F_, F_, F_, F_, F_, F_, F_, F_, F_, F_] rfl rfl (any_of HT_.out (by kernel_rfl)) (fun _ _ _ h => h) (Or.inl ⟨by rfl, ?_⟩) ?_ ?_
     rotate_left
     ·intro w'
      go_simp
      with_reducible rfl
     rotate_left
     ·simp only [Act.put, pA, pB, pC, i64_w, i32_w]
      rfl
     refine take_ (i := 10) (N := some 42) (v := ?_) (a' := ?_) #[T_, T_, T_, T_, T_, T_, T_, T_, T_, T_, T_, T_, T_, T_, T_, F_, F_, F_, F_, F_, F_, F_, F_, F_, F_, F_, F_, F_, F_, F_, F_, F_, F_, F_, F_, F_, F_, F_, F_, F_, F_, F_] rfl rfl (take_ofW HT_.out HW_.out (by kernel_rfl)) (fun _ _ _ h => h) (Or.inl ⟨by rfl, ?_⟩) hHeld ?_ ?_
     rotate_left
     ·rintro w' ⟨s0, s1, s2, s3, s4, s5, s6, s7, s8, s9, s10, s11, s12, s13, s14, s15⟩
      go_simp
      with_reducible rfl
     rotate_left
     ·simp only [Act.put, pA, pB, pC, i64_w, i32_w]
      rfl
     refine take_ (i := 15) (N := some 47) (v := ?_) (a' := ?_) #[T_, T_, T_, T_, T_, T_, T_, T_, T_, T_, T_, T_, T_, T_, T_, T_, F_, F_, F_, F_, F_, F_, F_, F_, F_, F_, F_, F_, F_, F_, F_, F_, F_, F_, F_, F_, F_, F_, F_, F_, F_, F_] rfl rfl (take_ofW HT_.out HW_.out (by kernel_rfl)) (fun _ _ _ h => h) (Or.inl ⟨by rfl, ?_⟩) hHeld ?_ ?_
     rotate_left
     ·rintro w' ⟨s0, s1, s2, s3, s4, s5, s6, s7, s8, s9, s10, s11, s12, s13, s14, s15⟩
      go_simp
      with_reducible rfl
     rotate_left
     ·simp only [Act.put, pA, pB, pC, i64_w, i32_w]
      rfl
     refine pure_ (i := 16) (N := some 48) (v := ?_) (a' := ?_) #[T_, T_, T_, T_, T_, T_, T_, T_, T_, T_, T_, T_, T_, T_, T_, T_, T_, F_, F_, F_, F_, F_, F_, F_, F_, F_, F_, F_, F_, F_, F_, F_, F_, F_, F_, F_, F_, F_, F_, F_, F_, F_] rfl rfl (any_of HT_.out (by kernel_rfl)) (fun _ _ _ h => h) (Or.inl ⟨by rfl, ?_⟩) ?_ ?_
     rotate_left
     ·intro w'
      go_simp
      with_reducible rfl
     rotate_left
     ·simp only [Act.put, pA, pB, pC, i64_w, i32_w]
      rfl
     refine pure_ (i := 17) (N := some 49) (v := ?_) (a' := ?_) #[T_, T_, T_, T_, T_, T_, T_, T_, T_, T_, T_, T_, T_, T_, T_, T_, T_, T_, F_, F_, F_, F_, F_, F_, F_, F_, F_, F_, F_, F_, F_, F_, F_, F_, F_, F_, F_, F_, F_, F_, F_, F_] rfl rfl (any_of HT_.out (by kernel_rfl)) (fun _ _ _ h => h) (Or.inl ⟨by rfl, ?_⟩) ?_ ?_
     rotate_left
     ·intro w'
      go_simp
      with_reducible rfl
     rotate_left
     ·simp only [Act.put, pA, pB, pC, i64_w, i32_w]
      rfl
     refine pure_ (i := 18) (N := some 50) (v := ?_) (a' := ?_) #[T_, T_, T_, T_, T_, T_, T_, T_, T_, T_, T_, T_, T_, T_, T_, T_, T_, T_, T_, F_, F_, F_, F_, F_, F_, F_, F_, F_, F_, F_, F_, F_, F_, F_, F_, F_, F_, F_, F_, F_, F_, F_] rfl rfl (any_of HT_.out (by kernel_rfl)) (fun _ _ _ h => h) (Or.inl ⟨by rfl, ?_⟩) ?_ ?_
     rotate_left
     ·intro w'
      go_simp
      with_reducible rfl
     rotate_left
     ·simp only [Act.put, pA, pB, pC, i64_w, i32_w]
      rfl
     refine pure_ (i := 19) (N := some 51) (v := ?_) (a' := ?_) #[T_, T_, T_, T_, T_, T_, T_, T_, T_, T_, T_, T_, T_, T_, T_, T_, T_, T_, T_, T_, F_, F_, F_, F_, F_, F_, F_, F_, F_, F_, F_, F_, F_, F_, F_, F_, F_, F_, F_, F_, F_, F_] rfl rfl (any_of HT_.out (by kernel_rfl)) (fun _ _ _ h => h) (Or.inl ⟨by rfl, ?_⟩) ?_ ?_
     rotate_left
     ·intro w'
      go_simp
      with_reducible rfl
     rotate_left
     ·simp only [Act.put, pA, pB, pC, i64_w, i32_w]
      rfl
     refine pure_ (i := 21) (N := some 53) (v := ?_) (a' := ?_) #[T_, T_, T_, T_, T_, T_, T_, T_, T_, T_, T_, T_, T_, T_, T_, T_, T_, T_, T_, T_, F_, T_, F_, F_, F_, F_, F_, F_, F_, F_, F_, F_, F_, F_, F_, F_, F_, F_, F_, F_, F_, F_] rfl rfl (any_of HT_.out (by kernel_rfl)) (fun _ _ _ h => h) (Or.inl ⟨by rfl, ?_⟩) ?_ ?_
     rotate_left
     ·intro w'
      go_simp
      with_reducible rfl
     rotate_left
     ·simp only [Act.put, pA, pB, pC, i64_w, i32_w]
      rfl
     refine pure_ (i := 22) (N := some 54) (v := ?_) (a' := ?_) #[T_, T_, T_, T_, T_, T_, T_, T_, T_, T_, T_, T_, T_, T_, T_, T_, T_, T_, T_, T_, F_, T_, T_, F_, F_, F_, F_, F_, F_, F_, F_, F_, F_, F_, F_, F_, F_, F_, F_, F_, F_, F_] rfl rfl (any_of HT_.out (by kernel_rfl)) (fun _ _ _ h => h) (Or.inl ⟨by rfl, ?_⟩) ?_ ?_
     rotate_left
     ·intro w'
      go_simp
      with_reducible rfl
     rotate_left
     ·simp only [Act.put, pA, pB, pC, i64_w, i32_w]
      rfl
     refine pure_ (i := 23) (N := some 55) (v := ?_) (a' := ?_) #[T_, T_, T_, T_, T_, T_, T_, T_, T_, T_, T_, T_, T_, T_, T_, T_, T_, T_, T_, T_, F_, T_, T_, T_, F_, F_, F_, F_, F_, F_, F_, F_, F_, F_, F_, F_, F_, F_, F_, F_, F_, F_] rfl rfl (any_of HT_.out (by kernel_rfl)) (fun _ _ _ h => h) (Or.inl ⟨by rfl, ?_⟩) ?_ ?_
     rotate_left
     ·intro w'
      go_simp
      with_reducible rfl
     rotate_left
     ·simp only [Act.put, pA, pB, pC, i64_w, i32_w]
      rfl
     refine pure_ (i := 24) (N := some 56) (v := ?_) (a' := ?_) #[T_, T_, T_, T_, T_, T_, T_, T_, T_, T_, T_, T_, T_, T_, T_, T_, T_, T_, T_, T_, F_, T_, T_, T_, T_, F_, F_, F_, F_, F_, F_, F_, F_, F_, F_, F_, F_, F_, F_, F_, F_, F_] rfl rfl (any_of HT_.out (by kernel_rfl)) (fun _ _ _ h => h) (Or.inl ⟨by rfl, ?_⟩) ?_ ?_
     rotate_left
     ·intro w'
      go_simp
      with_reducible rfl
     rotate_left
     ·simp only [Act.put, pA, pB, pC, i64_w, i32_w]
      rfl
     refine take_ (i := 20) (N := some 52) (v := ?_) (a' := ?_) #[T_, T_, T_, T_, T_, T_, T_, T_, T_, T_, T_, T_, T_, T_, T_, T_, T_, T_, T_, T_, T_, T_, T_, T_, T_, F_, F_, F_, F_, F_, F_, F_, F_, F_, F_, F_, F_, F_, F_, F_, F_, F_] rfl rfl (take_ofW HT_.out HW_.out (by kernel_rfl)) (fun _ _ _ h => h) (Or.inl ⟨by rfl, ?_⟩) hHeld ?_ ?_
     rotate_left
     ·rintro w' ⟨s0, s1, s2, s3, s4, s5, s6, s7, s8, s9, s10, s11, s12, s13, s14, s15⟩
      go_simp
      with_reducible rfl
     rotate_left
     ·simp only [Act.put, pA, pB, pC, i64_w, i32_w]
      rfl
     refine take_ (i := 25) (N := some 57) (v := ?_) (a' := ?_) #[T_, T_, T_, T_, T_, T_, T_, T_, T_, T_, T_, T_, T_, T_, T_, T_, T_, T_, T_, T_, T_, T_, T_, T_, T_, T_, F_, F_, F_, F_, F_, F_, F_, F_, F_, F_, F_, F_, F_, F_, F_, F_] rfl rfl (take_ofW HT_.out HW_.out (by kernel_rfl)) (fun _ _ _ h => h) (Or.inl ⟨by rfl, ?_⟩) hHeld ?_ ?_
     rotate_left
     ·rintro w' ⟨s0, s1, s2, s3, s4, s5, s6, s7, s8, s9, s10, s11, s12, s13, s14, s15⟩
      go_simp
      with_reducible rfl
     rotate_left
     ·simp only [Act.put, pA, pB, pC, i64_w, i32_w]
      rfl
     refine one_ (i := 26) (N := some 58) #[T_, T_, T_, T_, T_, T_, T_, T_, T_, T_, T_, T_, T_, T_, T_, T_, T_, T_, T_, T_, T_, T_, T_, T_, T_, T_, T_, F_, F_, F_, F_, F_, F_, F_, F_, F_, F_, F_, F_, F_, F_, F_] rfl rfl (one_of HT_.out (by kernel_rfl)) (by decide) (fun K hK => ?_)
     refine goes_ Try.func28 (by kernel_rfl) rfl #[.slice A326_2 ((rd_T51 l0_0 x27_2).f2).length c326_2, .slice A328_2 ((rd_T104 l1 x27_2).f2).length c328_2] (by rfl) rfl rfl tF ?_
     with_reducible refine (ontimelaw24_ints.calls k2 _ _ ((rd_T51 l0_0 x27_2).f2) _ _ ((rd_T104 l1 x27_2).f2) true _ ?side1 ?side2 ?side3 ?side4 A18.out).mono ?_
     (case side1 => exact tC (Kd.C_below HR326_2.out HB.out))
     (case side2 => exact HC326_2.out)
     (case side3 => exact tC (Kd.C_below HR330_2.out HB.out))
     (case side4 => exact HC330_2.out)
     rintro e w' ⟨rfl, ⟨nd, rfl⟩⟩
     refine ⟨_, rfl, ?_⟩
     obtain ⟨Ao29, co29, eo29⟩ := Kd.S_slice HO_5.out
     (first | subst eo29 | (injection eo29 with f1_ f2_ f3_; have f4_ := f1_.symm; have f5_ := f3_.symm; clear f1_ f2_ f3_; subst f4_; subst f5_))
     refine hK.out _ _ ⟨(blk_cell BK327.out 0).trans rfl, (blk_cell BK327.out 1).trans rfl, (blk_cell BK327.out 2).trans rfl, (blk_cell BK322.out 0).trans rfl, (blk_cell BK322.out 1).trans rfl, (cB HB.out hw328_0), (cB HB.out hw328_1), (cB HB.out hw328_2), (cB HB.out hw329_0), (cB HB.out hw329_1), (cB HB.out hw329_2), (cB HB.out hw330_0), (cB HB.out hw330_1), (cB HB.out hw330_2), (cB HB.out hw332_0), hHeld.2.2.2.2.2.2.2.2.2.2.2.2.2.2.2⟩ (fun hHeld => ?_)
     clear hK K
     refine norm_ (a' := ?_) ?_ ?_
     rotate_left
     ·show Act.put _ (some 58) _ = _
      simp only [Act.put, pA, pB, pC, i64_w, i32_w]
      rfl
     refine pure_ (i := 27) (N := some 59) (v := ?_) (a' := ?_) #[T_, T_, T_, T_, T_, T_, T_, T_, T_, T_, T_, T_, T_, T_, T_, T_, T_, T_, T_, T_, T_, T_, T_, T_, T_, T_, T_, T_, F_, F_, F_, F_, F_, F_, F_, F_, F_, F_, F_, F_, F_, F_] rfl rfl (any_of HT_.out (by kernel_rfl)) (fun _ _ _ h => h) (Or.inl ⟨by rfl, ?_⟩) ?_ ?_
     rotate_left
     ·intro w'
      go_simp
      with_reducible rfl
     rotate_left
     ·simp only [Act.put, pA, pB, pC, i64_w, i32_w]
      rfl
     refine pure_ (i := 28) (N := some 60) (v := ?_) (a' := ?_) #[T_, T_, T_, T_, T_, T_, T_, T_, T_, T_, T_, T_, T_, T_, T_, T_, T_, T_, T_, T_, T_, T_, T_, T_, T_, T_, T_, T_, T_, F_, F_, F_, F_, F_, F_, F_, F_, F_, F_, F_, F_, F_] rfl rfl (any_of HT_.out (by kernel_rfl)) (fun _ _ _ h => h) (Or.inl ⟨by rfl, ?_⟩) ?_ ?_
     rotate_left
     ·intro w'
      go_simp
      with_reducible rfl
     rotate_left
     ·simp only [Act.put, pA, pB, pC, i64_w, i32_w]
      rfl
     refine pure_ (i := 29) (N := some 61) (v := ?_) (a' := ?_) #[T_, T_, T_, T_, T_, T_, T_, T_, T_, T_, T_, T_, T_, T_, T_, T_, T_, T_, T_, T_, T_, T_, T_, T_, T_, T_, T_, T_, T_, T_, F_, F_, F_, F_, F_, F_, F_, F_, F_, F_, F_, F_] rfl rfl (any_of HT_.out (by kernel_rfl)) (fun _ _ _ h => h) (Or.inl ⟨by rfl, ?_⟩) ?_ ?_
     rotate_left
     ·intro w'
      go_simp
      with_reducible rfl
     rotate_left
     ·simp only [Act.put, pA, pB, pC, i64_w, i32_w]
      rfl
     refine pure_ (i := 30) (N := some 62) (v := ?_) (a' := ?_) #[T_, T_, T_, T_, T_, T_, T_, T_, T_, T_, T_, T_, T_, T_, T_, T_, T_, T_, T_, T_, T_, T_, T_, T_, T_, T_, T_, T_, T_, T_, T_, F_, F_, F_, F_, F_, F_, F_, F_, F_, F_, F_] rfl rfl (any_of HT_.out (by kernel_rfl)) (fun _ _ _ h => h) (Or.inl ⟨by rfl, ?_⟩) ?_ ?_
     rotate_left
     ·intro w'
      go_simp
      with_reducible rfl
     rotate_left
     ·simp only [Act.put, pA, pB, pC, i64_w, i32_w]
      rfl
     refine pure_ (i := 32) (N := some 64) (v := ?_) (a' := ?_) #[T_, T_, T_, T_, T_, T_, T_, T_, T_, T_, T_, T_, T_, T_, T_, T_, T_, T_, T_, T_, T_, T_, T_, T_, T_, T_, T_, T_, T_, T_, T_, F_, T_, F_, F_, F_, F_, F_, F_, F_, F_, F_] rfl rfl (any_of HT_.out (by kernel_rfl)) (fun _ _ _ h => h) (Or.inl ⟨by rfl, ?_⟩) ?_ ?_
     rotate_left
     ·intro w'
      go_simp
      with_reducible rfl
     rotate_left
     ·simp only [Act.put, pA, pB, pC, i64_w, i32_w]
      rfl
     refine pure_ (i := 35) (N := some 67) (v := ?_) (a' := ?_) #[T_, T_, T_, T_, T_, T_, T_, T_, T_, T_, T_, T_, T_, T_, T_, T_, T_, T_, T_, T_, T_, T_, T_, T_, T_, T_, T_, T_, T_, T_, T_, F_, T_, F_, F_, T_, F_, F_, F_, F_, F_, F_] rfl rfl (any_of HT_.out (by kernel_rfl)) (fun _ _ _ h => h) (Or.inl ⟨by rfl, ?_⟩) ?_ ?_
     rotate_left
     ·intro w'
      go_simp
      with_reducible rfl
     rotate_left
     ·simp only [Act.put, pA, pB, pC, i64_w, i32_w]
      rfl
     refine pure_ (i := 36) (N := some 68) (v := ?_) (a' := ?_) #[T_, T_, T_, T_, T_, T_, T_, T_, T_, T_, T_, T_, T_, T_, T_, T_, T_, T_, T_, T_, T_, T_, T_, T_, T_, T_, T_, T_, T_, T_, T_, F_, T_, F_, F_, T_, T_, F_, F_, F_, F_, F_] rfl rfl (any_of HT_.out (by kernel_rfl)) (fun _ _ _ h => h) (Or.inl ⟨by rfl, ?_⟩) ?_ ?_
     rotate_left
     ·intro w'
      go_simp
      with_reducible rfl
     rotate_left
     ·simp only [Act.put, pA, pB, pC, i64_w, i32_w]
      rfl
     refine pure_ (i := 37) (N := some 69) (v := ?_) (a' := ?_) #[T_, T_, T_, T_, T_, T_, T_, T_, T_, T_, T_, T_, T_, T_, T_, T_, T_, T_, T_, T_, T_, T_, T_, T_, T_, T_, T_, T_, T_, T_, T_, F_, T_, F_, F_, T_, T_, T_, F_, F_, F_, F_] rfl rfl (any_of HT_.out (by kernel_rfl)) (fun _ _ _ h => h) (Or.inl ⟨by rfl, ?_⟩) ?_ ?_
     rotate_left
     ·intro w'
      go_simp
      with_reducible rfl
     rotate_left
     ·simp only [Act.put, pA, pB, pC, i64_w, i32_w]
      rfl
     refine take_ (i := 31) (N := some 63) (v := ?_) (a' := ?_) #[T_, T_, T_, T_, T_, T_, T_, T_, T_, T_, T_, T_, T_, T_, T_, T_, T_, T_, T_, T_, T_, T_, T_, T_, T_, T_, T_, T_, T_, T_, T_, T_, T_, F_, F_, T_, T_, T_, F_, F_, F_, F_] rfl rfl (take_ofW HT_.out HW_.out (by kernel_rfl)) (fun _ _ _ h => h) (Or.inl ⟨by rfl, ?_⟩) hHeld ?_ ?_
     rotate_left
     ·rintro w' ⟨s0, s1, s2, s3, s4, s5, s6, s7, s8, s9, s10, s11, s12, s13, s14, s15⟩
      go_simp
      with_reducible rfl
     rotate_left
     ·simp only [Act.put, pA, pB, pC, i64_w, i32_w]
      rfl
     refine pure_ (i := 33) (N := some 65) (v := ?_) (a' := ?_) #[T_, T_, T_, T_, T_, T_, T_, T_, T_, T_, T_, T_, T_, T_, T_, T_, T_, T_, T_, T_, T_, T_, T_, T_, T_, T_, T_, T_, T_, T_, T_, T_, T_, T_, F_, T_, T_, T_, F_, F_, F_, F_] rfl rfl (any_of HT_.out (by kernel_rfl)) (fun _ _ _ h => h) (Or.inl ⟨by rfl, ?_⟩) ?_ ?_
     rotate_left
     ·intro w'
      go_simp
      with_reducible rfl
     rotate_left
     ·simp only [Act.put, pA, pB, pC, i64_w, i32_w]
      rfl
     refine take_ (i := 34) (N := some 66) (v := ?_) (a' := ?_) #[T_, T_, T_, T_, T_, T_, T_, T_, T_, T_, T_, T_, T_, T_, T_, T_, T_, T_, T_, T_, T_, T_, T_, T_, T_, T_, T_, T_, T_, T_, T_, T_, T_, T_, T_, T_, T_, T_, F_, F_, F_, F_] rfl rfl (take_ofW HT_.out HW_.out (by kernel_rfl)) (fun _ _ _ h => h) (Or.inl ⟨by rfl, ?_⟩) hHeld ?_ ?_
     rotate_left
     ·rintro w' ⟨s0, s1, s2, s3, s4, s5, s6, s7, s8, s9, s10, s11, s12, s13, s14, s15⟩
      go_simp
      with_reducible rfl
     rotate_left
     ·simp only [Act.put, pA, pB, pC, i64_w, i32_w]
      rfl
     refine take_ (i := 38) (N := some 70) (v := ?_) (a' := ?_) #[T_, T_, T_, T_, T_, T_, T_, T_, T_, T_, T_, T_, T_, T_, T_, T_, T_, T_, T_, T_, T_, T_, T_, T_, T_, T_, T_, T_, T_, T_, T_, T_, T_, T_, T_, T_, T_, T_, T_, F_, F_, F_] rfl rfl (take_ofW HT_.out HW_.out (by kernel_rfl)) (fun _ _ _ h => h) (Or.inl ⟨by rfl, ?_⟩) hHeld ?_ ?_
     rotate_left
     ·rintro w' ⟨s0, s1, s2, s3, s4, s5, s6, s7, s8, s9, s10, s11, s12, s13, s14, s15⟩
      go_simp
      with_reducible rfl
     rotate_left
     ·simp only [Act.put, pA, pB, pC, i64_w, i32_w]
      rfl
     refine one_ (i := 39) (N := some 71) #[T_, T_, T_, T_, T_, T_, T_, T_, T_, T_, T_, T_, T_, T_, T_, T_, T_, T_, T_, T_, T_, T_, T_, T_, T_, T_, T_, T_, T_, T_, T_, T_, T_, T_, T_, T_, T_, T_, T_, T_, F_, F_] rfl rfl (one_of HT_.out (by kernel_rfl)) (by decide) (fun K hK => ?_)
     refine goes_ Try.func28 (by kernel_rfl) rfl #[.slice A332_0 (rd_L11 l0_1 x27_2).length c332_0, .slice A333_0 (rd_L11 t323 x27_2).length c333_0] (by rfl) rfl rfl tF ?_
     with_reducible refine (ontimelaw24_ints.calls k2 _ _ (rd_L11 l0_1 x27_2) _ _ (rd_L11 t323 x27_2) true _ ?side1 ?side2 ?side3 ?side4 A22.out).mono ?_
     (case side1 => exact tC (Kd.C_below HR332_0.out (tB2 HB.out GE322.out GE327.out)))
     (case side2 => exact HC332_0.out)
     (case side3 => repeat (first | exact (by repeat (first | (with_reducible exact HR333_0.out) | (with_reducible refine Kd.C_alloc ?_ _) | (with_reducible refine Kd.C_drewN ?_ _) | (with_reducible refine Kd.C_drew ?_) | exact HR333_0.out)) | (with_reducible refine Kd.C_alloc ?_ _) | (with_reducible refine Kd.C_drewN ?_ _) | (with_reducible refine Kd.C_drew ?_)))
     (case side4 => exact HC333_0.out)
     rintro e w' ⟨rfl, ⟨nd, rfl⟩⟩
     refine ⟨_, rfl, ?_⟩
     refine hK.out _ _ ⟨(blk_cell BK327.out 0).trans rfl, (blk_cell BK327.out 1).trans rfl, (blk_cell BK327.out 2).trans rfl, (blk_cell BK322.out 0).trans rfl, (blk_cell BK322.out 1).trans rfl, (cB HB.out hw328_0), (cB HB.out hw328_1), (cB HB.out hw328_2), (cB HB.out hw329_0), (cB HB.out hw329_1), (cB HB.out hw329_2), (cB HB.out hw330_0), (cB HB.out hw330_1), (cB HB.out hw330_2), (cB HB.out hw332_0), hHeld.2.2.2.2.2.2.2.2.2.2.2.2.2.2.2⟩ (fun hHeld => ?_)
     clear hK K
     refine norm_ (a' := ?_) ?_ ?_
     rotate_left
     ·show Act.put _ (some 71) _ = _
      simp only [Act.put, pA, pB, pC, i64_w, i32_w]
      rfl
     refine pure_ (i := 40) (N := some 72) (v := ?_) (a' := ?_) #[T_, T_, T_, T_, T_, T_, T_, T_, T_, T_, T_, T_, T_, T_, T_, T_, T_, T_, T_, T_, T_, T_, T_, T_, T_, T_, T_, T_, T_, T_, T_, T_, T_, T_, T_, T_, T_, T_, T_, T_, T_, F_] rfl rfl (any_of HT_.out (by kernel_rfl)) (fun _ _ _ h => h) (Or.inl ⟨by rfl, ?_⟩) ?_ ?_
     rotate_left
     ·intro w'
      go_simp
      with_reducible rfl
     rotate_left
     ·simp only [Act.put, pA, pB, pC, i64_w, i32_w]
      rfl
     refine pure_ (i := 41) (N := some 73) (v := ?_) (a' := ?_) #[T_, T_, T_, T_, T_, T_, T_, T_, T_, T_, T_, T_, T_, T_, T_, T_, T_, T_, T_, T_, T_, T_, T_, T_, T_, T_, T_, T_, T_, T_, T_, T_, T_, T_, T_, T_, T_, T_, T_, T_, T_, T_] rfl rfl (any_of HT_.out (by kernel_rfl)) (fun _ _ _ h => h) (Or.inl ⟨by rfl, ?_⟩) ?_ ?_
     rotate_left
     ·intro w'
      go_simp
      with_reducible rfl
     rotate_left
     ·simp only [Act.put, pA, pB, pC, i64_w, i32_w]
      rfl
     refine done_ (done_of HT_.out (by kernel_rfl)) ?_
     try go_wp2
     go_roundg k2
     case measure => have := HJ2.out; have := HK2.out; omega
     case rel => exact ⟨(wrap64 (x27_2 + 1)), (by first | rfl | (simp; done) | (simp [*]; done)), H', ⟨by have := HJ2.out; have := HK2.out; omega⟩, ⟨tS HO_5.out⟩, ⟨tK BK322.out⟩, ⟨tB2 HB.out GE322.out GE327.out⟩⟩
    ·as_aux_lemma =>
     rw [if_neg c17] at H
     have c17b0 : (((rd_T51 l0_0 x27_2).f1) == ((rd_T104 l1 x27_2).f1)) = false := beq_eq_false_iff_ne.mpr c17
     have c17b1 : (((rd_T51 l0_0 x27_2).f1) != ((rd_T104 l1 x27_2).f1)) = true := bne_iff_ne.mpr c17
     obtain rfl := oI H
     have p326 : 0 ≤ (x27_2 : Int) := tD
     have q326 : x27_2 < (l0_0.length : Int) := tD
     obtain ⟨ad326, A326_2, c326_2, e326, hx326_0, hx326_1, hx326_2, hl326_2, hi326_2⟩ := at_T51 HR0_0.out x27_2 p326 q326
     cases e326
     replace hx326_0 := cB HB.out hx326_0
     replace hx326_1 := cB HB.out hx326_1
     replace hx326_2 := cB HB.out hx326_2
     have HR326_2 := aK hi326_2
     have HC326_2 := aK hl326_2
     clear hi326_2 hl326_2
     replace p326 := eq_true p326
     replace q326 := eq_true q326
     try go_wp2_with (first | ((refine gate_dst (N := 7) rfl ?_); (try (refine gate_guard (by rfl) ?_; dsimp only)); refine box_event ?hg (N := 7) ?hd (cs := #[.int .i64 0, .int .i64 0, .slice none 0 0]) (t := 51) ?hr ?_; (case hd => rfl); (case hg => rfl); (case hr => first | (go_simp; done) | (go_simp; rfl)); intro gb327 hg w41 hbox hb; replace HO_5 := aK (Kd.S_below (tS HO_5.out) hb); have BK327 := aK (hbox); have GW327 := aK ((by rw [hg]; exact (below_size (tB1 HB.out GE322.out)) : w.heap.size ≤ gb327)); have GE327 := GW327; replace HB := aK (below_step (tB1 HB.out GE322.out) hb); have NB322_327 := aK ((by rw [hg]; exact Nat.ne_of_lt (blk_lt (g := gb322) (o := .cells #[.slice (some ad326) l0_0.length c0_0, .slice A0_1 l0_1.length c0_1] 31 (0, 0)) (tK BK322.out)) : gb322 ≠ gb327)); have NB327_322 := aK ((by rw [hg]; exact Nat.ne_of_gt (blk_lt (g := gb322) (o := .cells #[.slice (some ad326) l0_0.length c0_0, .slice A0_1 l0_1.length c0_1] 31 (0, 0)) (tK BK322.out)) : gb327 ≠ gb322)); replace BK322 := aK (blk_below (g := gb322) (tK BK322.out) hb); clear hb hbox hg; have hnb42 := NB327_322.out; have hnc42 := NB322_327.out; have hcz43_0 := bc 0 BK327.out; have hcz43_1 := bc 1 BK327.out; have hcz43_2 := bc 2 BK327.out; have hfz43_0 := blk_frozen BK327.out 0; have hfz43_1 := blk_frozen BK327.out 1; have hfz43_2 := blk_frozen BK327.out 2))
     have n0_ : Aside0 (Kd.S (Kd.slice 3 (Kd.int .i64)) 49 (((w41.setCell ⟨gb327, 0, none⟩ (.int .i64 ((rd_T51 l0_0 x27_2).f0))).setCell ⟨gb327, 1, none⟩ (.int .i64 ((rd_T51 l0_0 x27_2).f1))).setCell ⟨gb327, 2, none⟩ (.slice A326_2 ((rd_T51 l0_0 x27_2).f2).length c326_2)) w.heap.size (fun _ => True) v324 t323) := ⟨by (with_reducible repeat (first | apply Kd.S_alloc | apply Kd.S_drewN | apply Kd.S_drew)); exact Kd.S_mono (Kd.S_far (p := ⟨gb327, 2, none⟩) (Kd.S_far (p := ⟨gb327, 1, none⟩) (Kd.S_far (p := ⟨gb327, 0, none⟩) (Kd.S_types HO_5.out BK327.out (by decide)) (fun _ hk => hk.2) (.int .i64 ((rd_T51 l0_0 x27_2).f0))) (fun _ hk => hk.2) (.int .i64 ((rd_T51 l0_0 x27_2).f1))) (fun _ hk => hk.2) (.slice A326_2 ((rd_T51 l0_0 x27_2).f2).length c326_2)) (fun _ hk => trivial)⟩
     have n1_ : Aside0 ((((w41.setCell ⟨gb327, 0, none⟩ (.int .i64 ((rd_T51 l0_0 x27_2).f0))).setCell ⟨gb327, 1, none⟩ (.int .i64 ((rd_T51 l0_0 x27_2).f1))).setCell ⟨gb327, 2, none⟩ (.slice A326_2 ((rd_T51 l0_0 x27_2).f2).length c326_2)).heap[gb322]? = some (.cells #[.slice (some ad326) l0_0.length c0_0, .slice A0_1 l0_1.length c0_1] 31 (0, 0))) := ⟨by refine tK ?_; refine blk_far ?_ NB322_327.out _; refine tK ?_; refine blk_far ?_ NB322_327.out _; refine tK ?_; refine blk_far ?_ NB322_327.out _; refine tK ?_; exact BK322.out⟩
     have n2_ : Aside0 ((((w41.setCell ⟨gb327, 0, none⟩ (.int .i64 ((rd_T51 l0_0 x27_2).f0))).setCell ⟨gb327, 1, none⟩ (.int .i64 ((rd_T51 l0_0 x27_2).f1))).setCell ⟨gb327, 2, none⟩ (.slice A326_2 ((rd_T51 l0_0 x27_2).f2).length c326_2)).heap[gb327]? = some (.cells #[.int .i64 ((rd_T51 l0_0 x27_2).f0), .int .i64 ((rd_T51 l0_0 x27_2).f1), .slice A326_2 ((rd_T51 l0_0 x27_2).f2).length c326_2] 51 (0, 0))) := ⟨by refine tK ?_; refine blk_put (cs := #[.int .i64 ((rd_T51 l0_0 x27_2).f0), .int .i64 ((rd_T51 l0_0 x27_2).f1), .slice none 0 0]) ?_ 2 _ rfl; refine tK ?_; refine blk_put (cs := #[.int .i64 ((rd_T51 l0_0 x27_2).f0), .int .i64 0, .slice none 0 0]) ?_ 1 _ rfl; refine tK ?_; refine blk_put (cs := #[.int .i64 0, .int .i64 0, .slice none 0 0]) ?_ 0 _ rfl; refine tK ?_; exact BK327.out⟩
     have n3_ : Aside0 (Below w.heap.size w (((w41.setCell ⟨gb327, 0, none⟩ (.int .i64 ((rd_T51 l0_0 x27_2).f0))).setCell ⟨gb327, 1, none⟩ (.int .i64 ((rd_T51 l0_0 x27_2).f1))).setCell ⟨gb327, 2, none⟩ (.slice A326_2 ((rd_T51 l0_0 x27_2).f2).length c326_2))) := ⟨tB2 HB.out GE322.out GE327.out⟩
     generalize (((w41.setCell ⟨gb327, 0, none⟩ (.int .i64 ((rd_T51 l0_0 x27_2).f0))).setCell ⟨gb327, 1, none⟩ (.int .i64 ((rd_T51 l0_0 x27_2).f1))).setCell ⟨gb327, 2, none⟩ (.slice A326_2 ((rd_T51 l0_0 x27_2).f2).length c326_2)) = w44 at n0_ n1_ n2_ n3_ ⊢
     have HO_5 := n0_
     have BK322 := n1_
     have BK327 := n2_
     have HB := n3_
     clear n0_ n1_ n2_ n3_
     replace HO_5 := aK (Kd.S_drew HO_5.out)
     replace BK322 := aK (blk_drew BK322.out)
     replace BK327 := aK (blk_drew BK327.out)
     replace HB := aK (below_drew1 HB.out)
     have p328 : 0 ≤ (x27_2 : Int) := tD
     have q328 : x27_2 < (l1.length : Int) := tD
     obtain ⟨ad328, A328_2, c328_2, e328, hx328_0, hx328_1, hx328_2, hl328_2, hi328_2⟩ := at_T104 HR1.out x27_2 p328 q328
     have hw328_2 := hx328_2
     have hw328_1 := hx328_1
     have hw328_0 := hx328_0
     cases e328
     replace hx328_0 := cB HB.out hx328_0
     replace hx328_1 := cB HB.out hx328_1
     replace hx328_2 := cB HB.out hx328_2
     have HR328_2 := aK hi328_2
     have HC328_2 := aK hl328_2
     clear hi328_2 hl328_2
     replace p328 := eq_true p328
     replace q328 := eq_true q328
     have p329 : 0 ≤ (x27_2 : Int) := tD
     have q329 : x27_2 < (l1.length : Int) := tD
     obtain ⟨ad329, A329_2, c329_2, e329, hx329_0, hx329_1, hx329_2, hl329_2, hi329_2⟩ := at_T104 HR1.out x27_2 p329 q329
     have hw329_2 := hx329_2
     have hw329_1 := hx329_1
     have hw329_0 := hx329_0
     obtain rfl : ad328 = ad329 := (by injection e329)
     replace hx329_0 := cB HB.out hx329_0
     replace hx329_1 := cB HB.out hx329_1
     replace hx329_2 := cB HB.out hx329_2
     have HR329_2 := aK hi329_2
     have HC329_2 := aK hl329_2
     clear hi329_2 hl329_2
     replace p329 := eq_true p329
     replace q329 := eq_true q329
     have ea_ := oI (hx328_2.symm.trans hx329_2)
     injection ea_ with ea_ en_ ec_
     subst ea_
     subst ec_
     clear en_
     refine start_ (n := 42) (S := fun w' => w'.cell? ⟨gb327, 0, none⟩ = some (.int .i64 ((rd_T51 l0_0 x27_2).f0)) ∧ w'.cell? ⟨gb327, 1, none⟩ = some (.int .i64 ((rd_T51 l0_0 x27_2).f1)) ∧ w'.cell? ⟨gb327, 2, none⟩ = some (.slice A326_2 ((rd_T51 l0_0 x27_2).f2).length c326_2) ∧ w'.cell? (ad328.add ((x27_2).toNat * 3)) = some (.int .i64 ((rd_T104 l1 x27_2).f0)) ∧ w'.cell? ⟨(ad328.add ((x27_2).toNat * 3)).block, (ad328.add ((x27_2).toNat * 3)).off + 1, none⟩ = some (.int .i64 ((rd_T104 l1 x27_2).f1)) ∧ w'.cell? ⟨(ad328.add ((x27_2).toNat * 3)).block, (ad328.add ((x27_2).toNat * 3)).off + 2, none⟩ = some (.slice A328_2 ((rd_T104 l1 x27_2).f2).length c328_2) ∧ w'.cell? (ad328.add ((x27_2).toNat * 3)) = some (.int .i64 ((rd_T104 l1 x27_2).f0)) ∧ w'.cell? ⟨(ad328.add ((x27_2).toNat * 3)).block, (ad328.add ((x27_2).toNat * 3)).off + 1, none⟩ = some (.int .i64 ((rd_T104 l1 x27_2).f1)) ∧ w'.cell? ⟨(ad328.add ((x27_2).toNat * 3)).block, (ad328.add ((x27_2).toNat * 3)).off + 2, none⟩ = some (.slice A328_2 ((rd_T104 l1 x27_2).f2).length c328_2)) (ds := []) #[F_, F_, F_, F_, F_, F_, F_, F_, F_, F_, F_, F_, F_, F_, F_, F_, F_, F_, F_, F_, F_, F_, F_, F_, F_, F_, F_, F_, F_, F_, F_, F_, F_, F_, F_, F_, F_, F_, F_, F_, F_, F_] (by kernel_rfl) rfl rfl ⟨(blk_cell BK327.out 0).trans rfl, (blk_cell BK327.out 1).trans rfl, (blk_cell BK327.out 2).trans rfl, (cB HB.out hw328_0), (cB HB.out hw328_1), (cB HB.out hw328_2), (cB HB.out hw329_0), (cB HB.out hw329_1), (cB HB.out hw329_2)⟩ (fun hHeld => ?_); refine with_tabW ontimelaw24_is.tab7 ontimelaw24_is.bits7 (fun HT_ HW_ => ?_)
     generalize w44.drew = w45 at HO_5 BK322 BK327 HB HR328_2 HR329_2 hx328_0 hx328_1 hx328_2 hx329_0 hx329_1 hx329_2 hHeld ⊢
     refine pure_ (i := 0) (N := some 32) (v := ?_) (a' := ?_) #[T_, F_, F_, F_, F_, F_, F_, F_, F_, F_, F_, F_, F_, F_, F_, F_, F_, F_, F_, F_, F_, F_, F_, F_, F_, F_, F_, F_, F_, F_, F_, F_, F_, F_, F_, F_, F_, F_, F_, F_, F_, F_] rfl rfl (any_of HT_.out (by kernel_rfl)) (fun _ _ _ h => h) (Or.inl ⟨by rfl, ?_⟩) ?_ ?_
     rotate_left
     ·intro w'
      go_simp
      with_reducible rfl
     rotate_left
     ·simp only [Act.put, pA, pB, pC, i64_w, i32_w]
      rfl
     refine pure_ (i := 2) (N := some 34) (v := ?_) (a' := ?_) #[T_, F_, T_, F_, F_, F_, F_, F_, F_, F_, F_, F_, F_, F_, F_, F_, F_, F_, F_, F_, F_, F_, F_, F_, F_, F_, F_, F_, F_, F_, F_, F_, F_, F_, F_, F_, F_, F_, F_, F_, F_, F_] rfl rfl (any_of HT_.out (by kernel_rfl)) (fun _ _ _ h => h) (Or.inl ⟨by rfl, ?_⟩) ?_ ?_
     rotate_left
     ·intro w'
      go_simp
      with_reducible rfl
     rotate_left
     ·simp only [Act.put, pA, pB, pC, i64_w, i32_w]
      rfl
     refine pure_ (i := 3) (N := some 35) (v := ?_) (a' := ?_) #[T_, F_, T_, T_, F_, F_, F_, F_, F_, F_, F_, F_, F_, F_, F_, F_, F_, F_, F_, F_, F_, F_, F_, F_, F_, F_, F_, F_, F_, F_, F_, F_, F_, F_, F_, F_, F_, F_, F_, F_, F_, F_] rfl rfl (any_of HT_.out (by kernel_rfl)) (fun _ _ _ h => h) (Or.inl ⟨by rfl, ?_⟩) ?_ ?_
     rotate_left
     ·intro w'
      go_simp
      with_reducible rfl
     rotate_left
     ·simp only [Act.put, pA, pB, pC, i64_w, i32_w]
      rfl
     refine pure_ (i := 4) (N := some 36) (v := ?_) (a' := ?_) #[T_, F_, T_, T_, T_, F_, F_, F_, F_, F_, F_, F_, F_, F_, F_, F_, F_, F_, F_, F_, F_, F_, F_, F_, F_, F_, F_, F_, F_, F_, F_, F_, F_, F_, F_, F_, F_, F_, F_, F_, F_, F_] rfl rfl (any_of HT_.out (by kernel_rfl)) (fun _ _ _ h => h) (Or.inl ⟨by rfl, ?_⟩) ?_ ?_
     rotate_left
     ·intro w'
      go_simp
      with_reducible rfl
     rotate_left
     ·simp only [Act.put, pA, pB, pC, i64_w, i32_w]
      rfl
     refine pure_ (i := 5) (N := some 37) (v := ?_) (a' := ?_) #[T_, F_, T_, T_, T_, T_, F_, F_, F_, F_, F_, F_, F_, F_, F_, F_, F_, F_, F_, F_, F_, F_, F_, F_, F_, F_, F_, F_, F_, F_, F_, F_, F_, F_, F_, F_, F_, F_, F_, F_, F_, F_] rfl rfl (any_of HT_.out (by kernel_rfl)) (fun _ _ _ h => h) (Or.inl ⟨by rfl, ?_⟩) ?_ ?_
     rotate_left
     ·intro w'
      go_simp
      with_reducible rfl
     rotate_left
     ·simp only [Act.put, pA, pB, pC, i64_w, i32_w]
      rfl
     refine take_ (i := 1) (N := some 33) (v := ?_) (a' := ?_) #[T_, T_, T_, T_, T_, T_, F_, F_, F_, F_, F_, F_, F_, F_, F_, F_, F_, F_, F_, F_, F_, F_, F_, F_, F_, F_, F_, F_, F_, F_, F_, F_, F_, F_, F_, F_, F_, F_, F_, F_, F_, F_] rfl rfl (take_ofW HT_.out HW_.out (by kernel_rfl)) (fun _ _ _ h => h) (Or.inl ⟨by rfl, ?_⟩) hHeld ?_ ?_
     rotate_left
     ·rintro w' ⟨s0, s1, s2, s3, s4, s5, s6, s7, s8⟩
      go_simp
      with_reducible rfl
     rotate_left
     ·simp only [Act.put, pA, pB, pC, i64_w, i32_w]
      rfl
     refine take_ (i := 6) (N := some 38) (v := ?_) (a' := ?_) #[T_, T_, T_, T_, T_, T_, T_, F_, F_, F_, F_, F_, F_, F_, F_, F_, F_, F_, F_, F_, F_, F_, F_, F_, F_, F_, F_, F_, F_, F_, F_, F_, F_, F_, F_, F_, F_, F_, F_, F_, F_, F_] rfl rfl (take_ofW HT_.out HW_.out (by kernel_rfl)) (fun _ _ _ h => h) (Or.inl ⟨by rfl, ?_⟩) hHeld ?_ ?_
     rotate_left
     ·rintro w' ⟨s0, s1, s2, s3, s4, s5, s6, s7, s8⟩
      go_simp
      with_reducible rfl
     rotate_left
     ·simp only [Act.put, pA, pB, pC, i64_w, i32_w]
      rfl
     refine pure_ (i := 7) (N := some 39) (v := ?_) (a' := ?_) #[T_, T_, T_, T_, T_, T_, T_, T_, F_, F_, F_, F_, F_, F_, F_, F_, F_, F_, F_, F_, F_, F_, F_, F_, F_, F_, F_, F_, F_, F_, F_, F_, F_, F_, F_, F_, F_, F_, F_, F_, F_, F_] rfl rfl (any_of HT_.out (by kernel_rfl)) (fun _ _ _ h => h) (Or.inl ⟨by rfl, ?_⟩) ?_ ?_
     rotate_left
     ·intro w'
      go_simp
      with_reducible rfl
     rotate_left
     ·simp only [Act.put, pA, pB, pC, i64_w, i32_w]
      rfl
     refine pure_ (i := 8) (N := some 40) (v := ?_) (a' := ?_) #[T_, T_, T_, T_, T_, T_, T_, T_, T_, F_, F_, F_, F_, F_, F_, F_, F_, F_, F_, F_, F_, F_, F_, F_, F_, F_, F_, F_, F_, F_, F_, F_, F_, F_, F_, F_, F_, F_, F_, F_, F_, F_] rfl rfl (any_of HT_.out (by kernel_rfl)) (fun _ _ _ h => h) (Or.inl ⟨by rfl, ?_⟩) ?_ ?_
     rotate_left
     ·intro w'
      go_simp
      with_reducible rfl
     rotate_left
     ·simp only [Act.put, pA, pB, pC, i64_w, i32_w]
      rfl
     refine pure_ (i := 9) (N := some 41) (v := ?_) (a' := ?_) #[T_, T_, T_, T_, T_, T_, T_, T_, T_, T_, F_, F_, F_, F_, F_, F_, F_, F_, F_, F_, F_, F_, F_, F_, F_, F_, F_, F_, F_, F_, F_, F_, F_, F_, F_, F_, F_, F_, F_, F_, F_, F_] rfl rfl (any_of HT_.out (by kernel_rfl)) (fun _ _ _ h => h) (Or.inl ⟨by rfl, ?_⟩) ?_ ?_
     rotate_left
     ·intro w'
      go_simp
      with_reducible rfl
     rotate_left
     ·simp only [Act.put, pA, pB, pC, i64_w, i32_w]
      rfl
     refine pure_ (i := 11) (N := some 43) (v := ?_) (a' := ?_) #[T_, T_, T_, T_, T_, T_, T_, T_, T_, T_, F_, T_, F_, F_, F_, F_, F_, F_, F_, F_, F_, F_, F_, F_, F_, F_, F_, F_, F_, F_, F_, F_, F_, F_, F_, F_, F_, F_, F_, F_, F_, F_] rfl rfl (any_of HT_.out (by kernel_rfl)) (fun _ _ _ h => h) (Or.inl ⟨by rfl, ?_⟩) ?_ ?_
     rotate_left
     ·intro w'
      go_simp
      with_reducible rfl
     rotate_left
     ·simp only [Act.put, pA, pB, pC, i64_w, i32_w]
      rfl
     refine pure_ (i := 12) (N := some 44) (v := ?_) (a' := ?_) #[T_, T_, T_, T_, T_, T_, T_, T_, T_, T_, F_, T_, T_, F_, F_, F_, F_, F_, F_, F_, F_, F_, F_, F_, F_, F_, F_, F_, F_, F_, F_, F_, F_, F_, F_, F_, F_, F_, F_, F_, F_, F_] rfl rfl (any_of HT_.out (by kernel_rfl)) (fun _ _ _ h => h) (Or.inl ⟨by rfl, ?_⟩) ?_ ?_
     rotate_left
     ·intro w'
      go_simp
      with_reducible rfl
     rotate_left
     ·simp only [Act.put, pA, pB, pC, i64_w, i32_w]
      rfl
     refine pure_ (i := 13) (N := some 45) (v := ?_) (a' := ?_) #[T_, T_, T_, T_, T_, T_, T_, T_, T_, T_, F_, T_, T_, T_, F_, F_, F_, F_, F_, F_, F_, F_, F_, F_, F_, F_, F_, F_, F_, F_, F_, F_, F_, F_, F_, F_, F_, F_, F_, F_, F_, F_] rfl rfl (any_of HT_.out (by kernel_rfl)) (fun _ _ _ h => h) (Or.inl ⟨by rfl, ?_⟩) ?_ ?_
     rotate_left
     ·intro w'
      go_simp
      with_reducible rfl
     rotate_left
     ·simp only [Act.put, pA, pB, pC, i64_w, i32_w]
      rfl
     refine pure_ (i := 14) (N := some 46) (v := ?_) (a' := ?_) #[T_, T_, T_, T_, T_, T_, T_, T_, T_, T_, F_, T_, T_, T_, T_, F_, F_, F_, F_, F_, F_, F_, F_, F_, F_, F_, F_, F_, F_, F_, F_, F_, F_, F_, F_, F_, F_, F_, F_, F_, F_, F_] rfl rfl (any_of HT_.out (by kernel_rfl)) (fun _ _ _ h => h) (Or.inl ⟨by rfl, ?_⟩) ?_ ?_
     rotate_left
     ·intro w'
      go_simp
      with_reducible rfl
     rotate_left
     ·simp only [Act.put, pA, pB, pC, i64_w, i32_w]
      rfl
     refine take_ (i := 10) (N := some 42) (v := ?_) (a' := ?_) #[T_, T_, T_, T_, T_, T_, T_, T_, T_, T_, T_, T_, T_, T_, T_, F_, F_, F_, F_, F_, F_, F_, F_, F_, F_, F_, F_, F_, F_, F_, F_, F_, F_, F_, F_, F_, F_, F_, F_, F_, F_, F_] rfl rfl (take_ofW HT_.out HW_.out (by kernel_rfl)) (fun _ _ _ h => h) (Or.inl ⟨by rfl, ?_⟩) hHeld ?_ ?_
     rotate_left
     ·rintro w' ⟨s0, s1, s2, s3, s4, s5, s6, s7, s8⟩
      go_simp
      with_reducible rfl
     rotate_left
     ·simp only [Act.put, pA, pB, pC, i64_w, i32_w]
      rfl
     refine take_ (i := 15) (N := some 47) (v := ?_) (a' := ?_) #[T_, T_, T_, T_, T_, T_, T_, T_, T_, T_, T_, T_, T_, T_, T_, T_, F_, F_, F_, F_, F_, F_, F_, F_, F_, F_, F_, F_, F_, F_, F_, F_, F_, F_, F_, F_, F_, F_, F_, F_, F_, F_] rfl rfl (take_ofW HT_.out HW_.out (by kernel_rfl)) (fun _ _ _ h => h) (Or.inl ⟨by rfl, ?_⟩) hHeld ?_ ?_
     rotate_left
     ·rintro w' ⟨s0, s1, s2, s3, s4, s5, s6, s7, s8⟩
      go_simp
      with_reducible rfl
     rotate_left
     ·simp only [Act.put, pA, pB, pC, i64_w, i32_w]
      rfl
     refine pure_ (i := 16) (N := some 48) (v := ?_) (a' := ?_) #[T_, T_, T_, T_, T_, T_, T_, T_, T_, T_, T_, T_, T_, T_, T_, T_, T_, F_, F_, F_, F_, F_, F_, F_, F_, F_, F_, F_, F_, F_, F_, F_, F_, F_, F_, F_, F_, F_, F_, F_, F_, F_] rfl rfl (any_of HT_.out (by kernel_rfl)) (fun _ _ _ h => h) (Or.inl ⟨by rfl, ?_⟩) ?_ ?_
     rotate_left
     ·intro w'
      go_simp
      with_reducible rfl
     rotate_left
     ·simp only [Act.put, pA, pB, pC, i64_w, i32_w]
      rfl
     refine pure_ (i := 17) (N := some 49) (v := ?_) (a' := ?_) #[T_, T_, T_, T_, T_, T_, T_, T_, T_, T_, T_, T_, T_, T_, T_, T_, T_, T_, F_, F_, F_, F_, F_, F_, F_, F_, F_, F_, F_, F_, F_, F_, F_, F_, F_, F_, F_, F_, F_, F_, F_, F_] rfl rfl (any_of HT_.out (by kernel_rfl)) (fun _ _ _ h => h) (Or.inl ⟨by rfl, ?_⟩) ?_ ?_
     rotate_left
     ·intro w'
      go_simp
      with_reducible rfl
     rotate_left
     ·simp only [Act.put, pA, pB, pC, i64_w, i32_w]
      rfl
     refine pure_ (i := 18) (N := some 50) (v := ?_) (a' := ?_) #[T_, T_, T_, T_, T_, T_, T_, T_, T_, T_, T_, T_, T_, T_, T_, T_, T_, T_, T_, F_, F_, F_, F_, F_, F_, F_, F_, F_, F_, F_, F_, F_, F_, F_, F_, F_, F_, F_, F_, F_, F_, F_] rfl rfl (any_of HT_.out (by kernel_rfl)) (fun _ _ _ h => h) (Or.inl ⟨by rfl, ?_⟩) ?_ ?_
     rotate_left
     ·intro w'
      go_simp
      with_reducible rfl
     rotate_left
     ·simp only [Act.put, pA, pB, pC, i64_w, i32_w]
      rfl
     refine pure_ (i := 19) (N := some 51) (v := undef) (a' := ?_) #[T_, T_, T_, T_, T_, T_, T_, T_, T_, T_, T_, T_, T_, T_, T_, T_, T_, T_, T_, T_, F_, F_, F_, F_, F_, F_, F_, F_, F_, F_, F_, F_, F_, F_, F_, F_, F_, F_, F_, F_, F_, F_] rfl rfl (any_of HT_.out (by kernel_rfl)) (fun _ _ _ h => h) (Or.inr ⟨by rfl, rfl⟩) ?_ ?_
     rotate_left
     ·simp only [Act.put, pA, pB, pC, i64_w, i32_w]
      rfl
     refine pure_ (i := 20) (N := some 52) (v := undef) (a' := ?_) #[T_, T_, T_, T_, T_, T_, T_, T_, T_, T_, T_, T_, T_, T_, T_, T_, T_, T_, T_, T_, T_, F_, F_, F_, F_, F_, F_, F_, F_, F_, F_, F_, F_, F_, F_, F_, F_, F_, F_, F_, F_, F_] rfl rfl (any_of HT_.out (by kernel_rfl)) (fun _ _ _ h => h) (Or.inr ⟨by rfl, rfl⟩) ?_ ?_
     rotate_left
     ·simp only [Act.put, pA, pB, pC, i64_w, i32_w]
      rfl
     refine pure_ (i := 21) (N := some 53) (v := undef) (a' := ?_) #[T_, T_, T_, T_, T_, T_, T_, T_, T_, T_, T_, T_, T_, T_, T_, T_, T_, T_, T_, T_, T_, T_, F_, F_, F_, F_, F_, F_, F_, F_, F_, F_, F_, F_, F_, F_, F_, F_, F_, F_, F_, F_] rfl rfl (any_of HT_.out (by kernel_rfl)) (fun _ _ _ h => h) (Or.inr ⟨by rfl, rfl⟩) ?_ ?_
     rotate_left
     ·simp only [Act.put, pA, pB, pC, i64_w, i32_w]
      rfl
     refine pure_ (i := 22) (N := some 54) (v := undef) (a' := ?_) #[T_, T_, T_, T_, T_, T_, T_, T_, T_, T_, T_, T_, T_, T_, T_, T_, T_, T_, T_, T_, T_, T_, T_, F_, F_, F_, F_, F_, F_, F_, F_, F_, F_, F_, F_, F_, F_, F_, F_, F_, F_, F_] rfl rfl (any_of HT_.out (by kernel_rfl)) (fun _ _ _ h => h) (Or.inr ⟨by rfl, rfl⟩) ?_ ?_
     rotate_left
     ·simp only [Act.put, pA, pB, pC, i64_w, i32_w]
      rfl
     refine pure_ (i := 23) (N := some 55) (v := undef) (a' := ?_) #[T_, T_, T_, T_, T_, T_, T_, T_, T_, T_, T_, T_, T_, T_, T_, T_, T_, T_, T_, T_, T_, T_, T_, T_, F_, F_, F_, F_, F_, F_, F_, F_, F_, F_, F_, F_, F_, F_, F_, F_, F_, F_] rfl rfl (any_of HT_.out (by kernel_rfl)) (fun _ _ _ h => h) (Or.inr ⟨by rfl, rfl⟩) ?_ ?_
     rotate_left
     ·simp only [Act.put, pA, pB, pC, i64_w, i32_w]
      rfl
     refine pure_ (i := 24) (N := some 56) (v := undef) (a' := ?_) #[T_, T_, T_, T_, T_, T_, T_, T_, T_, T_, T_, T_, T_, T_, T_, T_, T_, T_, T_, T_, T_, T_, T_, T_, T_, F_, F_, F_, F_, F_, F_, F_, F_, F_, F_, F_, F_, F_, F_, F_, F_, F_] rfl rfl (any_of HT_.out (by kernel_rfl)) (fun _ _ _ h => h) (Or.inr ⟨by rfl, rfl⟩) ?_ ?_
     rotate_left
     ·simp only [Act.put, pA, pB, pC, i64_w, i32_w]
      rfl
     refine pure_ (i := 25) (N := some 57) (v := undef) (a' := ?_) #[T_, T_, T_, T_, T_, T_, T_, T_, T_, T_, T_, T_, T_, T_, T_, T_, T_, T_, T_, T_, T_, T_, T_, T_, T_, T_, F_, F_, F_, F_, F_, F_, F_, F_, F_, F_, F_, F_, F_, F_, F_, F_] rfl rfl (any_of HT_.out (by kernel_rfl)) (fun _ _ _ h => h) (Or.inr ⟨by rfl, rfl⟩) ?_ ?_
     rotate_left
     ·simp only [Act.put, pA, pB, pC, i64_w, i32_w]
      rfl
     refine pure_ (i := 26) (N := some 58) (v := undef) (a' := ?_) #[T_, T_, T_, T_, T_, T_, T_, T_, T_, T_, T_, T_, T_, T_, T_, T_, T_, T_, T_, T_, T_, T_, T_, T_, T_, T_, T_, F_, F_, F_, F_, F_, F_, F_, F_, F_, F_, F_, F_, F_, F_, F_] rfl rfl (any_of HT_.out (by kernel_rfl)) (fun _ _ _ h => h) (Or.inr ⟨by rfl, rfl⟩) ?_ ?_
     rotate_left
     ·simp only [Act.put, pA, pB, pC, i64_w, i32_w]
      rfl
     refine pure_ (i := 27) (N := some 59) (v := undef) (a' := ?_) #[T_, T_, T_, T_, T_, T_, T_, T_, T_, T_, T_, T_, T_, T_, T_, T_, T_, T_, T_, T_, T_, T_, T_, T_, T_, T_, T_, T_, F_, F_, F_, F_, F_, F_, F_, F_, F_, F_, F_, F_, F_, F_] rfl rfl (any_of HT_.out (by kernel_rfl)) (fun _ _ _ h => h) (Or.inr ⟨by rfl, rfl⟩) ?_ ?_
     rotate_left
     ·simp only [Act.put, pA, pB, pC, i64_w, i32_w]
      rfl
     refine pure_ (i := 28) (N := some 60) (v := ?_) (a' := ?_) #[T_, T_, T_, T_, T_, T_, T_, T_, T_, T_, T_, T_, T_, T_, T_, T_, T_, T_, T_, T_, T_, T_, T_, T_, T_, T_, T_, T_, T_, F_, F_, F_, F_, F_, F_, F_, F_, F_, F_, F_, F_, F_] rfl rfl (any_of HT_.out (by kernel_rfl)) (fun _ _ _ h => h) (Or.inl ⟨by rfl, ?_⟩) ?_ ?_
     rotate_left
     ·intro w'
      go_simp
      with_reducible rfl
     rotate_left
     ·simp only [Act.put, pA, pB, pC, i64_w, i32_w]
      rfl
     refine pure_ (i := 29) (N := some 61) (v := ?_) (a' := ?_) #[T_, T_, T_, T_, T_, T_, T_, T_, T_, T_, T_, T_, T_, T_, T_, T_, T_, T_, T_, T_, T_, T_, T_, T_, T_, T_, T_, T_, T_, T_, F_, F_, F_, F_, F_, F_, F_, F_, F_, F_, F_, F_] rfl rfl (any_of HT_.out (by kernel_rfl)) (fun _ _ _ h => h) (Or.inl ⟨by rfl, ?_⟩) ?_ ?_
     rotate_left
     ·intro w'
      go_simp
      with_reducible rfl
     rotate_left
     ·simp only [Act.put, pA, pB, pC, i64_w, i32_w]
      rfl
     refine pure_ (i := 30) (N := some 62) (v := undef) (a' := ?_) #[T_, T_, T_, T_, T_, T_, T_, T_, T_, T_, T_, T_, T_, T_, T_, T_, T_, T_, T_, T_, T_, T_, T_, T_, T_, T_, T_, T_, T_, T_, T_, F_, F_, F_, F_, F_, F_, F_, F_, F_, F_, F_] rfl rfl (any_of HT_.out (by kernel_rfl)) (fun _ _ _ h => h) (Or.inr ⟨by rfl, rfl⟩) ?_ ?_
     rotate_left
     ·simp only [Act.put, pA, pB, pC, i64_w, i32_w]
      rfl
     refine pure_ (i := 31) (N := some 63) (v := undef) (a' := ?_) #[T_, T_, T_, T_, T_, T_, T_, T_, T_, T_, T_, T_, T_, T_, T_, T_, T_, T_, T_, T_, T_, T_, T_, T_, T_, T_, T_, T_, T_, T_, T_, T_, F_, F_, F_, F_, F_, F_, F_, F_, F_, F_] rfl rfl (any_of HT_.out (by kernel_rfl)) (fun _ _ _ h => h) (Or.inr ⟨by rfl, rfl⟩) ?_ ?_
     rotate_left
     ·simp only [Act.put, pA, pB, pC, i64_w, i32_w]
      rfl
     refine pure_ (i := 32) (N := some 64) (v := undef) (a' := ?_) #[T_, T_, T_, T_, T_, T_, T_, T_, T_, T_, T_, T_, T_, T_, T_, T_, T_, T_, T_, T_, T_, T_, T_, T_, T_, T_, T_, T_, T_, T_, T_, T_, T_, F_, F_, F_, F_, F_, F_, F_, F_, F_] rfl rfl (any_of HT_.out (by kernel_rfl)) (fun _ _ _ h => h) (Or.inr ⟨by rfl, rfl⟩) ?_ ?_
     rotate_left
     ·simp only [Act.put, pA, pB, pC, i64_w, i32_w]
      rfl
     refine pure_ (i := 33) (N := some 65) (v := undef) (a' := ?_) #[T_, T_, T_, T_, T_, T_, T_, T_, T_, T_, T_, T_, T_, T_, T_, T_, T_, T_, T_, T_, T_, T_, T_, T_, T_, T_, T_, T_, T_, T_, T_, T_, T_, T_, F_, F_, F_, F_, F_, F_, F_, F_] rfl rfl (any_of HT_.out (by kernel_rfl)) (fun _ _ _ h => h) (Or.inr ⟨by rfl, rfl⟩) ?_ ?_
     rotate_left
     ·simp only [Act.put, pA, pB, pC, i64_w, i32_w]
      rfl
     refine pure_ (i := 34) (N := some 66) (v := undef) (a' := ?_) #[T_, T_, T_, T_, T_, T_, T_, T_, T_, T_, T_, T_, T_, T_, T_, T_, T_, T_, T_, T_, T_, T_, T_, T_, T_, T_, T_, T_, T_, T_, T_, T_, T_, T_, T_, F_, F_, F_, F_, F_, F_, F_] rfl rfl (any_of HT_.out (by kernel_rfl)) (fun _ _ _ h => h) (Or.inr ⟨by rfl, rfl⟩) ?_ ?_
     rotate_left
     ·simp only [Act.put, pA, pB, pC, i64_w, i32_w]
      rfl
     refine pure_ (i := 35) (N := some 67) (v := undef) (a' := ?_) #[T_, T_, T_, T_, T_, T_, T_, T_, T_, T_, T_, T_, T_, T_, T_, T_, T_, T_, T_, T_, T_, T_, T_, T_, T_, T_, T_, T_, T_, T_, T_, T_, T_, T_, T_, T_, F_, F_, F_, F_, F_, F_] rfl rfl (any_of HT_.out (by kernel_rfl)) (fun _ _ _ h => h) (Or.inr ⟨by rfl, rfl⟩) ?_ ?_
     rotate_left
     ·simp only [Act.put, pA, pB, pC, i64_w, i32_w]
      rfl
     refine pure_ (i := 36) (N := some 68) (v := undef) (a' := ?_) #[T_, T_, T_, T_, T_, T_, T_, T_, T_, T_, T_, T_, T_, T_, T_, T_, T_, T_, T_, T_, T_, T_, T_, T_, T_, T_, T_, T_, T_, T_, T_, T_, T_, T_, T_, T_, T_, F_, F_, F_, F_, F_] rfl rfl (any_of HT_.out (by kernel_rfl)) (fun _ _ _ h => h) (Or.inr ⟨by rfl, rfl⟩) ?_ ?_
     rotate_left
     ·simp only [Act.put, pA, pB, pC, i64_w, i32_w]
      rfl
     refine pure_ (i := 37) (N := some 69) (v := undef) (a' := ?_) #[T_, T_, T_, T_, T_, T_, T_, T_, T_, T_, T_, T_, T_, T_, T_, T_, T_, T_, T_, T_, T_, T_, T_, T_, T_, T_, T_, T_, T_, T_, T_, T_, T_, T_, T_, T_, T_, T_, F_, F_, F_, F_] rfl rfl (any_of HT_.out (by kernel_rfl)) (fun _ _ _ h => h) (Or.inr ⟨by rfl, rfl⟩) ?_ ?_
     rotate_left
     ·simp only [Act.put, pA, pB, pC, i64_w, i32_w]
      rfl
     refine pure_ (i := 38) (N := some 70) (v := undef) (a' := ?_) #[T_, T_, T_, T_, T_, T_, T_, T_, T_, T_, T_, T_, T_, T_, T_, T_, T_, T_, T_, T_, T_, T_, T_, T_, T_, T_, T_, T_, T_, T_, T_, T_, T_, T_, T_, T_, T_, T_, T_, F_, F_, F_] rfl rfl (any_of HT_.out (by kernel_rfl)) (fun _ _ _ h => h) (Or.inr ⟨by rfl, rfl⟩) ?_ ?_
     rotate_left
     ·simp only [Act.put, pA, pB, pC, i64_w, i32_w]
      rfl
     refine pure_ (i := 39) (N := some 71) (v := undef) (a' := ?_) #[T_, T_, T_, T_, T_, T_, T_, T_, T_, T_, T_, T_, T_, T_, T_, T_, T_, T_, T_, T_, T_, T_, T_, T_, T_, T_, T_, T_, T_, T_, T_, T_, T_, T_, T_, T_, T_, T_, T_, T_, F_, F_] rfl rfl (any_of HT_.out (by kernel_rfl)) (fun _ _ _ h => h) (Or.inr ⟨by rfl, rfl⟩) ?_ ?_
     rotate_left
     ·simp only [Act.put, pA, pB, pC, i64_w, i32_w]
      rfl
     refine pure_ (i := 40) (N := some 72) (v := undef) (a' := ?_) #[T_, T_, T_, T_, T_, T_, T_, T_, T_, T_, T_, T_, T_, T_, T_, T_, T_, T_, T_, T_, T_, T_, T_, T_, T_, T_, T_, T_, T_, T_, T_, T_, T_, T_, T_, T_, T_, T_, T_, T_, T_, F_] rfl rfl (any_of HT_.out (by kernel_rfl)) (fun _ _ _ h => h) (Or.inr ⟨by rfl, rfl⟩) ?_ ?_
     rotate_left
     ·simp only [Act.put, pA, pB, pC, i64_w, i32_w]
      rfl
     refine pure_ (i := 41) (N := some 73) (v := ?_) (a' := ?_) #[T_, T_, T_, T_, T_, T_, T_, T_, T_, T_, T_, T_, T_, T_, T_, T_, T_, T_, T_, T_, T_, T_, T_, T_, T_, T_, T_, T_, T_, T_, T_, T_, T_, T_, T_, T_, T_, T_, T_, T_, T_, T_] rfl rfl (any_of HT_.out (by kernel_rfl)) (fun _ _ _ h => h) (Or.inl ⟨by rfl, ?_⟩) ?_ ?_
     rotate_left
     ·intro w'
      go_simp
      with_reducible rfl
     rotate_left
     ·simp only [Act.put, pA, pB, pC, i64_w, i32_w]
      rfl
     refine done_ (done_of HT_.out (by kernel_rfl)) ?_
     try go_wp2
     go_ret
     exact ⟨by first | rfl | (simp [errW_none, errW_some] <;> rfl) | (simp [*, errW_none, errW_some] <;> rfl), by repeat (first | (with_reducible first | exact HB.out | apply below_alloc | apply pw_below_drewN | apply below_drew1 | refine below_set ?_ GE322.out | refine below_set ?_ GE327.out) | exact HB.out)⟩
   ·as_aux_lemma =>
    rw [if_neg c16] at H
    have c16b0 : (((rd_T51 l0_0 x27_2).f0) == ((rd_T104 l1 x27_2).f0)) = false := beq_eq_false_iff_ne.mpr c16
    have c16b1 : (((rd_T51 l0_0 x27_2).f0) != ((rd_T104 l1 x27_2).f0)) = true := bne_iff_ne.mpr c16
    obtain rfl := oI H
    have p326 : 0 ≤ (x27_2 : Int) := tD
    have q326 : x27_2 < (l0_0.length : Int) := tD
    obtain ⟨ad326, A326_2, c326_2, e326, hx326_0, hx326_1, hx326_2, hl326_2, hi326_2⟩ := at_T51 HR0_0.out x27_2 p326 q326
    cases e326
    replace hx326_0 := cB HB.out hx326_0
    replace hx326_1 := cB HB.out hx326_1
    replace hx326_2 := cB HB.out hx326_2
    have HR326_2 := aK hi326_2
    have HC326_2 := aK hl326_2
    clear hi326_2 hl326_2
    replace p326 := eq_true p326
    replace q326 := eq_true q326
    try go_wp2_with (first | ((refine gate_dst (N := 7) rfl ?_); (try (refine gate_guard (by rfl) ?_; dsimp only)); refine box_event ?hg (N := 7) ?hd (cs := #[.int .i64 0, .int .i64 0, .slice none 0 0]) (t := 51) ?hr ?_; (case hd => rfl); (case hg => rfl); (case hr => first | (go_simp; done) | (go_simp; rfl)); intro gb327 hg w46 hbox hb; replace HO_5 := aK (Kd.S_below (tS HO_5.out) hb); have BK327 := aK (hbox); have GW327 := aK ((by rw [hg]; exact (below_size (tB1 HB.out GE322.out)) : w.heap.size ≤ gb327)); have GE327 := GW327; replace HB := aK (below_step (tB1 HB.out GE322.out) hb); have NB322_327 := aK ((by rw [hg]; exact Nat.ne_of_lt (blk_lt (g := gb322) (o := .cells #[.slice (some ad326) l0_0.length c0_0, .slice A0_1 l0_1.length c0_1] 31 (0, 0)) (tK BK322.out)) : gb322 ≠ gb327)); have NB327_322 := aK ((by rw [hg]; exact Nat.ne_of_gt (blk_lt (g := gb322) (o := .cells #[.slice (some ad326) l0_0.length c0_0, .slice A0_1 l0_1.length c0_1] 31 (0, 0)) (tK BK322.out)) : gb327 ≠ gb322)); replace BK322 := aK (blk_below (g := gb322) (tK BK322.out) hb); clear hb hbox hg; have hnb47 := NB327_322.out; have hnc47 := NB322_327.out; have hcz48_0 := bc 0 BK327.out; have hcz48_1 := bc 1 BK327.out; have hcz48_2 := bc 2 BK327.out; have hfz48_0 := blk_frozen BK327.out 0; have hfz48_1 := blk_frozen BK327.out 1; have hfz48_2 := blk_frozen BK327.out 2))
    have n0_ : Aside0 (Kd.S (Kd.slice 3 (Kd.int .i64)) 49 (((w46.setCell ⟨gb327, 0, none⟩ (.int .i64 ((rd_T51 l0_0 x27_2).f0))).setCell ⟨gb327, 1, none⟩ (.int .i64 ((rd_T51 l0_0 x27_2).f1))).setCell ⟨gb327, 2, none⟩ (.slice A326_2 ((rd_T51 l0_0 x27_2).f2).length c326_2)) w.heap.size (fun _ => True) v324 t323) := ⟨by (with_reducible repeat (first | apply Kd.S_alloc | apply Kd.S_drewN | apply Kd.S_drew)); exact Kd.S_mono (Kd.S_far (p := ⟨gb327, 2, none⟩) (Kd.S_far (p := ⟨gb327, 1, none⟩) (Kd.S_far (p := ⟨gb327, 0, none⟩) (Kd.S_types HO_5.out BK327.out (by decide)) (fun _ hk => hk.2) (.int .i64 ((rd_T51 l0_0 x27_2).f0))) (fun _ hk => hk.2) (.int .i64 ((rd_T51 l0_0 x27_2).f1))) (fun _ hk => hk.2) (.slice A326_2 ((rd_T51 l0_0 x27_2).f2).length c326_2)) (fun _ hk => trivial)⟩
    have n1_ : Aside0 ((((w46.setCell ⟨gb327, 0, none⟩ (.int .i64 ((rd_T51 l0_0 x27_2).f0))).setCell ⟨gb327, 1, none⟩ (.int .i64 ((rd_T51 l0_0 x27_2).f1))).setCell ⟨gb327, 2, none⟩ (.slice A326_2 ((rd_T51 l0_0 x27_2).f2).length c326_2)).heap[gb322]? = some (.cells #[.slice (some ad326) l0_0.length c0_0, .slice A0_1 l0_1.length c0_1] 31 (0, 0))) := ⟨by refine tK ?_; refine blk_far ?_ NB322_327.out _; refine tK ?_; refine blk_far ?_ NB322_327.out _; refine tK ?_; refine blk_far ?_ NB322_327.out _; refine tK ?_; exact BK322.out⟩
    have n2_ : Aside0 ((((w46.setCell ⟨gb327, 0, none⟩ (.int .i64 ((rd_T51 l0_0 x27_2).f0))).setCell ⟨gb327, 1, none⟩ (.int .i64 ((rd_T51 l0_0 x27_2).f1))).setCell ⟨gb327, 2, none⟩ (.slice A326_2 ((rd_T51 l0_0 x27_2).f2).length c326_2)).heap[gb327]? = some (.cells #[.int .i64 ((rd_T51 l0_0 x27_2).f0), .int .i64 ((rd_T51 l0_0 x27_2).f1), .slice A326_2 ((rd_T51 l0_0 x27_2).f2).length c326_2] 51 (0, 0))) := ⟨by refine tK ?_; refine blk_put (cs := #[.int .i64 ((rd_T51 l0_0 x27_2).f0), .int .i64 ((rd_T51 l0_0 x27_2).f1), .slice none 0 0]) ?_ 2 _ rfl; refine tK ?_; refine blk_put (cs := #[.int .i64 ((rd_T51 l0_0 x27_2).f0), .int .i64 0, .slice none 0 0]) ?_ 1 _ rfl; refine tK ?_; refine blk_put (cs := #[.int .i64 0, .int .i64 0, .slice none 0 0]) ?_ 0 _ rfl; refine tK ?_; exact BK327.out⟩
    have n3_ : Aside0 (Below w.heap.size w (((w46.setCell ⟨gb327, 0, none⟩ (.int .i64 ((rd_T51 l0_0 x27_2).f0))).setCell ⟨gb327, 1, none⟩ (.int .i64 ((rd_T51 l0_0 x27_2).f1))).setCell ⟨gb327, 2, none⟩ (.slice A326_2 ((rd_T51 l0_0 x27_2).f2).length c326_2))) := ⟨tB2 HB.out GE322.out GE327.out⟩
    generalize (((w46.setCell ⟨gb327, 0, none⟩ (.int .i64 ((rd_T51 l0_0 x27_2).f0))).setCell ⟨gb327, 1, none⟩ (.int .i64 ((rd_T51 l0_0 x27_2).f1))).setCell ⟨gb327, 2, none⟩ (.slice A326_2 ((rd_T51 l0_0 x27_2).f2).length c326_2)) = w49 at n0_ n1_ n2_ n3_ ⊢
    have HO_5 := n0_
    have BK322 := n1_
    have BK327 := n2_
    have HB := n3_
    clear n0_ n1_ n2_ n3_
    replace HO_5 := aK (Kd.S_drew HO_5.out)
    replace BK322 := aK (blk_drew BK322.out)
    replace BK327 := aK (blk_drew BK327.out)
    replace HB := aK (below_drew1 HB.out)
    have p328 : 0 ≤ (x27_2 : Int) := tD
    have q328 : x27_2 < (l1.length : Int) := tD
    obtain ⟨ad328, A328_2, c328_2, e328, hx328_0, hx328_1, hx328_2, hl328_2, hi328_2⟩ := at_T104 HR1.out x27_2 p328 q328
    have hw328_2 := hx328_2
    have hw328_1 := hx328_1
    have hw328_0 := hx328_0
    cases e328
    replace hx328_0 := cB HB.out hx328_0
    replace hx328_1 := cB HB.out hx328_1
    replace hx328_2 := cB HB.out hx328_2
    have HR328_2 := aK hi328_2
    have HC328_2 := aK hl328_2
    clear hi328_2 hl328_2
    replace p328 := eq_true p328
    replace q328 := eq_true q328
    refine start_ (n := 42) (S := fun w' => w'.cell? ⟨gb327, 0, none⟩ = some (.int .i64 ((rd_T51 l0_0 x27_2).f0)) ∧ w'.cell? ⟨gb327, 1, none⟩ = some (.int .i64 ((rd_T51 l0_0 x27_2).f1)) ∧ w'.cell? ⟨gb327, 2, none⟩ = some (.slice A326_2 ((rd_T51 l0_0 x27_2).f2).length c326_2) ∧ w'.cell? (ad328.add ((x27_2).toNat * 3)) = some (.int .i64 ((rd_T104 l1 x27_2).f0)) ∧ w'.cell? ⟨(ad328.add ((x27_2).toNat * 3)).block, (ad328.add ((x27_2).toNat * 3)).off + 1, none⟩ = some (.int .i64 ((rd_T104 l1 x27_2).f1)) ∧ w'.cell? ⟨(ad328.add ((x27_2).toNat * 3)).block, (ad328.add ((x27_2).toNat * 3)).off + 2, none⟩ = some (.slice A328_2 ((rd_T104 l1 x27_2).f2).length c328_2)) (ds := []) #[F_, F_, F_, F_, F_, F_, F_, F_, F_, F_, F_, F_, F_, F_, F_, F_, F_, F_, F_, F_, F_, F_, F_, F_, F_, F_, F_, F_, F_, F_, F_, F_, F_, F_, F_, F_, F_, F_, F_, F_, F_, F_] (by kernel_rfl) rfl rfl ⟨(blk_cell BK327.out 0).trans rfl, (blk_cell BK327.out 1).trans rfl, (blk_cell BK327.out 2).trans rfl, (cB HB.out hw328_0), (cB HB.out hw328_1), (cB HB.out hw328_2)⟩ (fun hHeld => ?_); refine with_tabW ontimelaw24_is.tab7 ontimelaw24_is.bits7 (fun HT_ HW_ => ?_)
    generalize w49.drew = w50 at HO_5 BK322 BK327 HB HR328_2 hx328_0 hx328_1 hx328_2 hHeld ⊢
    refine pure_ (i := 0) (N := some 32) (v := ?_) (a' := ?_) #[T_, F_, F_, F_, F_, F_, F_, F_, F_, F_, F_, F_, F_, F_, F_, F_, F_, F_, F_, F_, F_, F_, F_, F_, F_, F_, F_, F_, F_, F_, F_, F_, F_, F_, F_, F_, F_, F_, F_, F_, F_, F_] rfl rfl (any_of HT_.out (by kernel_rfl)) (fun _ _ _ h => h) (Or.inl ⟨by rfl, ?_⟩) ?_ ?_
    rotate_left
    ·intro w'
     go_simp
     with_reducible rfl
    rotate_left
    ·simp only [Act.put, pA, pB, pC, i64_w, i32_w]
     rfl
    refine pure_ (i := 2) (N := some 34) (v := ?_) (a' := ?_) #[T_, F_, T_, F_, F_, F_, F_, F_, F_, F_, F_, F_, F_, F_, F_, F_, F_, F_, F_, F_, F_, F_, F_, F_, F_, F_, F_, F_, F_, F_, F_, F_, F_, F_, F_, F_, F_, F_, F_, F_, F_, F_] rfl rfl (any_of HT_.out (by kernel_rfl)) (fun _ _ _ h => h) (Or.inl ⟨by rfl, ?_⟩) ?_ ?_
    rotate_left
    ·intro w'
     go_simp
     with_reducible rfl
    rotate_left
    ·simp only [Act.put, pA, pB, pC, i64_w, i32_w]
     rfl
    refine pure_ (i := 3) (N := some 35) (v := ?_) (a' := ?_) #[T_, F_, T_, T_, F_, F_, F_, F_, F_, F_, F_, F_, F_, F_, F_, F_, F_, F_, F_, F_, F_, F_, F_, F_, F_, F_, F_, F_, F_, F_, F_, F_, F_, F_, F_, F_, F_, F_, F_, F_, F_, F_] rfl rfl (any_of HT_.out (by kernel_rfl)) (fun _ _ _ h => h) (Or.inl ⟨by rfl, ?_⟩) ?_ ?_
    rotate_left
    ·intro w'
     go_simp
     with_reducible rfl
    rotate_left
    ·simp only [Act.put, pA, pB, pC, i64_w, i32_w]
     rfl
    refine pure_ (i := 4) (N := some 36) (v := ?_) (a' := ?_) #[T_, F_, T_, T_, T_, F_, F_, F_, F_, F_, F_, F_, F_, F_, F_, F_, F_, F_, F_, F_, F_, F_, F_, F_, F_, F_, F_, F_, F_, F_, F_, F_, F_, F_, F_, F_, F_, F_, F_, F_, F_, F_] rfl rfl (any_of HT_.out (by kernel_rfl)) (fun _ _ _ h => h) (Or.inl ⟨by rfl, ?_⟩) ?_ ?_
    rotate_left
    ·intro w'
     go_simp
     with_reducible rfl
    rotate_left
    ·simp only [Act.put, pA, pB, pC, i64_w, i32_w]
     rfl
    refine pure_ (i := 5) (N := some 37) (v := ?_) (a' := ?_) #[T_, F_, T_, T_, T_, T_, F_, F_, F_, F_, F_, F_, F_, F_, F_, F_, F_, F_, F_, F_, F_, F_, F_, F_, F_, F_, F_, F_, F_, F_, F_, F_, F_, F_, F_, F_, F_, F_, F_, F_, F_, F_] rfl rfl (any_of HT_.out (by kernel_rfl)) (fun _ _ _ h => h) (Or.inl ⟨by rfl, ?_⟩) ?_ ?_
    rotate_left
    ·intro w'
     go_simp
     with_reducible rfl
    rotate_left
    ·simp only [Act.put, pA, pB, pC, i64_w, i32_w]
     rfl
    refine take_ (i := 1) (N := some 33) (v := ?_) (a' := ?_) #[T_, T_, T_, T_, T_, T_, F_, F_, F_, F_, F_, F_, F_, F_, F_, F_, F_, F_, F_, F_, F_, F_, F_, F_, F_, F_, F_, F_, F_, F_, F_, F_, F_, F_, F_, F_, F_, F_, F_, F_, F_, F_] rfl rfl (take_ofW HT_.out HW_.out (by kernel_rfl)) (fun _ _ _ h => h) (Or.inl ⟨by rfl, ?_⟩) hHeld ?_ ?_
    rotate_left
    ·rintro w' ⟨s0, s1, s2, s3, s4, s5⟩
     go_simp
     with_reducible rfl
    rotate_left
    ·simp only [Act.put, pA, pB, pC, i64_w, i32_w]
     rfl
    refine take_ (i := 6) (N := some 38) (v := ?_) (a' := ?_) #[T_, T_, T_, T_, T_, T_, T_, F_, F_, F_, F_, F_, F_, F_, F_, F_, F_, F_, F_, F_, F_, F_, F_, F_, F_, F_, F_, F_, F_, F_, F_, F_, F_, F_, F_, F_, F_, F_, F_, F_, F_, F_] rfl rfl (take_ofW HT_.out HW_.out (by kernel_rfl)) (fun _ _ _ h => h) (Or.inl ⟨by rfl, ?_⟩) hHeld ?_ ?_
    rotate_left
    ·rintro w' ⟨s0, s1, s2, s3, s4, s5⟩
     go_simp
     with_reducible rfl
    rotate_left
    ·simp only [Act.put, pA, pB, pC, i64_w, i32_w]
     rfl
    refine pure_ (i := 7) (N := some 39) (v := ?_) (a' := ?_) #[T_, T_, T_, T_, T_, T_, T_, T_, F_, F_, F_, F_, F_, F_, F_, F_, F_, F_, F_, F_, F_, F_, F_, F_, F_, F_, F_, F_, F_, F_, F_, F_, F_, F_, F_, F_, F_, F_, F_, F_, F_, F_] rfl rfl (any_of HT_.out (by kernel_rfl)) (fun _ _ _ h => h) (Or.inl ⟨by rfl, ?_⟩) ?_ ?_
    rotate_left
    ·intro w'
     go_simp
     with_reducible rfl
    rotate_left
    ·simp only [Act.put, pA, pB, pC, i64_w, i32_w]
     rfl
    refine pure_ (i := 8) (N := some 40) (v := ?_) (a' := ?_) #[T_, T_, T_, T_, T_, T_, T_, T_, T_, F_, F_, F_, F_, F_, F_, F_, F_, F_, F_, F_, F_, F_, F_, F_, F_, F_, F_, F_, F_, F_, F_, F_, F_, F_, F_, F_, F_, F_, F_, F_, F_, F_] rfl rfl (any_of HT_.out (by kernel_rfl)) (fun _ _ _ h => h) (Or.inl ⟨by rfl, ?_⟩) ?_ ?_
    rotate_left
    ·intro w'
     go_simp
     with_reducible rfl
    rotate_left
    ·simp only [Act.put, pA, pB, pC, i64_w, i32_w]
     rfl
    refine pure_ (i := 9) (N := some 41) (v := undef) (a' := ?_) #[T_, T_, T_, T_, T_, T_, T_, T_, T_, T_, F_, F_, F_, F_, F_, F_, F_, F_, F_, F_, F_, F_, F_, F_, F_, F_, F_, F_, F_, F_, F_, F_, F_, F_, F_, F_, F_, F_, F_, F_, F_, F_] rfl rfl (any_of HT_.out (by kernel_rfl)) (fun _ _ _ h => h) (Or.inr ⟨by rfl, rfl⟩) ?_ ?_
    rotate_left
    ·simp only [Act.put, pA, pB, pC, i64_w, i32_w]
     rfl
    refine pure_ (i := 10) (N := some 42) (v := undef) (a' := ?_) #[T_, T_, T_, T_, T_, T_, T_, T_, T_, T_, T_, F_, F_, F_, F_, F_, F_, F_, F_, F_, F_, F_, F_, F_, F_, F_, F_, F_, F_, F_, F_, F_, F_, F_, F_, F_, F_, F_, F_, F_, F_, F_] rfl rfl (any_of HT_.out (by kernel_rfl)) (fun _ _ _ h => h) (Or.inr ⟨by rfl, rfl⟩) ?_ ?_
    rotate_left
    ·simp only [Act.put, pA, pB, pC, i64_w, i32_w]
     rfl
    refine pure_ (i := 11) (N := some 43) (v := undef) (a' := ?_) #[T_, T_, T_, T_, T_, T_, T_, T_, T_, T_, T_, T_, F_, F_, F_, F_, F_, F_, F_, F_, F_, F_, F_, F_, F_, F_, F_, F_, F_, F_, F_, F_, F_, F_, F_, F_, F_, F_, F_, F_, F_, F_] rfl rfl (any_of HT_.out (by kernel_rfl)) (fun _ _ _ h => h) (Or.inr ⟨by rfl, rfl⟩) ?_ ?_
    rotate_left
    ·simp only [Act.put, pA, pB, pC, i64_w, i32_w]
     rfl
    refine pure_ (i := 12) (N := some 44) (v := undef) (a' := ?_) #[T_, T_, T_, T_, T_, T_, T_, T_, T_, T_, T_, T_, T_, F_, F_, F_, F_, F_, F_, F_, F_, F_, F_, F_, F_, F_, F_, F_, F_, F_, F_, F_, F_, F_, F_, F_, F_, F_, F_, F_, F_, F_] rfl rfl (any_of HT_.out (by kernel_rfl)) (fun _ _ _ h => h) (Or.inr ⟨by rfl, rfl⟩) ?_ ?_
    rotate_left
    ·simp only [Act.put, pA, pB, pC, i64_w, i32_w]
     rfl
    refine pure_ (i := 13) (N := some 45) (v := undef) (a' := ?_) #[T_, T_, T_, T_, T_, T_, T_, T_, T_, T_, T_, T_, T_, T_, F_, F_, F_, F_, F_, F_, F_, F_, F_, F_, F_, F_, F_, F_, F_, F_, F_, F_, F_, F_, F_, F_, F_, F_, F_, F_, F_, F_] rfl rfl (any_of HT_.out (by kernel_rfl)) (fun _ _ _ h => h) (Or.inr ⟨by rfl, rfl⟩) ?_ ?_
    rotate_left
    ·simp only [Act.put, pA, pB, pC, i64_w, i32_w]
     rfl
    refine pure_ (i := 14) (N := some 46) (v := undef) (a' := ?_) #[T_, T_, T_, T_, T_, T_, T_, T_, T_, T_, T_, T_, T_, T_, T_, F_, F_, F_, F_, F_, F_, F_, F_, F_, F_, F_, F_, F_, F_, F_, F_, F_, F_, F_, F_, F_, F_, F_, F_, F_, F_, F_] rfl rfl (any_of HT_.out (by kernel_rfl)) (fun _ _ _ h => h) (Or.inr ⟨by rfl, rfl⟩) ?_ ?_
    rotate_left
    ·simp only [Act.put, pA, pB, pC, i64_w, i32_w]
     rfl
    refine pure_ (i := 15) (N := some 47) (v := undef) (a' := ?_) #[T_, T_, T_, T_, T_, T_, T_, T_, T_, T_, T_, T_, T_, T_, T_, T_, F_, F_, F_, F_, F_, F_, F_, F_, F_, F_, F_, F_, F_, F_, F_, F_, F_, F_, F_, F_, F_, F_, F_, F_, F_, F_] rfl rfl (any_of HT_.out (by kernel_rfl)) (fun _ _ _ h => h) (Or.inr ⟨by rfl, rfl⟩) ?_ ?_
    rotate_left
    ·simp only [Act.put, pA, pB, pC, i64_w, i32_w]
     rfl
    refine pure_ (i := 16) (N := some 48) (v := undef) (a' := ?_) #[T_, T_, T_, T_, T_, T_, T_, T_, T_, T_, T_, T_, T_, T_, T_, T_, T_, F_, F_, F_, F_, F_, F_, F_, F_, F_, F_, F_, F_, F_, F_, F_, F_, F_, F_, F_, F_, F_, F_, F_, F_, F_] rfl rfl (any_of HT_.out (by kernel_rfl)) (fun _ _ _ h => h) (Or.inr ⟨by rfl, rfl⟩) ?_ ?_
    rotate_left
    ·simp only [Act.put, pA, pB, pC, i64_w, i32_w]
     rfl
    refine pure_ (i := 17) (N := some 49) (v := ?_) (a' := ?_) #[T_, T_, T_, T_, T_, T_, T_, T_, T_, T_, T_, T_, T_, T_, T_, T_, T_, T_, F_, F_, F_, F_, F_, F_, F_, F_, F_, F_, F_, F_, F_, F_, F_, F_, F_, F_, F_, F_, F_, F_, F_, F_] rfl rfl (any_of HT_.out (by kernel_rfl)) (fun _ _ _ h => h) (Or.inl ⟨by rfl, ?_⟩) ?_ ?_
    rotate_left
    ·intro w'
     go_simp
     with_reducible rfl
    rotate_left
    ·simp only [Act.put, pA, pB, pC, i64_w, i32_w]
     rfl
    refine pure_ (i := 18) (N := some 50) (v := ?_) (a' := ?_) #[T_, T_, T_, T_, T_, T_, T_, T_, T_, T_, T_, T_, T_, T_, T_, T_, T_, T_, T_, F_, F_, F_, F_, F_, F_, F_, F_, F_, F_, F_, F_, F_, F_, F_, F_, F_, F_, F_, F_, F_, F_, F_] rfl rfl (any_of HT_.out (by kernel_rfl)) (fun _ _ _ h => h) (Or.inl ⟨by rfl, ?_⟩) ?_ ?_
    rotate_left
    ·intro w'
     go_simp
     with_reducible rfl
    rotate_left
    ·simp only [Act.put, pA, pB, pC, i64_w, i32_w]
     rfl
    refine pure_ (i := 19) (N := some 51) (v := undef) (a' := ?_) #[T_, T_, T_, T_, T_, T_, T_, T_, T_, T_, T_, T_, T_, T_, T_, T_, T_, T_, T_, T_, F_, F_, F_, F_, F_, F_, F_, F_, F_, F_, F_, F_, F_, F_, F_, F_, F_, F_, F_, F_, F_, F_] rfl rfl (any_of HT_.out (by kernel_rfl)) (fun _ _ _ h => h) (Or.inr ⟨by rfl, rfl⟩) ?_ ?_
    rotate_left
    ·simp only [Act.put, pA, pB, pC, i64_w, i32_w]
     rfl
    refine pure_ (i := 20) (N := some 52) (v := undef) (a' := ?_) #[T_, T_, T_, T_, T_, T_, T_, T_, T_, T_, T_, T_, T_, T_, T_, T_, T_, T_, T_, T_, T_, F_, F_, F_, F_, F_, F_, F_, F_, F_, F_, F_, F_, F_, F_, F_, F_, F_, F_, F_, F_, F_] rfl rfl (any_of HT_.out (by kernel_rfl)) (fun _ _ _ h => h) (Or.inr ⟨by rfl, rfl⟩) ?_ ?_
    rotate_left
    ·simp only [Act.put, pA, pB, pC, i64_w, i32_w]
     rfl
    refine pure_ (i := 21) (N := some 53) (v := undef) (a' := ?_) #[T_, T_, T_, T_, T_, T_, T_, T_, T_, T_, T_, T_, T_, T_, T_, T_, T_, T_, T_, T_, T_, T_, F_, F_, F_, F_, F_, F_, F_, F_, F_, F_, F_, F_, F_, F_, F_, F_, F_, F_, F_, F_] rfl rfl (any_of HT_.out (by kernel_rfl)) (fun _ _ _ h => h) (Or.inr ⟨by rfl, rfl⟩) ?_ ?_
    rotate_left
    ·simp only [Act.put, pA, pB, pC, i64_w, i32_w]
     rfl
    refine pure_ (i := 22) (N := some 54) (v := undef) (a' := ?_) #[T_, T_, T_, T_, T_, T_, T_, T_, T_, T_, T_, T_, T_, T_, T_, T_, T_, T_, T_, T_, T_, T_, T_, F_, F_, F_, F_, F_, F_, F_, F_, F_, F_, F_, F_, F_, F_, F_, F_, F_, F_, F_] rfl rfl (any_of HT_.out (by kernel_rfl)) (fun _ _ _ h => h) (Or.inr ⟨by rfl, rfl⟩) ?_ ?_
    rotate_left
    ·simp only [Act.put, pA, pB, pC, i64_w, i32_w]
     rfl
    refine pure_ (i := 23) (N := some 55) (v := undef) (a' := ?_) #[T_, T_, T_, T_, T_, T_, T_, T_, T_, T_, T_, T_, T_, T_, T_, T_, T_, T_, T_, T_, T_, T_, T_, T_, F_, F_, F_, F_, F_, F_, F_, F_, F_, F_, F_, F_, F_, F_, F_, F_, F_, F_] rfl rfl (any_of HT_.out (by kernel_rfl)) (fun _ _ _ h => h) (Or.inr ⟨by rfl, rfl⟩) ?_ ?_
    rotate_left
    ·simp only [Act.put, pA, pB, pC, i64_w, i32_w]
     rfl
    refine pure_ (i := 24) (N := some 56) (v := undef) (a' := ?_) #[T_, T_, T_, T_, T_, T_, T_, T_, T_, T_, T_, T_, T_, T_, T_, T_, T_, T_, T_, T_, T_, T_, T_, T_, T_, F_, F_, F_, F_, F_, F_, F_, F_, F_, F_, F_, F_, F_, F_, F_, F_, F_] rfl rfl (any_of HT_.out (by kernel_rfl)) (fun _ _ _ h => h) (Or.inr ⟨by rfl, rfl⟩) ?_ ?_
    rotate_left
    ·simp only [Act.put, pA, pB, pC, i64_w, i32_w]
     rfl
    refine pure_ (i := 25) (N := some 57) (v := undef) (a' := ?_) #[T_, T_, T_, T_, T_, T_, T_, T_, T_, T_, T_, T_, T_, T_, T_, T_, T_, T_, T_, T_, T_, T_, T_, T_, T_, T_, F_, F_, F_, F_, F_, F_, F_, F_, F_, F_, F_, F_, F_, F_, F_, F_] rfl rfl (any_of HT_.out (by kernel_rfl)) (fun _ _ _ h => h) (Or.inr ⟨by rfl, rfl⟩) ?_ ?_
    rotate_left
    ·simp only [Act.put, pA, pB, pC, i64_w, i32_w]
     rfl
    refine pure_ (i := 26) (N := some 58) (v := undef) (a' := ?_) #[T_, T_, T_, T_, T_, T_, T_, T_, T_, T_, T_, T_, T_, T_, T_, T_, T_, T_, T_, T_, T_, T_, T_, T_, T_, T_, T_, F_, F_, F_, F_, F_, F_, F_, F_, F_, F_, F_, F_, F_, F_, F_] rfl rfl (any_of HT_.out (by kernel_rfl)) (fun _ _ _ h => h) (Or.inr ⟨by rfl, rfl⟩) ?_ ?_
    rotate_left
    ·simp only [Act.put, pA, pB, pC, i64_w, i32_w]
     rfl
    refine pure_ (i := 27) (N := some 59) (v := undef) (a' := ?_) #[T_, T_, T_, T_, T_, T_, T_, T_, T_, T_, T_, T_, T_, T_, T_, T_, T_, T_, T_, T_, T_, T_, T_, T_, T_, T_, T_, T_, F_, F_, F_, F_, F_, F_, F_, F_, F_, F_, F_, F_, F_, F_] rfl rfl (any_of HT_.out (by kernel_rfl)) (fun _ _ _ h => h) (Or.inr ⟨by rfl, rfl⟩) ?_ ?_
    rotate_left
    ·simp only [Act.put, pA, pB, pC, i64_w, i32_w]
     rfl
    refine pure_ (i := 28) (N := some 60) (v := ?_) (a' := ?_) #[T_, T_, T_, T_, T_, T_, T_, T_, T_, T_, T_, T_, T_, T_, T_, T_, T_, T_, T_, T_, T_, T_, T_, T_, T_, T_, T_, T_, T_, F_, F_, F_, F_, F_, F_, F_, F_, F_, F_, F_, F_, F_] rfl rfl (any_of HT_.out (by kernel_rfl)) (fun _ _ _ h => h) (Or.inl ⟨by rfl, ?_⟩) ?_ ?_
    rotate_left
    ·intro w'
     go_simp
     with_reducible rfl
    rotate_left
    ·simp only [Act.put, pA, pB, pC, i64_w, i32_w]
     rfl
    refine pure_ (i := 29) (N := some 61) (v := ?_) (a' := ?_) #[T_, T_, T_, T_, T_, T_, T_, T_, T_, T_, T_, T_, T_, T_, T_, T_, T_, T_, T_, T_, T_, T_, T_, T_, T_, T_, T_, T_, T_, T_, F_, F_, F_, F_, F_, F_, F_, F_, F_, F_, F_, F_] rfl rfl (any_of HT_.out (by kernel_rfl)) (fun _ _ _ h => h) (Or.inl ⟨by rfl, ?_⟩) ?_ ?_
    rotate_left
    ·intro w'
     go_simp
     with_reducible rfl
    rotate_left
    ·simp only [Act.put, pA, pB, pC, i64_w, i32_w]
     rfl
    refine pure_ (i := 30) (N := some 62) (v := undef) (a' := ?_) #[T_, T_, T_, T_, T_, T_, T_, T_, T_, T_, T_, T_, T_, T_, T_, T_, T_, T_, T_, T_, T_, T_, T_, T_, T_, T_, T_, T_, T_, T_, T_, F_, F_, F_, F_, F_, F_, F_, F_, F_, F_, F_] rfl rfl (any_of HT_.out (by kernel_rfl)) (fun _ _ _ h => h) (Or.inr ⟨by rfl, rfl⟩) ?_ ?_
    rotate_left
    ·simp only [Act.put, pA, pB, pC, i64_w, i32_w]
     rfl
    refine pure_ (i := 31) (N := some 63) (v := undef) (a' := ?_) #[T_, T_, T_, T_, T_, T_, T_, T_, T_, T_, T_, T_, T_, T_, T_, T_, T_, T_, T_, T_, T_, T_, T_, T_, T_, T_, T_, T_, T_, T_, T_, T_, F_, F_, F_, F_, F_, F_, F_, F_, F_, F_] rfl rfl (any_of HT_.out (by kernel_rfl)) (fun _ _ _ h => h) (Or.inr ⟨by rfl, rfl⟩) ?_ ?_
    rotate_left
    ·simp only [Act.put, pA, pB, pC, i64_w, i32_w]
     rfl
    refine pure_ (i := 32) (N := some 64) (v := undef) (a' := ?_) #[T_, T_, T_, T_, T_, T_, T_, T_, T_, T_, T_, T_, T_, T_, T_, T_, T_, T_, T_, T_, T_, T_, T_, T_, T_, T_, T_, T_, T_, T_, T_, T_, T_, F_, F_, F_, F_, F_, F_, F_, F_, F_] rfl rfl (any_of HT_.out (by kernel_rfl)) (fun _ _ _ h => h) (Or.inr ⟨by rfl, rfl⟩) ?_ ?_
    rotate_left
    ·simp only [Act.put, pA, pB, pC, i64_w, i32_w]
     rfl
    refine pure_ (i := 33) (N := some 65) (v := undef) (a' := ?_) #[T_, T_, T_, T_, T_, T_, T_, T_, T_, T_, T_, T_, T_, T_, T_, T_, T_, T_, T_, T_, T_, T_, T_, T_, T_, T_, T_, T_, T_, T_, T_, T_, T_, T_, F_, F_, F_, F_, F_, F_, F_, F_] rfl rfl (any_of HT_.out (by kernel_rfl)) (fun _ _ _ h => h) (Or.inr ⟨by rfl, rfl⟩) ?_ ?_
    rotate_left
    ·simp only [Act.put, pA, pB, pC, i64_w, i32_w]
     rfl
    refine pure_ (i := 34) (N := some 66) (v := undef) (a' := ?_) #[T_, T_, T_, T_, T_, T_, T_, T_, T_, T_, T_, T_, T_, T_, T_, T_, T_, T_, T_, T_, T_, T_, T_, T_, T_, T_, T_, T_, T_, T_, T_, T_, T_, T_, T_, F_, F_, F_, F_, F_, F_, F_] rfl rfl (any_of HT_.out (by kernel_rfl)) (fun _ _ _ h => h) (Or.inr ⟨by rfl, rfl⟩) ?_ ?_
    rotate_left
    ·simp only [Act.put, pA, pB, pC, i64_w, i32_w]
     rfl
    refine pure_ (i := 35) (N := some 67) (v := undef) (a' := ?_) #[T_, T_, T_, T_, T_, T_, T_, T_, T_, T_, T_, T_, T_, T_, T_, T_, T_, T_, T_, T_, T_, T_, T_, T_, T_, T_, T_, T_, T_, T_, T_, T_, T_, T_, T_, T_, F_, F_, F_, F_, F_, F_] rfl rfl (any_of HT_.out (by kernel_rfl)) (fun _ _ _ h => h) (Or.inr ⟨by rfl, rfl⟩) ?_ ?_
    rotate_left
    ·simp only [Act.put, pA, pB, pC, i64_w, i32_w]
     rfl
    refine pure_ (i := 36) (N := some 68) (v := undef) (a' := ?_) #[T_, T_, T_, T_, T_, T_, T_, T_, T_, T_, T_, T_, T_, T_, T_, T_, T_, T_, T_, T_, T_, T_, T_, T_, T_, T_, T_, T_, T_, T_, T_, T_, T_, T_, T_, T_, T_, F_, F_, F_, F_, F_] rfl rfl (any_of HT_.out (by kernel_rfl)) (fun _ _ _ h => h) (Or.inr ⟨by rfl, rfl⟩) ?_ ?_
    rotate_left
    ·simp only [Act.put, pA, pB, pC, i64_w, i32_w]
     rfl
    refine pure_ (i := 37) (N := some 69) (v := undef) (a' := ?_) #[T_, T_, T_, T_, T_, T_, T_, T_, T_, T_, T_, T_, T_, T_, T_, T_, T_, T_, T_, T_, T_, T_, T_, T_, T_, T_, T_, T_, T_, T_, T_, T_, T_, T_, T_, T_, T_, T_, F_, F_, F_, F_] rfl rfl (any_of HT_.out (by kernel_rfl)) (fun _ _ _ h => h) (Or.inr ⟨by rfl, rfl⟩) ?_ ?_
    rotate_left
    ·simp only [Act.put, pA, pB, pC, i64_w, i32_w]
     rfl
    refine pure_ (i := 38) (N := some 70) (v := undef) (a' := ?_) #[T_, T_, T_, T_, T_, T_, T_, T_, T_, T_, T_, T_, T_, T_, T_, T_, T_, T_, T_, T_, T_, T_, T_, T_, T_, T_, T_, T_, T_, T_, T_, T_, T_, T_, T_, T_, T_, T_, T_, F_, F_, F_] rfl rfl (any_of HT_.out (by kernel_rfl)) (fun _ _ _ h => h) (Or.inr ⟨by rfl, rfl⟩) ?_ ?_
    rotate_left
    ·simp only [Act.put, pA, pB, pC, i64_w, i32_w]
     rfl
    refine pure_ (i := 39) (N := some 71) (v := undef) (a' := ?_) #[T_, T_, T_, T_, T_, T_, T_, T_, T_, T_, T_, T_, T_, T_, T_, T_, T_, T_, T_, T_, T_, T_, T_, T_, T_, T_, T_, T_, T_, T_, T_, T_, T_, T_, T_, T_, T_, T_, T_, T_, F_, F_] rfl rfl (any_of HT_.out (by kernel_rfl)) (fun _ _ _ h => h) (Or.inr ⟨by rfl, rfl⟩) ?_ ?_
    rotate_left
    ·simp only [Act.put, pA, pB, pC, i64_w, i32_w]
     rfl
    refine pure_ (i := 40) (N := some 72) (v := undef) (a' := ?_) #[T_, T_, T_, T_, T_, T_, T_, T_, T_, T_, T_, T_, T_, T_, T_, T_, T_, T_, T_, T_, T_, T_, T_, T_, T_, T_, T_, T_, T_, T_, T_, T_, T_, T_, T_, T_, T_, T_, T_, T_, T_, F_] rfl rfl (any_of HT_.out (by kernel_rfl)) (fun _ _ _ h => h) (Or.inr ⟨by rfl, rfl⟩) ?_ ?_
    rotate_left
    ·simp only [Act.put, pA, pB, pC, i64_w, i32_w]
     rfl
    refine pure_ (i := 41) (N := some 73) (v := ?_) (a' := ?_) #[T_, T_, T_, T_, T_, T_, T_, T_, T_, T_, T_, T_, T_, T_, T_, T_, T_, T_, T_, T_, T_, T_, T_, T_, T_, T_, T_, T_, T_, T_, T_, T_, T_, T_, T_, T_, T_, T_, T_, T_, T_, T_] rfl rfl (any_of HT_.out (by kernel_rfl)) (fun _ _ _ h => h) (Or.inl ⟨by rfl, ?_⟩) ?_ ?_
    rotate_left
    ·intro w'
     go_simp
     with_reducible rfl
    rotate_left
    ·simp only [Act.put, pA, pB, pC, i64_w, i32_w]
     rfl
    refine done_ (done_of HT_.out (by kernel_rfl)) ?_
    try go_wp2
    go_ret
    exact ⟨by first | rfl | (simp [errW_none, errW_some] <;> rfl) | (simp [*, errW_none, errW_some] <;> rfl), by repeat (first | (with_reducible first | exact HB.out | apply below_alloc | apply pw_below_drewN | apply below_drew1 | refine below_set ?_ GE322.out | refine below_set ?_ GE327.out) | exact HB.out)⟩
end Go.Proofs.Ytihmfdndiicjgaa.C
