import Derived.Test.YtihmfdndiicjgaaCx0
import Derived.Test.YtihmfdndiicjgaaZm
import Derived.Test.YtihmfdndiicjgaaCx3
import Derived.Test.YtihmfdndiicjgaaCx6
import Derived.Test.YtihmfdndiicjgaaCx9
import Derived.Test.YtihmfdndiicjgaaCx10
import Derived.Test.YtihmfdndiicjgaaCx12
import Derived.Test.YtihmfdndiicjgaaCx14
namespace Go.Proofs.Ytihmfdndiicjgaa.C
open Go.RowKit Go.Proofs.YtihmfdndiicjgaaW.PrintWords Go.Proofs.YtihmfdndiicjgaaW.PrintLast Go.Proofs.YtihmfdndiicjgaaW.PrintMore
attribute [local go_sem] max2_int min2_int max_two min_two max_three min_three max_four min_four   -- for this text's walks alone
set_option linter.unusedVariables false
set_option linter.unusedSimpArgs false
mutual
def ontimelaw24_CfgBuilds.j0 : Nat → Int → Int → Int → Bool → List Int → List (S39) → Int → Int → List (S51) → List (List Int) → Option (Bool)
 | 0, _, _, _, _, _, _, _, _, _, _ => none
 | k + 1, x1, x6, x7, x8, x387000, x387001, x387002, x387003, x398000, x398001 => (linker_Check.f k x387000 x387001 x387002 x387003).bind fun t398 => (if t398 = 0 then (if x1 < 0 then (ontimelaw24_CfgBuilds.j1 k x1 x6 x7 x8 true x387000 x387001 x387002 x387003 x398000 x398001) else (ontimelaw24_CfgBuilds.j1 k x1 x6 x7 x8 (decide (x1 ≥ (x387001.length : Int))) x387000 x387001 x387002 x387003 x398000 x398001)) else (if x8 = true then (if x6 = (-1) then (some (x7 == 3)) else (some false)) else (some false)))
def ontimelaw24_CfgBuilds.j1 : Nat → Int → Int → Int → Bool → Bool → List Int → List (S39) → Int → Int → List (S51) → List (List Int) → Option (Bool)
 | 0, _, _, _, _, _, _, _, _, _, _, _ => none
 | k + 1, x1, x6, x7, x8, x54, x387000, x387001, x387002, x387003, x398000, x398001 => if x54 = true then (if x8 = true then (if x6 = (-1) then (some (x7 == 2)) else (some false)) else (some false)) else ((ontimeref24_Code.f k x387000 x387001 x387002 x387003).bind fun t399 => (if 0 ≤ x1 then (if x1 < (x387001.length : Int) then ((ontimeref24_Leave.f k t399 ((rd_T39 x387001 x1).f1) ((rd_T39 x387001 x1).f2)).bind fun t404 => (if t404 ≥ 0 then (if x8 = true then (if x6 = t404 then (some (x7 == 10)) else (some false)) else (some false)) else (if x6 = (-1) then (if x7 = 0 then ((ontimeref24_Build.f k t399 ((rd_T39 x387001 x1).f1) ((rd_T39 x387001 x1).f2)).bind fun t405 => ((ontimelaw24_is.f k x398000 x398001 t405).bind fun t408 => (some t408))) else (some false)) else (some false)))) else (none)) else (none)))
end
def ontimelaw24_CfgBuilds.f (k : Nat) (l0_0 : List Int) (l0_1 : List (S39)) (a0_2 : Int) (a0_3 : Int) (a1 : Int) : Option (Bool) := (ontimelaw24_awake.f k).bind fun t387 => (if t387 = true then ((ontimelaw24_Great.f l0_0 l0_1 a0_2 a0_3).bind fun t388 => (if t388 = 1 then (some true) else ((cfg_Build.f k l0_0 l0_1 a0_2 a0_3 a1).bind fun bt389 => (if (bt389.1.length : Int) = 0 then (ontimelaw24_CfgBuilds.j0 k a1 bt389.2.2.1 bt389.2.2.2 ((bt389.2.1.length : Int) == 0) l0_0 l0_1 a0_2 a0_3 bt389.1 bt389.2.1) else (ontimelaw24_CfgBuilds.j0 k a1 bt389.2.2.1 bt389.2.2.2 false l0_0 l0_1 a0_2 a0_3 bt389.1 bt389.2.1))))) else (some false))
def ontimelaw24_CfgBuilds.T11 : Bool × List (List Nat × List Nat) := (true, [([], []), ([0], [0]), ([], []), ([2], [2]), ([], []), ([3, 4], [3, 4]), ([5], [5]), ([], []), ([1, 1, 0, 1, 7], [1]), ([7, 6, 8, 0, 1, 2, 3, 4, 5, 6, 7, 8], [6, 7])])
def ontimelaw24_CfgBuilds.B11 : List Nat := [0, 1, 0, 4, 0, 28, 60, 0, 131, 511]
theorem ontimelaw24_CfgBuilds.tab11 : rtab .any (opsOf Try.f3 11) = ontimelaw24_CfgBuilds.T11 := by kernel_rfl
theorem ontimelaw24_CfgBuilds.bits11 : waitsOk ontimelaw24_CfgBuilds.T11.2 ontimelaw24_CfgBuilds.B11 = true := by kernel_rfl
def ontimelaw24_CfgBuilds.T15 : Bool × List (List Nat × List Nat) := (true, [([], []), ([0], [0]), ([1], [1]), ([2], [2]), ([3, 2], [2, 3]), ([2, 4], [2, 4]), ([5, 2], [5]), ([6], [6]), ([6], [6]), ([6], [6]), ([9, 6], [6, 9]), ([6], [6]), ([11, 6], [6, 11]), ([8, 10, 12, 6, 6], [6, 8, 10, 12]), ([7, 13, 13, 6], [6, 7, 13]), ([6, 14], [6, 14]), ([15, 14, 0, 1, 2, 3, 4, 5, 6, 7, 8, 9, 10, 11, 12, 13, 14, 15], [15])])
def ontimelaw24_CfgBuilds.B15 : List Nat := [0, 1, 3, 7, 15, 31, 63, 127, 127, 127, 639, 127, 2175, 8063, 16383, 32767, 65535]
theorem ontimelaw24_CfgBuilds.tab15 : rtab .any (opsOf Try.f3 15) = ontimelaw24_CfgBuilds.T15 := by kernel_rfl
theorem ontimelaw24_CfgBuilds.bits15 : waitsOk ontimelaw24_CfgBuilds.T15.2 ontimelaw24_CfgBuilds.B15 = true := by kernel_rfl
set_option maxHeartbeats 8000000 in
set_option maxRecDepth 100000 in
theorem ontimelaw24_CfgBuilds.calls (k : Nat) (A0_0 : Option Addr) (c0_0 : Nat) (l0_0 : List Int) (A0_1 : Option Addr) (c0_1 : Nat) (l0_1 : List (S39)) (a0_2 : Int) (a0_3 : Int) (a1 : Int) (r : Bool) (w : World) (hr0_0 : Kd.C (Kd.int .u32) w A0_0 l0_0.length l0_0) (hc0_0 : l0_0.length ≤ c0_0) (hr0_1 : Kd.C k39 w A0_1 l0_1.length l0_1) (hc0_1 : l0_1.length ≤ c0_1) (h : ontimelaw24_CfgBuilds.f k l0_0 l0_1 a0_2 a0_3 a1 = some r) (hrt : r = true) :
  Calls Try.prog 3 #[.agg #[.slice A0_0 l0_0.length c0_0, .slice A0_1 l0_1.length c0_1, .int .i64 a0_2, .int .i64 a0_3], .int .i64 a1] w fun e w' => e = .returned (.bool r) ∧ Below w.heap.size w w' := by
 have HRT := aK hrt
 clear hrt
 have hu25 := Try.underlying25
 have hu31 := Try.underlying31
 have hu39 := Try.underlying39
 have HR0_0 := aK hr0_0
 have HC0_0 := aK hc0_0
 clear hr0_0 hc0_0
 have HR0_1 := aK hr0_1
 have HC0_1 := aK hc0_1
 clear hr0_1 hc0_1
 have HB := aK (Below.refl w.heap.size w)
 have H : ((ontimelaw24_awake.f k).bind fun t387 => (if t387 = true then ((ontimelaw24_Great.f l0_0 l0_1 a0_2 a0_3).bind fun t388 => (if t388 = 1 then (some true) else ((cfg_Build.f k l0_0 l0_1 a0_2 a0_3 a1).bind fun bt389 => (if (bt389.1.length : Int) = 0 then (ontimelaw24_CfgBuilds.j0 k a1 bt389.2.2.1 bt389.2.2.2 ((bt389.2.1.length : Int) == 0) l0_0 l0_1 a0_2 a0_3 bt389.1 bt389.2.1) else (ontimelaw24_CfgBuilds.j0 k a1 bt389.2.2.1 bt389.2.2.2 false l0_0 l0_1 a0_2 a0_3 bt389.1 bt389.2.1))))) else (some false))) = some r := h
 clear h
 replace H := bM H
 obtain ⟨t387, A30, H⟩ := H
 (try dsimp only at H)
 have A3 := aK A30
 clear A30
 by_cases c4 : t387 = true
 rotate_left
 ·replace c4 := Bool.eq_false_iff.mpr c4
  subst c4
  have H1 : (some false) = some r := by rw [if_neg (show ¬ (false = true) by decide)] at H; exact H
  exact absurd ((oI H1).trans HRT.out) (by decide)
 subst c4
 rw [if_pos rfl] at H
 replace H := bM H
 obtain ⟨t388, A50, H⟩ := H
 (try dsimp only at H)
 have A5 := aK A50
 clear A50
 by_cases c6 : t388 = 1
 ·rw [if_pos c6] at H
  have c6b0 : (t388 == 1) = true := beq_iff_eq.mpr c6
  have c6b1 : (t388 != 1) = false := bne_eq_false_iff_eq.mpr c6
  clear c6
  obtain rfl := oI H
  go_enter Try.func3, Try.ntmps3
  go_wp2_with (first | ((refine gate_dst (N := 2) rfl ?_); (try (refine gate_guard (by rfl) ?_; dsimp only)); refine box_event ?hg (N := 2) ?hd (cs := #[.slice A0_0 l0_0.length c0_0, .slice A0_1 l0_1.length c0_1, .int .i64 a0_2, .int .i64 a0_3]) (t := 25) ?hr ?_; (case hd => rfl); (case hg => rfl); (case hr => first | (go_simp; done) | (go_simp; rfl)); intro gb386 hg w7 hbox hb; have BK386 := aK (hbox); have GW386 := aK ((by rw [hg]; exact (below_size (tB0 HB.out)) : w.heap.size ≤ gb386)); have GE386 := GW386; replace HB := aK (below_step (tB0 HB.out) hb); clear hb hbox hg) | ((refine gate_callee (f := 10) rfl ?_); refine goesL_ (some 12) rfl rfl Try.func10 (by kernel_rfl) rfl #[] rfl tF ?_; (with_reducible refine (ontimelaw24_awake.calls k  true _ A3.out).mono ?_); rintro e w8 ⟨rfl, hb⟩; refine ⟨_, rfl, ?_⟩; replace BK386 := aK (blk_below (g := gb386) (tK BK386.out) hb); replace HB := aK (below_step (tB1 HB.out GE386.out) hb); have hcz9_0 := bc 0 BK386.out; have hcz9_1 := bc 1 BK386.out; have hcz9_2 := bc 2 BK386.out; have hcz9_3 := bc 3 BK386.out; have hfz9_0 := blk_frozen BK386.out 0; have hfz9_1 := blk_frozen BK386.out 1; have hfz9_2 := blk_frozen BK386.out 2; have hfz9_3 := blk_frozen BK386.out 3) | ((refine gate_callee (f := 11) rfl ?_); refine goesL_ (some 15) rfl rfl Try.func11 (by kernel_rfl) rfl #[.agg #[.slice A0_0 l0_0.length c0_0, .slice A0_1 l0_1.length c0_1, .int .i64 a0_2, .int .i64 a0_3]] rfl tF ?_; (with_reducible refine (ontimelaw24_Great.calls _ _ l0_0 _ _ l0_1 a0_2 a0_3 t388 _ ?side1 ?side2 ?side3 ?side4 A5.out).mono ?_); (case side1 => exact tC (Kd.C_below HR0_0.out HB.out)); (case side2 => exact HC0_0.out); (case side3 => exact tC (Kd.C_below HR0_1.out HB.out)); (case side4 => exact HC0_1.out); rintro e w10 ⟨rfl, hb⟩; refine ⟨_, rfl, ?_⟩; replace BK386 := aK (blk_below (g := gb386) (tK BK386.out) hb); replace HB := aK (below_step (tB1 HB.out GE386.out) hb)))
  go_ret
  exact ⟨by first | rfl | (simp [errW_none, errW_some] <;> rfl) | (simp [*, errW_none, errW_some] <;> rfl), by repeat (first | (with_reducible first | exact HB.out | apply below_alloc | apply pw_below_drewN | apply below_drew1 | refine below_set ?_ GE386.out) | exact HB.out)⟩
 as_aux_lemma =>
 rw [if_neg c6] at H
 have c6b0 : (t388 == 1) = false := beq_eq_false_iff_ne.mpr c6
 have c6b1 : (t388 != 1) = true := bne_iff_ne.mpr c6
 replace H := bM H
 obtain ⟨⟨t389, t392, t395, t396⟩, A110, H⟩ := H
 (try dsimp only at H)
 have A11 := aK A110
 clear A110
 have HC12 := aK H
 clear H
 go_enter Try.func3, Try.ntmps3
 go_upto_region 6 with (first | ((refine gate_dst (N := 2) rfl ?_); (try (refine gate_guard (by rfl) ?_; dsimp only)); refine box_event ?hg (N := 2) ?hd (cs := #[.slice A0_0 l0_0.length c0_0, .slice A0_1 l0_1.length c0_1, .int .i64 a0_2, .int .i64 a0_3]) (t := 25) ?hr ?_; (case hd => rfl); (case hg => rfl); (case hr => first | (go_simp; done) | (go_simp; rfl)); intro gb386 hg w13 hbox hb; have BK386 := aK (hbox); have GW386 := aK ((by rw [hg]; exact (below_size (tB0 HB.out)) : w.heap.size ≤ gb386)); have GE386 := GW386; replace HB := aK (below_step (tB0 HB.out) hb); clear hb hbox hg) | ((refine gate_callee (f := 10) rfl ?_); refine goesL_ (some 12) rfl rfl Try.func10 (by kernel_rfl) rfl #[] rfl tF ?_; (with_reducible refine (ontimelaw24_awake.calls k  true _ A3.out).mono ?_); rintro e w14 ⟨rfl, hb⟩; refine ⟨_, rfl, ?_⟩; replace BK386 := aK (blk_below (g := gb386) (tK BK386.out) hb); replace HB := aK (below_step (tB1 HB.out GE386.out) hb); have hcz15_0 := bc 0 BK386.out; have hcz15_1 := bc 1 BK386.out; have hcz15_2 := bc 2 BK386.out; have hcz15_3 := bc 3 BK386.out; have hfz15_0 := blk_frozen BK386.out 0; have hfz15_1 := blk_frozen BK386.out 1; have hfz15_2 := blk_frozen BK386.out 2; have hfz15_3 := blk_frozen BK386.out 3) | ((refine gate_callee (f := 11) rfl ?_); refine goesL_ (some 15) rfl rfl Try.func11 (by kernel_rfl) rfl #[.agg #[.slice A0_0 l0_0.length c0_0, .slice A0_1 l0_1.length c0_1, .int .i64 a0_2, .int .i64 a0_3]] rfl tF ?_; (with_reducible refine (ontimelaw24_Great.calls _ _ l0_0 _ _ l0_1 a0_2 a0_3 t388 _ ?side1 ?side2 ?side3 ?side4 A5.out).mono ?_); (case side1 => exact tC (Kd.C_below HR0_0.out HB.out)); (case side2 => exact HC0_0.out); (case side3 => exact tC (Kd.C_below HR0_1.out HB.out)); (case side4 => exact HC0_1.out); rintro e w16 ⟨rfl, hb⟩; refine ⟨_, rfl, ?_⟩; replace BK386 := aK (blk_below (g := gb386) (tK BK386.out) hb); replace HB := aK (below_step (tB1 HB.out GE386.out) hb); have hcz17_0 := bc 0 BK386.out; have hcz17_1 := bc 1 BK386.out; have hcz17_2 := bc 2 BK386.out; have hcz17_3 := bc 3 BK386.out; have hfz17_0 := blk_frozen BK386.out 0; have hfz17_1 := blk_frozen BK386.out 1; have hfz17_2 := blk_frozen BK386.out 2; have hfz17_3 := blk_frozen BK386.out 3) | ((refine gate_callee (f := 12) rfl ?_); refine goesL_ (some 20) rfl rfl Try.func12 (by kernel_rfl) rfl #[.agg #[.slice A0_0 l0_0.length c0_0, .slice A0_1 l0_1.length c0_1, .int .i64 a0_2, .int .i64 a0_3], .int .i64 a1] rfl tF ?_; (with_reducible refine (cfg_Build.calls k _ _ l0_0 _ _ l0_1 a0_2 a0_3 a1 t389 t392 t395 t396 _ ?side1 ?side2 ?side3 ?side4 A11.out).mono ?_); (case side1 => exact tC (Kd.C_below HR0_0.out HB.out)); (case side2 => exact HC0_0.out); (case side3 => exact tC (Kd.C_below HR0_1.out HB.out)); (case side4 => exact HC0_1.out); rintro e w18 ⟨v390, v393, rfl, ho0, ho1, hb⟩; refine ⟨_, rfl, ?_⟩; have HO391 := aK (Kd.S_lower ho0 (below_size (tB1 HB.out GE386.out))); have HO394 := aK (Kd.S_lower ho1 (below_size (tB1 HB.out GE386.out))); replace BK386 := aK (blk_below (g := gb386) (tK BK386.out) hb); replace HB := aK (below_step (tB1 HB.out GE386.out) hb)) | ((refine gate_dst (N := 5) rfl ?_); (try (refine gate_guard (by rfl) ?_; dsimp only)); refine box_event ?hg (N := 5) ?hd (cs := #[.slice none 0 0, .slice none 0 0]) (t := 31) ?hr ?_; (case hd => rfl); (case hg => rfl); (case hr => first | (go_simp; done) | (go_simp; rfl)); intro gb397 hg w19 hbox hb; replace HO391 := aK (Kd.S_below (tS HO391.out) hb); replace HO394 := aK (Kd.S_below (tS HO394.out) hb); have BK397 := aK (hbox); have GW397 := aK ((by rw [hg]; exact (below_size (tB1 HB.out GE386.out)) : w.heap.size ≤ gb397)); have GE397 := GW397; replace HB := aK (below_step (tB1 HB.out GE386.out) hb); have NB386_397 := aK ((by rw [hg]; exact Nat.ne_of_lt (blk_lt (g := gb386) (o := .cells #[.slice A0_0 l0_0.length c0_0, .slice A0_1 l0_1.length c0_1, .int .i64 a0_2, .int .i64 a0_3] 25 (0, 0)) (tK BK386.out)) : gb386 ≠ gb397)); have NB397_386 := aK ((by rw [hg]; exact Nat.ne_of_gt (blk_lt (g := gb386) (o := .cells #[.slice A0_0 l0_0.length c0_0, .slice A0_1 l0_1.length c0_1, .int .i64 a0_2, .int .i64 a0_3] 25 (0, 0)) (tK BK386.out)) : gb397 ≠ gb386)); replace BK386 := aK (blk_below (g := gb386) (tK BK386.out) hb); clear hb hbox hg; obtain ⟨Ao20, co20, eo20⟩ := Kd.S_slice HO391.out; subst eo20; have hnb21 := NB397_386.out; have hnc21 := NB386_397.out; have hcz22_0 := bc 0 BK397.out; have hcz22_1 := bc 1 BK397.out; have hfz22_0 := blk_frozen BK397.out 0; have hfz22_1 := blk_frozen BK397.out 1; obtain ⟨Ao23, co23, eo23⟩ := Kd.S_slice HO394.out; subst eo23))
 (try simp only [Act.put, pA, pB, pC])
 go_cut [8] (fun v8 wc => ∃ (kq : Nat) (x8_11 : Bool), v8 = .bool x8_11 ∧ Aside0 (ontimelaw24_CfgBuilds.j0 kq a1 t395 t396 x8_11 l0_0 l0_1 a0_2 a0_3 t389 t392 = some r) ∧ Aside0 (kq ≤ k) ∧ Aside0 (Kd.S k51 51 wc w.heap.size (fun _ => True) (.slice Ao20 t389.length co20) t389) ∧ Aside0 (Kd.S (Kd.slice 3 (Kd.int .i64)) 49 wc w.heap.size (fun _ => True) (.slice Ao23 t392.length co23) t392) ∧ Aside0 (wc.heap[gb386]? = some (.cells #[(.slice A0_0 l0_0.length c0_0), (.slice A0_1 l0_1.length c0_1), .int .i64 a0_2, .int .i64 a0_3] 25 (0, 0))) ∧ Aside0 (wc.heap[gb397]? = some (.cells #[(.slice Ao20 t389.length co20), (.slice Ao23 t392.length co23)] 31 (0, 0))) ∧ Aside0 (Below w.heap.size w wc))
 case first =>
  have H := HC12.out
  clear HC12
  by_cases c24 : (t389.length : Int) = 0
  ·rw [if_pos c24] at H
   have c24b0 : ((t389.length : Int) == 0) = true := beq_iff_eq.mpr c24
   have c24b1 : ((t389.length : Int) != 0) = false := bne_eq_false_iff_eq.mpr c24
   clear c24
   (first | rw [c24b0] | (simp only [i64_w, i32_w]; rw [c24b0]) | skip)
   have H' := aK H
   clear H
   have hnb25 := NB397_386.out
   have hnc25 := NB386_397.out
   have hcz26_0 := bc 0 BK397.out
   have hcz26_1 := bc 1 BK397.out
   have hfz26_0 := blk_frozen BK397.out 0
   have hfz26_1 := blk_frozen BK397.out 1
   go_wp2
   go_meet
   case rel => exact ⟨_, (((t392.length : Int) == 0)), (by first | rfl | (simp; done) | (simp [*]; done)), H', ⟨by first | omega | exact Nat.le_refl _⟩, ⟨by (with_reducible repeat (first | apply Kd.S_alloc | apply Kd.S_drewN | apply Kd.S_drew)); exact Kd.S_mono (Kd.S_far (p := ⟨gb397, 1, none⟩) (Kd.S_far (p := ⟨gb397, 0, none⟩) (Kd.S_types HO391.out BK397.out (by decide)) (fun _ hk => hk.2) (.slice Ao20 t389.length co20)) (fun _ hk => hk.2) (.slice Ao23 t392.length co23)) (fun _ hk => trivial)⟩, ⟨by (with_reducible repeat (first | apply Kd.S_alloc | apply Kd.S_drewN | apply Kd.S_drew)); exact Kd.S_mono (Kd.S_far (p := ⟨gb397, 1, none⟩) (Kd.S_far (p := ⟨gb397, 0, none⟩) (Kd.S_types HO394.out BK397.out (by decide)) (fun _ hk => hk.2) (.slice Ao20 t389.length co20)) (fun _ hk => hk.2) (.slice Ao23 t392.length co23)) (fun _ hk => trivial)⟩, ⟨by refine tK ?_; refine blk_far ?_ NB386_397.out _; refine tK ?_; refine blk_far ?_ NB386_397.out _; refine tK ?_; exact BK386.out⟩, ⟨by refine tK ?_; refine blk_put (cs := #[.slice Ao20 t389.length co20, .slice none 0 0]) ?_ 1 _ rfl; refine tK ?_; refine blk_put (cs := #[.slice none 0 0, .slice none 0 0]) ?_ 0 _ rfl; refine tK ?_; exact BK397.out⟩, ⟨tB2 HB.out GE386.out GE397.out⟩⟩
  ·rw [if_neg c24] at H
   have c24b0 : ((t389.length : Int) == 0) = false := beq_eq_false_iff_ne.mpr c24
   have c24b1 : ((t389.length : Int) != 0) = true := bne_iff_ne.mpr c24
   have c24b2 : ¬ (t389 = []) := fun h_ => c24 (by rw [h_]; rfl)
   (first | rw [c24b0] | (simp only [i64_w, i32_w]; rw [c24b0]) | skip)
   have H' := aK H
   clear H
   have hnb27 := NB397_386.out
   have hnc27 := NB386_397.out
   have hcz28_0 := bc 0 BK397.out
   have hcz28_1 := bc 1 BK397.out
   have hfz28_0 := blk_frozen BK397.out 0
   have hfz28_1 := blk_frozen BK397.out 1
   go_wp2
   go_meet
   case rel => exact ⟨_, (false), (by first | rfl | (simp; done) | (simp [*]; done)), H', ⟨by first | omega | exact Nat.le_refl _⟩, ⟨by (with_reducible repeat (first | apply Kd.S_alloc | apply Kd.S_drewN | apply Kd.S_drew)); exact Kd.S_mono (Kd.S_far (p := ⟨gb397, 1, none⟩) (Kd.S_far (p := ⟨gb397, 0, none⟩) (Kd.S_types HO391.out BK397.out (by decide)) (fun _ hk => hk.2) (.slice Ao20 t389.length co20)) (fun _ hk => hk.2) (.slice Ao23 t392.length co23)) (fun _ hk => trivial)⟩, ⟨by (with_reducible repeat (first | apply Kd.S_alloc | apply Kd.S_drewN | apply Kd.S_drew)); exact Kd.S_mono (Kd.S_far (p := ⟨gb397, 1, none⟩) (Kd.S_far (p := ⟨gb397, 0, none⟩) (Kd.S_types HO394.out BK397.out (by decide)) (fun _ hk => hk.2) (.slice Ao20 t389.length co20)) (fun _ hk => hk.2) (.slice Ao23 t392.length co23)) (fun _ hk => trivial)⟩, ⟨by refine tK ?_; refine blk_far ?_ NB386_397.out _; refine tK ?_; refine blk_far ?_ NB386_397.out _; refine tK ?_; exact BK386.out⟩, ⟨by refine tK ?_; refine blk_put (cs := #[.slice Ao20 t389.length co20, .slice none 0 0]) ?_ 1 _ rfl; refine tK ?_; refine blk_put (cs := #[.slice none 0 0, .slice none 0 0]) ?_ 0 _ rfl; refine tK ?_; exact BK397.out⟩, ⟨tB2 HB.out GE386.out GE397.out⟩⟩
 as_aux_lemma =>
 clear HC12
 obtain ⟨kq, x8_11, rfl, HA, HJ11, HO_398000, HO_398001, BK386, BK397, HB⟩ := hcut
 cases kq with
 | zero => exact absurd HA.out (by simp [ontimelaw24_CfgBuilds.j0])
 | succ kj11 =>
  have H := HA.out
  clear HA
  simp only [ontimelaw24_CfgBuilds.j0] at H
  replace H := bM H
  obtain ⟨t398, A290, H⟩ := H
  (try dsimp only at H)
  have A29 := aK A290
  clear A290
  by_cases c30 : t398 = 0
  ·as_aux_lemma =>
   rw [if_pos c30] at H
   have c30b0 : (t398 == 0) = true := beq_iff_eq.mpr c30
   have c30b1 : (t398 != 0) = false := bne_eq_false_iff_eq.mpr c30
   clear c30
   have HC31 := aK H
   clear H
   have hnb32 := NB386_397.out
   have hnc32 := NB397_386.out
   have hcz33_0 := bc 0 BK386.out
   have hcz33_1 := bc 1 BK386.out
   have hcz33_2 := bc 2 BK386.out
   have hcz33_3 := bc 3 BK386.out
   have hfz33_0 := blk_frozen BK386.out 0
   have hfz33_1 := blk_frozen BK386.out 1
   have hfz33_2 := blk_frozen BK386.out 2
   have hfz33_3 := blk_frozen BK386.out 3
   go_upto_region 9 with (first | ((refine gate_callee (f := 13) rfl ?_); refine goesL_ (some 35) rfl rfl Try.func13 (by kernel_rfl) rfl #[.agg #[.slice A0_0 l0_0.length c0_0, .slice A0_1 l0_1.length c0_1, .int .i64 a0_2, .int .i64 a0_3]] rfl tF ?_; (with_reducible refine (linker_Check.calls kj11 _ _ l0_0 _ _ l0_1 a0_2 a0_3 t398 _ ?side1 ?side2 ?side3 ?side4 A29.out).mono ?_); (case side1 => exact tC (Kd.C_below HR0_0.out HB.out)); (case side2 => exact HC0_0.out); (case side3 => exact tC (Kd.C_below HR0_1.out HB.out)); (case side4 => exact HC0_1.out); rintro e w34 ⟨rfl, hb⟩; refine ⟨_, rfl, ?_⟩; replace HO_398000 := aK (Kd.S_below (tS HO_398000.out) hb); replace HO_398001 := aK (Kd.S_below (tS HO_398001.out) hb); replace BK386 := aK (blk_below (g := gb386) (tK BK386.out) hb); replace BK397 := aK (blk_below (g := gb397) (tK BK397.out) hb); replace HB := aK (below_step (tB2 HB.out GE386.out GE397.out) hb)))
   (try simp only [Act.put, pA, pB, pC])
   go_cut [54] (fun v54 wc => ∃ (kq : Nat) (x54_30 : Bool), v54 = .bool x54_30 ∧ Aside0 (ontimelaw24_CfgBuilds.j1 kq a1 t395 t396 x8_11 x54_30 l0_0 l0_1 a0_2 a0_3 t389 t392 = some r) ∧ Aside0 (kq ≤ kj11) ∧ Aside0 (Kd.S k51 51 wc w.heap.size (fun _ => True) (.slice Ao20 t389.length co20) t389) ∧ Aside0 (Kd.S (Kd.slice 3 (Kd.int .i64)) 49 wc w.heap.size (fun _ => True) (.slice Ao23 t392.length co23) t392) ∧ Aside0 (wc.heap[gb386]? = some (.cells #[(.slice A0_0 l0_0.length c0_0), (.slice A0_1 l0_1.length c0_1), .int .i64 a0_2, .int .i64 a0_3] 25 (0, 0))) ∧ Aside0 (wc.heap[gb397]? = some (.cells #[(.slice Ao20 t389.length co20), (.slice Ao23 t392.length co23)] 31 (0, 0))) ∧ Aside0 (Below w.heap.size w wc))
   case first =>
    have H := HC31.out
    clear HC31
    by_cases c35 : a1 < 0
    ·rw [if_pos c35] at H
     have c35b0 : decide (a1 < 0) = true := decide_eq_true c35
     clear c35
     (first | rw [c35b0] | (simp only [i64_w, i32_w]; rw [c35b0]) | skip)
     have H' := aK H
     clear H
     go_wp2
     go_meet
     case rel => exact ⟨_, (true), (by first | rfl | (simp; done) | (simp [*]; done)), H', ⟨by have := HJ11.out; first | omega | exact Nat.le_refl _⟩, ⟨tS HO_398000.out⟩, ⟨tS HO_398001.out⟩, ⟨tK BK386.out⟩, ⟨tK BK397.out⟩, ⟨tB2 HB.out GE386.out GE397.out⟩⟩
    rw [if_neg c35] at H
    have c35b0 : decide (a1 < 0) = false := decide_eq_false c35
    clear c35
    (first | rw [c35b0] | (simp only [i64_w, i32_w]; rw [c35b0]) | skip)
    have H' := aK H
    clear H
    have hnb36 := NB386_397.out
    have hnc36 := NB397_386.out
    have hcz37_0 := bc 0 BK386.out
    have hcz37_1 := bc 1 BK386.out
    have hcz37_2 := bc 2 BK386.out
    have hcz37_3 := bc 3 BK386.out
    have hfz37_0 := blk_frozen BK386.out 0
    have hfz37_1 := blk_frozen BK386.out 1
    have hfz37_2 := blk_frozen BK386.out 2
    have hfz37_3 := blk_frozen BK386.out 3
    go_wp2
    go_meet
    case rel => exact ⟨_, (decide (a1 ≥ (l0_1.length : Int))), (by first | rfl | (simp; done) | (simp [*]; done)), H', ⟨by have := HJ11.out; first | omega | exact Nat.le_refl _⟩, ⟨tS HO_398000.out⟩, ⟨tS HO_398001.out⟩, ⟨tK BK386.out⟩, ⟨tK BK397.out⟩, ⟨tB2 HB.out GE386.out GE397.out⟩⟩
   as_aux_lemma =>
   clear HC31
   obtain ⟨kq, x54_30, rfl, HA, HJ30, HO_398000, HO_398001, BK386, BK397, HB⟩ := hcut
   cases kq with
   | zero => exact absurd HA.out (by simp [ontimelaw24_CfgBuilds.j1])
   | succ kj30 =>
    have H := HA.out
    clear HA
    simp only [ontimelaw24_CfgBuilds.j1] at H
    by_cases c38 : x54_30 = true
    ·subst c38
     rw [if_pos rfl] at H
     by_cases c39 : x8_11 = true
     rotate_left
     ·replace c39 := Bool.eq_false_iff.mpr c39
      subst c39
      have H1 : (some false) = some r := by rw [if_neg (show ¬ (false = true) by decide)] at H; exact H
      exact absurd ((oI H1).trans HRT.out) (by decide)
     subst c39
     rw [if_pos rfl] at H
     by_cases c40 : t395 = (-1)
     rotate_left
     ·rw [if_neg c40] at H
      exact absurd ((oI H).trans HRT.out) (by decide)
     rw [if_pos c40] at H
     have c40b0 : (t395 == (-1)) = true := beq_iff_eq.mpr c40
     have c40b1 : (t395 != (-1)) = false := bne_eq_false_iff_eq.mpr c40
     clear c40
     obtain rfl := oI H
     go_wp2
     go_ret
     exact ⟨by first | rfl | (simp [errW_none, errW_some] <;> rfl) | (simp [*, errW_none, errW_some] <;> rfl), by repeat (first | (with_reducible first | exact HB.out | apply below_alloc | apply pw_below_drewN | apply below_drew1 | refine below_set ?_ GE386.out | refine below_set ?_ GE397.out) | exact HB.out)⟩
    ·replace c38 := Bool.eq_false_iff.mpr c38
     subst c38
     rw [if_neg (show ¬ (false = true) by decide)] at H
     replace H := bM H
     obtain ⟨t399, A410, H⟩ := H
     (try dsimp only at H)
     have A41 := aK A410
     clear A410
     by_cases c42 : 0 ≤ a1
     rotate_left
     ·rw [if_neg c42] at H
      exact absurd H (by simp)
     as_aux_lemma =>
     rw [if_pos c42] at H
     have c42b0 : decide (0 ≤ a1) = true := decide_eq_true c42
     clear c42
     by_cases c43 : a1 < (l0_1.length : Int)
     rotate_left
     ·rw [if_neg c43] at H
      exact absurd H (by simp)
     as_aux_lemma =>
     rw [if_pos c43] at H
     have c43b0 : decide (a1 < (l0_1.length : Int)) = true := decide_eq_true c43
     clear c43
     replace H := bM H
     obtain ⟨t404, A440, H⟩ := H
     (try dsimp only at H)
     have A44 := aK A440
     clear A440
     by_cases c45 : t404 ≥ 0
     ·as_aux_lemma =>
      rw [if_pos c45] at H
      have c45b0 : decide (0 ≤ t404) = true := decide_eq_true c45
      clear c45
      by_cases c46 : x8_11 = true
      rotate_left
      ·replace c46 := Bool.eq_false_iff.mpr c46
       subst c46
       have H1 : (some false) = some r := by rw [if_neg (show ¬ (false = true) by decide)] at H; exact H
       exact absurd ((oI H1).trans HRT.out) (by decide)
      subst c46
      rw [if_pos rfl] at H
      by_cases c47 : t395 = t404
      rotate_left
      ·rw [if_neg c47] at H
       exact absurd ((oI H).trans HRT.out) (by decide)
      as_aux_lemma =>
      rw [if_pos c47] at H
      have c47b0 : (t395 == t404) = true := beq_iff_eq.mpr c47
      have c47b1 : (t395 != t404) = false := bne_eq_false_iff_eq.mpr c47
      clear c47
      obtain rfl := oI H
      try go_wp2
      replace HO_398000 := aK (Kd.S_drew HO_398000.out)
      replace HO_398001 := aK (Kd.S_drew HO_398001.out)
      replace BK386 := aK (blk_drew BK386.out)
      replace BK397 := aK (blk_drew BK397.out)
      replace HB := aK (below_drew1 HB.out)
      have p402 : 0 ≤ (a1 : Int) := tD
      have q402 : a1 < (l0_1.length : Int) := tD
      obtain ⟨ad402, e402, hx402_0, hx402_1, hx402_2, hx402_3⟩ := at_T39 HR0_1.out a1 p402 q402
      have hw402_3 := hx402_3
      have hw402_2 := hx402_2
      have hw402_1 := hx402_1
      have hw402_0 := hx402_0
      cases e402
      replace hx402_0 := cB HB.out hx402_0
      replace hx402_1 := cB HB.out hx402_1
      replace hx402_2 := cB HB.out hx402_2
      replace hx402_3 := cB HB.out hx402_3
      replace p402 := eq_true p402
      replace q402 := eq_true q402
      refine start_ (n := 10) (S := fun w' => w'.cell? ⟨gb386, 0, none⟩ = some (.slice A0_0 l0_0.length c0_0) ∧ w'.cell? ⟨gb386, 1, none⟩ = some (.slice (some ad402) l0_1.length c0_1) ∧ w'.cell? ⟨gb386, 2, none⟩ = some (.int .i64 a0_2) ∧ w'.cell? ⟨gb386, 3, none⟩ = some (.int .i64 a0_3) ∧ w'.cell? (ad402.add ((a1).toNat * 4)) = some (.string ((rd_T39 l0_1 a1).f0)) ∧ w'.cell? ⟨(ad402.add ((a1).toNat * 4)).block, (ad402.add ((a1).toNat * 4)).off + 1, none⟩ = some (.int .i64 ((rd_T39 l0_1 a1).f1)) ∧ w'.cell? ⟨(ad402.add ((a1).toNat * 4)).block, (ad402.add ((a1).toNat * 4)).off + 2, none⟩ = some (.int .i64 ((rd_T39 l0_1 a1).f2)) ∧ w'.cell? ⟨(ad402.add ((a1).toNat * 4)).block, (ad402.add ((a1).toNat * 4)).off + 3, none⟩ = some (.int .i64 ((rd_T39 l0_1 a1).f3))) (ds := []) #[F_, F_, F_, F_, F_, F_, F_, F_, F_, F_] (by kernel_rfl) rfl rfl ⟨(blk_cell BK386.out 0).trans rfl, (blk_cell BK386.out 1).trans rfl, (blk_cell BK386.out 2).trans rfl, (blk_cell BK386.out 3).trans rfl, (cB HB.out hw402_0), (cB HB.out hw402_1), (cB HB.out hw402_2), (cB HB.out hw402_3)⟩ (fun hHeld => ?_); refine with_tabW ontimelaw24_CfgBuilds.tab11 ontimelaw24_CfgBuilds.bits11 (fun HT_ HW_ => ?_)
      generalize wc.drew = w48 at HO_398000 HO_398001 BK386 BK397 HB hx402_0 hx402_1 hx402_2 hx402_3 hHeld ⊢
      refine pure_ (i := 2) (N := some 66) (v := ?_) (a' := ?_) #[F_, F_, T_, F_, F_, F_, F_, F_, F_, F_] rfl rfl (any_of HT_.out (by kernel_rfl)) (fun _ _ _ h => h) (Or.inl ⟨by rfl, ?_⟩) ?_ ?_
      rotate_left
      ·intro w'
       go_simp
       with_reducible rfl
      rotate_left
      ·simp only [Act.put, pA, pB, pC, i64_w, i32_w]
       rfl
      refine pure_ (i := 4) (N := some 68) (v := ?_) (a' := ?_) #[F_, F_, T_, F_, T_, F_, F_, F_, F_, F_] rfl rfl (any_of HT_.out (by kernel_rfl)) (fun _ _ _ h => h) (Or.inl ⟨by rfl, ?_⟩) ?_ ?_
      rotate_left
      ·intro w'
       go_simp
       with_reducible rfl
      rotate_left
      ·simp only [Act.put, pA, pB, pC, i64_w, i32_w]
       rfl
      refine take_ (i := 0) (N := some 64) (v := ?_) (a' := ?_) #[T_, F_, T_, F_, T_, F_, F_, F_, F_, F_] rfl rfl (take_ofW HT_.out HW_.out (by kernel_rfl)) (fun _ _ _ h => h) (Or.inl ⟨by rfl, ?_⟩) hHeld ?_ ?_
      rotate_left
      ·rintro w' ⟨s0, s1, s2, s3, s4, s5, s6, s7⟩
       go_simp
       with_reducible rfl
      rotate_left
      ·simp only [Act.put, pA, pB, pC, i64_w, i32_w]
       rfl
      refine take_ (i := 3) (N := some 67) (v := ?_) (a' := ?_) #[T_, F_, T_, T_, T_, F_, F_, F_, F_, F_] rfl rfl (take_ofW HT_.out HW_.out (by kernel_rfl)) (fun _ _ _ h => h) (Or.inl ⟨by rfl, ?_⟩) hHeld ?_ ?_
      rotate_left
      ·rintro w' ⟨s0, s1, s2, s3, s4, s5, s6, s7⟩
       go_simp
       with_reducible rfl
      rotate_left
      ·simp only [Act.put, pA, pB, pC, i64_w, i32_w]
       rfl
      refine pure_ (i := 5) (N := some 69) (v := ?_) (a' := ?_) #[T_, F_, T_, T_, T_, T_, F_, F_, F_, F_] rfl rfl (any_of HT_.out (by kernel_rfl)) (fun _ _ _ h => h) (Or.inl ⟨by rfl, ?_⟩) ?_ ?_
      rotate_left
      ·intro w'
       go_simp
       with_reducible rfl
      rotate_left
      ·simp only [Act.put, pA, pB, pC, i64_w, i32_w]
       rfl
      refine take_ (i := 6) (N := some 70) (v := ?_) (a' := ?_) #[T_, F_, T_, T_, T_, T_, T_, F_, F_, F_] rfl rfl (take_ofW HT_.out HW_.out (by kernel_rfl)) (fun _ _ _ h => h) (Or.inl ⟨by rfl, ?_⟩) hHeld ?_ ?_
      rotate_left
      ·rintro w' ⟨s0, s1, s2, s3, s4, s5, s6, s7⟩
       go_simp
       with_reducible rfl
      rotate_left
      ·simp only [Act.put, pA, pB, pC, i64_w, i32_w]
       rfl
      refine join_ (σ := Value × Nat) 2 #[T_, T_, T_, T_, T_, T_, T_, T_, F_, F_] (fun s_ => [(65, s_.1), (10, .pointer (some ⟨s_.2, 0, none⟩))]) (fun s_ w' => (w'.cell? ⟨gb386, 0, none⟩ = some (.slice A0_0 l0_0.length c0_0) ∧ w'.cell? ⟨gb386, 1, none⟩ = some (.slice (some ad402) l0_1.length c0_1) ∧ w'.cell? ⟨gb386, 2, none⟩ = some (.int .i64 a0_2) ∧ w'.cell? ⟨gb386, 3, none⟩ = some (.int .i64 a0_3) ∧ w'.cell? (ad402.add ((a1).toNat * 4)) = some (.string ((rd_T39 l0_1 a1).f0)) ∧ w'.cell? ⟨(ad402.add ((a1).toNat * 4)).block, (ad402.add ((a1).toNat * 4)).off + 1, none⟩ = some (.int .i64 ((rd_T39 l0_1 a1).f1)) ∧ w'.cell? ⟨(ad402.add ((a1).toNat * 4)).block, (ad402.add ((a1).toNat * 4)).off + 2, none⟩ = some (.int .i64 ((rd_T39 l0_1 a1).f2)) ∧ w'.cell? ⟨(ad402.add ((a1).toNat * 4)).block, (ad402.add ((a1).toNat * 4)).off + 3, none⟩ = some (.int .i64 ((rd_T39 l0_1 a1).f3))) ∧ (Kd.R k53 53 w' w.heap.size (fun _ => True) s_.1 t399) ∧ (Kd.S k51 51 w' w.heap.size (fun _ => True) (.slice Ao20 t389.length co20) t389) ∧ (Kd.S (Kd.slice 3 (Kd.int .i64)) 49 w' w.heap.size (fun _ => True) (.slice Ao23 t392.length co23) t392) ∧ (w'.heap[gb386]? = some (.cells #[.slice A0_0 l0_0.length c0_0, .slice (some ad402) l0_1.length c0_1, .int .i64 a0_2, .int .i64 a0_3] 25 (0, 0))) ∧ (w'.heap[gb397]? = some (.cells #[.slice Ao20 t389.length co20, .slice Ao23 t392.length co23] 31 (0, 0))) ∧ (w'.heap[s_.2]? = some (.cells #[.string (⟨#[]⟩ : ByteArray), .int .i64 0, .int .i64 0, .int .i64 0] 39 (0, 0))) ∧ (w.heap.size ≤ s_.2) ∧ (w.heap.size ≤ s_.2) ∧ (gb386 ≠ s_.2) ∧ (s_.2 ≠ gb386) ∧ (gb397 ≠ s_.2) ∧ (s_.2 ≠ gb397) ∧ (Below w.heap.size w w')) ?_ ?_
      rotate_left
      ·intro hCont
       refine two_ (i := 1) (j := 7) (Ni := some 65) (Nj := some 10) #[T_, T_, T_, T_, T_, T_, T_, F_, F_, F_] #[T_, F_, T_, T_, T_, T_, T_, T_, F_, F_] rfl rfl rfl rfl (two_of HT_.out (by kernel_rfl)) (by decide) (by decide) (fun K hK => ?_) (fun K hK => ?_)
       ·skip
        refine goes_ Try.func14 (by kernel_rfl) rfl #[.agg #[.slice A0_0 l0_0.length c0_0, .slice (some ad402) l0_1.length c0_1, .int .i64 a0_2, .int .i64 a0_3]] (by rfl) rfl rfl tF ?_
        with_reducible refine (ontimeref24_Code.calls kj30 _ _ l0_0 _ _ l0_1 a0_2 a0_3 t399 _ ?side1 ?side2 ?side3 ?side4 A41.out).mono ?_
        (case side1 => exact tC (Kd.C_below HR0_0.out HB.out))
        (case side2 => exact HC0_0.out)
        (case side3 => exact tC (Kd.C_below HR0_1.out HB.out))
        (case side4 => exact HC0_1.out)
        rintro e w49 ⟨v400, rfl, ho0, hb⟩
        refine ⟨_, rfl, ?_⟩
        replace HO_398000 := aK (Kd.S_below (tS HO_398000.out) hb)
        replace HO_398001 := aK (Kd.S_below (tS HO_398001.out) hb)
        have HO401 := aK (Kd.R_lower ho0 (below_size (tB2 HB.out GE386.out GE397.out)))
        replace BK386 := aK (blk_below (g := gb386) (tK BK386.out) hb)
        replace BK397 := aK (blk_below (g := gb397) (tK BK397.out) hb)
        replace HB := aK (below_step (tB2 HB.out GE386.out GE397.out) hb)
        refine hK.out _ _ ⟨(blk_cell BK386.out 0).trans rfl, (blk_cell BK386.out 1).trans rfl, (blk_cell BK386.out 2).trans rfl, (blk_cell BK386.out 3).trans rfl, (cB HB.out hw402_0), (cB HB.out hw402_1), (cB HB.out hw402_2), (cB HB.out hw402_3)⟩ (fun hHeld => ?_)
        clear hK K
        refine norm_ (a' := ?_) ?_ ?_
        rotate_left
        ·show Act.put _ (some 65) _ = _
         simp only [Act.put, pA, pB, pC, i64_w, i32_w]
         rfl
        refine one_ (i := 7) (N := some 10) #[T_, T_, T_, T_, T_, T_, T_, T_, F_, F_] rfl rfl (one_of HT_.out (by kernel_rfl)) (by decide) (fun K hK => ?_)
        refine box_step ?hg (N := 10) ?hd (cs := #[.string (⟨#[]⟩ : ByteArray), .int .i64 0, .int .i64 0, .int .i64 0]) (t := 39) ?hr ?_; (case hd => rfl); (case hg => rfl); (case hr => first | (go_simp; done) | (go_simp; rfl))
        intro gb403 hg w50 hbox hb
        have n0_ := aK (Kd.S_below (tS HO_398000.out) hb)
        have n1_ := aK (Kd.S_below (tS HO_398001.out) hb)
        have n2_ := aK (Kd.R_below (tR HO401.out) hb)
        have n3_ := aK (blk_below (g := gb386) (tK BK386.out) hb)
        have n4_ := aK (blk_below (g := gb397) (tK BK397.out) hb)
        have n5_ := aK (below_step (tB2 HB.out GE386.out GE397.out) hb)
        have n6_ := aK (hbox)
        have n7_ := aK ((by rw [hg]; exact (below_size (tB2 HB.out GE386.out GE397.out)) : w.heap.size ≤ gb403))
        have n8_ := aK ((by rw [hg]; exact (below_size (tB2 HB.out GE386.out GE397.out)) : w.heap.size ≤ gb403))
        have n9_ := aK ((by rw [hg]; exact Nat.ne_of_lt (blk_lt (g := gb386) (o := .cells #[.slice A0_0 l0_0.length c0_0, .slice (some ad402) l0_1.length c0_1, .int .i64 a0_2, .int .i64 a0_3] 25 (0, 0)) (tK BK386.out)) : gb386 ≠ gb403))
        have n10_ := aK ((by rw [hg]; exact Nat.ne_of_gt (blk_lt (g := gb386) (o := .cells #[.slice A0_0 l0_0.length c0_0, .slice (some ad402) l0_1.length c0_1, .int .i64 a0_2, .int .i64 a0_3] 25 (0, 0)) (tK BK386.out)) : gb403 ≠ gb386))
        have n11_ := aK ((by rw [hg]; exact Nat.ne_of_lt (blk_lt (g := gb397) (o := .cells #[.slice Ao20 t389.length co20, .slice Ao23 t392.length co23] 31 (0, 0)) (tK BK397.out)) : gb397 ≠ gb403))
        have n12_ := aK ((by rw [hg]; exact Nat.ne_of_gt (blk_lt (g := gb397) (o := .cells #[.slice Ao20 t389.length co20, .slice Ao23 t392.length co23] 31 (0, 0)) (tK BK397.out)) : gb403 ≠ gb397))
        clear HO_398000 HO_398001 HO401 BK386 BK397 HB
        have HO_398000 := n0_
        have HO_398001 := n1_
        have HO401 := n2_
        have BK386 := n3_
        have BK397 := n4_
        have HB := n5_
        have BK403 := n6_
        have GW403 := n7_
        have GE403 := n8_
        have NB386_403 := n9_
        have NB403_386 := n10_
        have NB397_403 := n11_
        have NB403_397 := n12_
        clear n0_ n1_ n2_ n3_ n4_ n5_ n6_ n7_ n8_ n9_ n10_ n11_ n12_ hb hbox hg
        refine hK.out _ _ ⟨(blk_cell BK386.out 0).trans rfl, (blk_cell BK386.out 1).trans rfl, (blk_cell BK386.out 2).trans rfl, (blk_cell BK386.out 3).trans rfl, (cB HB.out hw402_0), (cB HB.out hw402_1), (cB HB.out hw402_2), (cB HB.out hw402_3)⟩ (fun hHeld => ?_)
        clear hK K
        refine norm_ (a' := ?_) ?_ ?_
        rotate_left
        ·show Act.put _ (some 10) _ = _
         simp only [Act.put, pA, pB, pC, i64_w, i32_w]
         rfl
        exact norm_ (by simp only [putAll, Act.put, pA, pB, pC]) (hCont (v400, gb403) _ ⟨hHeld, (tR HO401.out), (tS HO_398000.out), (tS HO_398001.out), (tK BK386.out), (tK BK397.out), (tK BK403.out), GW403.out, GE403.out, NB386_403.out, NB403_386.out, NB397_403.out, NB403_397.out, (tB3 HB.out GE386.out GE397.out GE403.out)⟩)
       ·skip
        refine box_step ?hg (N := 10) ?hd (cs := #[.string (⟨#[]⟩ : ByteArray), .int .i64 0, .int .i64 0, .int .i64 0]) (t := 39) ?hr ?_; (case hd => rfl); (case hg => rfl); (case hr => first | (go_simp; done) | (go_simp; rfl))
        intro gb403 hg w49 hbox hb
        have n0_ := aK (Kd.S_below (tS HO_398000.out) hb)
        have n1_ := aK (Kd.S_below (tS HO_398001.out) hb)
        have n2_ := aK (blk_below (g := gb386) (tK BK386.out) hb)
        have n3_ := aK (blk_below (g := gb397) (tK BK397.out) hb)
        have n4_ := aK (below_step (tB2 HB.out GE386.out GE397.out) hb)
        have n5_ := aK (hbox)
        have n6_ := aK ((by rw [hg]; exact (below_size (tB2 HB.out GE386.out GE397.out)) : w.heap.size ≤ gb403))
        have n7_ := aK ((by rw [hg]; exact (below_size (tB2 HB.out GE386.out GE397.out)) : w.heap.size ≤ gb403))
        have n8_ := aK ((by rw [hg]; exact Nat.ne_of_lt (blk_lt (g := gb386) (o := .cells #[.slice A0_0 l0_0.length c0_0, .slice (some ad402) l0_1.length c0_1, .int .i64 a0_2, .int .i64 a0_3] 25 (0, 0)) (tK BK386.out)) : gb386 ≠ gb403))
        have n9_ := aK ((by rw [hg]; exact Nat.ne_of_gt (blk_lt (g := gb386) (o := .cells #[.slice A0_0 l0_0.length c0_0, .slice (some ad402) l0_1.length c0_1, .int .i64 a0_2, .int .i64 a0_3] 25 (0, 0)) (tK BK386.out)) : gb403 ≠ gb386))
        have n10_ := aK ((by rw [hg]; exact Nat.ne_of_lt (blk_lt (g := gb397) (o := .cells #[.slice Ao20 t389.length co20, .slice Ao23 t392.length co23] 31 (0, 0)) (tK BK397.out)) : gb397 ≠ gb403))
        have n11_ := aK ((by rw [hg]; exact Nat.ne_of_gt (blk_lt (g := gb397) (o := .cells #[.slice Ao20 t389.length co20, .slice Ao23 t392.length co23] 31 (0, 0)) (tK BK397.out)) : gb403 ≠ gb397))
        clear HO_398000 HO_398001 BK386 BK397 HB
        have HO_398000 := n0_
        have HO_398001 := n1_
        have BK386 := n2_
        have BK397 := n3_
        have HB := n4_
        have BK403 := n5_
        have GW403 := n6_
        have GE403 := n7_
        have NB386_403 := n8_
        have NB403_386 := n9_
        have NB397_403 := n10_
        have NB403_397 := n11_
        clear n0_ n1_ n2_ n3_ n4_ n5_ n6_ n7_ n8_ n9_ n10_ n11_ hb hbox hg
        refine hK.out _ _ ⟨(blk_cell BK386.out 0).trans rfl, (blk_cell BK386.out 1).trans rfl, (blk_cell BK386.out 2).trans rfl, (blk_cell BK386.out 3).trans rfl, (cB HB.out hw402_0), (cB HB.out hw402_1), (cB HB.out hw402_2), (cB HB.out hw402_3)⟩ (fun hHeld => ?_)
        clear hK K
        refine norm_ (a' := ?_) ?_ ?_
        rotate_left
        ·show Act.put _ (some 10) _ = _
         simp only [Act.put, pA, pB, pC, i64_w, i32_w]
         rfl
        refine one_ (i := 1) (N := some 65) #[T_, T_, T_, T_, T_, T_, T_, T_, F_, F_] rfl rfl (one_of HT_.out (by kernel_rfl)) (by decide) (fun K hK => ?_)
        refine goes_ Try.func14 (by kernel_rfl) rfl #[.agg #[.slice A0_0 l0_0.length c0_0, .slice (some ad402) l0_1.length c0_1, .int .i64 a0_2, .int .i64 a0_3]] (by rfl) rfl rfl tF ?_
        with_reducible refine (ontimeref24_Code.calls kj30 _ _ l0_0 _ _ l0_1 a0_2 a0_3 t399 _ ?side1 ?side2 ?side3 ?side4 A41.out).mono ?_
        (case side1 => exact tC (Kd.C_below HR0_0.out HB.out))
        (case side2 => exact HC0_0.out)
        (case side3 => exact tC (Kd.C_below HR0_1.out HB.out))
        (case side4 => exact HC0_1.out)
        rintro e w50 ⟨v400, rfl, ho0, hb⟩
        refine ⟨_, rfl, ?_⟩
        replace HO_398000 := aK (Kd.S_below (tS HO_398000.out) hb)
        replace HO_398001 := aK (Kd.S_below (tS HO_398001.out) hb)
        have HO401 := aK (Kd.R_lower ho0 (below_size (tB3 HB.out GE386.out GE397.out GE403.out)))
        replace BK386 := aK (blk_below (g := gb386) (tK BK386.out) hb)
        replace BK397 := aK (blk_below (g := gb397) (tK BK397.out) hb)
        replace BK403 := aK (blk_below (g := gb403) (tK BK403.out) hb)
        replace HB := aK (below_step (tB3 HB.out GE386.out GE397.out GE403.out) hb)
        refine hK.out _ _ ⟨(blk_cell BK386.out 0).trans rfl, (blk_cell BK386.out 1).trans rfl, (blk_cell BK386.out 2).trans rfl, (blk_cell BK386.out 3).trans rfl, (cB HB.out hw402_0), (cB HB.out hw402_1), (cB HB.out hw402_2), (cB HB.out hw402_3)⟩ (fun hHeld => ?_)
        clear hK K
        refine norm_ (a' := ?_) ?_ ?_
        rotate_left
        ·show Act.put _ (some 65) _ = _
         simp only [Act.put, pA, pB, pC, i64_w, i32_w]
         rfl
        exact norm_ (by simp only [putAll, Act.put, pA, pB, pC]) (hCont (v400, gb403) _ ⟨hHeld, (tR HO401.out), (tS HO_398000.out), (tS HO_398001.out), (tK BK386.out), (tK BK397.out), (tK BK403.out), GW403.out, GE403.out, NB386_403.out, NB403_386.out, NB397_403.out, NB403_397.out, (tB3 HB.out GE386.out GE397.out GE403.out)⟩)
      rintro ⟨v400, gb403⟩ w51 ⟨hS_, h0_, h1_, h2_, h3_, h4_, h5_, h6_, h7_, h8_, h9_, h10_, h11_, h12_⟩
      have HO401 : Aside0 (Kd.R k53 53 w51 w.heap.size (fun _ => True) v400 t399) := ⟨h0_⟩
      replace HO_398000 : Aside0 (Kd.S k51 51 w51 w.heap.size (fun _ => True) (.slice Ao20 t389.length co20) t389) := ⟨h1_⟩
      replace HO_398001 : Aside0 (Kd.S (Kd.slice 3 (Kd.int .i64)) 49 w51 w.heap.size (fun _ => True) (.slice Ao23 t392.length co23) t392) := ⟨h2_⟩
      replace BK386 : Aside0 (w51.heap[gb386]? = some (.cells #[.slice A0_0 l0_0.length c0_0, .slice (some ad402) l0_1.length c0_1, .int .i64 a0_2, .int .i64 a0_3] 25 (0, 0))) := ⟨h3_⟩
      replace BK397 : Aside0 (w51.heap[gb397]? = some (.cells #[.slice Ao20 t389.length co20, .slice Ao23 t392.length co23] 31 (0, 0))) := ⟨h4_⟩
      have BK403 : Aside0 (w51.heap[gb403]? = some (.cells #[.string (⟨#[]⟩ : ByteArray), .int .i64 0, .int .i64 0, .int .i64 0] 39 (0, 0))) := ⟨h5_⟩
      have GW403 : Aside0 (w.heap.size ≤ gb403) := ⟨h6_⟩
      have GE403 : Aside0 (w.heap.size ≤ gb403) := ⟨h7_⟩
      have NB386_403 : Aside0 (gb386 ≠ gb403) := ⟨h8_⟩
      have NB403_386 : Aside0 (gb403 ≠ gb386) := ⟨h9_⟩
      have NB397_403 : Aside0 (gb397 ≠ gb403) := ⟨h10_⟩
      have NB403_397 : Aside0 (gb403 ≠ gb397) := ⟨h11_⟩
      replace HB : Aside0 (Below w.heap.size w w51) := ⟨h12_⟩
      clear h0_ h1_ h2_ h3_ h4_ h5_ h6_ h7_ h8_ h9_ h10_ h11_ h12_
      have hHeld : w51.cell? ⟨gb386, 0, none⟩ = some (.slice A0_0 l0_0.length c0_0) ∧ w51.cell? ⟨gb386, 1, none⟩ = some (.slice (some ad402) l0_1.length c0_1) ∧ w51.cell? ⟨gb386, 2, none⟩ = some (.int .i64 a0_2) ∧ w51.cell? ⟨gb386, 3, none⟩ = some (.int .i64 a0_3) ∧ w51.cell? (ad402.add ((a1).toNat * 4)) = some (.string ((rd_T39 l0_1 a1).f0)) ∧ w51.cell? ⟨(ad402.add ((a1).toNat * 4)).block, (ad402.add ((a1).toNat * 4)).off + 1, none⟩ = some (.int .i64 ((rd_T39 l0_1 a1).f1)) ∧ w51.cell? ⟨(ad402.add ((a1).toNat * 4)).block, (ad402.add ((a1).toNat * 4)).off + 2, none⟩ = some (.int .i64 ((rd_T39 l0_1 a1).f2)) ∧ w51.cell? ⟨(ad402.add ((a1).toNat * 4)).block, (ad402.add ((a1).toNat * 4)).off + 3, none⟩ = some (.int .i64 ((rd_T39 l0_1 a1).f3)) := hS_
      refine norm_ (a' := ?_) ?_ ?_
      rotate_left
      ·simp only [putAll, Act.put, pA, pB, pC]
       rfl
      refine pure_ (i := 8) (N := some 9) (v := ?_) (a' := ?_) #[T_, T_, T_, T_, T_, T_, T_, T_, T_, F_] rfl rfl (any_of HT_.out (by kernel_rfl)) (fun _ _ _ h => h) (Or.inl ⟨by rfl, ?_⟩) ?_ ?_
      rotate_left
      ·intro w'
       go_simp
       with_reducible rfl
      rotate_left
      ·simp only [Act.put, pA, pB, pC, i64_w, i32_w]
       rfl
      refine one_ (i := 9) (N := none) #[T_, T_, T_, T_, T_, T_, T_, T_, T_, T_] rfl rfl (one_of HT_.out (by kernel_rfl)) (by decide) (fun K hK => ?_)
      have hs52 : w51.cell? ⟨gb403, 0, none⟩ = some (.string (⟨#[]⟩ : ByteArray)) := (blk_cell BK403.out 0).trans rfl
      have hfs52 := blk_frozen BK403.out 0
      have hns52_0 := NB386_403.out
      have hns52_1 := NB397_403.out
      have hms52_0 := NB403_386.out
      have hms52_1 := NB403_397.out
      have hs53 : w51.cell? ⟨gb403, 1, none⟩ = some (.int .i64 0) := (blk_cell BK403.out 1).trans rfl
      have hfs53 := blk_frozen BK403.out 1
      have hns53_0 := NB386_403.out
      have hns53_1 := NB397_403.out
      have hms53_0 := NB403_386.out
      have hms53_1 := NB403_397.out
      have hs54 : w51.cell? ⟨gb403, 2, none⟩ = some (.int .i64 0) := (blk_cell BK403.out 2).trans rfl
      have hfs54 := blk_frozen BK403.out 2
      have hns54_0 := NB386_403.out
      have hns54_1 := NB397_403.out
      have hms54_0 := NB403_386.out
      have hms54_1 := NB403_397.out
      have hs55 : w51.cell? ⟨gb403, 3, none⟩ = some (.int .i64 0) := (blk_cell BK403.out 3).trans rfl
      have hfs55 := blk_frozen BK403.out 3
      have hns55_0 := NB386_403.out
      have hns55_1 := NB397_403.out
      have hms55_0 := NB403_386.out
      have hms55_1 := NB403_397.out
      refine skip_ (w1 := ?_) (by rfl) rfl ?_ ?_
      rotate_left
      ·go_simp
       rfl
      refine hK.out _ _ ⟨((cell_far (p := ⟨gb403, _, none⟩) NB386_403.out _).trans (((cell_far (p := ⟨gb403, _, none⟩) NB386_403.out _).trans (((cell_far (p := ⟨gb403, _, none⟩) NB386_403.out _).trans (((cell_far (p := ⟨gb403, _, none⟩) NB386_403.out _).trans (hHeld.1)))))))), ((cell_far (p := ⟨gb403, _, none⟩) NB386_403.out _).trans (((cell_far (p := ⟨gb403, _, none⟩) NB386_403.out _).trans (((cell_far (p := ⟨gb403, _, none⟩) NB386_403.out _).trans (((cell_far (p := ⟨gb403, _, none⟩) NB386_403.out _).trans (hHeld.2.1)))))))), ((cell_far (p := ⟨gb403, _, none⟩) NB386_403.out _).trans (((cell_far (p := ⟨gb403, _, none⟩) NB386_403.out _).trans (((cell_far (p := ⟨gb403, _, none⟩) NB386_403.out _).trans (((cell_far (p := ⟨gb403, _, none⟩) NB386_403.out _).trans (hHeld.2.2.1)))))))), ((cell_far (p := ⟨gb403, _, none⟩) NB386_403.out _).trans (((cell_far (p := ⟨gb403, _, none⟩) NB386_403.out _).trans (((cell_far (p := ⟨gb403, _, none⟩) NB386_403.out _).trans (((cell_far (p := ⟨gb403, _, none⟩) NB386_403.out _).trans (hHeld.2.2.2.1)))))))), ((cell_far (p := ⟨gb403, _, none⟩) (nL hw402_0 GW403.out) _).trans (((cell_far (p := ⟨gb403, _, none⟩) (nL hw402_0 GW403.out) _).trans (((cell_far (p := ⟨gb403, _, none⟩) (nL hw402_0 GW403.out) _).trans (((cell_far (p := ⟨gb403, _, none⟩) (nL hw402_0 GW403.out) _).trans (hHeld.2.2.2.2.1)))))))), ((cell_far (p := ⟨gb403, _, none⟩) (nL hw402_1 GW403.out) _).trans (((cell_far (p := ⟨gb403, _, none⟩) (nL hw402_1 GW403.out) _).trans (((cell_far (p := ⟨gb403, _, none⟩) (nL hw402_1 GW403.out) _).trans (((cell_far (p := ⟨gb403, _, none⟩) (nL hw402_1 GW403.out) _).trans (hHeld.2.2.2.2.2.1)))))))), ((cell_far (p := ⟨gb403, _, none⟩) (nL hw402_2 GW403.out) _).trans (((cell_far (p := ⟨gb403, _, none⟩) (nL hw402_2 GW403.out) _).trans (((cell_far (p := ⟨gb403, _, none⟩) (nL hw402_2 GW403.out) _).trans (((cell_far (p := ⟨gb403, _, none⟩) (nL hw402_2 GW403.out) _).trans (hHeld.2.2.2.2.2.2.1)))))))), ((cell_far (p := ⟨gb403, _, none⟩) (nL hw402_3 GW403.out) _).trans (((cell_far (p := ⟨gb403, _, none⟩) (nL hw402_3 GW403.out) _).trans (((cell_far (p := ⟨gb403, _, none⟩) (nL hw402_3 GW403.out) _).trans (((cell_far (p := ⟨gb403, _, none⟩) (nL hw402_3 GW403.out) _).trans (hHeld.2.2.2.2.2.2.2))))))))⟩ (fun hHeld => ?_)
      clear hK K
      refine done_ (done_of HT_.out (by kernel_rfl)) ?_
      have hnb56 := NB403_386.out
      have hnc56 := NB386_403.out
      have hnb57 := NB403_397.out
      have hnc57 := NB397_403.out
      have hcz58_0 := bc 0 BK403.out
      have hcz58_1 := bc 1 BK403.out
      have hcz58_2 := bc 2 BK403.out
      have hcz58_3 := bc 3 BK403.out
      have hfz58_0 := blk_frozen BK403.out 0
      have hfz58_1 := blk_frozen BK403.out 1
      have hfz58_2 := blk_frozen BK403.out 2
      have hfz58_3 := blk_frozen BK403.out 3
      obtain ⟨Ao59, co59, eo59⟩ := Kd.R_slice HO401.out
      subst eo59
      try go_wp2_with (first | ((refine gate_callee (f := 15) rfl ?_); refine goesL_ (some 76) rfl rfl Try.func15 (by kernel_rfl) rfl #[.slice Ao59 t399.length co59, .int .i64 ((rd_T39 l0_1 a1).f1), .int .i64 ((rd_T39 l0_1 a1).f2)] rfl tF ?_; (with_reducible refine (ontimeref24_Leave.calls kj30 _ _ t399 ((rd_T39 l0_1 a1).f1) ((rd_T39 l0_1 a1).f2) t404 _ ?side1 ?side2 A44.out).mono ?_); (case side1 => refine (Kd.R_reads' (e := 53) (base := w.heap.size) (ok := fun k_ => True) (n := t399.length) (c := co59) ?_).2.2; exact (by (with_reducible repeat (first | apply Kd.R_alloc | apply Kd.R_drewN | apply Kd.R_drew)); exact (Kd.R_mono (Kd.R_far (p := ⟨gb403, 3, none⟩) (Kd.R_far (p := ⟨gb403, 2, none⟩) (Kd.R_far (p := ⟨gb403, 1, none⟩) (Kd.R_far (p := ⟨gb403, 0, none⟩) (Kd.R_types HO401.out BK403.out (by decide)) (fun _ hk => hk.2) (.string ((rd_T39 l0_1 a1).f0))) (fun _ hk => hk.2) (.int .i64 ((rd_T39 l0_1 a1).f1))) (fun _ hk => hk.2) (.int .i64 ((rd_T39 l0_1 a1).f2))) (fun _ hk => hk.2) (.int .i64 ((rd_T39 l0_1 a1).f3))) (fun _ h_ => h_.1)))); (case side2 => exact (Kd.R_reads' HO401.out).2.1); rintro e w60 ⟨rfl, hb⟩; refine ⟨_, rfl, ?_⟩; replace HO_398000 := aK (Kd.S_below (by (with_reducible repeat (first | apply Kd.S_alloc | apply Kd.S_drewN | apply Kd.S_drew)); exact (Kd.S_mono (Kd.S_far (p := ⟨gb403, 3, none⟩) (Kd.S_far (p := ⟨gb403, 2, none⟩) (Kd.S_far (p := ⟨gb403, 1, none⟩) (Kd.S_far (p := ⟨gb403, 0, none⟩) (Kd.S_types HO_398000.out BK403.out (by decide)) (fun _ hk => hk.2) (.string ((rd_T39 l0_1 a1).f0))) (fun _ hk => hk.2) (.int .i64 ((rd_T39 l0_1 a1).f1))) (fun _ hk => hk.2) (.int .i64 ((rd_T39 l0_1 a1).f2))) (fun _ hk => hk.2) (.int .i64 ((rd_T39 l0_1 a1).f3))) (fun _ h_ => h_.1))) hb); replace HO_398001 := aK (Kd.S_below (by (with_reducible repeat (first | apply Kd.S_alloc | apply Kd.S_drewN | apply Kd.S_drew)); exact (Kd.S_mono (Kd.S_far (p := ⟨gb403, 3, none⟩) (Kd.S_far (p := ⟨gb403, 2, none⟩) (Kd.S_far (p := ⟨gb403, 1, none⟩) (Kd.S_far (p := ⟨gb403, 0, none⟩) (Kd.S_types HO_398001.out BK403.out (by decide)) (fun _ hk => hk.2) (.string ((rd_T39 l0_1 a1).f0))) (fun _ hk => hk.2) (.int .i64 ((rd_T39 l0_1 a1).f1))) (fun _ hk => hk.2) (.int .i64 ((rd_T39 l0_1 a1).f2))) (fun _ hk => hk.2) (.int .i64 ((rd_T39 l0_1 a1).f3))) (fun _ h_ => h_.1))) hb); replace HO401 := aK (Kd.R_below (by (with_reducible repeat (first | apply Kd.R_alloc | apply Kd.R_drewN | apply Kd.R_drew)); exact (Kd.R_mono (Kd.R_far (p := ⟨gb403, 3, none⟩) (Kd.R_far (p := ⟨gb403, 2, none⟩) (Kd.R_far (p := ⟨gb403, 1, none⟩) (Kd.R_far (p := ⟨gb403, 0, none⟩) (Kd.R_types HO401.out BK403.out (by decide)) (fun _ hk => hk.2) (.string ((rd_T39 l0_1 a1).f0))) (fun _ hk => hk.2) (.int .i64 ((rd_T39 l0_1 a1).f1))) (fun _ hk => hk.2) (.int .i64 ((rd_T39 l0_1 a1).f2))) (fun _ hk => hk.2) (.int .i64 ((rd_T39 l0_1 a1).f3))) (fun _ h_ => h_.1))) hb); replace BK386 := aK (blk_below (g := gb386) (o := .cells #[.slice A0_0 l0_0.length c0_0, .slice (some ad402) l0_1.length c0_1, .int .i64 a0_2, .int .i64 a0_3] 25 (0, 0)) (by refine tK ?_; refine blk_far ?_ NB386_403.out _; refine tK ?_; refine blk_far ?_ NB386_403.out _; refine tK ?_; refine blk_far ?_ NB386_403.out _; refine tK ?_; refine blk_far ?_ NB386_403.out _; refine tK ?_; exact BK386.out) hb); replace BK397 := aK (blk_below (g := gb397) (o := .cells #[.slice Ao20 t389.length co20, .slice Ao23 t392.length co23] 31 (0, 0)) (by refine tK ?_; refine blk_far ?_ NB397_403.out _; refine tK ?_; refine blk_far ?_ NB397_403.out _; refine tK ?_; refine blk_far ?_ NB397_403.out _; refine tK ?_; refine blk_far ?_ NB397_403.out _; refine tK ?_; exact BK397.out) hb); replace BK403 := aK (blk_below (g := gb403) (o := .cells #[.string ((rd_T39 l0_1 a1).f0), .int .i64 ((rd_T39 l0_1 a1).f1), .int .i64 ((rd_T39 l0_1 a1).f2), .int .i64 ((rd_T39 l0_1 a1).f3)] 39 (0, 0)) (by refine tK ?_; refine blk_put (cs := #[.string ((rd_T39 l0_1 a1).f0), .int .i64 ((rd_T39 l0_1 a1).f1), .int .i64 ((rd_T39 l0_1 a1).f2), .int .i64 0]) ?_ 3 _ rfl; refine tK ?_; refine blk_put (cs := #[.string ((rd_T39 l0_1 a1).f0), .int .i64 ((rd_T39 l0_1 a1).f1), .int .i64 0, .int .i64 0]) ?_ 2 _ rfl; refine tK ?_; refine blk_put (cs := #[.string ((rd_T39 l0_1 a1).f0), .int .i64 0, .int .i64 0, .int .i64 0]) ?_ 1 _ rfl; refine tK ?_; refine blk_put (cs := #[.string (⟨#[]⟩ : ByteArray), .int .i64 0, .int .i64 0, .int .i64 0]) ?_ 0 _ rfl; refine tK ?_; exact BK403.out) hb); replace HB := aK (below_step (tB3 HB.out GE386.out GE397.out GE403.out) hb)))
      go_ret
      exact ⟨by first | rfl | (simp [errW_none, errW_some] <;> rfl) | (simp [*, errW_none, errW_some] <;> rfl), by repeat (first | (with_reducible first | exact HB.out | apply below_alloc | apply pw_below_drewN | apply below_drew1 | refine below_set ?_ GE386.out | refine below_set ?_ GE397.out | refine below_set ?_ GE403.out) | exact HB.out)⟩
     ·as_aux_lemma =>
      rw [if_neg c45] at H
      have c45b0 : decide (0 ≤ t404) = false := decide_eq_false c45
      clear c45
      by_cases c87 : t395 = (-1)
      rotate_left
      ·rw [if_neg c87] at H
       exact absurd ((oI H).trans HRT.out) (by decide)
      as_aux_lemma =>
      rw [if_pos c87] at H
      have c87b0 : (t395 == (-1)) = true := beq_iff_eq.mpr c87
      have c87b1 : (t395 != (-1)) = false := bne_eq_false_iff_eq.mpr c87
      clear c87
      by_cases c88 : t396 = 0
      rotate_left
      ·rw [if_neg c88] at H
       exact absurd ((oI H).trans HRT.out) (by decide)
      as_aux_lemma =>
      rw [if_pos c88] at H
      have c88b0 : (t396 == 0) = true := beq_iff_eq.mpr c88
      have c88b1 : (t396 != 0) = false := bne_eq_false_iff_eq.mpr c88
      clear c88
      replace H := bM H
      obtain ⟨t405, A890, H⟩ := H
      (try dsimp only at H)
      have A89 := aK A890
      clear A890
      replace H := bM H
      obtain ⟨t408, A900, H⟩ := H
      (try dsimp only at H)
      have A90 := aK A900
      clear A900
      obtain rfl := oI H
      try go_wp2
      replace HO_398000 := aK (Kd.S_drew HO_398000.out)
      replace HO_398001 := aK (Kd.S_drew HO_398001.out)
      replace BK386 := aK (blk_drew BK386.out)
      replace BK397 := aK (blk_drew BK397.out)
      replace HB := aK (below_drew1 HB.out)
      have p402 : 0 ≤ (a1 : Int) := tD
      have q402 : a1 < (l0_1.length : Int) := tD
      obtain ⟨ad402, e402, hx402_0, hx402_1, hx402_2, hx402_3⟩ := at_T39 HR0_1.out a1 p402 q402
      have hw402_3 := hx402_3
      have hw402_2 := hx402_2
      have hw402_1 := hx402_1
      have hw402_0 := hx402_0
      cases e402
      replace hx402_0 := cB HB.out hx402_0
      replace hx402_1 := cB HB.out hx402_1
      replace hx402_2 := cB HB.out hx402_2
      replace hx402_3 := cB HB.out hx402_3
      replace p402 := eq_true p402
      replace q402 := eq_true q402
      refine start_ (n := 10) (S := fun w' => w'.cell? ⟨gb386, 0, none⟩ = some (.slice A0_0 l0_0.length c0_0) ∧ w'.cell? ⟨gb386, 1, none⟩ = some (.slice (some ad402) l0_1.length c0_1) ∧ w'.cell? ⟨gb386, 2, none⟩ = some (.int .i64 a0_2) ∧ w'.cell? ⟨gb386, 3, none⟩ = some (.int .i64 a0_3) ∧ w'.cell? (ad402.add ((a1).toNat * 4)) = some (.string ((rd_T39 l0_1 a1).f0)) ∧ w'.cell? ⟨(ad402.add ((a1).toNat * 4)).block, (ad402.add ((a1).toNat * 4)).off + 1, none⟩ = some (.int .i64 ((rd_T39 l0_1 a1).f1)) ∧ w'.cell? ⟨(ad402.add ((a1).toNat * 4)).block, (ad402.add ((a1).toNat * 4)).off + 2, none⟩ = some (.int .i64 ((rd_T39 l0_1 a1).f2)) ∧ w'.cell? ⟨(ad402.add ((a1).toNat * 4)).block, (ad402.add ((a1).toNat * 4)).off + 3, none⟩ = some (.int .i64 ((rd_T39 l0_1 a1).f3))) (ds := []) #[F_, F_, F_, F_, F_, F_, F_, F_, F_, F_] (by kernel_rfl) rfl rfl ⟨(blk_cell BK386.out 0).trans rfl, (blk_cell BK386.out 1).trans rfl, (blk_cell BK386.out 2).trans rfl, (blk_cell BK386.out 3).trans rfl, (cB HB.out hw402_0), (cB HB.out hw402_1), (cB HB.out hw402_2), (cB HB.out hw402_3)⟩ (fun hHeld => ?_); refine with_tabW ontimelaw24_CfgBuilds.tab11 ontimelaw24_CfgBuilds.bits11 (fun HT_ HW_ => ?_)
      generalize wc.drew = w91 at HO_398000 HO_398001 BK386 BK397 HB hx402_0 hx402_1 hx402_2 hx402_3 hHeld ⊢
      refine pure_ (i := 2) (N := some 66) (v := ?_) (a' := ?_) #[F_, F_, T_, F_, F_, F_, F_, F_, F_, F_] rfl rfl (any_of HT_.out (by kernel_rfl)) (fun _ _ _ h => h) (Or.inl ⟨by rfl, ?_⟩) ?_ ?_
      rotate_left
      ·intro w'
       go_simp
       with_reducible rfl
      rotate_left
      ·simp only [Act.put, pA, pB, pC, i64_w, i32_w]
       rfl
      refine pure_ (i := 4) (N := some 68) (v := ?_) (a' := ?_) #[F_, F_, T_, F_, T_, F_, F_, F_, F_, F_] rfl rfl (any_of HT_.out (by kernel_rfl)) (fun _ _ _ h => h) (Or.inl ⟨by rfl, ?_⟩) ?_ ?_
      rotate_left
      ·intro w'
       go_simp
       with_reducible rfl
      rotate_left
      ·simp only [Act.put, pA, pB, pC, i64_w, i32_w]
       rfl
      refine take_ (i := 0) (N := some 64) (v := ?_) (a' := ?_) #[T_, F_, T_, F_, T_, F_, F_, F_, F_, F_] rfl rfl (take_ofW HT_.out HW_.out (by kernel_rfl)) (fun _ _ _ h => h) (Or.inl ⟨by rfl, ?_⟩) hHeld ?_ ?_
      rotate_left
      ·rintro w' ⟨s0, s1, s2, s3, s4, s5, s6, s7⟩
       go_simp
       with_reducible rfl
      rotate_left
      ·simp only [Act.put, pA, pB, pC, i64_w, i32_w]
       rfl
      refine take_ (i := 3) (N := some 67) (v := ?_) (a' := ?_) #[T_, F_, T_, T_, T_, F_, F_, F_, F_, F_] rfl rfl (take_ofW HT_.out HW_.out (by kernel_rfl)) (fun _ _ _ h => h) (Or.inl ⟨by rfl, ?_⟩) hHeld ?_ ?_
      rotate_left
      ·rintro w' ⟨s0, s1, s2, s3, s4, s5, s6, s7⟩
       go_simp
       with_reducible rfl
      rotate_left
      ·simp only [Act.put, pA, pB, pC, i64_w, i32_w]
       rfl
      refine pure_ (i := 5) (N := some 69) (v := ?_) (a' := ?_) #[T_, F_, T_, T_, T_, T_, F_, F_, F_, F_] rfl rfl (any_of HT_.out (by kernel_rfl)) (fun _ _ _ h => h) (Or.inl ⟨by rfl, ?_⟩) ?_ ?_
      rotate_left
      ·intro w'
       go_simp
       with_reducible rfl
      rotate_left
      ·simp only [Act.put, pA, pB, pC, i64_w, i32_w]
       rfl
      refine take_ (i := 6) (N := some 70) (v := ?_) (a' := ?_) #[T_, F_, T_, T_, T_, T_, T_, F_, F_, F_] rfl rfl (take_ofW HT_.out HW_.out (by kernel_rfl)) (fun _ _ _ h => h) (Or.inl ⟨by rfl, ?_⟩) hHeld ?_ ?_
      rotate_left
      ·rintro w' ⟨s0, s1, s2, s3, s4, s5, s6, s7⟩
       go_simp
       with_reducible rfl
      rotate_left
      ·simp only [Act.put, pA, pB, pC, i64_w, i32_w]
       rfl
      refine join_ (σ := Value × Nat) 2 #[T_, T_, T_, T_, T_, T_, T_, T_, F_, F_] (fun s_ => [(65, s_.1), (10, .pointer (some ⟨s_.2, 0, none⟩))]) (fun s_ w' => (w'.cell? ⟨gb386, 0, none⟩ = some (.slice A0_0 l0_0.length c0_0) ∧ w'.cell? ⟨gb386, 1, none⟩ = some (.slice (some ad402) l0_1.length c0_1) ∧ w'.cell? ⟨gb386, 2, none⟩ = some (.int .i64 a0_2) ∧ w'.cell? ⟨gb386, 3, none⟩ = some (.int .i64 a0_3) ∧ w'.cell? (ad402.add ((a1).toNat * 4)) = some (.string ((rd_T39 l0_1 a1).f0)) ∧ w'.cell? ⟨(ad402.add ((a1).toNat * 4)).block, (ad402.add ((a1).toNat * 4)).off + 1, none⟩ = some (.int .i64 ((rd_T39 l0_1 a1).f1)) ∧ w'.cell? ⟨(ad402.add ((a1).toNat * 4)).block, (ad402.add ((a1).toNat * 4)).off + 2, none⟩ = some (.int .i64 ((rd_T39 l0_1 a1).f2)) ∧ w'.cell? ⟨(ad402.add ((a1).toNat * 4)).block, (ad402.add ((a1).toNat * 4)).off + 3, none⟩ = some (.int .i64 ((rd_T39 l0_1 a1).f3))) ∧ (Kd.R k53 53 w' w.heap.size (fun _ => True) s_.1 t399) ∧ (Kd.S k51 51 w' w.heap.size (fun _ => True) (.slice Ao20 t389.length co20) t389) ∧ (Kd.S (Kd.slice 3 (Kd.int .i64)) 49 w' w.heap.size (fun _ => True) (.slice Ao23 t392.length co23) t392) ∧ (w'.heap[gb386]? = some (.cells #[.slice A0_0 l0_0.length c0_0, .slice (some ad402) l0_1.length c0_1, .int .i64 a0_2, .int .i64 a0_3] 25 (0, 0))) ∧ (w'.heap[gb397]? = some (.cells #[.slice Ao20 t389.length co20, .slice Ao23 t392.length co23] 31 (0, 0))) ∧ (w'.heap[s_.2]? = some (.cells #[.string (⟨#[]⟩ : ByteArray), .int .i64 0, .int .i64 0, .int .i64 0] 39 (0, 0))) ∧ (w.heap.size ≤ s_.2) ∧ (w.heap.size ≤ s_.2) ∧ (gb386 ≠ s_.2) ∧ (s_.2 ≠ gb386) ∧ (gb397 ≠ s_.2) ∧ (s_.2 ≠ gb397) ∧ (Below w.heap.size w w')) ?_ ?_
      rotate_left
      ·intro hCont
       refine two_ (i := 1) (j := 7) (Ni := some 65) (Nj := some 10) #[T_, T_, T_, T_, T_, T_, T_, F_, F_, F_] #[T_, F_, T_, T_, T_, T_, T_, T_, F_, F_] rfl rfl rfl rfl (two_of HT_.out (by kernel_rfl)) (by decide) (by decide) (fun K hK => ?_) (fun K hK => ?_)
       ·skip
        refine goes_ Try.func14 (by kernel_rfl) rfl #[.agg #[.slice A0_0 l0_0.length c0_0, .slice (some ad402) l0_1.length c0_1, .int .i64 a0_2, .int .i64 a0_3]] (by rfl) rfl rfl tF ?_
        with_reducible refine (ontimeref24_Code.calls kj30 _ _ l0_0 _ _ l0_1 a0_2 a0_3 t399 _ ?side1 ?side2 ?side3 ?side4 A41.out).mono ?_
        (case side1 => exact tC (Kd.C_below HR0_0.out HB.out))
        (case side2 => exact HC0_0.out)
        (case side3 => exact tC (Kd.C_below HR0_1.out HB.out))
        (case side4 => exact HC0_1.out)
        rintro e w92 ⟨v400, rfl, ho0, hb⟩
        refine ⟨_, rfl, ?_⟩
        replace HO_398000 := aK (Kd.S_below (tS HO_398000.out) hb)
        replace HO_398001 := aK (Kd.S_below (tS HO_398001.out) hb)
        have HO401 := aK (Kd.R_lower ho0 (below_size (tB2 HB.out GE386.out GE397.out)))
        replace BK386 := aK (blk_below (g := gb386) (tK BK386.out) hb)
        replace BK397 := aK (blk_below (g := gb397) (tK BK397.out) hb)
        replace HB := aK (below_step (tB2 HB.out GE386.out GE397.out) hb)
        refine hK.out _ _ ⟨(blk_cell BK386.out 0).trans rfl, (blk_cell BK386.out 1).trans rfl, (blk_cell BK386.out 2).trans rfl, (blk_cell BK386.out 3).trans rfl, (cB HB.out hw402_0), (cB HB.out hw402_1), (cB HB.out hw402_2), (cB HB.out hw402_3)⟩ (fun hHeld => ?_)
        clear hK K
        refine norm_ (a' := ?_) ?_ ?_
        rotate_left
        ·show Act.put _ (some 65) _ = _
         simp only [Act.put, pA, pB, pC, i64_w, i32_w]
         rfl
        refine one_ (i := 7) (N := some 10) #[T_, T_, T_, T_, T_, T_, T_, T_, F_, F_] rfl rfl (one_of HT_.out (by kernel_rfl)) (by decide) (fun K hK => ?_)
        refine box_step ?hg (N := 10) ?hd (cs := #[.string (⟨#[]⟩ : ByteArray), .int .i64 0, .int .i64 0, .int .i64 0]) (t := 39) ?hr ?_; (case hd => rfl); (case hg => rfl); (case hr => first | (go_simp; done) | (go_simp; rfl))
        intro gb403 hg w93 hbox hb
        have n0_ := aK (Kd.S_below (tS HO_398000.out) hb)
        have n1_ := aK (Kd.S_below (tS HO_398001.out) hb)
        have n2_ := aK (Kd.R_below (tR HO401.out) hb)
        have n3_ := aK (blk_below (g := gb386) (tK BK386.out) hb)
        have n4_ := aK (blk_below (g := gb397) (tK BK397.out) hb)
        have n5_ := aK (below_step (tB2 HB.out GE386.out GE397.out) hb)
        have n6_ := aK (hbox)
        have n7_ := aK ((by rw [hg]; exact (below_size (tB2 HB.out GE386.out GE397.out)) : w.heap.size ≤ gb403))
        have n8_ := aK ((by rw [hg]; exact (below_size (tB2 HB.out GE386.out GE397.out)) : w.heap.size ≤ gb403))
        have n9_ := aK ((by rw [hg]; exact Nat.ne_of_lt (blk_lt (g := gb386) (o := .cells #[.slice A0_0 l0_0.length c0_0, .slice (some ad402) l0_1.length c0_1, .int .i64 a0_2, .int .i64 a0_3] 25 (0, 0)) (tK BK386.out)) : gb386 ≠ gb403))
        have n10_ := aK ((by rw [hg]; exact Nat.ne_of_gt (blk_lt (g := gb386) (o := .cells #[.slice A0_0 l0_0.length c0_0, .slice (some ad402) l0_1.length c0_1, .int .i64 a0_2, .int .i64 a0_3] 25 (0, 0)) (tK BK386.out)) : gb403 ≠ gb386))
        have n11_ := aK ((by rw [hg]; exact Nat.ne_of_lt (blk_lt (g := gb397) (o := .cells #[.slice Ao20 t389.length co20, .slice Ao23 t392.length co23] 31 (0, 0)) (tK BK397.out)) : gb397 ≠ gb403))
        have n12_ := aK ((by rw [hg]; exact Nat.ne_of_gt (blk_lt (g := gb397) (o := .cells #[.slice Ao20 t389.length co20, .slice Ao23 t392.length co23] 31 (0, 0)) (tK BK397.out)) : gb403 ≠ gb397))
        clear HO_398000 HO_398001 HO401 BK386 BK397 HB
        have HO_398000 := n0_
        have HO_398001 := n1_
        have HO401 := n2_
        have BK386 := n3_
        have BK397 := n4_
        have HB := n5_
        have BK403 := n6_
        have GW403 := n7_
        have GE403 := n8_
        have NB386_403 := n9_
        have NB403_386 := n10_
        have NB397_403 := n11_
        have NB403_397 := n12_
        clear n0_ n1_ n2_ n3_ n4_ n5_ n6_ n7_ n8_ n9_ n10_ n11_ n12_ hb hbox hg
        refine hK.out _ _ ⟨(blk_cell BK386.out 0).trans rfl, (blk_cell BK386.out 1).trans rfl, (blk_cell BK386.out 2).trans rfl, (blk_cell BK386.out 3).trans rfl, (cB HB.out hw402_0), (cB HB.out hw402_1), (cB HB.out hw402_2), (cB HB.out hw402_3)⟩ (fun hHeld => ?_)
        clear hK K
        refine norm_ (a' := ?_) ?_ ?_
        rotate_left
        ·show Act.put _ (some 10) _ = _
         simp only [Act.put, pA, pB, pC, i64_w, i32_w]
         rfl
        exact norm_ (by simp only [putAll, Act.put, pA, pB, pC]) (hCont (v400, gb403) _ ⟨hHeld, (tR HO401.out), (tS HO_398000.out), (tS HO_398001.out), (tK BK386.out), (tK BK397.out), (tK BK403.out), GW403.out, GE403.out, NB386_403.out, NB403_386.out, NB397_403.out, NB403_397.out, (tB3 HB.out GE386.out GE397.out GE403.out)⟩)
       ·skip
        refine box_step ?hg (N := 10) ?hd (cs := #[.string (⟨#[]⟩ : ByteArray), .int .i64 0, .int .i64 0, .int .i64 0]) (t := 39) ?hr ?_; (case hd => rfl); (case hg => rfl); (case hr => first | (go_simp; done) | (go_simp; rfl))
        intro gb403 hg w92 hbox hb
        have n0_ := aK (Kd.S_below (tS HO_398000.out) hb)
        have n1_ := aK (Kd.S_below (tS HO_398001.out) hb)
        have n2_ := aK (blk_below (g := gb386) (tK BK386.out) hb)
        have n3_ := aK (blk_below (g := gb397) (tK BK397.out) hb)
        have n4_ := aK (below_step (tB2 HB.out GE386.out GE397.out) hb)
        have n5_ := aK (hbox)
        have n6_ := aK ((by rw [hg]; exact (below_size (tB2 HB.out GE386.out GE397.out)) : w.heap.size ≤ gb403))
        have n7_ := aK ((by rw [hg]; exact (below_size (tB2 HB.out GE386.out GE397.out)) : w.heap.size ≤ gb403))
        have n8_ := aK ((by rw [hg]; exact Nat.ne_of_lt (blk_lt (g := gb386) (o := .cells #[.slice A0_0 l0_0.length c0_0, .slice (some ad402) l0_1.length c0_1, .int .i64 a0_2, .int .i64 a0_3] 25 (0, 0)) (tK BK386.out)) : gb386 ≠ gb403))
        have n9_ := aK ((by rw [hg]; exact Nat.ne_of_gt (blk_lt (g := gb386) (o := .cells #[.slice A0_0 l0_0.length c0_0, .slice (some ad402) l0_1.length c0_1, .int .i64 a0_2, .int .i64 a0_3] 25 (0, 0)) (tK BK386.out)) : gb403 ≠ gb386))
        have n10_ := aK ((by rw [hg]; exact Nat.ne_of_lt (blk_lt (g := gb397) (o := .cells #[.slice Ao20 t389.length co20, .slice Ao23 t392.length co23] 31 (0, 0)) (tK BK397.out)) : gb397 ≠ gb403))
        have n11_ := aK ((by rw [hg]; exact Nat.ne_of_gt (blk_lt (g := gb397) (o := .cells #[.slice Ao20 t389.length co20, .slice Ao23 t392.length co23] 31 (0, 0)) (tK BK397.out)) : gb403 ≠ gb397))
        clear HO_398000 HO_398001 BK386 BK397 HB
        have HO_398000 := n0_
        have HO_398001 := n1_
        have BK386 := n2_
        have BK397 := n3_
        have HB := n4_
        have BK403 := n5_
        have GW403 := n6_
        have GE403 := n7_
        have NB386_403 := n8_
        have NB403_386 := n9_
        have NB397_403 := n10_
        have NB403_397 := n11_
        clear n0_ n1_ n2_ n3_ n4_ n5_ n6_ n7_ n8_ n9_ n10_ n11_ hb hbox hg
        refine hK.out _ _ ⟨(blk_cell BK386.out 0).trans rfl, (blk_cell BK386.out 1).trans rfl, (blk_cell BK386.out 2).trans rfl, (blk_cell BK386.out 3).trans rfl, (cB HB.out hw402_0), (cB HB.out hw402_1), (cB HB.out hw402_2), (cB HB.out hw402_3)⟩ (fun hHeld => ?_)
        clear hK K
        refine norm_ (a' := ?_) ?_ ?_
        rotate_left
        ·show Act.put _ (some 10) _ = _
         simp only [Act.put, pA, pB, pC, i64_w, i32_w]
         rfl
        refine one_ (i := 1) (N := some 65) #[T_, T_, T_, T_, T_, T_, T_, T_, F_, F_] rfl rfl (one_of HT_.out (by kernel_rfl)) (by decide) (fun K hK => ?_)
        refine goes_ Try.func14 (by kernel_rfl) rfl #[.agg #[.slice A0_0 l0_0.length c0_0, .slice (some ad402) l0_1.length c0_1, .int .i64 a0_2, .int .i64 a0_3]] (by rfl) rfl rfl tF ?_
        with_reducible refine (ontimeref24_Code.calls kj30 _ _ l0_0 _ _ l0_1 a0_2 a0_3 t399 _ ?side1 ?side2 ?side3 ?side4 A41.out).mono ?_
        (case side1 => exact tC (Kd.C_below HR0_0.out HB.out))
        (case side2 => exact HC0_0.out)
        (case side3 => exact tC (Kd.C_below HR0_1.out HB.out))
        (case side4 => exact HC0_1.out)
        rintro e w93 ⟨v400, rfl, ho0, hb⟩
        refine ⟨_, rfl, ?_⟩
        replace HO_398000 := aK (Kd.S_below (tS HO_398000.out) hb)
        replace HO_398001 := aK (Kd.S_below (tS HO_398001.out) hb)
        have HO401 := aK (Kd.R_lower ho0 (below_size (tB3 HB.out GE386.out GE397.out GE403.out)))
        replace BK386 := aK (blk_below (g := gb386) (tK BK386.out) hb)
        replace BK397 := aK (blk_below (g := gb397) (tK BK397.out) hb)
        replace BK403 := aK (blk_below (g := gb403) (tK BK403.out) hb)
        replace HB := aK (below_step (tB3 HB.out GE386.out GE397.out GE403.out) hb)
        refine hK.out _ _ ⟨(blk_cell BK386.out 0).trans rfl, (blk_cell BK386.out 1).trans rfl, (blk_cell BK386.out 2).trans rfl, (blk_cell BK386.out 3).trans rfl, (cB HB.out hw402_0), (cB HB.out hw402_1), (cB HB.out hw402_2), (cB HB.out hw402_3)⟩ (fun hHeld => ?_)
        clear hK K
        refine norm_ (a' := ?_) ?_ ?_
        rotate_left
        ·show Act.put _ (some 65) _ = _
         simp only [Act.put, pA, pB, pC, i64_w, i32_w]
         rfl
        exact norm_ (by simp only [putAll, Act.put, pA, pB, pC]) (hCont (v400, gb403) _ ⟨hHeld, (tR HO401.out), (tS HO_398000.out), (tS HO_398001.out), (tK BK386.out), (tK BK397.out), (tK BK403.out), GW403.out, GE403.out, NB386_403.out, NB403_386.out, NB397_403.out, NB403_397.out, (tB3 HB.out GE386.out GE397.out GE403.out)⟩)
      rintro ⟨v400, gb403⟩ w94 ⟨hS_, h0_, h1_, h2_, h3_, h4_, h5_, h6_, h7_, h8_, h9_, h10_, h11_, h12_⟩
      have HO401 : Aside0 (Kd.R k53 53 w94 w.heap.size (fun _ => True) v400 t399) := ⟨h0_⟩
      replace HO_398000 : Aside0 (Kd.S k51 51 w94 w.heap.size (fun _ => True) (.slice Ao20 t389.length co20) t389) := ⟨h1_⟩
      replace HO_398001 : Aside0 (Kd.S (Kd.slice 3 (Kd.int .i64)) 49 w94 w.heap.size (fun _ => True) (.slice Ao23 t392.length co23) t392) := ⟨h2_⟩
      replace BK386 : Aside0 (w94.heap[gb386]? = some (.cells #[.slice A0_0 l0_0.length c0_0, .slice (some ad402) l0_1.length c0_1, .int .i64 a0_2, .int .i64 a0_3] 25 (0, 0))) := ⟨h3_⟩
      replace BK397 : Aside0 (w94.heap[gb397]? = some (.cells #[.slice Ao20 t389.length co20, .slice Ao23 t392.length co23] 31 (0, 0))) := ⟨h4_⟩
      have BK403 : Aside0 (w94.heap[gb403]? = some (.cells #[.string (⟨#[]⟩ : ByteArray), .int .i64 0, .int .i64 0, .int .i64 0] 39 (0, 0))) := ⟨h5_⟩
      have GW403 : Aside0 (w.heap.size ≤ gb403) := ⟨h6_⟩
      have GE403 : Aside0 (w.heap.size ≤ gb403) := ⟨h7_⟩
      have NB386_403 : Aside0 (gb386 ≠ gb403) := ⟨h8_⟩
      have NB403_386 : Aside0 (gb403 ≠ gb386) := ⟨h9_⟩
      have NB397_403 : Aside0 (gb397 ≠ gb403) := ⟨h10_⟩
      have NB403_397 : Aside0 (gb403 ≠ gb397) := ⟨h11_⟩
      replace HB : Aside0 (Below w.heap.size w w94) := ⟨h12_⟩
      clear h0_ h1_ h2_ h3_ h4_ h5_ h6_ h7_ h8_ h9_ h10_ h11_ h12_
      have hHeld : w94.cell? ⟨gb386, 0, none⟩ = some (.slice A0_0 l0_0.length c0_0) ∧ w94.cell? ⟨gb386, 1, none⟩ = some (.slice (some ad402) l0_1.length c0_1) ∧ w94.cell? ⟨gb386, 2, none⟩ = some (.int .i64 a0_2) ∧ w94.cell? ⟨gb386, 3, none⟩ = some (.int .i64 a0_3) ∧ w94.cell? (ad402.add ((a1).toNat * 4)) = some (.string ((rd_T39 l0_1 a1).f0)) ∧ w94.cell? ⟨(ad402.add ((a1).toNat * 4)).block, (ad402.add ((a1).toNat * 4)).off + 1, none⟩ = some (.int .i64 ((rd_T39 l0_1 a1).f1)) ∧ w94.cell? ⟨(ad402.add ((a1).toNat * 4)).block, (ad402.add ((a1).toNat * 4)).off + 2, none⟩ = some (.int .i64 ((rd_T39 l0_1 a1).f2)) ∧ w94.cell? ⟨(ad402.add ((a1).toNat * 4)).block, (ad402.add ((a1).toNat * 4)).off + 3, none⟩ = some (.int .i64 ((rd_T39 l0_1 a1).f3)) := hS_
      refine norm_ (a' := ?_) ?_ ?_
      rotate_left
      ·simp only [putAll, Act.put, pA, pB, pC]
       rfl
      refine pure_ (i := 8) (N := some 9) (v := ?_) (a' := ?_) #[T_, T_, T_, T_, T_, T_, T_, T_, T_, F_] rfl rfl (any_of HT_.out (by kernel_rfl)) (fun _ _ _ h => h) (Or.inl ⟨by rfl, ?_⟩) ?_ ?_
      rotate_left
      ·intro w'
       go_simp
       with_reducible rfl
      rotate_left
      ·simp only [Act.put, pA, pB, pC, i64_w, i32_w]
       rfl
      refine one_ (i := 9) (N := none) #[T_, T_, T_, T_, T_, T_, T_, T_, T_, T_] rfl rfl (one_of HT_.out (by kernel_rfl)) (by decide) (fun K hK => ?_)
      have hs95 : w94.cell? ⟨gb403, 0, none⟩ = some (.string (⟨#[]⟩ : ByteArray)) := (blk_cell BK403.out 0).trans rfl
      have hfs95 := blk_frozen BK403.out 0
      have hns95_0 := NB386_403.out
      have hns95_1 := NB397_403.out
      have hms95_0 := NB403_386.out
      have hms95_1 := NB403_397.out
      have hs96 : w94.cell? ⟨gb403, 1, none⟩ = some (.int .i64 0) := (blk_cell BK403.out 1).trans rfl
      have hfs96 := blk_frozen BK403.out 1
      have hns96_0 := NB386_403.out
      have hns96_1 := NB397_403.out
      have hms96_0 := NB403_386.out
      have hms96_1 := NB403_397.out
      have hs97 : w94.cell? ⟨gb403, 2, none⟩ = some (.int .i64 0) := (blk_cell BK403.out 2).trans rfl
      have hfs97 := blk_frozen BK403.out 2
      have hns97_0 := NB386_403.out
      have hns97_1 := NB397_403.out
      have hms97_0 := NB403_386.out
      have hms97_1 := NB403_397.out
      have hs98 : w94.cell? ⟨gb403, 3, none⟩ = some (.int .i64 0) := (blk_cell BK403.out 3).trans rfl
      have hfs98 := blk_frozen BK403.out 3
      have hns98_0 := NB386_403.out
      have hns98_1 := NB397_403.out
      have hms98_0 := NB403_386.out
      have hms98_1 := NB403_397.out
      refine skip_ (w1 := ?_) (by rfl) rfl ?_ ?_
      rotate_left
      ·go_simp
       rfl
      refine hK.out _ _ ⟨((cell_far (p := ⟨gb403, _, none⟩) NB386_403.out _).trans (((cell_far (p := ⟨gb403, _, none⟩) NB386_403.out _).trans (((cell_far (p := ⟨gb403, _, none⟩) NB386_403.out _).trans (((cell_far (p := ⟨gb403, _, none⟩) NB386_403.out _).trans (hHeld.1)))))))), ((cell_far (p := ⟨gb403, _, none⟩) NB386_403.out _).trans (((cell_far (p := ⟨gb403, _, none⟩) NB386_403.out _).trans (((cell_far (p := ⟨gb403, _, none⟩) NB386_403.out _).trans (((cell_far (p := ⟨gb403, _, none⟩) NB386_403.out _).trans (hHeld.2.1)))))))), ((cell_far (p := ⟨gb403, _, none⟩) NB386_403.out _).trans (((cell_far (p := ⟨gb403, _, none⟩) NB386_403.out _).trans (((cell_far (p := ⟨gb403, _, none⟩) NB386_403.out _).trans (((cell_far (p := ⟨gb403, _, none⟩) NB386_403.out _).trans (hHeld.2.2.1)))))))), ((cell_far (p := ⟨gb403, _, none⟩) NB386_403.out _).trans (((cell_far (p := ⟨gb403, _, none⟩) NB386_403.out _).trans (((cell_far (p := ⟨gb403, _, none⟩) NB386_403.out _).trans (((cell_far (p := ⟨gb403, _, none⟩) NB386_403.out _).trans (hHeld.2.2.2.1)))))))), ((cell_far (p := ⟨gb403, _, none⟩) (nL hw402_0 GW403.out) _).trans (((cell_far (p := ⟨gb403, _, none⟩) (nL hw402_0 GW403.out) _).trans (((cell_far (p := ⟨gb403, _, none⟩) (nL hw402_0 GW403.out) _).trans (((cell_far (p := ⟨gb403, _, none⟩) (nL hw402_0 GW403.out) _).trans (hHeld.2.2.2.2.1)))))))), ((cell_far (p := ⟨gb403, _, none⟩) (nL hw402_1 GW403.out) _).trans (((cell_far (p := ⟨gb403, _, none⟩) (nL hw402_1 GW403.out) _).trans (((cell_far (p := ⟨gb403, _, none⟩) (nL hw402_1 GW403.out) _).trans (((cell_far (p := ⟨gb403, _, none⟩) (nL hw402_1 GW403.out) _).trans (hHeld.2.2.2.2.2.1)))))))), ((cell_far (p := ⟨gb403, _, none⟩) (nL hw402_2 GW403.out) _).trans (((cell_far (p := ⟨gb403, _, none⟩) (nL hw402_2 GW403.out) _).trans (((cell_far (p := ⟨gb403, _, none⟩) (nL hw402_2 GW403.out) _).trans (((cell_far (p := ⟨gb403, _, none⟩) (nL hw402_2 GW403.out) _).trans (hHeld.2.2.2.2.2.2.1)))))))), ((cell_far (p := ⟨gb403, _, none⟩) (nL hw402_3 GW403.out) _).trans (((cell_far (p := ⟨gb403, _, none⟩) (nL hw402_3 GW403.out) _).trans (((cell_far (p := ⟨gb403, _, none⟩) (nL hw402_3 GW403.out) _).trans (((cell_far (p := ⟨gb403, _, none⟩) (nL hw402_3 GW403.out) _).trans (hHeld.2.2.2.2.2.2.2))))))))⟩ (fun hHeld => ?_)
      clear hK K
      refine done_ (done_of HT_.out (by kernel_rfl)) ?_
      have hnb99 := NB403_386.out
      have hnc99 := NB386_403.out
      have hnb100 := NB403_397.out
      have hnc100 := NB397_403.out
      have hcz101_0 := bc 0 BK403.out
      have hcz101_1 := bc 1 BK403.out
      have hcz101_2 := bc 2 BK403.out
      have hcz101_3 := bc 3 BK403.out
      have hfz101_0 := blk_frozen BK403.out 0
      have hfz101_1 := blk_frozen BK403.out 1
      have hfz101_2 := blk_frozen BK403.out 2
      have hfz101_3 := blk_frozen BK403.out 3
      obtain ⟨Ao102, co102, eo102⟩ := Kd.R_slice HO401.out
      subst eo102
      try go_wp2_with (first | ((refine gate_callee (f := 15) rfl ?_); refine goesL_ (some 76) rfl rfl Try.func15 (by kernel_rfl) rfl #[.slice Ao102 t399.length co102, .int .i64 ((rd_T39 l0_1 a1).f1), .int .i64 ((rd_T39 l0_1 a1).f2)] rfl tF ?_; (with_reducible refine (ontimeref24_Leave.calls kj30 _ _ t399 ((rd_T39 l0_1 a1).f1) ((rd_T39 l0_1 a1).f2) t404 _ ?side1 ?side2 A44.out).mono ?_); (case side1 => refine (Kd.R_reads' (e := 53) (base := w.heap.size) (ok := fun k_ => True) (n := t399.length) (c := co102) ?_).2.2; exact (by (with_reducible repeat (first | apply Kd.R_alloc | apply Kd.R_drewN | apply Kd.R_drew)); exact (Kd.R_mono (Kd.R_far (p := ⟨gb403, 3, none⟩) (Kd.R_far (p := ⟨gb403, 2, none⟩) (Kd.R_far (p := ⟨gb403, 1, none⟩) (Kd.R_far (p := ⟨gb403, 0, none⟩) (Kd.R_types HO401.out BK403.out (by decide)) (fun _ hk => hk.2) (.string ((rd_T39 l0_1 a1).f0))) (fun _ hk => hk.2) (.int .i64 ((rd_T39 l0_1 a1).f1))) (fun _ hk => hk.2) (.int .i64 ((rd_T39 l0_1 a1).f2))) (fun _ hk => hk.2) (.int .i64 ((rd_T39 l0_1 a1).f3))) (fun _ h_ => h_.1)))); (case side2 => exact (Kd.R_reads' HO401.out).2.1); rintro e w103 ⟨rfl, hb⟩; refine ⟨_, rfl, ?_⟩; replace HO_398000 := aK (Kd.S_below (by (with_reducible repeat (first | apply Kd.S_alloc | apply Kd.S_drewN | apply Kd.S_drew)); exact (Kd.S_mono (Kd.S_far (p := ⟨gb403, 3, none⟩) (Kd.S_far (p := ⟨gb403, 2, none⟩) (Kd.S_far (p := ⟨gb403, 1, none⟩) (Kd.S_far (p := ⟨gb403, 0, none⟩) (Kd.S_types HO_398000.out BK403.out (by decide)) (fun _ hk => hk.2) (.string ((rd_T39 l0_1 a1).f0))) (fun _ hk => hk.2) (.int .i64 ((rd_T39 l0_1 a1).f1))) (fun _ hk => hk.2) (.int .i64 ((rd_T39 l0_1 a1).f2))) (fun _ hk => hk.2) (.int .i64 ((rd_T39 l0_1 a1).f3))) (fun _ h_ => h_.1))) hb); replace HO_398001 := aK (Kd.S_below (by (with_reducible repeat (first | apply Kd.S_alloc | apply Kd.S_drewN | apply Kd.S_drew)); exact (Kd.S_mono (Kd.S_far (p := ⟨gb403, 3, none⟩) (Kd.S_far (p := ⟨gb403, 2, none⟩) (Kd.S_far (p := ⟨gb403, 1, none⟩) (Kd.S_far (p := ⟨gb403, 0, none⟩) (Kd.S_types HO_398001.out BK403.out (by decide)) (fun _ hk => hk.2) (.string ((rd_T39 l0_1 a1).f0))) (fun _ hk => hk.2) (.int .i64 ((rd_T39 l0_1 a1).f1))) (fun _ hk => hk.2) (.int .i64 ((rd_T39 l0_1 a1).f2))) (fun _ hk => hk.2) (.int .i64 ((rd_T39 l0_1 a1).f3))) (fun _ h_ => h_.1))) hb); replace HO401 := aK (Kd.R_below (by (with_reducible repeat (first | apply Kd.R_alloc | apply Kd.R_drewN | apply Kd.R_drew)); exact (Kd.R_mono (Kd.R_far (p := ⟨gb403, 3, none⟩) (Kd.R_far (p := ⟨gb403, 2, none⟩) (Kd.R_far (p := ⟨gb403, 1, none⟩) (Kd.R_far (p := ⟨gb403, 0, none⟩) (Kd.R_types HO401.out BK403.out (by decide)) (fun _ hk => hk.2) (.string ((rd_T39 l0_1 a1).f0))) (fun _ hk => hk.2) (.int .i64 ((rd_T39 l0_1 a1).f1))) (fun _ hk => hk.2) (.int .i64 ((rd_T39 l0_1 a1).f2))) (fun _ hk => hk.2) (.int .i64 ((rd_T39 l0_1 a1).f3))) (fun _ h_ => h_.1))) hb); replace BK386 := aK (blk_below (g := gb386) (o := .cells #[.slice A0_0 l0_0.length c0_0, .slice (some ad402) l0_1.length c0_1, .int .i64 a0_2, .int .i64 a0_3] 25 (0, 0)) (by refine tK ?_; refine blk_far ?_ NB386_403.out _; refine tK ?_; refine blk_far ?_ NB386_403.out _; refine tK ?_; refine blk_far ?_ NB386_403.out _; refine tK ?_; refine blk_far ?_ NB386_403.out _; refine tK ?_; exact BK386.out) hb); replace BK397 := aK (blk_below (g := gb397) (o := .cells #[.slice Ao20 t389.length co20, .slice Ao23 t392.length co23] 31 (0, 0)) (by refine tK ?_; refine blk_far ?_ NB397_403.out _; refine tK ?_; refine blk_far ?_ NB397_403.out _; refine tK ?_; refine blk_far ?_ NB397_403.out _; refine tK ?_; refine blk_far ?_ NB397_403.out _; refine tK ?_; exact BK397.out) hb); replace BK403 := aK (blk_below (g := gb403) (o := .cells #[.string ((rd_T39 l0_1 a1).f0), .int .i64 ((rd_T39 l0_1 a1).f1), .int .i64 ((rd_T39 l0_1 a1).f2), .int .i64 ((rd_T39 l0_1 a1).f3)] 39 (0, 0)) (by refine tK ?_; refine blk_put (cs := #[.string ((rd_T39 l0_1 a1).f0), .int .i64 ((rd_T39 l0_1 a1).f1), .int .i64 ((rd_T39 l0_1 a1).f2), .int .i64 0]) ?_ 3 _ rfl; refine tK ?_; refine blk_put (cs := #[.string ((rd_T39 l0_1 a1).f0), .int .i64 ((rd_T39 l0_1 a1).f1), .int .i64 0, .int .i64 0]) ?_ 2 _ rfl; refine tK ?_; refine blk_put (cs := #[.string ((rd_T39 l0_1 a1).f0), .int .i64 0, .int .i64 0, .int .i64 0]) ?_ 1 _ rfl; refine tK ?_; refine blk_put (cs := #[.string (⟨#[]⟩ : ByteArray), .int .i64 0, .int .i64 0, .int .i64 0]) ?_ 0 _ rfl; refine tK ?_; exact BK403.out) hb); replace HB := aK (below_step (tB3 HB.out GE386.out GE397.out GE403.out) hb)))
      replace HO_398000 := aK (Kd.S_drew HO_398000.out)
      replace HO_398001 := aK (Kd.S_drew HO_398001.out)
      replace HO401 := aK (Kd.R_drew HO401.out)
      replace BK386 := aK (blk_drew BK386.out)
      replace BK397 := aK (blk_drew BK397.out)
      replace BK403 := aK (blk_drew BK403.out)
      replace HB := aK (below_drew1 HB.out)
      refine start_ (n := 17) (S := fun w' => w'.cell? ⟨gb397, 0, none⟩ = some (.slice Ao20 t389.length co20) ∧ w'.cell? ⟨gb397, 1, none⟩ = some (.slice Ao23 t392.length co23) ∧ w'.cell? ⟨gb403, 0, none⟩ = some (.string ((rd_T39 l0_1 a1).f0)) ∧ w'.cell? ⟨gb403, 1, none⟩ = some (.int .i64 ((rd_T39 l0_1 a1).f1)) ∧ w'.cell? ⟨gb403, 2, none⟩ = some (.int .i64 ((rd_T39 l0_1 a1).f2)) ∧ w'.cell? ⟨gb403, 3, none⟩ = some (.int .i64 ((rd_T39 l0_1 a1).f3))) (ds := []) #[F_, F_, F_, F_, F_, F_, F_, F_, F_, F_, F_, F_, F_, F_, F_, F_, F_] (by kernel_rfl) rfl rfl ⟨(blk_cell BK397.out 0).trans rfl, (blk_cell BK397.out 1).trans rfl, (blk_cell BK403.out 0).trans rfl, (blk_cell BK403.out 1).trans rfl, (blk_cell BK403.out 2).trans rfl, (blk_cell BK403.out 3).trans rfl⟩ (fun hHeld => ?_); refine with_tabW ontimelaw24_CfgBuilds.tab15 ontimelaw24_CfgBuilds.bits15 (fun HT_ HW_ => ?_)
      generalize w103.drew = w104 at HO_398000 HO_398001 HO401 BK386 BK397 BK403 HB hHeld ⊢
      refine pure_ (i := 0) (N := some 89) (v := ?_) (a' := ?_) #[T_, F_, F_, F_, F_, F_, F_, F_, F_, F_, F_, F_, F_, F_, F_, F_, F_] rfl rfl (any_of HT_.out (by kernel_rfl)) (fun _ _ _ h => h) (Or.inl ⟨by rfl, ?_⟩) ?_ ?_
      rotate_left
      ·intro w'
       go_simp
       with_reducible rfl
      rotate_left
      ·simp only [Act.put, pA, pB, pC, i64_w, i32_w]
       rfl
      refine pure_ (i := 1) (N := some 90) (v := ?_) (a' := ?_) #[T_, T_, F_, F_, F_, F_, F_, F_, F_, F_, F_, F_, F_, F_, F_, F_, F_] rfl rfl (any_of HT_.out (by kernel_rfl)) (fun _ _ _ h => h) (Or.inl ⟨by rfl, ?_⟩) ?_ ?_
      rotate_left
      ·intro w'
       go_simp
       with_reducible rfl
      rotate_left
      ·simp only [Act.put, pA, pB, pC, i64_w, i32_w]
       rfl
      refine pure_ (i := 2) (N := some 91) (v := ?_) (a' := ?_) #[T_, T_, T_, F_, F_, F_, F_, F_, F_, F_, F_, F_, F_, F_, F_, F_, F_] rfl rfl (any_of HT_.out (by kernel_rfl)) (fun _ _ _ h => h) (Or.inl ⟨by rfl, ?_⟩) ?_ ?_
      rotate_left
      ·intro w'
       go_simp
       with_reducible rfl
      rotate_left
      ·simp only [Act.put, pA, pB, pC, i64_w, i32_w]
       rfl
      refine pure_ (i := 3) (N := some 92) (v := ?_) (a' := ?_) #[T_, T_, T_, T_, F_, F_, F_, F_, F_, F_, F_, F_, F_, F_, F_, F_, F_] rfl rfl (any_of HT_.out (by kernel_rfl)) (fun _ _ _ h => h) (Or.inl ⟨by rfl, ?_⟩) ?_ ?_
      rotate_left
      ·intro w'
       go_simp
       with_reducible rfl
      rotate_left
      ·simp only [Act.put, pA, pB, pC, i64_w, i32_w]
       rfl
      refine pure_ (i := 4) (N := some 93) (v := ?_) (a' := ?_) #[T_, T_, T_, T_, T_, F_, F_, F_, F_, F_, F_, F_, F_, F_, F_, F_, F_] rfl rfl (any_of HT_.out (by kernel_rfl)) (fun _ _ _ h => h) (Or.inl ⟨by rfl, ?_⟩) ?_ ?_
      rotate_left
      ·intro w'
       go_simp
       with_reducible rfl
      rotate_left
      ·simp only [Act.put, pA, pB, pC, i64_w, i32_w]
       rfl
      refine pure_ (i := 5) (N := some 94) (v := ?_) (a' := ?_) #[T_, T_, T_, T_, T_, T_, F_, F_, F_, F_, F_, F_, F_, F_, F_, F_, F_] rfl rfl (any_of HT_.out (by kernel_rfl)) (fun _ _ _ h => h) (Or.inl ⟨by rfl, ?_⟩) ?_ ?_
      rotate_left
      ·intro w'
       go_simp
       with_reducible rfl
      rotate_left
      ·simp only [Act.put, pA, pB, pC, i64_w, i32_w]
       rfl
      refine pure_ (i := 6) (N := some 95) (v := ?_) (a' := ?_) #[T_, T_, T_, T_, T_, T_, T_, F_, F_, F_, F_, F_, F_, F_, F_, F_, F_] rfl rfl (any_of HT_.out (by kernel_rfl)) (fun _ _ _ h => h) (Or.inl ⟨by rfl, ?_⟩) ?_ ?_
      rotate_left
      ·intro w'
       go_simp
       with_reducible rfl
      rotate_left
      ·simp only [Act.put, pA, pB, pC, i64_w, i32_w]
       rfl
      refine pure_ (i := 8) (N := some 97) (v := ?_) (a' := ?_) #[T_, T_, T_, T_, T_, T_, T_, F_, T_, F_, F_, F_, F_, F_, F_, F_, F_] rfl rfl (any_of HT_.out (by kernel_rfl)) (fun _ _ _ h => h) (Or.inl ⟨by rfl, ?_⟩) ?_ ?_
      rotate_left
      ·intro w'
       go_simp
       with_reducible rfl
      rotate_left
      ·simp only [Act.put, pA, pB, pC, i64_w, i32_w]
       rfl
      refine pure_ (i := 9) (N := some 98) (v := ?_) (a' := ?_) #[T_, T_, T_, T_, T_, T_, T_, F_, T_, T_, F_, F_, F_, F_, F_, F_, F_] rfl rfl (any_of HT_.out (by kernel_rfl)) (fun _ _ _ h => h) (Or.inl ⟨by rfl, ?_⟩) ?_ ?_
      rotate_left
      ·intro w'
       go_simp
       with_reducible rfl
      rotate_left
      ·simp only [Act.put, pA, pB, pC, i64_w, i32_w]
       rfl
      refine pure_ (i := 11) (N := some 100) (v := ?_) (a' := ?_) #[T_, T_, T_, T_, T_, T_, T_, F_, T_, T_, F_, T_, F_, F_, F_, F_, F_] rfl rfl (any_of HT_.out (by kernel_rfl)) (fun _ _ _ h => h) (Or.inl ⟨by rfl, ?_⟩) ?_ ?_
      rotate_left
      ·intro w'
       go_simp
       with_reducible rfl
      rotate_left
      ·simp only [Act.put, pA, pB, pC, i64_w, i32_w]
       rfl
      refine take_ (i := 7) (N := some 96) (v := ?_) (a' := ?_) #[T_, T_, T_, T_, T_, T_, T_, T_, T_, T_, F_, T_, F_, F_, F_, F_, F_] rfl rfl (take_ofW HT_.out HW_.out (by kernel_rfl)) (fun _ _ _ h => h) (Or.inl ⟨by rfl, ?_⟩) hHeld ?_ ?_
      rotate_left
      ·rintro w' ⟨s0, s1, s2, s3, s4, s5⟩
       go_simp
       with_reducible rfl
      rotate_left
      ·simp only [Act.put, pA, pB, pC, i64_w, i32_w]
       rfl
      refine take_ (i := 10) (N := some 99) (v := ?_) (a' := ?_) #[T_, T_, T_, T_, T_, T_, T_, T_, T_, T_, T_, T_, F_, F_, F_, F_, F_] rfl rfl (take_ofW HT_.out HW_.out (by kernel_rfl)) (fun _ _ _ h => h) (Or.inl ⟨by rfl, ?_⟩) hHeld ?_ ?_
      rotate_left
      ·rintro w' ⟨s0, s1, s2, s3, s4, s5⟩
       go_simp
       with_reducible rfl
      rotate_left
      ·simp only [Act.put, pA, pB, pC, i64_w, i32_w]
       rfl
      refine take_ (i := 12) (N := some 101) (v := ?_) (a' := ?_) #[T_, T_, T_, T_, T_, T_, T_, T_, T_, T_, T_, T_, T_, F_, F_, F_, F_] rfl rfl (take_ofW HT_.out HW_.out (by kernel_rfl)) (fun _ _ _ h => h) (Or.inl ⟨by rfl, ?_⟩) hHeld ?_ ?_
      rotate_left
      ·rintro w' ⟨s0, s1, s2, s3, s4, s5⟩
       go_simp
       with_reducible rfl
      rotate_left
      ·simp only [Act.put, pA, pB, pC, i64_w, i32_w]
       rfl
      refine one_ (i := 13) (N := some 102) #[T_, T_, T_, T_, T_, T_, T_, T_, T_, T_, T_, T_, T_, T_, F_, F_, F_] rfl rfl (one_of HT_.out (by kernel_rfl)) (by decide) (fun K hK => ?_)
      refine goes_ Try.func17 (by kernel_rfl) rfl #[.slice Ao102 t399.length co102, .int .i64 ((rd_T39 l0_1 a1).f1), .int .i64 ((rd_T39 l0_1 a1).f2)] (by rfl) rfl rfl tF ?_
      with_reducible refine (ontimeref24_Build.calls kj30 _ _ t399 ((rd_T39 l0_1 a1).f1) ((rd_T39 l0_1 a1).f2) t405 _ ?side1 ?side2 A89.out).mono ?_
      (case side1 => exact tC (Kd.R_reads' HO401.out).2.2)
      (case side2 => exact (Kd.R_reads' HO401.out).2.1)
      rintro e w105 ⟨v406, rfl, ho0, hb⟩
      refine ⟨_, rfl, ?_⟩
      replace HO_398000 := aK (Kd.S_below (tS HO_398000.out) hb)
      replace HO_398001 := aK (Kd.S_below (tS HO_398001.out) hb)
      replace HO401 := aK (Kd.R_below (tR HO401.out) hb)
      have HO407 := aK (Kd.S_lower ho0 (below_size (tB3 HB.out GE386.out GE397.out GE403.out)))
      replace BK386 := aK (blk_below (g := gb386) (tK BK386.out) hb)
      replace BK397 := aK (blk_below (g := gb397) (tK BK397.out) hb)
      replace BK403 := aK (blk_below (g := gb403) (tK BK403.out) hb)
      replace HB := aK (below_step (tB3 HB.out GE386.out GE397.out GE403.out) hb)
      obtain ⟨Ao106, co106, eo106⟩ := Kd.S_slice HO407.out
      (first | subst eo106 | (injection eo106 with f1_ f2_ f3_; have f4_ := f1_.symm; have f5_ := f3_.symm; clear f1_ f2_ f3_; subst f4_; subst f5_))
      refine hK.out _ _ ⟨(blk_cell BK397.out 0).trans rfl, (blk_cell BK397.out 1).trans rfl, (blk_cell BK403.out 0).trans rfl, (blk_cell BK403.out 1).trans rfl, (blk_cell BK403.out 2).trans rfl, (blk_cell BK403.out 3).trans rfl⟩ (fun hHeld => ?_)
      clear hK K
      refine norm_ (a' := ?_) ?_ ?_
      rotate_left
      ·show Act.put _ (some 102) _ = _
       simp only [Act.put, pA, pB, pC, i64_w, i32_w]
       rfl
      refine one_ (i := 14) (N := some 103) #[T_, T_, T_, T_, T_, T_, T_, T_, T_, T_, T_, T_, T_, T_, T_, F_, F_] rfl rfl (one_of HT_.out (by kernel_rfl)) (by decide) (fun K hK => ?_)
      refine goes_ Try.func16 (by kernel_rfl) rfl #[.agg #[.slice Ao20 t389.length co20, .slice Ao23 t392.length co23], .slice Ao106 t405.length co106] (by rfl) rfl rfl tF ?_
      with_reducible refine (ontimelaw24_is.calls kj30 _ _ t389 _ _ t392 _ _ t405 t408 _ ?side1 ?side2 ?side3 ?side4 ?side5 ?side6 A90.out HRT.out).mono ?_
      (case side1 => exact tC (Kd.S_reads' HO_398000.out).2.2)
      (case side2 => exact (Kd.S_reads' HO_398000.out).2.1)
      (case side3 => exact tC (Kd.S_reads' HO_398001.out).2.2)
      (case side4 => exact (Kd.S_reads' HO_398001.out).2.1)
      (case side5 => exact tC (Kd.S_reads' HO407.out).2.2)
      (case side6 => exact (Kd.S_reads' HO407.out).2.1)
      rintro e w107 ⟨rfl, hb⟩
      refine ⟨_, rfl, ?_⟩
      replace HO_398000 := aK (Kd.S_below (tS HO_398000.out) hb)
      replace HO_398001 := aK (Kd.S_below (tS HO_398001.out) hb)
      replace HO401 := aK (Kd.R_below (tR HO401.out) hb)
      replace HO407 := aK (Kd.S_below (tS HO407.out) hb)
      replace BK386 := aK (blk_below (g := gb386) (tK BK386.out) hb)
      replace BK397 := aK (blk_below (g := gb397) (tK BK397.out) hb)
      replace BK403 := aK (blk_below (g := gb403) (tK BK403.out) hb)
      replace HB := aK (below_step (tB3 HB.out GE386.out GE397.out GE403.out) hb)
      refine hK.out _ _ ⟨(blk_cell BK397.out 0).trans rfl, (blk_cell BK397.out 1).trans rfl, (blk_cell BK403.out 0).trans rfl, (blk_cell BK403.out 1).trans rfl, (blk_cell BK403.out 2).trans rfl, (blk_cell BK403.out 3).trans rfl⟩ (fun hHeld => ?_)
      clear hK K
      refine norm_ (a' := ?_) ?_ ?_
      rotate_left
      ·show Act.put _ (some 103) _ = _
       simp only [Act.put, pA, pB, pC, i64_w, i32_w]
       rfl
      refine pure_ (i := 15) (N := some 104) (v := ?_) (a' := ?_) #[T_, T_, T_, T_, T_, T_, T_, T_, T_, T_, T_, T_, T_, T_, T_, T_, F_] rfl rfl (any_of HT_.out (by kernel_rfl)) (fun _ _ _ h => h) (Or.inl ⟨by rfl, ?_⟩) ?_ ?_
      rotate_left
      ·intro w'
       go_simp
       with_reducible rfl
      rotate_left
      ·simp only [Act.put, pA, pB, pC, i64_w, i32_w]
       rfl
      refine pure_ (i := 16) (N := some 4) (v := ?_) (a' := ?_) #[T_, T_, T_, T_, T_, T_, T_, T_, T_, T_, T_, T_, T_, T_, T_, T_, T_] rfl rfl (any_of HT_.out (by kernel_rfl)) (fun _ _ _ h => h) (Or.inl ⟨by rfl, ?_⟩) ?_ ?_
      rotate_left
      ·intro w'
       go_simp
       with_reducible rfl
      rotate_left
      ·simp only [Act.put, pA, pB, pC, i64_w, i32_w]
       rfl
      refine done_ (done_of HT_.out (by kernel_rfl)) ?_
      try go_wp2
      go_ret
      exact ⟨by first | rfl | (simp [errW_none, errW_some] <;> rfl) | (simp [*, errW_none, errW_some] <;> rfl), by repeat (first | (with_reducible first | exact HB.out | apply below_alloc | apply pw_below_drewN | apply below_drew1 | refine below_set ?_ GE386.out | refine below_set ?_ GE397.out | refine below_set ?_ GE403.out) | exact HB.out)⟩
  ·rw [if_neg c30] at H
   have c30b0 : (t398 == 0) = false := beq_eq_false_iff_ne.mpr c30
   have c30b1 : (t398 != 0) = true := bne_iff_ne.mpr c30
   by_cases c136 : x8_11 = true
   rotate_left
   ·replace c136 := Bool.eq_false_iff.mpr c136
    subst c136
    have H1 : (some false) = some r := by rw [if_neg (show ¬ (false = true) by decide)] at H; exact H
    exact absurd ((oI H1).trans HRT.out) (by decide)
   subst c136
   rw [if_pos rfl] at H
   by_cases c137 : t395 = (-1)
   rotate_left
   ·rw [if_neg c137] at H
    exact absurd ((oI H).trans HRT.out) (by decide)
   rw [if_pos c137] at H
   have c137b0 : (t395 == (-1)) = true := beq_iff_eq.mpr c137
   have c137b1 : (t395 != (-1)) = false := bne_eq_false_iff_eq.mpr c137
   clear c137
   obtain rfl := oI H
   have hnb138 := NB386_397.out
   have hnc138 := NB397_386.out
   have hcz139_0 := bc 0 BK386.out
   have hcz139_1 := bc 1 BK386.out
   have hcz139_2 := bc 2 BK386.out
   have hcz139_3 := bc 3 BK386.out
   have hfz139_0 := blk_frozen BK386.out 0
   have hfz139_1 := blk_frozen BK386.out 1
   have hfz139_2 := blk_frozen BK386.out 2
   have hfz139_3 := blk_frozen BK386.out 3
   go_wp2_with (first | ((refine gate_callee (f := 13) rfl ?_); refine goesL_ (some 35) rfl rfl Try.func13 (by kernel_rfl) rfl #[.agg #[.slice A0_0 l0_0.length c0_0, .slice A0_1 l0_1.length c0_1, .int .i64 a0_2, .int .i64 a0_3]] rfl tF ?_; (with_reducible refine (linker_Check.calls kj11 _ _ l0_0 _ _ l0_1 a0_2 a0_3 t398 _ ?side1 ?side2 ?side3 ?side4 A29.out).mono ?_); (case side1 => exact tC (Kd.C_below HR0_0.out HB.out)); (case side2 => exact HC0_0.out); (case side3 => exact tC (Kd.C_below HR0_1.out HB.out)); (case side4 => exact HC0_1.out); rintro e w140 ⟨rfl, hb⟩; refine ⟨_, rfl, ?_⟩; replace HO_398000 := aK (Kd.S_below (tS HO_398000.out) hb); replace HO_398001 := aK (Kd.S_below (tS HO_398001.out) hb); replace BK386 := aK (blk_below (g := gb386) (tK BK386.out) hb); replace BK397 := aK (blk_below (g := gb397) (tK BK397.out) hb); replace HB := aK (below_step (tB2 HB.out GE386.out GE397.out) hb)))
   go_ret
   exact ⟨by first | rfl | (simp [errW_none, errW_some] <;> rfl) | (simp [*, errW_none, errW_some] <;> rfl), by repeat (first | (with_reducible first | exact HB.out | apply below_alloc | apply pw_below_drewN | apply below_drew1 | refine below_set ?_ GE386.out | refine below_set ?_ GE397.out) | exact HB.out)⟩
end Go.Proofs.Ytihmfdndiicjgaa.C
