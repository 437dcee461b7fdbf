-- Written by xprint.py (wip/tools) out of the translation and of this project's hand texts. Not trusted: Lean checks it.
import Derived.Test.YtihmfdndiicjgaaCx0
namespace Go.Proofs.Ytihmfdndiicjgaa.C
open Go.RowKit Go.Proofs.YtihmfdndiicjgaaW.PrintWords Go.Proofs.YtihmfdndiicjgaaW.PrintLast Go.Proofs.YtihmfdndiicjgaaW.PrintMore
attribute [local go_sem] max2_int min2_int max_two min_two max_three min_three max_four min_four   -- for this text's walks alone
set_option linter.unusedVariables false
set_option linter.unusedSimpArgs false
/-! ### ontimelaw24_wide: function 18 -/
mutual
def ontimelaw24_wide.j0 : Nat → Bool → List (S51) → List (List Int) → Option (Bool)
 | 0, _, _, _ => none
 | k + 1, x16, x410000, x410001 => if x16 = true then (some true) else (ontimelaw24_wide.l0 k x410000 (x410000.length : Int) 0 x410000 x410001)
def ontimelaw24_wide.l0 : Nat → List (S51) → Int → Int → List (S51) → List (List Int) → Option (Bool)
 | 0, _, _, _, _, _ => none
 | k + 1, x18, x19, x20, x410000, x410001 => if x20 < x19 then (if 0 ≤ x20 then (if x20 < (x18.length : Int) then (if (((rd_T51 x18 x20).f2).length : Int) > 10 then (some true) else (ontimelaw24_wide.l0 k x18 x19 (wrap64 (x20 + 1)) x410000 x410001)) else (none)) else (none)) else (ontimelaw24_wide.l1 k x410001 (x410001.length : Int) 0)
def ontimelaw24_wide.l1 : Nat → List (List Int) → Int → Int → Option (Bool)
 | 0, _, _, _ => none
 | k + 1, x30, x31, x32 => if x32 < x31 then (if 0 ≤ x32 then (if x32 < (x30.length : Int) then (if ((rd_L11 x30 x32).length : Int) > 60 then (some true) else (ontimelaw24_wide.l1 k x30 x31 (wrap64 (x32 + 1)))) else (none)) else (none)) else (some false)
end
def ontimelaw24_wide.f (k : Nat) (l0_0 : List (S51)) (l0_1 : List (List Int)) : Option (Bool) := if (l0_0.length : Int) > 30 then (ontimelaw24_wide.j0 k true l0_0 l0_1) else (ontimelaw24_wide.j0 k (decide ((l0_1.length : Int) > 30)) l0_0 l0_1)
theorem ontimelaw24_wide.mono_l : ∀ k, (∀ y0 y1 y2, LeO (ontimelaw24_wide.j0 k y0 y1 y2) (ontimelaw24_wide.j0 (k + 1) y0 y1 y2)) ∧ (∀ y0 y1 y2 y3 y4, LeO (ontimelaw24_wide.l0 k y0 y1 y2 y3 y4) (ontimelaw24_wide.l0 (k + 1) y0 y1 y2 y3 y4)) ∧ (∀ y0 y1 y2, LeO (ontimelaw24_wide.l1 k y0 y1 y2) (ontimelaw24_wide.l1 (k + 1) y0 y1 y2))
 | 0 => ⟨fun _ _ _ r h => by simp [ontimelaw24_wide.j0] at h, fun _ _ _ _ _ r h => by simp [ontimelaw24_wide.l0] at h, fun _ _ _ r h => by simp [ontimelaw24_wide.l1] at h⟩
 | k + 1 => by
  obtain ⟨ih0, ih1, ih2⟩ := ontimelaw24_wide.mono_l k
  refine ⟨?_, ?_, ?_⟩
  ·intro y0 y1 y2
   unfold ontimelaw24_wide.j0
   repeat' first
   | (with_reducible exact ih0 _ _ _)
   | (with_reducible exact ih1 _ _ _ _ _)
   | (with_reducible exact ih2 _ _ _)
   | (with_reducible exact LeO.refl _)
   | (with_reducible exact LeO.none _)
   | (with_reducible refine LeO.ite ?_ ?_)
   | (with_reducible refine LeO.bind ?_ (fun _ => ?_))
   | exact ih0 _ _ _
   | exact ih1 _ _ _ _ _
   | exact ih2 _ _ _
   | exact LeO.none _
   | refine LeO.ite ?_ ?_
   | refine LeO.bind ?_ (fun _ => ?_)
  ·intro y0 y1 y2 y3 y4
   unfold ontimelaw24_wide.l0
   repeat' first
   | (with_reducible exact ih0 _ _ _)
   | (with_reducible exact ih1 _ _ _ _ _)
   | (with_reducible exact ih2 _ _ _)
   | (with_reducible exact LeO.refl _)
   | (with_reducible exact LeO.none _)
   | (with_reducible refine LeO.ite ?_ ?_)
   | (with_reducible refine LeO.bind ?_ (fun _ => ?_))
   | exact ih0 _ _ _
   | exact ih1 _ _ _ _ _
   | exact ih2 _ _ _
   | exact LeO.none _
   | refine LeO.ite ?_ ?_
   | refine LeO.bind ?_ (fun _ => ?_)
  ·intro y0 y1 y2
   unfold ontimelaw24_wide.l1
   repeat' first
   | (with_reducible exact ih0 _ _ _)
   | (with_reducible exact ih1 _ _ _ _ _)
   | (with_reducible exact ih2 _ _ _)
   | (with_reducible exact LeO.refl _)
   | (with_reducible exact LeO.none _)
   | (with_reducible refine LeO.ite ?_ ?_)
   | (with_reducible refine LeO.bind ?_ (fun _ => ?_))
   | exact ih0 _ _ _
   | exact ih1 _ _ _ _ _
   | exact ih2 _ _ _
   | exact LeO.none _
   | refine LeO.ite ?_ ?_
   | refine LeO.bind ?_ (fun _ => ?_)
theorem ontimelaw24_wide.mono : ∀ a0 a1 k, LeO (ontimelaw24_wide.f k a0 a1) (ontimelaw24_wide.f (k + 1) a0 a1) := by
 intro a0 a1 k
 obtain ⟨ih0, ih1, ih2⟩ := ontimelaw24_wide.mono_l k
 unfold ontimelaw24_wide.f
 repeat' first
   | (with_reducible exact ih0 _ _ _)
   | (with_reducible exact ih1 _ _ _ _ _)
   | (with_reducible exact ih2 _ _ _)
   | (with_reducible exact LeO.refl _)
   | (with_reducible exact LeO.none _)
   | (with_reducible refine LeO.ite ?_ ?_)
   | (with_reducible refine LeO.bind ?_ (fun _ => ?_))
   | exact ih0 _ _ _
   | exact ih1 _ _ _ _ _
   | exact ih2 _ _ _
   | exact LeO.none _
   | refine LeO.ite ?_ ?_
   | refine LeO.bind ?_ (fun _ => ?_)
set_option maxHeartbeats 8000000 in
set_option maxRecDepth 100000 in
theorem ontimelaw24_wide.calls (k : Nat) (A0_0 : Option Addr) (c0_0 : Nat) (l0_0 : List (S51)) (A0_1 : Option Addr) (c0_1 : Nat) (l0_1 : List (List Int)) (r : Bool) (w : World) (hr0_0 : Kd.C k51 w A0_0 l0_0.length l0_0) (hc0_0 : l0_0.length ≤ c0_0) (hr0_1 : Kd.C (Kd.slice 3 (Kd.int .i64)) w A0_1 l0_1.length l0_1) (hc0_1 : l0_1.length ≤ c0_1) (h : ontimelaw24_wide.f k l0_0 l0_1 = some r) :
  Calls Try.prog 18 #[.agg #[.slice A0_0 l0_0.length c0_0, .slice A0_1 l0_1.length c0_1]] w fun e w' => e = .returned (.bool r) ∧ Below w.heap.size w w' := by
 have hu31 := Try.underlying31
 have hu51 := Try.underlying51
 have HR0_0 := Aside0.mk hr0_0
 have HC0_0 := Aside0.mk hc0_0
 clear hr0_0 hc0_0
 have HR0_1 := Aside0.mk hr0_1
 have HC0_1 := Aside0.mk hc0_1
 clear hr0_1 hc0_1
 have HB := Aside0.mk (Below.refl w.heap.size w)
 have H : (if (l0_0.length : Int) > 30 then (ontimelaw24_wide.j0 k true l0_0 l0_1) else (ontimelaw24_wide.j0 k (decide ((l0_1.length : Int) > 30)) l0_0 l0_1)) = some r := h
 clear h
 have HC2 := Aside0.mk H
 clear H
 go_enter Try.func18, Try.ntmps18
 go_upto_region 1 with (first | ((with_reducible refine gate_dst (N := 1) rfl ?_); (try (refine gate_guard (by rfl) ?_; dsimp only)); refine box_event ?hg (N := 1) ?hd (cs := #[.slice A0_0 l0_0.length c0_0, .slice A0_1 l0_1.length c0_1]) (t := 31) ?hr ?_; (case hd => rfl); (case hg => rfl); (case hr => first | (go_simp; done) | (go_simp; rfl)); intro gb409 hg w3 hbox hb; have n0_ := Aside0.mk (below_step (tB0 HB.out) hb); have n1_ := Aside0.mk (hbox); have n2_ := Aside0.mk ((by rw [hg]; exact (below_size (tB0 HB.out)) : w.heap.size ≤ gb409)); have n3_ := Aside0.mk ((by rw [hg]; exact (below_size (tB0 HB.out)) : w.heap.size ≤ gb409)); clear HB; have HB := n0_; have BK409 := n1_; have GW409 := n2_; have GE409 := n3_; clear n0_ n1_ n2_ n3_; clear hb hbox hg))
 (try simp only [Act.put, List.setIfInBounds_toArray, List.set_cons_zero, List.set_cons_succ])
 go_cut [16] (fun v16 wc => ∃ (kq : Nat) (x16_1 : Bool), v16 = .bool x16_1 ∧ Aside0 (ontimelaw24_wide.j0 kq x16_1 l0_0 l0_1 = some r) ∧ Aside0 (kq ≤ k) ∧ Aside0 (wc.heap[gb409]? = some (.cells #[(.slice A0_0 l0_0.length c0_0), (.slice A0_1 l0_1.length c0_1)] 31 (0, 0))) ∧ Aside0 (Below w.heap.size w wc))
 case first =>
  have H := HC2.out
  clear HC2
  by_cases c4 : (l0_0.length : Int) > 30
  ·rw [if_pos c4] at H
   have c4b0 : decide (30 < (l0_0.length : Int)) = true := decide_eq_true c4
   have c4b1 : decide (30 < l0_0.length) = true := decide_eq_true (by omega)
   clear c4
   (first | rw [c4b0] | (simp only [i64_w, i32_w]; rw [c4b0]) | skip)
   have H' := Aside0.mk H
   clear H
   have hcz5_0 : w3.cell? ⟨gb409, 0, none⟩ = some (.slice A0_0 l0_0.length c0_0) := (blk_cell BK409.out 0).trans rfl
   have hcz5_1 : w3.cell? ⟨gb409, 1, none⟩ = some (.slice A0_1 l0_1.length c0_1) := (blk_cell BK409.out 1).trans rfl
   have hfz5_0 := blk_frozen BK409.out 0
   have hfz5_1 := blk_frozen BK409.out 1
   go_wp2
   go_meet
   case rel => exact ⟨_, (true), (by first | rfl | (simp; done) | (simp [*]; done)), H', ⟨by first | omega | exact Nat.le_refl _⟩, ⟨tK BK409.out⟩, ⟨tB1 HB.out GE409.out⟩⟩
  ·rw [if_neg c4] at H
   have c4b0 : decide (30 < (l0_0.length : Int)) = false := decide_eq_false c4
   have c4b1 : decide (30 < l0_0.length) = false := decide_eq_false (by omega)
   clear c4
   (first | rw [c4b0] | (simp only [i64_w, i32_w]; rw [c4b0]) | skip)
   have H' := Aside0.mk H
   clear H
   have hcz6_0 : w3.cell? ⟨gb409, 0, none⟩ = some (.slice A0_0 l0_0.length c0_0) := (blk_cell BK409.out 0).trans rfl
   have hcz6_1 : w3.cell? ⟨gb409, 1, none⟩ = some (.slice A0_1 l0_1.length c0_1) := (blk_cell BK409.out 1).trans rfl
   have hfz6_0 := blk_frozen BK409.out 0
   have hfz6_1 := blk_frozen BK409.out 1
   go_wp2
   go_meet
   case rel => exact ⟨_, (decide ((l0_1.length : Int) > 30)), (by first | rfl | (simp; done) | (simp [*]; done)), H', ⟨by first | omega | exact Nat.le_refl _⟩, ⟨tK BK409.out⟩, ⟨tB1 HB.out GE409.out⟩⟩
 case rest =>
  clear HC2
  (try clear c1);(try clear p2);(try clear c4);(try clear c4b0);(try clear c4b1);(try clear hcz5_0);(try clear hcz5_1);(try clear hcz6_0);(try clear hcz6_1);(try clear hfz5_0);(try clear hfz5_1);(try clear hfz6_0);(try clear hfz6_1)
  obtain ⟨kq, x16_1, rfl, HA, HJ1, BK409, HB⟩ := hcut
  cases kq with
  | zero => exact absurd HA.out (by simp [ontimelaw24_wide.j0])
  | succ kj1 =>
   have H := HA.out
   clear HA
   simp only [ontimelaw24_wide.j0] at H
   by_cases c7 : x16_1 = true
   ·subst c7
    have H1 : (some true) = some r := by rw [if_pos rfl] at H; exact H
    clear H
    have H := H1
    clear H1
    obtain rfl := Option.some.inj H
    go_wp2
    go_ret
    exact ⟨by first | rfl | (simp [errW_none, errW_some] <;> rfl) | (simp [*, errW_none, errW_some] <;> rfl), by repeat (first | (with_reducible first | exact HB.out | apply below_alloc | apply pw_below_drewN | apply below_drew1 | refine below_set ?_ GE409.out) | exact HB.out)⟩
   ·replace c7 := Bool.eq_false_iff.mpr c7
    subst c7
    have H1 : (ontimelaw24_wide.l0 kj1 l0_0 (l0_0.length : Int) 0 l0_0 l0_1) = some r := by rw [if_neg (show ¬ (false = true) by decide)] at H; exact H
    clear H
    have H := H1
    clear H1
    have H' := Aside0.mk H
    clear H
    have hcz8_0 : wc.cell? ⟨gb409, 0, none⟩ = some (.slice A0_0 l0_0.length c0_0) := (blk_cell BK409.out 0).trans rfl
    have hcz8_1 : wc.cell? ⟨gb409, 1, none⟩ = some (.slice A0_1 l0_1.length c0_1) := (blk_cell BK409.out 1).trans rfl
    have hfz8_0 := blk_frozen BK409.out 0
    have hfz8_1 := blk_frozen BK409.out 1
    go_wp2
    go_loopg [20] kj1 (fun kq v20 w' => ∃ (x20_2 : Int), v20 = .int .i64 x20_2 ∧ Aside0 (ontimelaw24_wide.l0 kq l0_0 (l0_0.length : Int) x20_2 l0_0 l0_1 = some r) ∧ Aside0 (kq ≤ kj1) ∧ Aside0 (w'.heap[gb409]? = some (.cells #[(.slice A0_0 l0_0.length c0_0), (.slice A0_1 l0_1.length c0_1)] 31 (0, 0))) ∧ Aside0 (Below w.heap.size w w'))
    case atStart => exact ⟨(0), (by first | rfl | (simp; done) | (simp [*]; done)), H', ⟨Nat.le_refl _⟩, ⟨tK BK409.out⟩, ⟨tB1 HB.out GE409.out⟩⟩
    case round =>
     clear H'
     (try clear c1);(try clear p2);(try clear c4);(try clear c4b0);(try clear c4b1);(try clear c7);(try clear hcz5_0);(try clear hcz5_1);(try clear hcz6_0);(try clear hcz6_1);(try clear hcz8_0);(try clear hcz8_1);(try clear hfz5_0);(try clear hfz5_1);(try clear hfz6_0);(try clear hfz6_1);(try clear hfz8_0);(try clear hfz8_1);(try clear p2)
     obtain ⟨x20_2, rfl, HA, HK2, BK409, HB⟩ := hrel
     cases gk with
     | zero => exact absurd HA.out (by simp [ontimelaw24_wide.l0])
     | succ k2 =>
      have H := HA.out
      clear HA
      simp only [ontimelaw24_wide.l0] at H
      by_cases c9 : x20_2 < (l0_0.length : Int)
      ·rw [if_pos c9] at H
       have c9b0 : decide (x20_2 < (l0_0.length : Int)) = true := decide_eq_true c9
       clear c9
       by_cases c10 : 0 ≤ x20_2
       ·rw [if_pos c10] at H
        have c10b0 : decide (0 ≤ x20_2) = true := decide_eq_true c10
        clear c10
        by_cases c11 : x20_2 < (l0_0.length : Int)
        ·rw [if_pos c11] at H
         have c11b0 : decide (x20_2 < (l0_0.length : Int)) = true := decide_eq_true c11
         clear c11
         by_cases c12 : (((rd_T51 l0_0 x20_2).f2).length : Int) > 10
         ·rw [if_pos c12] at H
          have c12b0 : decide (10 < (((rd_T51 l0_0 x20_2).f2).length : Int)) = true := decide_eq_true c12
          have c12b1 : decide (10 < ((rd_T51 l0_0 x20_2).f2).length) = true := decide_eq_true (by omega)
          clear c12
          obtain rfl := Option.some.inj H
          have p410 : 0 ≤ (x20_2 : Int) := tD
          have q410 : x20_2 < (l0_0.length : Int) := tD
          obtain ⟨ad410, A410_2, c410_2, e410, hx410_0, hx410_1, hx410_2, hl410_2, hi410_2⟩ := at_T51 HR0_0.out x20_2 p410 q410
          cases e410
          replace hx410_0 := (HB.out.cell (World.block_lt_of_cell? w _ hx410_0)).trans hx410_0
          replace hx410_1 := (HB.out.cell (World.block_lt_of_cell? w _ hx410_1)).trans hx410_1
          replace hx410_2 := (HB.out.cell (World.block_lt_of_cell? w _ hx410_2)).trans hx410_2
          have HR410_2 := Aside0.mk hi410_2
          have HC410_2 := Aside0.mk hl410_2
          clear hi410_2 hl410_2
          replace p410 := eq_true p410
          replace q410 := eq_true q410
          go_wp2_with (first | ((with_reducible refine gate_dst (N := 4) rfl ?_); (try (refine gate_guard (by rfl) ?_; dsimp only)); refine box_event ?hg (N := 4) ?hd (cs := #[.int .i64 0, .int .i64 0, .slice none 0 0]) (t := 51) ?hr ?_; (case hd => rfl); (case hg => rfl); (case hr => first | (go_simp; done) | (go_simp; rfl)); intro gb411 hg w13 hbox hb; have n0_ := Aside0.mk (blk_below (g := gb409) (o := .cells #[.slice (some ad410) l0_0.length c0_0, .slice A0_1 l0_1.length c0_1] 31 (0, 0)) (tK BK409.out) hb); have n1_ := Aside0.mk (below_step (tB1 HB.out GE409.out) hb); have n2_ := Aside0.mk (hbox); have n3_ := Aside0.mk ((by rw [hg]; exact (below_size (tB1 HB.out GE409.out)) : w.heap.size ≤ gb411)); have n4_ := Aside0.mk ((by rw [hg]; exact (below_size (tB1 HB.out GE409.out)) : w.heap.size ≤ gb411)); have n5_ := Aside0.mk ((by rw [hg]; exact Nat.ne_of_lt (blk_lt (g := gb409) (o := .cells #[.slice (some ad410) l0_0.length c0_0, .slice A0_1 l0_1.length c0_1] 31 (0, 0)) (tK BK409.out)) : gb409 ≠ gb411)); have n6_ := Aside0.mk ((by rw [hg]; exact Nat.ne_of_gt (blk_lt (g := gb409) (o := .cells #[.slice (some ad410) l0_0.length c0_0, .slice A0_1 l0_1.length c0_1] 31 (0, 0)) (tK BK409.out)) : gb411 ≠ gb409)); clear BK409; clear HB; have BK409 := n0_; have HB := n1_; have BK411 := n2_; have GW411 := n3_; have GE411 := n4_; have NB409_411 := n5_; have NB411_409 := n6_; clear n0_ n1_ n2_ n3_ n4_ n5_ n6_; clear hb hbox hg; have hnb14 := NB411_409.out; have hnc14 := NB409_411.out; have hcz15_0 : w13.cell? ⟨gb411, 0, none⟩ = some (.int .i64 0) := (blk_cell BK411.out 0).trans rfl; have hcz15_1 : w13.cell? ⟨gb411, 1, none⟩ = some (.int .i64 0) := (blk_cell BK411.out 1).trans rfl; have hcz15_2 : w13.cell? ⟨gb411, 2, none⟩ = some (.slice none 0 0) := (blk_cell BK411.out 2).trans rfl; have hfz15_0 := blk_frozen BK411.out 0; have hfz15_1 := blk_frozen BK411.out 1; have hfz15_2 := blk_frozen BK411.out 2))
          go_ret
          exact ⟨by first | rfl | (simp [errW_none, errW_some] <;> rfl) | (simp [*, errW_none, errW_some] <;> rfl), by repeat (first | (with_reducible first | exact HB.out | apply below_alloc | apply pw_below_drewN | apply below_drew1 | refine below_set ?_ GE409.out | refine below_set ?_ GE411.out) | exact HB.out)⟩
         ·rw [if_neg c12] at H
          have c12b0 : decide (10 < (((rd_T51 l0_0 x20_2).f2).length : Int)) = false := decide_eq_false c12
          have c12b1 : decide (10 < ((rd_T51 l0_0 x20_2).f2).length) = false := decide_eq_false (by omega)
          clear c12
          have H' := Aside0.mk H
          clear H
          have p410 : 0 ≤ (x20_2 : Int) := tD
          have q410 : x20_2 < (l0_0.length : Int) := tD
          obtain ⟨ad410, A410_2, c410_2, e410, hx410_0, hx410_1, hx410_2, hl410_2, hi410_2⟩ := at_T51 HR0_0.out x20_2 p410 q410
          cases e410
          replace hx410_0 := (HB.out.cell (World.block_lt_of_cell? w _ hx410_0)).trans hx410_0
          replace hx410_1 := (HB.out.cell (World.block_lt_of_cell? w _ hx410_1)).trans hx410_1
          replace hx410_2 := (HB.out.cell (World.block_lt_of_cell? w _ hx410_2)).trans hx410_2
          have HR410_2 := Aside0.mk hi410_2
          have HC410_2 := Aside0.mk hl410_2
          clear hi410_2 hl410_2
          replace p410 := eq_true p410
          replace q410 := eq_true q410
          go_wp2_with (first | ((with_reducible refine gate_dst (N := 4) rfl ?_); (try (refine gate_guard (by rfl) ?_; dsimp only)); refine box_event ?hg (N := 4) ?hd (cs := #[.int .i64 0, .int .i64 0, .slice none 0 0]) (t := 51) ?hr ?_; (case hd => rfl); (case hg => rfl); (case hr => first | (go_simp; done) | (go_simp; rfl)); intro gb411 hg w16 hbox hb; have n0_ := Aside0.mk (blk_below (g := gb409) (o := .cells #[.slice (some ad410) l0_0.length c0_0, .slice A0_1 l0_1.length c0_1] 31 (0, 0)) (tK BK409.out) hb); have n1_ := Aside0.mk (below_step (tB1 HB.out GE409.out) hb); have n2_ := Aside0.mk (hbox); have n3_ := Aside0.mk ((by rw [hg]; exact (below_size (tB1 HB.out GE409.out)) : w.heap.size ≤ gb411)); have n4_ := Aside0.mk ((by rw [hg]; exact (below_size (tB1 HB.out GE409.out)) : w.heap.size ≤ gb411)); have n5_ := Aside0.mk ((by rw [hg]; exact Nat.ne_of_lt (blk_lt (g := gb409) (o := .cells #[.slice (some ad410) l0_0.length c0_0, .slice A0_1 l0_1.length c0_1] 31 (0, 0)) (tK BK409.out)) : gb409 ≠ gb411)); have n6_ := Aside0.mk ((by rw [hg]; exact Nat.ne_of_gt (blk_lt (g := gb409) (o := .cells #[.slice (some ad410) l0_0.length c0_0, .slice A0_1 l0_1.length c0_1] 31 (0, 0)) (tK BK409.out)) : gb411 ≠ gb409)); clear BK409; clear HB; have BK409 := n0_; have HB := n1_; have BK411 := n2_; have GW411 := n3_; have GE411 := n4_; have NB409_411 := n5_; have NB411_409 := n6_; clear n0_ n1_ n2_ n3_ n4_ n5_ n6_; clear hb hbox hg; have hnb17 := NB411_409.out; have hnc17 := NB409_411.out; have hcz18_0 : w16.cell? ⟨gb411, 0, none⟩ = some (.int .i64 0) := (blk_cell BK411.out 0).trans rfl; have hcz18_1 : w16.cell? ⟨gb411, 1, none⟩ = some (.int .i64 0) := (blk_cell BK411.out 1).trans rfl; have hcz18_2 : w16.cell? ⟨gb411, 2, none⟩ = some (.slice none 0 0) := (blk_cell BK411.out 2).trans rfl; have hfz18_0 := blk_frozen BK411.out 0; have hfz18_1 := blk_frozen BK411.out 1; have hfz18_2 := blk_frozen BK411.out 2))
          go_roundg k2
          case measure => have := HJ1.out; have := HK2.out; omega
          case rel => exact ⟨(wrap64 (x20_2 + 1)), (by first | rfl | (simp; done) | (simp [*]; done)), H', ⟨by have := HJ1.out; have := HK2.out; omega⟩, ⟨by (with_reducible repeat (first | refine blk_drewN ?_ _ | refine blk_drew ?_ | refine blk_alloc ?_ _)); refine blk_far ?_ NB409_411.out _; (with_reducible repeat (first | refine blk_drewN ?_ _ | refine blk_drew ?_ | refine blk_alloc ?_ _)); refine blk_far ?_ NB409_411.out _; (with_reducible repeat (first | refine blk_drewN ?_ _ | refine blk_drew ?_ | refine blk_alloc ?_ _)); refine blk_far ?_ NB409_411.out _; (with_reducible repeat (first | refine blk_drewN ?_ _ | refine blk_drew ?_ | refine blk_alloc ?_ _)); exact BK409.out⟩, ⟨tB2 HB.out GE409.out GE411.out⟩⟩
        ·rw [if_neg c11] at H
         exact absurd H (by simp)
       ·rw [if_neg c10] at H
        exact absurd H (by simp)
      ·rw [if_neg c9] at H
       have c9b0 : decide (x20_2 < (l0_0.length : Int)) = false := decide_eq_false c9
       clear c9
       have H' := Aside0.mk H
       clear H
       have hcz19_0 : wr.cell? ⟨gb409, 0, none⟩ = some (.slice A0_0 l0_0.length c0_0) := (blk_cell BK409.out 0).trans rfl
       have hcz19_1 : wr.cell? ⟨gb409, 1, none⟩ = some (.slice A0_1 l0_1.length c0_1) := (blk_cell BK409.out 1).trans rfl
       have hfz19_0 := blk_frozen BK409.out 0
       have hfz19_1 := blk_frozen BK409.out 1
       go_wp2
       go_loopg [32] k2 (fun kq v32 w' => ∃ (x32_3 : Int), v32 = .int .i64 x32_3 ∧ Aside0 (ontimelaw24_wide.l1 kq l0_1 (l0_1.length : Int) x32_3 = some r) ∧ Aside0 (kq ≤ k2) ∧ Aside0 (w'.heap[gb409]? = some (.cells #[(.slice A0_0 l0_0.length c0_0), (.slice A0_1 l0_1.length c0_1)] 31 (0, 0))) ∧ Aside0 (Below w.heap.size w w'))
       case atStart => exact ⟨(0), (by first | rfl | (simp; done) | (simp [*]; done)), H', ⟨Nat.le_refl _⟩, ⟨tK BK409.out⟩, ⟨tB1 HB.out GE409.out⟩⟩
       case round =>
        clear H'
        (try clear c1);(try clear p2);(try clear c4);(try clear c4b0);(try clear c4b1);(try clear p4);(try clear q4);(try clear hx4);(try clear p6);(try clear c7);(try clear c9);(try clear c9b0);(try clear c10);(try clear c10b0);(try clear c11);(try clear c11b0);(try clear c12);(try clear c12b0);(try clear c12b1);(try clear c14);(try clear c17);(try clear c18);(try clear hcz15_0);(try clear hcz15_1);(try clear hcz15_2);(try clear hcz18_0);(try clear hcz18_1);(try clear hcz18_2);(try clear hcz19_0);(try clear hcz19_1);(try clear hcz5_0);(try clear hcz5_1);(try clear hcz6_0);(try clear hcz6_1);(try clear hcz8_0);(try clear hcz8_1);(try clear hfz15_0);(try clear hfz15_1);(try clear hfz15_2);(try clear hfz18_0);(try clear hfz18_1);(try clear hfz18_2);(try clear hfz19_0);(try clear hfz19_1);(try clear hfz5_0);(try clear hfz5_1);(try clear hfz6_0);(try clear hfz6_1);(try clear hfz8_0);(try clear hfz8_1);(try clear hx410_0);(try clear hx410_1);(try clear hx410_2);(try clear p2);(try clear p410);(try clear q410)
        obtain ⟨x32_3, rfl, HA, HK3, BK409, HB⟩ := hrel
        cases gk with
        | zero => exact absurd HA.out (by simp [ontimelaw24_wide.l1])
        | succ k3 =>
         have H := HA.out
         clear HA
         simp only [ontimelaw24_wide.l1] at H
         by_cases c20 : x32_3 < (l0_1.length : Int)
         ·rw [if_pos c20] at H
          have c20b0 : decide (x32_3 < (l0_1.length : Int)) = true := decide_eq_true c20
          clear c20
          by_cases c21 : 0 ≤ x32_3
          ·rw [if_pos c21] at H
           have c21b0 : decide (0 ≤ x32_3) = true := decide_eq_true c21
           clear c21
           by_cases c22 : x32_3 < (l0_1.length : Int)
           ·rw [if_pos c22] at H
            have c22b0 : decide (x32_3 < (l0_1.length : Int)) = true := decide_eq_true c22
            clear c22
            by_cases c23 : ((rd_L11 l0_1 x32_3).length : Int) > 60
            ·rw [if_pos c23] at H
             have c23b0 : decide (60 < ((rd_L11 l0_1 x32_3).length : Int)) = true := decide_eq_true c23
             have c23b1 : decide (60 < (rd_L11 l0_1 x32_3).length) = true := decide_eq_true (by omega)
             clear c23
             obtain rfl := Option.some.inj H
             have p412 : 0 ≤ (x32_3 : Int) := tD
             have q412 : x32_3 < (l0_1.length : Int) := tD
             obtain ⟨ad412, A412_0, c412_0, e412, hx412_0, hl412_0, hi412_0⟩ := at_L11 HR0_1.out x32_3 p412 q412
             cases e412
             replace hx412_0 := (HB.out.cell (World.block_lt_of_cell? w _ hx412_0)).trans hx412_0
             have HR412_0 := Aside0.mk hi412_0
             have HC412_0 := Aside0.mk hl412_0
             clear hi412_0 hl412_0
             replace p412 := eq_true p412
             replace q412 := eq_true q412
             go_wp2
             go_ret
             exact ⟨by first | rfl | (simp [errW_none, errW_some] <;> rfl) | (simp [*, errW_none, errW_some] <;> rfl), by repeat (first | (with_reducible first | exact HB.out | apply below_alloc | apply pw_below_drewN | apply below_drew1 | refine below_set ?_ GE409.out) | exact HB.out)⟩
            ·rw [if_neg c23] at H
             have c23b0 : decide (60 < ((rd_L11 l0_1 x32_3).length : Int)) = false := decide_eq_false c23
             have c23b1 : decide (60 < (rd_L11 l0_1 x32_3).length) = false := decide_eq_false (by omega)
             clear c23
             have H' := Aside0.mk H
             clear H
             have p412 : 0 ≤ (x32_3 : Int) := tD
             have q412 : x32_3 < (l0_1.length : Int) := tD
             obtain ⟨ad412, A412_0, c412_0, e412, hx412_0, hl412_0, hi412_0⟩ := at_L11 HR0_1.out x32_3 p412 q412
             cases e412
             replace hx412_0 := (HB.out.cell (World.block_lt_of_cell? w _ hx412_0)).trans hx412_0
             have HR412_0 := Aside0.mk hi412_0
             have HC412_0 := Aside0.mk hl412_0
             clear hi412_0 hl412_0
             replace p412 := eq_true p412
             replace q412 := eq_true q412
             go_wp2
             go_roundg k3
             case measure => have := HJ1.out; have := HK2.out; have := HK3.out; omega
             case rel => exact ⟨(wrap64 (x32_3 + 1)), (by first | rfl | (simp; done) | (simp [*]; done)), H', ⟨by have := HJ1.out; have := HK2.out; have := HK3.out; omega⟩, ⟨tK BK409.out⟩, ⟨tB1 HB.out GE409.out⟩⟩
           ·rw [if_neg c22] at H
            exact absurd H (by simp)
          ·rw [if_neg c21] at H
           exact absurd H (by simp)
         ·rw [if_neg c20] at H
          have c20b0 : decide (x32_3 < (l0_1.length : Int)) = false := decide_eq_false c20
          clear c20
          obtain rfl := Option.some.inj H
          go_wp2
          go_ret
          exact ⟨by first | rfl | (simp [errW_none, errW_some] <;> rfl) | (simp [*, errW_none, errW_some] <;> rfl), by repeat (first | (with_reducible first | exact HB.out | apply below_alloc | apply pw_below_drewN | apply below_drew1 | refine below_set ?_ GE409.out) | exact HB.out)⟩
/-! ### ontimeref24_same: function 53 -/
def ontimeref24_same.l0 : Nat → List Int → List Int → Int → Option (Bool)
 | 0, _, _, _ => none
 | k + 1, x0, x1, x5 => if x5 < (x0.length : Int) then (if 0 ≤ x5 then (if x5 < (x1.length : Int) then (if (rd x0 x5) = (rd x1 x5) then (ontimeref24_same.l0 k x0 x1 (wrap64 (x5 + 1))) else (some false)) else (none)) else (none)) else (some true)
def ontimeref24_same.f (k : Nat) (l0 : List Int) (l1 : List Int) : Option (Bool) := if (l0.length : Int) = (l1.length : Int) then (ontimeref24_same.l0 k l0 l1 0) else (some false)
theorem ontimeref24_same.mono_l : ∀ k, (∀ y0 y1 y2, LeO (ontimeref24_same.l0 k y0 y1 y2) (ontimeref24_same.l0 (k + 1) y0 y1 y2))
 | 0 => fun _ _ _ r h => by simp [ontimeref24_same.l0] at h
 | k + 1 => by
  have ih0 := ontimeref24_same.mono_l k
  ·intro y0 y1 y2
   unfold ontimeref24_same.l0
   repeat' first
   | (with_reducible exact ih0 _ _ _)
   | (with_reducible exact LeO.refl _)
   | (with_reducible exact LeO.none _)
   | (with_reducible refine LeO.ite ?_ ?_)
   | (with_reducible refine LeO.bind ?_ (fun _ => ?_))
   | exact ih0 _ _ _
   | exact LeO.none _
   | refine LeO.ite ?_ ?_
   | refine LeO.bind ?_ (fun _ => ?_)
theorem ontimeref24_same.mono : ∀ a0 a1 k, LeO (ontimeref24_same.f k a0 a1) (ontimeref24_same.f (k + 1) a0 a1) := by
 intro a0 a1 k
 have ih0 := ontimeref24_same.mono_l k
 unfold ontimeref24_same.f
 repeat' first
   | (with_reducible exact ih0 _ _ _)
   | (with_reducible exact LeO.refl _)
   | (with_reducible exact LeO.none _)
   | (with_reducible refine LeO.ite ?_ ?_)
   | (with_reducible refine LeO.bind ?_ (fun _ => ?_))
   | exact ih0 _ _ _
   | exact LeO.none _
   | refine LeO.ite ?_ ?_
   | refine LeO.bind ?_ (fun _ => ?_)
set_option maxHeartbeats 8000000 in
set_option maxRecDepth 100000 in
theorem ontimeref24_same.calls (k : Nat) (A0 : Option Addr) (c0 : Nat) (l0 : List Int) (A1 : Option Addr) (c1 : Nat) (l1 : List Int) (r : Bool) (w : World) (hr0 : Kd.C (Kd.int .i64) w A0 l0.length l0) (hc0 : l0.length ≤ c0) (hr1 : Kd.C (Kd.int .i64) w A1 l1.length l1) (hc1 : l1.length ≤ c1) (h : ontimeref24_same.f k l0 l1 = some r) :
  Calls Try.prog 53 #[.slice A0 l0.length c0, .slice A1 l1.length c1] w fun e w' => e = .returned (.bool r) ∧ Drawn0 w w' := by
 have HR0 := Aside0.mk hr0
 have HC0 := Aside0.mk hc0
 clear hr0 hc0
 have HR1 := Aside0.mk hr1
 have HC1 := Aside0.mk hc1
 clear hr1 hc1
 have H : (if (l0.length : Int) = (l1.length : Int) then (ontimeref24_same.l0 k l0 l1 0) else (some false)) = some r := h
 clear h
 by_cases c3 : (l0.length : Int) = (l1.length : Int)
 ·rw [if_pos c3] at H
  have c3b0 : ((l0.length : Int) == (l1.length : Int)) = true := beq_iff_eq.mpr c3
  have c3b1 : ((l0.length : Int) != (l1.length : Int)) = false := bne_eq_false_iff_eq.mpr c3
  have c3b2 : (l0.length == l1.length) = true := by first | simpa using c3 | (simp at c3 ⊢; omega)
  clear c3
  have H' := Aside0.mk H
  clear H
  go_enter Try.func53, Try.ntmps53
  go_wp2
  repeat (go_quiet (fail); try go_wp2)
  go_loopg [5] k (fun kq v5 w' => ∃ (x5_1 : Int), v5 = .int .i64 x5_1 ∧ Aside0 (ontimeref24_same.l0 kq l0 l1 x5_1 = some r) ∧ Aside0 (kq ≤ k) ∧ Drawn0 w w')
  case atStart => exact ⟨(0), (by first | rfl | (simp; done) | (simp [*]; done)), H', ⟨Nat.le_refl _⟩, by repeat (first | exact Drawn0.refl _ | apply Drawn0.step)⟩
  case round =>
   clear H'
   (try clear c1);(try clear p2);(try clear c3);(try clear c3b0);(try clear c3b1);(try clear c3b2)
   obtain ⟨x5_1, rfl, HA, HK1, ⟨m1, rfl⟩⟩ := hrel
   cases gk with
   | zero => exact absurd HA.out (by simp [ontimeref24_same.l0])
   | succ k1 =>
    have H := HA.out
    clear HA
    simp only [ontimeref24_same.l0] at H
    by_cases c4 : x5_1 < (l0.length : Int)
    ·rw [if_pos c4] at H
     have c4b0 : decide (x5_1 < (l0.length : Int)) = true := decide_eq_true c4
     clear c4
     by_cases c5 : 0 ≤ x5_1
     ·rw [if_pos c5] at H
      have c5b0 : decide (0 ≤ x5_1) = true := decide_eq_true c5
      clear c5
      by_cases c6 : x5_1 < (l1.length : Int)
      ·rw [if_pos c6] at H
       have c6b0 : decide (x5_1 < (l1.length : Int)) = true := decide_eq_true c6
       clear c6
       by_cases c7 : (rd l0 x5_1) = (rd l1 x5_1)
       ·rw [if_pos c7] at H
        have c7b0 : ((rd l0 x5_1) == (rd l1 x5_1)) = true := beq_iff_eq.mpr c7
        have c7b1 : ((rd l0 x5_1) != (rd l1 x5_1)) = false := bne_eq_false_iff_eq.mpr c7
        clear c7
        have H' := Aside0.mk H
        clear H
        have p413 : 0 ≤ (x5_1 : Int) := tD
        have q413 : x5_1 < (l0.length : Int) := tD
        obtain ⟨ad413, e413, hx413_0⟩ := Kd.at_int HR0.out x5_1 p413 q413
        cases e413
        replace p413 := eq_true p413
        replace q413 := eq_true q413
        have p414 : 0 ≤ (x5_1 : Int) := tD
        have q414 : x5_1 < (l1.length : Int) := tD
        obtain ⟨ad414, e414, hx414_0⟩ := Kd.at_int HR1.out x5_1 p414 q414
        cases e414
        replace p414 := eq_true p414
        replace q414 := eq_true q414
        go_wp2
        repeat (go_quiet (fail); try go_wp2)
        go_roundg k1
        case measure => have := HK1.out; omega
        case rel => exact ⟨(wrap64 (x5_1 + 1)), (by first | rfl | (simp; done) | (simp [*]; done)), H', ⟨by have := HK1.out; omega⟩, by repeat (first | exact Drawn0.refl _ | apply Drawn0.step)⟩
       ·rw [if_neg c7] at H
        have c7b0 : ((rd l0 x5_1) == (rd l1 x5_1)) = false := beq_eq_false_iff_ne.mpr c7
        have c7b1 : ((rd l0 x5_1) != (rd l1 x5_1)) = true := bne_iff_ne.mpr c7
        obtain rfl := Option.some.inj H
        have p413 : 0 ≤ (x5_1 : Int) := tD
        have q413 : x5_1 < (l0.length : Int) := tD
        obtain ⟨ad413, e413, hx413_0⟩ := Kd.at_int HR0.out x5_1 p413 q413
        cases e413
        replace p413 := eq_true p413
        replace q413 := eq_true q413
        have p414 : 0 ≤ (x5_1 : Int) := tD
        have q414 : x5_1 < (l1.length : Int) := tD
        obtain ⟨ad414, e414, hx414_0⟩ := Kd.at_int HR1.out x5_1 p414 q414
        cases e414
        replace p414 := eq_true p414
        replace q414 := eq_true q414
        go_wp2
        repeat (go_quiet (fail); try go_wp2)
        go_ret
        exact ⟨by first | rfl | (simp; done) | (simp [*]; done), by repeat (first | exact Drawn0.refl _ | apply Drawn0.step)⟩
      ·rw [if_neg c6] at H
       exact absurd H (by simp)
     ·rw [if_neg c5] at H
      exact absurd H (by simp)
    ·rw [if_neg c4] at H
     have c4b0 : decide (x5_1 < (l0.length : Int)) = false := decide_eq_false c4
     clear c4
     obtain rfl := Option.some.inj H
     go_wp2
     repeat (go_quiet (fail); try go_wp2)
     go_ret
     exact ⟨by first | rfl | (simp; done) | (simp [*]; done), by repeat (first | exact Drawn0.refl _ | apply Drawn0.step)⟩
 ·rw [if_neg c3] at H
  have c3b0 : ((l0.length : Int) == (l1.length : Int)) = false := beq_eq_false_iff_ne.mpr c3
  have c3b1 : ((l0.length : Int) != (l1.length : Int)) = true := bne_iff_ne.mpr c3
  have c3b2 : (l0.length == l1.length) = false := by first | simpa using c3 | (simp at c3 ⊢; omega)
  obtain rfl := Option.some.inj H
  go_enter Try.func53, Try.ntmps53
  go_wp2
  repeat (go_quiet (fail); try go_wp2)
  go_ret
  exact ⟨by first | rfl | (simp; done) | (simp [*]; done), by repeat (first | exact Drawn0.refl _ | apply Drawn0.step)⟩
end Go.Proofs.Ytihmfdndiicjgaa.C
