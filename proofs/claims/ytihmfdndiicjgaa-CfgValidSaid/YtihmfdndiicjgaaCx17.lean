-- Written by xprint.py (wip/tools) out of the translation and of this project's hand texts. Not trusted: Lean checks it.
import Derived.Test.YtihmfdndiicjgaaCx0
import Derived.Test.YtihmfdndiicjgaaCx11
import Derived.Test.YtihmfdndiicjgaaCx16
namespace Go.Proofs.Ytihmfdndiicjgaa.C
open Go.RowKit Go.Proofs.YtihmfdndiicjgaaW.PrintWords Go.Proofs.YtihmfdndiicjgaaW.PrintLast Go.Proofs.YtihmfdndiicjgaaW.PrintMore
attribute [local go_sem] max2_int min2_int max_two min_two max_three min_three max_four min_four   -- for this text's walks alone
set_option linter.unusedVariables false
set_option linter.unusedSimpArgs false
/-! ### ontimeref24_Valid: function 20 -/
mutual
def ontimeref24_Valid.j0 : Nat → List (S104) → List (List Int) → Bool → Option (Bool)
 | 0, _, _, _ => none
 | k + 1, x0, x1, x18 => if x18 = true then (some false) else (ontimeref24_Valid.l0 k x0 x1 0)
def ontimeref24_Valid.l0 : Nat → List (S104) → List (List Int) → Int → Option (Bool)
 | 0, _, _, _ => none
 | k + 1, x0, x1, x5 => if x5 < (x0.length : Int) then (if 0 ≤ x5 then (if ((rd_T104 x0 x5).f0) < 0 then (ontimeref24_Valid.j2 k x0 x1 x5 true) else (if ((rd_T104 x0 x5).f0) ≥ ((rd_T104 x0 x5).f1) then (ontimeref24_Valid.j2 k x0 x1 x5 true) else (if x5 > 0 then (if 0 ≤ (wrap64 (x5 - 1)) then (if (wrap64 (x5 - 1)) < (x0.length : Int) then (if ((rd_T104 x0 x5).f0) < ((rd_T104 x0 (wrap64 (x5 - 1))).f1) then (ontimeref24_Valid.j2 k x0 x1 x5 true) else (ontimeref24_Valid.j2 k x0 x1 x5 (decide ((((rd_T104 x0 x5).f2).length : Int) > 2)))) else (none)) else (none)) else (ontimeref24_Valid.j2 k x0 x1 x5 (decide ((((rd_T104 x0 x5).f2).length : Int) > 2)))))) else (none)) else ((ontimeref24_Prev.f k x0).bind fun t431 => (ontimeref24_Valid.l2 k x0 x1 t431 0))
def ontimeref24_Valid.j2 : Nat → List (S104) → List (List Int) → Int → Bool → Option (Bool)
 | 0, _, _, _, _ => none
 | k + 1, x0, x1, x5, x70 => if x70 = true then (some false) else (ontimeref24_Valid.l1 k x0 x1 x5 0)
def ontimeref24_Valid.l1 : Nat → List (S104) → List (List Int) → Int → Int → Option (Bool)
 | 0, _, _, _, _ => none
 | k + 1, x0, x1, x5, x6 => if 0 ≤ x5 then (if x5 < (x0.length : Int) then (if x6 < (((rd_T104 x0 x5).f2).length : Int) then (if 0 ≤ x6 then (if (rd ((rd_T104 x0 x5).f2) x6) < 0 then (some false) else (if (rd ((rd_T104 x0 x5).f2) x6) ≥ (x0.length : Int) then (some false) else (if x6 > 0 then (if 0 < (((rd_T104 x0 x5).f2).length : Int) then (if (rd ((rd_T104 x0 x5).f2) x6) = (rd ((rd_T104 x0 x5).f2) 0) then (some false) else (ontimeref24_Valid.l1 k x0 x1 x5 (wrap64 (x6 + 1)))) else (none)) else (ontimeref24_Valid.l1 k x0 x1 x5 (wrap64 (x6 + 1)))))) else (none)) else (ontimeref24_Valid.l0 k x0 x1 (wrap64 (x5 + 1)))) else (none)) else (none)
def ontimeref24_Valid.l2 : Nat → List (S104) → List (List Int) → List (List Int) → Int → Option (Bool)
 | 0, _, _, _, _ => none
 | k + 1, x0, x1, x7, x8 => if x8 < (x0.length : Int) then (if 0 ≤ x8 then (if x8 < (x1.length : Int) then (if x8 < (x7.length : Int) then ((ontimeref24_same.f k (rd_L11 x1 x8) (rd_L11 x7 x8)).bind fun t436 => (if t436 = true then (ontimeref24_Valid.l2 k x0 x1 x7 (wrap64 (x8 + 1))) else (some false))) else (none)) else (none)) else (none)) else (some true)
end
def ontimeref24_Valid.f (k : Nat) (l0 : List (S104)) (l1 : List (List Int)) : Option (Bool) := if (l0.length : Int) = 0 then (ontimeref24_Valid.j0 k l0 l1 true) else (ontimeref24_Valid.j0 k l0 l1 ((l1.length : Int) != (l0.length : Int)))
theorem ontimeref24_Valid.mono_l : ∀ k, (∀ y0 y1 y2, LeO (ontimeref24_Valid.j0 k y0 y1 y2) (ontimeref24_Valid.j0 (k + 1) y0 y1 y2)) ∧ (∀ y0 y1 y2, LeO (ontimeref24_Valid.l0 k y0 y1 y2) (ontimeref24_Valid.l0 (k + 1) y0 y1 y2)) ∧ (∀ y0 y1 y2 y3, LeO (ontimeref24_Valid.j2 k y0 y1 y2 y3) (ontimeref24_Valid.j2 (k + 1) y0 y1 y2 y3)) ∧ (∀ y0 y1 y2 y3, LeO (ontimeref24_Valid.l1 k y0 y1 y2 y3) (ontimeref24_Valid.l1 (k + 1) y0 y1 y2 y3)) ∧ (∀ y0 y1 y2 y3, LeO (ontimeref24_Valid.l2 k y0 y1 y2 y3) (ontimeref24_Valid.l2 (k + 1) y0 y1 y2 y3))
 | 0 => ⟨fun _ _ _ r h => by simp [ontimeref24_Valid.j0] at h, fun _ _ _ r h => by simp [ontimeref24_Valid.l0] at h, fun _ _ _ _ r h => by simp [ontimeref24_Valid.j2] at h, fun _ _ _ _ r h => by simp [ontimeref24_Valid.l1] at h, fun _ _ _ _ r h => by simp [ontimeref24_Valid.l2] at h⟩
 | k + 1 => by
  obtain ⟨ih0, ih1, ih2, ih3, ih4⟩ := ontimeref24_Valid.mono_l k
  refine ⟨?_, ?_, ?_, ?_, ?_⟩
  ·intro y0 y1 y2
   unfold ontimeref24_Valid.j0
   repeat' first
   | (with_reducible exact ih0 _ _ _)
   | (with_reducible exact ih1 _ _ _)
   | (with_reducible exact ih2 _ _ _ _)
   | (with_reducible exact ih3 _ _ _ _)
   | (with_reducible exact ih4 _ _ _ _)
   | (with_reducible exact ontimeref24_Prev.mono _ _)
   | (with_reducible exact ontimeref24_same.mono _ _ _)
   | (with_reducible exact LeO.refl _)
   | (with_reducible exact LeO.none _)
   | (with_reducible refine LeO.ite ?_ ?_)
   | (with_reducible refine LeO.bind ?_ (fun _ => ?_))
   | exact ih0 _ _ _
   | exact ih1 _ _ _
   | exact ih2 _ _ _ _
   | exact ih3 _ _ _ _
   | exact ih4 _ _ _ _
   | exact ontimeref24_Prev.mono _ _
   | exact ontimeref24_same.mono _ _ _
   | exact LeO.none _
   | refine LeO.ite ?_ ?_
   | refine LeO.bind ?_ (fun _ => ?_)
  ·intro y0 y1 y2
   unfold ontimeref24_Valid.l0
   repeat' first
   | (with_reducible exact ih0 _ _ _)
   | (with_reducible exact ih1 _ _ _)
   | (with_reducible exact ih2 _ _ _ _)
   | (with_reducible exact ih3 _ _ _ _)
   | (with_reducible exact ih4 _ _ _ _)
   | (with_reducible exact ontimeref24_Prev.mono _ _)
   | (with_reducible exact ontimeref24_same.mono _ _ _)
   | (with_reducible exact LeO.refl _)
   | (with_reducible exact LeO.none _)
   | (with_reducible refine LeO.ite ?_ ?_)
   | (with_reducible refine LeO.bind ?_ (fun _ => ?_))
   | exact ih0 _ _ _
   | exact ih1 _ _ _
   | exact ih2 _ _ _ _
   | exact ih3 _ _ _ _
   | exact ih4 _ _ _ _
   | exact ontimeref24_Prev.mono _ _
   | exact ontimeref24_same.mono _ _ _
   | exact LeO.none _
   | refine LeO.ite ?_ ?_
   | refine LeO.bind ?_ (fun _ => ?_)
  ·intro y0 y1 y2 y3
   unfold ontimeref24_Valid.j2
   repeat' first
   | (with_reducible exact ih0 _ _ _)
   | (with_reducible exact ih1 _ _ _)
   | (with_reducible exact ih2 _ _ _ _)
   | (with_reducible exact ih3 _ _ _ _)
   | (with_reducible exact ih4 _ _ _ _)
   | (with_reducible exact ontimeref24_Prev.mono _ _)
   | (with_reducible exact ontimeref24_same.mono _ _ _)
   | (with_reducible exact LeO.refl _)
   | (with_reducible exact LeO.none _)
   | (with_reducible refine LeO.ite ?_ ?_)
   | (with_reducible refine LeO.bind ?_ (fun _ => ?_))
   | exact ih0 _ _ _
   | exact ih1 _ _ _
   | exact ih2 _ _ _ _
   | exact ih3 _ _ _ _
   | exact ih4 _ _ _ _
   | exact ontimeref24_Prev.mono _ _
   | exact ontimeref24_same.mono _ _ _
   | exact LeO.none _
   | refine LeO.ite ?_ ?_
   | refine LeO.bind ?_ (fun _ => ?_)
  ·intro y0 y1 y2 y3
   unfold ontimeref24_Valid.l1
   repeat' first
   | (with_reducible exact ih0 _ _ _)
   | (with_reducible exact ih1 _ _ _)
   | (with_reducible exact ih2 _ _ _ _)
   | (with_reducible exact ih3 _ _ _ _)
   | (with_reducible exact ih4 _ _ _ _)
   | (with_reducible exact ontimeref24_Prev.mono _ _)
   | (with_reducible exact ontimeref24_same.mono _ _ _)
   | (with_reducible exact LeO.refl _)
   | (with_reducible exact LeO.none _)
   | (with_reducible refine LeO.ite ?_ ?_)
   | (with_reducible refine LeO.bind ?_ (fun _ => ?_))
   | exact ih0 _ _ _
   | exact ih1 _ _ _
   | exact ih2 _ _ _ _
   | exact ih3 _ _ _ _
   | exact ih4 _ _ _ _
   | exact ontimeref24_Prev.mono _ _
   | exact ontimeref24_same.mono _ _ _
   | exact LeO.none _
   | refine LeO.ite ?_ ?_
   | refine LeO.bind ?_ (fun _ => ?_)
  ·intro y0 y1 y2 y3
   unfold ontimeref24_Valid.l2
   repeat' first
   | (with_reducible exact ih0 _ _ _)
   | (with_reducible exact ih1 _ _ _)
   | (with_reducible exact ih2 _ _ _ _)
   | (with_reducible exact ih3 _ _ _ _)
   | (with_reducible exact ih4 _ _ _ _)
   | (with_reducible exact ontimeref24_Prev.mono _ _)
   | (with_reducible exact ontimeref24_same.mono _ _ _)
   | (with_reducible exact LeO.refl _)
   | (with_reducible exact LeO.none _)
   | (with_reducible refine LeO.ite ?_ ?_)
   | (with_reducible refine LeO.bind ?_ (fun _ => ?_))
   | exact ih0 _ _ _
   | exact ih1 _ _ _
   | exact ih2 _ _ _ _
   | exact ih3 _ _ _ _
   | exact ih4 _ _ _ _
   | exact ontimeref24_Prev.mono _ _
   | exact ontimeref24_same.mono _ _ _
   | exact LeO.none _
   | refine LeO.ite ?_ ?_
   | refine LeO.bind ?_ (fun _ => ?_)
theorem ontimeref24_Valid.mono : ∀ a0 a1 k, LeO (ontimeref24_Valid.f k a0 a1) (ontimeref24_Valid.f (k + 1) a0 a1) := by
 intro a0 a1 k
 obtain ⟨ih0, ih1, ih2, ih3, ih4⟩ := ontimeref24_Valid.mono_l k
 unfold ontimeref24_Valid.f
 repeat' first
   | (with_reducible exact ih0 _ _ _)
   | (with_reducible exact ih1 _ _ _)
   | (with_reducible exact ih2 _ _ _ _)
   | (with_reducible exact ih3 _ _ _ _)
   | (with_reducible exact ih4 _ _ _ _)
   | (with_reducible exact ontimeref24_Prev.mono _ _)
   | (with_reducible exact ontimeref24_same.mono _ _ _)
   | (with_reducible exact LeO.refl _)
   | (with_reducible exact LeO.none _)
   | (with_reducible refine LeO.ite ?_ ?_)
   | (with_reducible refine LeO.bind ?_ (fun _ => ?_))
   | exact ih0 _ _ _
   | exact ih1 _ _ _
   | exact ih2 _ _ _ _
   | exact ih3 _ _ _ _
   | exact ih4 _ _ _ _
   | exact ontimeref24_Prev.mono _ _
   | exact ontimeref24_same.mono _ _ _
   | exact LeO.none _
   | refine LeO.ite ?_ ?_
   | refine LeO.bind ?_ (fun _ => ?_)
set_option maxHeartbeats 8000000 in
set_option maxRecDepth 100000 in
theorem ontimeref24_Valid.calls (k : Nat) (A0 : Option Addr) (c0 : Nat) (l0 : List (S104)) (A1 : Option Addr) (c1 : Nat) (l1 : List (List Int)) (r : Bool) (w : World) (hr0 : Kd.C k104 w A0 l0.length l0) (hc0 : l0.length ≤ c0) (hr1 : Kd.C (Kd.slice 3 (Kd.int .i64)) w A1 l1.length l1) (hc1 : l1.length ≤ c1) (h : ontimeref24_Valid.f k l0 l1 = some r) :
  Calls Try.prog 20 #[.slice A0 l0.length c0, .slice A1 l1.length c1] w fun e w' => e = .returned (.bool r) ∧ Below w.heap.size w w' := by
 have HR0 := Aside0.mk hr0
 have HC0 := Aside0.mk hc0
 clear hr0 hc0
 have HR1 := Aside0.mk hr1
 have HC1 := Aside0.mk hc1
 clear hr1 hc1
 have HB := Aside0.mk (Below.refl w.heap.size w)
 have H : (if (l0.length : Int) = 0 then (ontimeref24_Valid.j0 k l0 l1 true) else (ontimeref24_Valid.j0 k l0 l1 ((l1.length : Int) != (l0.length : Int)))) = some r := h
 clear h
 have HC3 := Aside0.mk H
 clear H
 go_enter Try.func20, Try.ntmps20
 go_upto_region 1 with (fail)
 repeat (go_quiet (fail); go_upto_region 1 with (fail))
 go_cut [18] (fun v18 wc => ∃ (kq : Nat) (x18_2 : Bool), v18 = .bool x18_2 ∧ Aside0 (ontimeref24_Valid.j0 kq l0 l1 x18_2 = some r) ∧ Aside0 (kq ≤ k) ∧ Aside0 (Below w.heap.size w wc))
 case first =>
  have H := HC3.out
  clear HC3
  by_cases c4 : (l0.length : Int) = 0
  ·rw [if_pos c4] at H
   have c4b0 : ((l0.length : Int) == 0) = true := beq_iff_eq.mpr c4
   have c4b1 : ((l0.length : Int) != 0) = false := bne_eq_false_iff_eq.mpr c4
   clear c4
   (first | rw [c4b0] | (simp only [i64_w, i32_w]; rw [c4b0]) | skip)
   have H' := Aside0.mk H
   clear H
   go_wp2
   repeat (go_quiet (fail); try go_wp2)
   go_meet
   case rel => exact ⟨_, (true), (by first | rfl | (simp; done) | (simp [*]; done)), H', ⟨by first | omega | exact Nat.le_refl _⟩, ⟨tB0 HB.out⟩⟩
  ·rw [if_neg c4] at H
   have c4b0 : ((l0.length : Int) == 0) = false := beq_eq_false_iff_ne.mpr c4
   have c4b1 : ((l0.length : Int) != 0) = true := bne_iff_ne.mpr c4
   have c4b2 : ¬ (l0 = []) := fun h_ => c4 (by rw [h_]; rfl)
   (first | rw [c4b0] | (simp only [i64_w, i32_w]; rw [c4b0]) | skip)
   have H' := Aside0.mk H
   clear H
   go_wp2
   repeat (go_quiet (fail); try go_wp2)
   go_meet
   case rel => exact ⟨_, (((l1.length : Int) != (l0.length : Int))), (by first | rfl | (simp; done) | (simp [*]; done)), H', ⟨by first | omega | exact Nat.le_refl _⟩, ⟨tB0 HB.out⟩⟩
 case rest =>
  clear HC3
  (try clear c1);(try clear c2);(try clear p2);(try clear c4);(try clear c4b0);(try clear c4b1);(try clear c4b2)
  obtain ⟨kq, x18_2, rfl, HA, HJ2, HB⟩ := hcut
  cases kq with
  | zero => exact absurd HA.out (by simp [ontimeref24_Valid.j0])
  | succ kj2 =>
   have H := HA.out
   clear HA
   simp only [ontimeref24_Valid.j0] at H
   by_cases c5 : x18_2 = true
   ·subst c5
    have H1 : (some false) = some r := by rw [if_pos rfl] at H; exact H
    clear H
    have H := H1
    clear H1
    obtain rfl := Option.some.inj H
    go_wp2
    repeat (go_quiet (fail); try go_wp2)
    go_ret
    exact ⟨by first | rfl | (simp [errW_none, errW_some] <;> rfl) | (simp [*, errW_none, errW_some] <;> rfl), by repeat (first | (with_reducible first | exact HB.out | apply below_alloc | apply pw_below_drewN | apply below_drew1) | exact HB.out)⟩
   ·replace c5 := Bool.eq_false_iff.mpr c5
    subst c5
    have H1 : (ontimeref24_Valid.l0 kj2 l0 l1 0) = some r := by rw [if_neg (show ¬ (false = true) by decide)] at H; exact H
    clear H
    have H := H1
    clear H1
    have H' := Aside0.mk H
    clear H
    go_wp2
    repeat (go_quiet (fail); try go_wp2)
    go_loopg [5] kj2 (fun kq v5 w' => ∃ (x5_2 : Int), v5 = .int .i64 x5_2 ∧ Aside0 (ontimeref24_Valid.l0 kq l0 l1 x5_2 = some r) ∧ Aside0 (kq ≤ kj2) ∧ Aside0 (Below w.heap.size w w'))
    case atStart => exact ⟨(0), (by first | rfl | (simp; done) | (simp [*]; done)), H', ⟨Nat.le_refl _⟩, ⟨tB0 HB.out⟩⟩
    case round =>
     clear H'
     (try clear c1);(try clear c2);(try clear p2);(try clear c4);(try clear c4b0);(try clear c4b1);(try clear c4b2);(try clear c5);(try clear p2)
     obtain ⟨x5_2, rfl, HA, HK2, HB⟩ := hrel
     cases gk with
     | zero => exact absurd HA.out (by simp [ontimeref24_Valid.l0])
     | succ k2 =>
      have H := HA.out
      clear HA
      simp only [ontimeref24_Valid.l0] at H
      by_cases c6 : x5_2 < (l0.length : Int)
      ·rw [if_pos c6] at H
       have c6b0 : decide (x5_2 < (l0.length : Int)) = true := decide_eq_true c6
       clear c6
       have HC7 := Aside0.mk H
       clear H
       go_upto_region 6 with (fail)
       repeat (go_quiet (fail); go_upto_region 6 with (fail))
       go_cut [70] (fun v70 wc => ∃ (kq : Nat) (x70_6 : Bool), v70 = .bool x70_6 ∧ Aside0 (ontimeref24_Valid.j2 kq l0 l1 x5_2 x70_6 = some r) ∧ Aside0 (kq ≤ k2) ∧ Aside0 (Below w.heap.size w wc))
       case first =>
        have H := HC7.out
        clear HC7
        by_cases c8 : 0 ≤ x5_2
        ·rw [if_pos c8] at H
         have c8b0 : decide (0 ≤ x5_2) = true := decide_eq_true c8
         clear c8
         (first | rw [c8b0] | (simp only [i64_w, i32_w]; rw [c8b0]) | skip)
         by_cases c9 : ((rd_T104 l0 x5_2).f0) < 0
         ·rw [if_pos c9] at H
          have c9b0 : decide (((rd_T104 l0 x5_2).f0) < 0) = true := decide_eq_true c9
          clear c9
          have H' := Aside0.mk H
          clear H
          have p415 : 0 ≤ (x5_2 : Int) := tD
          have q415 : x5_2 < (l0.length : Int) := tD
          obtain ⟨ad415, A415_2, c415_2, e415, hx415_0, hx415_1, hx415_2, hl415_2, hi415_2⟩ := at_T104 HR0.out x5_2 p415 q415
          cases e415
          replace hx415_0 := (HB.out.cell (World.block_lt_of_cell? w _ hx415_0)).trans hx415_0
          replace hx415_1 := (HB.out.cell (World.block_lt_of_cell? w _ hx415_1)).trans hx415_1
          replace hx415_2 := (HB.out.cell (World.block_lt_of_cell? w _ hx415_2)).trans hx415_2
          have HR415_2 := Aside0.mk hi415_2
          have HC415_2 := Aside0.mk hl415_2
          clear hi415_2 hl415_2
          replace p415 := eq_true p415
          replace q415 := eq_true q415
          go_wp2
          repeat (go_quiet (fail); try go_wp2)
          go_meet
          case rel => exact ⟨_, (true), (by first | rfl | (simp; done) | (simp [*]; done)), H', ⟨by have := HJ2.out; have := HK2.out; first | omega | exact Nat.le_refl _⟩, ⟨tB0 HB.out⟩⟩
         ·rw [if_neg c9] at H
          have c9b0 : decide (((rd_T104 l0 x5_2).f0) < 0) = false := decide_eq_false c9
          clear c9
          by_cases c10 : ((rd_T104 l0 x5_2).f0) ≥ ((rd_T104 l0 x5_2).f1)
          ·rw [if_pos c10] at H
           have c10b0 : decide (((rd_T104 l0 x5_2).f1) ≤ ((rd_T104 l0 x5_2).f0)) = true := decide_eq_true c10
           clear c10
           have H' := Aside0.mk H
           clear H
           have p415 : 0 ≤ (x5_2 : Int) := tD
           have q415 : x5_2 < (l0.length : Int) := tD
           obtain ⟨ad415, A415_2, c415_2, e415, hx415_0, hx415_1, hx415_2, hl415_2, hi415_2⟩ := at_T104 HR0.out x5_2 p415 q415
           cases e415
           replace hx415_0 := (HB.out.cell (World.block_lt_of_cell? w _ hx415_0)).trans hx415_0
           replace hx415_1 := (HB.out.cell (World.block_lt_of_cell? w _ hx415_1)).trans hx415_1
           replace hx415_2 := (HB.out.cell (World.block_lt_of_cell? w _ hx415_2)).trans hx415_2
           have HR415_2 := Aside0.mk hi415_2
           have HC415_2 := Aside0.mk hl415_2
           clear hi415_2 hl415_2
           replace p415 := eq_true p415
           replace q415 := eq_true q415
           have p416 : 0 ≤ (x5_2 : Int) := tD
           have q416 : x5_2 < (l0.length : Int) := tD
           obtain ⟨ad416, A416_2, c416_2, e416, hx416_0, hx416_1, hx416_2, hl416_2, hi416_2⟩ := at_T104 HR0.out x5_2 p416 q416
           obtain rfl : ad415 = ad416 := (by injection e416)
           replace hx416_0 := (HB.out.cell (World.block_lt_of_cell? w _ hx416_0)).trans hx416_0
           replace hx416_1 := (HB.out.cell (World.block_lt_of_cell? w _ hx416_1)).trans hx416_1
           replace hx416_2 := (HB.out.cell (World.block_lt_of_cell? w _ hx416_2)).trans hx416_2
           have HR416_2 := Aside0.mk hi416_2
           have HC416_2 := Aside0.mk hl416_2
           clear hi416_2 hl416_2
           replace p416 := eq_true p416
           replace q416 := eq_true q416
           have ea_ := Option.some.inj (hx415_2.symm.trans hx416_2)
           injection ea_ with ea_ en_ ec_
           subst ea_
           subst ec_
           clear en_
           have p417 : 0 ≤ (x5_2 : Int) := tD
           have q417 : x5_2 < (l0.length : Int) := tD
           obtain ⟨ad417, A417_2, c417_2, e417, hx417_0, hx417_1, hx417_2, hl417_2, hi417_2⟩ := at_T104 HR0.out x5_2 p417 q417
           obtain rfl : ad415 = ad417 := (by injection e417)
           replace hx417_0 := (HB.out.cell (World.block_lt_of_cell? w _ hx417_0)).trans hx417_0
           replace hx417_1 := (HB.out.cell (World.block_lt_of_cell? w _ hx417_1)).trans hx417_1
           replace hx417_2 := (HB.out.cell (World.block_lt_of_cell? w _ hx417_2)).trans hx417_2
           have HR417_2 := Aside0.mk hi417_2
           have HC417_2 := Aside0.mk hl417_2
           clear hi417_2 hl417_2
           replace p417 := eq_true p417
           replace q417 := eq_true q417
           have ea_ := Option.some.inj (hx415_2.symm.trans hx417_2)
           injection ea_ with ea_ en_ ec_
           subst ea_
           subst ec_
           clear en_
           go_wp2
           repeat (go_quiet (fail); try go_wp2)
           go_meet
           case rel => exact ⟨_, (true), (by first | rfl | (simp; done) | (simp [*]; done)), H', ⟨by have := HJ2.out; have := HK2.out; first | omega | exact Nat.le_refl _⟩, ⟨tB0 HB.out⟩⟩
          ·rw [if_neg c10] at H
           have c10b0 : decide (((rd_T104 l0 x5_2).f1) ≤ ((rd_T104 l0 x5_2).f0)) = false := decide_eq_false c10
           clear c10
           by_cases c11 : x5_2 > 0
           ·rw [if_pos c11] at H
            have c11b0 : decide (0 < x5_2) = true := decide_eq_true c11
            clear c11
            obtain ⟨ji12, hji12⟩ : ∃ j_ : Int, (wrap64 (x5_2 - 1)) = j_ := ⟨_, rfl⟩
            replace H : (if 0 ≤ (ji12) then (if (ji12) < (l0.length : Int) then (if ((rd_T104 l0 x5_2).f0) < ((rd_T104 l0 (ji12)).f1) then (ontimeref24_Valid.j2 k2 l0 l1 x5_2 true) else (ontimeref24_Valid.j2 k2 l0 l1 x5_2 (decide ((((rd_T104 l0 x5_2).f2).length : Int) > 2)))) else (none)) else (none)) = some r := by first | (rw [hji12] at H; exact H) | (simp only [hji12] at H ⊢; exact H)
            have hji12w : (IntKind.i64.wrap (x5_2 - 1)) = ji12 := (i64_w _).trans hji12
            by_cases c13 : 0 ≤ (ji12)
            ·rw [if_pos c13] at H
             have c13b0 : decide (0 ≤ (ji12)) = true := decide_eq_true c13
             clear c13
             by_cases c14 : (ji12) < (l0.length : Int)
             ·rw [if_pos c14] at H
              have c14b0 : decide ((ji12) < (l0.length : Int)) = true := decide_eq_true c14
              clear c14
              by_cases c15 : ((rd_T104 l0 x5_2).f0) < ((rd_T104 l0 (ji12)).f1)
              ·rw [if_pos c15] at H
               have c15b0 : decide (((rd_T104 l0 x5_2).f0) < ((rd_T104 l0 (ji12)).f1)) = true := decide_eq_true c15
               clear c15
               have H' := Aside0.mk H
               clear H
               have p415 : 0 ≤ (x5_2 : Int) := tD
               have q415 : x5_2 < (l0.length : Int) := tD
               obtain ⟨ad415, A415_2, c415_2, e415, hx415_0, hx415_1, hx415_2, hl415_2, hi415_2⟩ := at_T104 HR0.out x5_2 p415 q415
               cases e415
               replace hx415_0 := (HB.out.cell (World.block_lt_of_cell? w _ hx415_0)).trans hx415_0
               replace hx415_1 := (HB.out.cell (World.block_lt_of_cell? w _ hx415_1)).trans hx415_1
               replace hx415_2 := (HB.out.cell (World.block_lt_of_cell? w _ hx415_2)).trans hx415_2
               have HR415_2 := Aside0.mk hi415_2
               have HC415_2 := Aside0.mk hl415_2
               clear hi415_2 hl415_2
               replace p415 := eq_true p415
               replace q415 := eq_true q415
               have p416 : 0 ≤ (x5_2 : Int) := tD
               have q416 : x5_2 < (l0.length : Int) := tD
               obtain ⟨ad416, A416_2, c416_2, e416, hx416_0, hx416_1, hx416_2, hl416_2, hi416_2⟩ := at_T104 HR0.out x5_2 p416 q416
               obtain rfl : ad415 = ad416 := (by injection e416)
               replace hx416_0 := (HB.out.cell (World.block_lt_of_cell? w _ hx416_0)).trans hx416_0
               replace hx416_1 := (HB.out.cell (World.block_lt_of_cell? w _ hx416_1)).trans hx416_1
               replace hx416_2 := (HB.out.cell (World.block_lt_of_cell? w _ hx416_2)).trans hx416_2
               have HR416_2 := Aside0.mk hi416_2
               have HC416_2 := Aside0.mk hl416_2
               clear hi416_2 hl416_2
               replace p416 := eq_true p416
               replace q416 := eq_true q416
               have ea_ := Option.some.inj (hx415_2.symm.trans hx416_2)
               injection ea_ with ea_ en_ ec_
               subst ea_
               subst ec_
               clear en_
               have p417 : 0 ≤ (x5_2 : Int) := tD
               have q417 : x5_2 < (l0.length : Int) := tD
               obtain ⟨ad417, A417_2, c417_2, e417, hx417_0, hx417_1, hx417_2, hl417_2, hi417_2⟩ := at_T104 HR0.out x5_2 p417 q417
               obtain rfl : ad415 = ad417 := (by injection e417)
               replace hx417_0 := (HB.out.cell (World.block_lt_of_cell? w _ hx417_0)).trans hx417_0
               replace hx417_1 := (HB.out.cell (World.block_lt_of_cell? w _ hx417_1)).trans hx417_1
               replace hx417_2 := (HB.out.cell (World.block_lt_of_cell? w _ hx417_2)).trans hx417_2
               have HR417_2 := Aside0.mk hi417_2
               have HC417_2 := Aside0.mk hl417_2
               clear hi417_2 hl417_2
               replace p417 := eq_true p417
               replace q417 := eq_true q417
               have ea_ := Option.some.inj (hx415_2.symm.trans hx417_2)
               injection ea_ with ea_ en_ ec_
               subst ea_
               subst ec_
               clear en_
               have p418 : 0 ≤ (x5_2 : Int) := tD
               have q418 : x5_2 < (l0.length : Int) := tD
               obtain ⟨ad418, A418_2, c418_2, e418, hx418_0, hx418_1, hx418_2, hl418_2, hi418_2⟩ := at_T104 HR0.out x5_2 p418 q418
               obtain rfl : ad415 = ad418 := (by injection e418)
               replace hx418_0 := (HB.out.cell (World.block_lt_of_cell? w _ hx418_0)).trans hx418_0
               replace hx418_1 := (HB.out.cell (World.block_lt_of_cell? w _ hx418_1)).trans hx418_1
               replace hx418_2 := (HB.out.cell (World.block_lt_of_cell? w _ hx418_2)).trans hx418_2
               have HR418_2 := Aside0.mk hi418_2
               have HC418_2 := Aside0.mk hl418_2
               clear hi418_2 hl418_2
               replace p418 := eq_true p418
               replace q418 := eq_true q418
               have ea_ := Option.some.inj (hx415_2.symm.trans hx418_2)
               injection ea_ with ea_ en_ ec_
               subst ea_
               subst ec_
               clear en_
               have p419 : 0 ≤ ((ji12) : Int) := tD
               have q419 : (ji12) < (l0.length : Int) := tD
               obtain ⟨ad419, A419_2, c419_2, e419, hx419_0, hx419_1, hx419_2, hl419_2, hi419_2⟩ := at_T104 HR0.out (ji12) p419 q419
               obtain rfl : ad415 = ad419 := (by injection e419)
               replace hx419_0 := (HB.out.cell (World.block_lt_of_cell? w _ hx419_0)).trans hx419_0
               replace hx419_1 := (HB.out.cell (World.block_lt_of_cell? w _ hx419_1)).trans hx419_1
               replace hx419_2 := (HB.out.cell (World.block_lt_of_cell? w _ hx419_2)).trans hx419_2
               have HR419_2 := Aside0.mk hi419_2
               have HC419_2 := Aside0.mk hl419_2
               clear hi419_2 hl419_2
               replace p419 := eq_true p419
               replace q419 := eq_true q419
               go_wp2
               repeat (go_quiet (fail); try go_wp2)
               go_meet
               case rel => exact ⟨_, (true), (by first | rfl | (simp; done) | (simp [*]; done)), H', ⟨by have := HJ2.out; have := HK2.out; first | omega | exact Nat.le_refl _⟩, ⟨tB0 HB.out⟩⟩
              ·rw [if_neg c15] at H
               have c15b0 : decide (((rd_T104 l0 x5_2).f0) < ((rd_T104 l0 (ji12)).f1)) = false := decide_eq_false c15
               clear c15
               have H' := Aside0.mk H
               clear H
               have p415 : 0 ≤ (x5_2 : Int) := tD
               have q415 : x5_2 < (l0.length : Int) := tD
               obtain ⟨ad415, A415_2, c415_2, e415, hx415_0, hx415_1, hx415_2, hl415_2, hi415_2⟩ := at_T104 HR0.out x5_2 p415 q415
               cases e415
               replace hx415_0 := (HB.out.cell (World.block_lt_of_cell? w _ hx415_0)).trans hx415_0
               replace hx415_1 := (HB.out.cell (World.block_lt_of_cell? w _ hx415_1)).trans hx415_1
               replace hx415_2 := (HB.out.cell (World.block_lt_of_cell? w _ hx415_2)).trans hx415_2
               have HR415_2 := Aside0.mk hi415_2
               have HC415_2 := Aside0.mk hl415_2
               clear hi415_2 hl415_2
               replace p415 := eq_true p415
               replace q415 := eq_true q415
               have p416 : 0 ≤ (x5_2 : Int) := tD
               have q416 : x5_2 < (l0.length : Int) := tD
               obtain ⟨ad416, A416_2, c416_2, e416, hx416_0, hx416_1, hx416_2, hl416_2, hi416_2⟩ := at_T104 HR0.out x5_2 p416 q416
               obtain rfl : ad415 = ad416 := (by injection e416)
               replace hx416_0 := (HB.out.cell (World.block_lt_of_cell? w _ hx416_0)).trans hx416_0
               replace hx416_1 := (HB.out.cell (World.block_lt_of_cell? w _ hx416_1)).trans hx416_1
               replace hx416_2 := (HB.out.cell (World.block_lt_of_cell? w _ hx416_2)).trans hx416_2
               have HR416_2 := Aside0.mk hi416_2
               have HC416_2 := Aside0.mk hl416_2
               clear hi416_2 hl416_2
               replace p416 := eq_true p416
               replace q416 := eq_true q416
               have ea_ := Option.some.inj (hx415_2.symm.trans hx416_2)
               injection ea_ with ea_ en_ ec_
               subst ea_
               subst ec_
               clear en_
               have p417 : 0 ≤ (x5_2 : Int) := tD
               have q417 : x5_2 < (l0.length : Int) := tD
               obtain ⟨ad417, A417_2, c417_2, e417, hx417_0, hx417_1, hx417_2, hl417_2, hi417_2⟩ := at_T104 HR0.out x5_2 p417 q417
               obtain rfl : ad415 = ad417 := (by injection e417)
               replace hx417_0 := (HB.out.cell (World.block_lt_of_cell? w _ hx417_0)).trans hx417_0
               replace hx417_1 := (HB.out.cell (World.block_lt_of_cell? w _ hx417_1)).trans hx417_1
               replace hx417_2 := (HB.out.cell (World.block_lt_of_cell? w _ hx417_2)).trans hx417_2
               have HR417_2 := Aside0.mk hi417_2
               have HC417_2 := Aside0.mk hl417_2
               clear hi417_2 hl417_2
               replace p417 := eq_true p417
               replace q417 := eq_true q417
               have ea_ := Option.some.inj (hx415_2.symm.trans hx417_2)
               injection ea_ with ea_ en_ ec_
               subst ea_
               subst ec_
               clear en_
               have p418 : 0 ≤ (x5_2 : Int) := tD
               have q418 : x5_2 < (l0.length : Int) := tD
               obtain ⟨ad418, A418_2, c418_2, e418, hx418_0, hx418_1, hx418_2, hl418_2, hi418_2⟩ := at_T104 HR0.out x5_2 p418 q418
               obtain rfl : ad415 = ad418 := (by injection e418)
               replace hx418_0 := (HB.out.cell (World.block_lt_of_cell? w _ hx418_0)).trans hx418_0
               replace hx418_1 := (HB.out.cell (World.block_lt_of_cell? w _ hx418_1)).trans hx418_1
               replace hx418_2 := (HB.out.cell (World.block_lt_of_cell? w _ hx418_2)).trans hx418_2
               have HR418_2 := Aside0.mk hi418_2
               have HC418_2 := Aside0.mk hl418_2
               clear hi418_2 hl418_2
               replace p418 := eq_true p418
               replace q418 := eq_true q418
               have ea_ := Option.some.inj (hx415_2.symm.trans hx418_2)
               injection ea_ with ea_ en_ ec_
               subst ea_
               subst ec_
               clear en_
               have p419 : 0 ≤ ((ji12) : Int) := tD
               have q419 : (ji12) < (l0.length : Int) := tD
               obtain ⟨ad419, A419_2, c419_2, e419, hx419_0, hx419_1, hx419_2, hl419_2, hi419_2⟩ := at_T104 HR0.out (ji12) p419 q419
               obtain rfl : ad415 = ad419 := (by injection e419)
               replace hx419_0 := (HB.out.cell (World.block_lt_of_cell? w _ hx419_0)).trans hx419_0
               replace hx419_1 := (HB.out.cell (World.block_lt_of_cell? w _ hx419_1)).trans hx419_1
               replace hx419_2 := (HB.out.cell (World.block_lt_of_cell? w _ hx419_2)).trans hx419_2
               have HR419_2 := Aside0.mk hi419_2
               have HC419_2 := Aside0.mk hl419_2
               clear hi419_2 hl419_2
               replace p419 := eq_true p419
               replace q419 := eq_true q419
               have p420 : 0 ≤ (x5_2 : Int) := tD
               have q420 : x5_2 < (l0.length : Int) := tD
               obtain ⟨ad420, A420_2, c420_2, e420, hx420_0, hx420_1, hx420_2, hl420_2, hi420_2⟩ := at_T104 HR0.out x5_2 p420 q420
               obtain rfl : ad415 = ad420 := (by injection e420)
               replace hx420_0 := (HB.out.cell (World.block_lt_of_cell? w _ hx420_0)).trans hx420_0
               replace hx420_1 := (HB.out.cell (World.block_lt_of_cell? w _ hx420_1)).trans hx420_1
               replace hx420_2 := (HB.out.cell (World.block_lt_of_cell? w _ hx420_2)).trans hx420_2
               have HR420_2 := Aside0.mk hi420_2
               have HC420_2 := Aside0.mk hl420_2
               clear hi420_2 hl420_2
               replace p420 := eq_true p420
               replace q420 := eq_true q420
               have ea_ := Option.some.inj (hx415_2.symm.trans hx420_2)
               injection ea_ with ea_ en_ ec_
               subst ea_
               subst ec_
               clear en_
               go_wp2
               repeat (go_quiet (fail); try go_wp2)
               go_meet
               case rel => exact ⟨_, (decide ((((rd_T104 l0 x5_2).f2).length : Int) > 2)), (by first | rfl | (simp; done) | (simp [*]; done)), H', ⟨by have := HJ2.out; have := HK2.out; first | omega | exact Nat.le_refl _⟩, ⟨tB0 HB.out⟩⟩
             ·rw [if_neg c14] at H
              exact absurd H (by simp)
            ·rw [if_neg c13] at H
             exact absurd H (by simp)
           ·rw [if_neg c11] at H
            have c11b0 : decide (0 < x5_2) = false := decide_eq_false c11
            clear c11
            have H' := Aside0.mk H
            clear H
            have p415 : 0 ≤ (x5_2 : Int) := tD
            have q415 : x5_2 < (l0.length : Int) := tD
            obtain ⟨ad415, A415_2, c415_2, e415, hx415_0, hx415_1, hx415_2, hl415_2, hi415_2⟩ := at_T104 HR0.out x5_2 p415 q415
            cases e415
            replace hx415_0 := (HB.out.cell (World.block_lt_of_cell? w _ hx415_0)).trans hx415_0
            replace hx415_1 := (HB.out.cell (World.block_lt_of_cell? w _ hx415_1)).trans hx415_1
            replace hx415_2 := (HB.out.cell (World.block_lt_of_cell? w _ hx415_2)).trans hx415_2
            have HR415_2 := Aside0.mk hi415_2
            have HC415_2 := Aside0.mk hl415_2
            clear hi415_2 hl415_2
            replace p415 := eq_true p415
            replace q415 := eq_true q415
            have p416 : 0 ≤ (x5_2 : Int) := tD
            have q416 : x5_2 < (l0.length : Int) := tD
            obtain ⟨ad416, A416_2, c416_2, e416, hx416_0, hx416_1, hx416_2, hl416_2, hi416_2⟩ := at_T104 HR0.out x5_2 p416 q416
            obtain rfl : ad415 = ad416 := (by injection e416)
            replace hx416_0 := (HB.out.cell (World.block_lt_of_cell? w _ hx416_0)).trans hx416_0
            replace hx416_1 := (HB.out.cell (World.block_lt_of_cell? w _ hx416_1)).trans hx416_1
            replace hx416_2 := (HB.out.cell (World.block_lt_of_cell? w _ hx416_2)).trans hx416_2
            have HR416_2 := Aside0.mk hi416_2
            have HC416_2 := Aside0.mk hl416_2
            clear hi416_2 hl416_2
            replace p416 := eq_true p416
            replace q416 := eq_true q416
            have ea_ := Option.some.inj (hx415_2.symm.trans hx416_2)
            injection ea_ with ea_ en_ ec_
            subst ea_
            subst ec_
            clear en_
            have p417 : 0 ≤ (x5_2 : Int) := tD
            have q417 : x5_2 < (l0.length : Int) := tD
            obtain ⟨ad417, A417_2, c417_2, e417, hx417_0, hx417_1, hx417_2, hl417_2, hi417_2⟩ := at_T104 HR0.out x5_2 p417 q417
            obtain rfl : ad415 = ad417 := (by injection e417)
            replace hx417_0 := (HB.out.cell (World.block_lt_of_cell? w _ hx417_0)).trans hx417_0
            replace hx417_1 := (HB.out.cell (World.block_lt_of_cell? w _ hx417_1)).trans hx417_1
            replace hx417_2 := (HB.out.cell (World.block_lt_of_cell? w _ hx417_2)).trans hx417_2
            have HR417_2 := Aside0.mk hi417_2
            have HC417_2 := Aside0.mk hl417_2
            clear hi417_2 hl417_2
            replace p417 := eq_true p417
            replace q417 := eq_true q417
            have ea_ := Option.some.inj (hx415_2.symm.trans hx417_2)
            injection ea_ with ea_ en_ ec_
            subst ea_
            subst ec_
            clear en_
            have p421 : 0 ≤ (x5_2 : Int) := tD
            have q421 : x5_2 < (l0.length : Int) := tD
            obtain ⟨ad421, A421_2, c421_2, e421, hx421_0, hx421_1, hx421_2, hl421_2, hi421_2⟩ := at_T104 HR0.out x5_2 p421 q421
            obtain rfl : ad415 = ad421 := (by injection e421)
            replace hx421_0 := (HB.out.cell (World.block_lt_of_cell? w _ hx421_0)).trans hx421_0
            replace hx421_1 := (HB.out.cell (World.block_lt_of_cell? w _ hx421_1)).trans hx421_1
            replace hx421_2 := (HB.out.cell (World.block_lt_of_cell? w _ hx421_2)).trans hx421_2
            have HR421_2 := Aside0.mk hi421_2
            have HC421_2 := Aside0.mk hl421_2
            clear hi421_2 hl421_2
            replace p421 := eq_true p421
            replace q421 := eq_true q421
            have ea_ := Option.some.inj (hx415_2.symm.trans hx421_2)
            injection ea_ with ea_ en_ ec_
            subst ea_
            subst ec_
            clear en_
            go_wp2
            repeat (go_quiet (fail); try go_wp2)
            go_meet
            case rel => exact ⟨_, (decide ((((rd_T104 l0 x5_2).f2).length : Int) > 2)), (by first | rfl | (simp; done) | (simp [*]; done)), H', ⟨by have := HJ2.out; have := HK2.out; first | omega | exact Nat.le_refl _⟩, ⟨tB0 HB.out⟩⟩
        ·rw [if_neg c8] at H
         exact absurd H (by simp)
       case rest =>
        clear HC7
        (try clear c1);(try clear c2);(try clear p2);(try clear c4);(try clear c4b0);(try clear c4b1);(try clear c4b2);(try clear p4);(try clear q4);(try clear hx4);(try clear c5);(try clear c6);(try clear c6b0);(try clear p6);(try clear c8);(try clear c8b0);(try clear c9);(try clear c9b0);(try clear c10);(try clear c10b0);(try clear c11);(try clear c11b0);(try clear c13);(try clear c13b0);(try clear c14);(try clear c14b0);(try clear c15);(try clear c15b0);(try clear hx415_0);(try clear hx415_1);(try clear hx415_2);(try clear hx416_0);(try clear hx416_1);(try clear hx416_2);(try clear hx417_0);(try clear hx417_1);(try clear hx417_2);(try clear hx418_0);(try clear hx418_1);(try clear hx418_2);(try clear hx419_0);(try clear hx419_1);(try clear hx419_2);(try clear hx420_0);(try clear hx420_1);(try clear hx420_2);(try clear hx421_0);(try clear hx421_1);(try clear hx421_2);(try clear p2);(try clear p415);(try clear p416);(try clear p417);(try clear p418);(try clear p419);(try clear p420);(try clear p421);(try clear q415);(try clear q416);(try clear q417);(try clear q418);(try clear q419);(try clear q420);(try clear q421)
        obtain ⟨kq, x70_6, rfl, HA, HJ6, HB⟩ := hcut
        cases kq with
        | zero => exact absurd HA.out (by simp [ontimeref24_Valid.j2])
        | succ kj6 =>
         have H := HA.out
         clear HA
         simp only [ontimeref24_Valid.j2] at H
         by_cases c16 : x70_6 = true
         ·subst c16
          have H1 : (some false) = some r := by rw [if_pos rfl] at H; exact H
          clear H
          have H := H1
          clear H1
          obtain rfl := Option.some.inj H
          go_wp2
          repeat (go_quiet (fail); try go_wp2)
          go_ret
          exact ⟨by first | rfl | (simp [errW_none, errW_some] <;> rfl) | (simp [*, errW_none, errW_some] <;> rfl), by repeat (first | (with_reducible first | exact HB.out | apply below_alloc | apply pw_below_drewN | apply below_drew1) | exact HB.out)⟩
         ·replace c16 := Bool.eq_false_iff.mpr c16
          subst c16
          have H1 : (ontimeref24_Valid.l1 kj6 l0 l1 x5_2 0) = some r := by rw [if_neg (show ¬ (false = true) by decide)] at H; exact H
          clear H
          have H := H1
          clear H1
          have H' := Aside0.mk H
          clear H
          go_wp2
          repeat (go_quiet (fail); try go_wp2)
          go_loopg [6] kj6 (fun kq v6 w' => ∃ (x6_4 : Int), v6 = .int .i64 x6_4 ∧ Aside0 (ontimeref24_Valid.l1 kq l0 l1 x5_2 x6_4 = some r) ∧ Aside0 (kq ≤ kj6) ∧ Aside0 (Below w.heap.size w w'))
          case atStart => exact ⟨(0), (by first | rfl | (simp; done) | (simp [*]; done)), H', ⟨Nat.le_refl _⟩, ⟨tB0 HB.out⟩⟩
          case round =>
           clear H'
           (try clear c1);(try clear c2);(try clear p2);(try clear c4);(try clear c4b0);(try clear c4b1);(try clear c4b2);(try clear p4);(try clear q4);(try clear hx4);(try clear c5);(try clear c6);(try clear c6b0);(try clear p6);(try clear c8);(try clear c8b0);(try clear c9);(try clear c9b0);(try clear c10);(try clear c10b0);(try clear c11);(try clear c11b0);(try clear c13);(try clear c13b0);(try clear c14);(try clear c14b0);(try clear c15);(try clear c15b0);(try clear c16);(try clear hx415_0);(try clear hx415_1);(try clear hx415_2);(try clear hx416_0);(try clear hx416_1);(try clear hx416_2);(try clear hx417_0);(try clear hx417_1);(try clear hx417_2);(try clear hx418_0);(try clear hx418_1);(try clear hx418_2);(try clear hx419_0);(try clear hx419_1);(try clear hx419_2);(try clear hx420_0);(try clear hx420_1);(try clear hx420_2);(try clear hx421_0);(try clear hx421_1);(try clear hx421_2);(try clear p2);(try clear p4);(try clear p415);(try clear p416);(try clear p417);(try clear p418);(try clear p419);(try clear p420);(try clear p421);(try clear p6);(try clear q4);(try clear q415);(try clear q416);(try clear q417);(try clear q418);(try clear q419);(try clear q420);(try clear q421)
           obtain ⟨x6_4, rfl, HA, HK4, HB⟩ := hrel
           cases gk with
           | zero => exact absurd HA.out (by simp [ontimeref24_Valid.l1])
           | succ k4 =>
            have H := HA.out
            clear HA
            simp only [ontimeref24_Valid.l1] at H
            by_cases c17 : 0 ≤ x5_2
            ·rw [if_pos c17] at H
             have c17b0 : decide (0 ≤ x5_2) = true := decide_eq_true c17
             clear c17
             by_cases c18 : x5_2 < (l0.length : Int)
             ·rw [if_pos c18] at H
              have c18b0 : decide (x5_2 < (l0.length : Int)) = true := decide_eq_true c18
              clear c18
              by_cases c19 : x6_4 < (((rd_T104 l0 x5_2).f2).length : Int)
              ·rw [if_pos c19] at H
               have c19b0 : decide (x6_4 < (((rd_T104 l0 x5_2).f2).length : Int)) = true := decide_eq_true c19
               clear c19
               by_cases c20 : 0 ≤ x6_4
               ·rw [if_pos c20] at H
                have c20b0 : decide (0 ≤ x6_4) = true := decide_eq_true c20
                clear c20
                by_cases c21 : (rd ((rd_T104 l0 x5_2).f2) x6_4) < 0
                ·rw [if_pos c21] at H
                 have c21b0 : decide ((rd ((rd_T104 l0 x5_2).f2) x6_4) < 0) = true := decide_eq_true c21
                 clear c21
                 obtain rfl := Option.some.inj H
                 have p422 : 0 ≤ (x5_2 : Int) := tD
                 have q422 : x5_2 < (l0.length : Int) := tD
                 obtain ⟨ad422, A422_2, c422_2, e422, hx422_0, hx422_1, hx422_2, hl422_2, hi422_2⟩ := at_T104 HR0.out x5_2 p422 q422
                 cases e422
                 replace hx422_0 := (HB.out.cell (World.block_lt_of_cell? w _ hx422_0)).trans hx422_0
                 replace hx422_1 := (HB.out.cell (World.block_lt_of_cell? w _ hx422_1)).trans hx422_1
                 replace hx422_2 := (HB.out.cell (World.block_lt_of_cell? w _ hx422_2)).trans hx422_2
                 have HR422_2 := Aside0.mk hi422_2
                 have HC422_2 := Aside0.mk hl422_2
                 clear hi422_2 hl422_2
                 replace p422 := eq_true p422
                 replace q422 := eq_true q422
                 have p423 : 0 ≤ (x5_2 : Int) := tD
                 have q423 : x5_2 < (l0.length : Int) := tD
                 obtain ⟨ad423, A423_2, c423_2, e423, hx423_0, hx423_1, hx423_2, hl423_2, hi423_2⟩ := at_T104 HR0.out x5_2 p423 q423
                 obtain rfl : ad422 = ad423 := (by injection e423)
                 replace hx423_0 := (HB.out.cell (World.block_lt_of_cell? w _ hx423_0)).trans hx423_0
                 replace hx423_1 := (HB.out.cell (World.block_lt_of_cell? w _ hx423_1)).trans hx423_1
                 replace hx423_2 := (HB.out.cell (World.block_lt_of_cell? w _ hx423_2)).trans hx423_2
                 have HR423_2 := Aside0.mk hi423_2
                 have HC423_2 := Aside0.mk hl423_2
                 clear hi423_2 hl423_2
                 replace p423 := eq_true p423
                 replace q423 := eq_true q423
                 have ea_ := Option.some.inj (hx422_2.symm.trans hx423_2)
                 injection ea_ with ea_ en_ ec_
                 subst ea_
                 subst ec_
                 clear en_
                 have p424 : 0 ≤ (x6_4 : Int) := tD
                 have q424 : x6_4 < (((rd_T104 l0 x5_2).f2).length : Int) := tD
                 obtain ⟨ad424, e424, hx424_0⟩ := Kd.at_int HR423_2.out x6_4 p424 q424
                 cases e424
                 replace hx424_0 := (HB.out.cell (World.block_lt_of_cell? w _ hx424_0)).trans hx424_0
                 replace p424 := eq_true p424
                 replace q424 := eq_true q424
                 go_wp2
                 repeat (go_quiet (fail); try go_wp2)
                 go_ret
                 exact ⟨by first | rfl | (simp [errW_none, errW_some] <;> rfl) | (simp [*, errW_none, errW_some] <;> rfl), by repeat (first | (with_reducible first | exact HB.out | apply below_alloc | apply pw_below_drewN | apply below_drew1) | exact HB.out)⟩
                ·rw [if_neg c21] at H
                 have c21b0 : decide ((rd ((rd_T104 l0 x5_2).f2) x6_4) < 0) = false := decide_eq_false c21
                 clear c21
                 by_cases c22 : (rd ((rd_T104 l0 x5_2).f2) x6_4) ≥ (l0.length : Int)
                 ·rw [if_pos c22] at H
                  have c22b0 : decide ((l0.length : Int) ≤ (rd ((rd_T104 l0 x5_2).f2) x6_4)) = true := decide_eq_true c22
                  clear c22
                  obtain rfl := Option.some.inj H
                  have p422 : 0 ≤ (x5_2 : Int) := tD
                  have q422 : x5_2 < (l0.length : Int) := tD
                  obtain ⟨ad422, A422_2, c422_2, e422, hx422_0, hx422_1, hx422_2, hl422_2, hi422_2⟩ := at_T104 HR0.out x5_2 p422 q422
                  cases e422
                  replace hx422_0 := (HB.out.cell (World.block_lt_of_cell? w _ hx422_0)).trans hx422_0
                  replace hx422_1 := (HB.out.cell (World.block_lt_of_cell? w _ hx422_1)).trans hx422_1
                  replace hx422_2 := (HB.out.cell (World.block_lt_of_cell? w _ hx422_2)).trans hx422_2
                  have HR422_2 := Aside0.mk hi422_2
                  have HC422_2 := Aside0.mk hl422_2
                  clear hi422_2 hl422_2
                  replace p422 := eq_true p422
                  replace q422 := eq_true q422
                  have p423 : 0 ≤ (x5_2 : Int) := tD
                  have q423 : x5_2 < (l0.length : Int) := tD
                  obtain ⟨ad423, A423_2, c423_2, e423, hx423_0, hx423_1, hx423_2, hl423_2, hi423_2⟩ := at_T104 HR0.out x5_2 p423 q423
                  obtain rfl : ad422 = ad423 := (by injection e423)
                  replace hx423_0 := (HB.out.cell (World.block_lt_of_cell? w _ hx423_0)).trans hx423_0
                  replace hx423_1 := (HB.out.cell (World.block_lt_of_cell? w _ hx423_1)).trans hx423_1
                  replace hx423_2 := (HB.out.cell (World.block_lt_of_cell? w _ hx423_2)).trans hx423_2
                  have HR423_2 := Aside0.mk hi423_2
                  have HC423_2 := Aside0.mk hl423_2
                  clear hi423_2 hl423_2
                  replace p423 := eq_true p423
                  replace q423 := eq_true q423
                  have ea_ := Option.some.inj (hx422_2.symm.trans hx423_2)
                  injection ea_ with ea_ en_ ec_
                  subst ea_
                  subst ec_
                  clear en_
                  have p424 : 0 ≤ (x6_4 : Int) := tD
                  have q424 : x6_4 < (((rd_T104 l0 x5_2).f2).length : Int) := tD
                  obtain ⟨ad424, e424, hx424_0⟩ := Kd.at_int HR423_2.out x6_4 p424 q424
                  cases e424
                  replace hx424_0 := (HB.out.cell (World.block_lt_of_cell? w _ hx424_0)).trans hx424_0
                  replace p424 := eq_true p424
                  replace q424 := eq_true q424
                  have p425 : 0 ≤ (x5_2 : Int) := tD
                  have q425 : x5_2 < (l0.length : Int) := tD
                  obtain ⟨ad425, A425_2, c425_2, e425, hx425_0, hx425_1, hx425_2, hl425_2, hi425_2⟩ := at_T104 HR0.out x5_2 p425 q425
                  obtain rfl : ad422 = ad425 := (by injection e425)
                  replace hx425_0 := (HB.out.cell (World.block_lt_of_cell? w _ hx425_0)).trans hx425_0
                  replace hx425_1 := (HB.out.cell (World.block_lt_of_cell? w _ hx425_1)).trans hx425_1
                  replace hx425_2 := (HB.out.cell (World.block_lt_of_cell? w _ hx425_2)).trans hx425_2
                  have HR425_2 := Aside0.mk hi425_2
                  have HC425_2 := Aside0.mk hl425_2
                  clear hi425_2 hl425_2
                  replace p425 := eq_true p425
                  replace q425 := eq_true q425
                  have ea_ := Option.some.inj (hx422_2.symm.trans hx425_2)
                  injection ea_ with ea_ en_ ec_
                  subst ea_
                  subst ec_
                  clear en_
                  have p426 : 0 ≤ (x6_4 : Int) := tD
                  have q426 : x6_4 < (((rd_T104 l0 x5_2).f2).length : Int) := tD
                  obtain ⟨ad426, e426, hx426_0⟩ := Kd.at_int HR425_2.out x6_4 p426 q426
                  cases e426
                  replace hx426_0 := (HB.out.cell (World.block_lt_of_cell? w _ hx426_0)).trans hx426_0
                  replace p426 := eq_true p426
                  replace q426 := eq_true q426
                  go_wp2
                  repeat (go_quiet (fail); try go_wp2)
                  go_ret
                  exact ⟨by first | rfl | (simp [errW_none, errW_some] <;> rfl) | (simp [*, errW_none, errW_some] <;> rfl), by repeat (first | (with_reducible first | exact HB.out | apply below_alloc | apply pw_below_drewN | apply below_drew1) | exact HB.out)⟩
                 ·rw [if_neg c22] at H
                  have c22b0 : decide ((l0.length : Int) ≤ (rd ((rd_T104 l0 x5_2).f2) x6_4)) = false := decide_eq_false c22
                  clear c22
                  by_cases c23 : x6_4 > 0
                  ·rw [if_pos c23] at H
                   have c23b0 : decide (0 < x6_4) = true := decide_eq_true c23
                   clear c23
                   by_cases c24 : 0 < (((rd_T104 l0 x5_2).f2).length : Int)
                   ·rw [if_pos c24] at H
                    have c24b0 : decide (0 < (((rd_T104 l0 x5_2).f2).length : Int)) = true := decide_eq_true c24
                    have c24b1 : decide (0 < ((rd_T104 l0 x5_2).f2).length) = true := decide_eq_true (by omega)
                    clear c24
                    by_cases c25 : (rd ((rd_T104 l0 x5_2).f2) x6_4) = (rd ((rd_T104 l0 x5_2).f2) 0)
                    ·rw [if_pos c25] at H
                     have c25b0 : ((rd ((rd_T104 l0 x5_2).f2) x6_4) == (rd ((rd_T104 l0 x5_2).f2) 0)) = true := beq_iff_eq.mpr c25
                     have c25b1 : ((rd ((rd_T104 l0 x5_2).f2) x6_4) != (rd ((rd_T104 l0 x5_2).f2) 0)) = false := bne_eq_false_iff_eq.mpr c25
                     clear c25
                     obtain rfl := Option.some.inj H
                     have p422 : 0 ≤ (x5_2 : Int) := tD
                     have q422 : x5_2 < (l0.length : Int) := tD
                     obtain ⟨ad422, A422_2, c422_2, e422, hx422_0, hx422_1, hx422_2, hl422_2, hi422_2⟩ := at_T104 HR0.out x5_2 p422 q422
                     cases e422
                     replace hx422_0 := (HB.out.cell (World.block_lt_of_cell? w _ hx422_0)).trans hx422_0
                     replace hx422_1 := (HB.out.cell (World.block_lt_of_cell? w _ hx422_1)).trans hx422_1
                     replace hx422_2 := (HB.out.cell (World.block_lt_of_cell? w _ hx422_2)).trans hx422_2
                     have HR422_2 := Aside0.mk hi422_2
                     have HC422_2 := Aside0.mk hl422_2
                     clear hi422_2 hl422_2
                     replace p422 := eq_true p422
                     replace q422 := eq_true q422
                     have p423 : 0 ≤ (x5_2 : Int) := tD
                     have q423 : x5_2 < (l0.length : Int) := tD
                     obtain ⟨ad423, A423_2, c423_2, e423, hx423_0, hx423_1, hx423_2, hl423_2, hi423_2⟩ := at_T104 HR0.out x5_2 p423 q423
                     obtain rfl : ad422 = ad423 := (by injection e423)
                     replace hx423_0 := (HB.out.cell (World.block_lt_of_cell? w _ hx423_0)).trans hx423_0
                     replace hx423_1 := (HB.out.cell (World.block_lt_of_cell? w _ hx423_1)).trans hx423_1
                     replace hx423_2 := (HB.out.cell (World.block_lt_of_cell? w _ hx423_2)).trans hx423_2
                     have HR423_2 := Aside0.mk hi423_2
                     have HC423_2 := Aside0.mk hl423_2
                     clear hi423_2 hl423_2
                     replace p423 := eq_true p423
                     replace q423 := eq_true q423
                     have ea_ := Option.some.inj (hx422_2.symm.trans hx423_2)
                     injection ea_ with ea_ en_ ec_
                     subst ea_
                     subst ec_
                     clear en_
                     have p424 : 0 ≤ (x6_4 : Int) := tD
                     have q424 : x6_4 < (((rd_T104 l0 x5_2).f2).length : Int) := tD
                     obtain ⟨ad424, e424, hx424_0⟩ := Kd.at_int HR423_2.out x6_4 p424 q424
                     cases e424
                     replace hx424_0 := (HB.out.cell (World.block_lt_of_cell? w _ hx424_0)).trans hx424_0
                     replace p424 := eq_true p424
                     replace q424 := eq_true q424
                     have p425 : 0 ≤ (x5_2 : Int) := tD
                     have q425 : x5_2 < (l0.length : Int) := tD
                     obtain ⟨ad425, A425_2, c425_2, e425, hx425_0, hx425_1, hx425_2, hl425_2, hi425_2⟩ := at_T104 HR0.out x5_2 p425 q425
                     obtain rfl : ad422 = ad425 := (by injection e425)
                     replace hx425_0 := (HB.out.cell (World.block_lt_of_cell? w _ hx425_0)).trans hx425_0
                     replace hx425_1 := (HB.out.cell (World.block_lt_of_cell? w _ hx425_1)).trans hx425_1
                     replace hx425_2 := (HB.out.cell (World.block_lt_of_cell? w _ hx425_2)).trans hx425_2
                     have HR425_2 := Aside0.mk hi425_2
                     have HC425_2 := Aside0.mk hl425_2
                     clear hi425_2 hl425_2
                     replace p425 := eq_true p425
                     replace q425 := eq_true q425
                     have ea_ := Option.some.inj (hx422_2.symm.trans hx425_2)
                     injection ea_ with ea_ en_ ec_
                     subst ea_
                     subst ec_
                     clear en_
                     have p426 : 0 ≤ (x6_4 : Int) := tD
                     have q426 : x6_4 < (((rd_T104 l0 x5_2).f2).length : Int) := tD
                     obtain ⟨ad426, e426, hx426_0⟩ := Kd.at_int HR425_2.out x6_4 p426 q426
                     cases e426
                     replace hx426_0 := (HB.out.cell (World.block_lt_of_cell? w _ hx426_0)).trans hx426_0
                     replace p426 := eq_true p426
                     replace q426 := eq_true q426
                     have p427 : 0 ≤ (x5_2 : Int) := tD
                     have q427 : x5_2 < (l0.length : Int) := tD
                     obtain ⟨ad427, A427_2, c427_2, e427, hx427_0, hx427_1, hx427_2, hl427_2, hi427_2⟩ := at_T104 HR0.out x5_2 p427 q427
                     obtain rfl : ad422 = ad427 := (by injection e427)
                     replace hx427_0 := (HB.out.cell (World.block_lt_of_cell? w _ hx427_0)).trans hx427_0
                     replace hx427_1 := (HB.out.cell (World.block_lt_of_cell? w _ hx427_1)).trans hx427_1
                     replace hx427_2 := (HB.out.cell (World.block_lt_of_cell? w _ hx427_2)).trans hx427_2
                     have HR427_2 := Aside0.mk hi427_2
                     have HC427_2 := Aside0.mk hl427_2
                     clear hi427_2 hl427_2
                     replace p427 := eq_true p427
                     replace q427 := eq_true q427
                     have ea_ := Option.some.inj (hx422_2.symm.trans hx427_2)
                     injection ea_ with ea_ en_ ec_
                     subst ea_
                     subst ec_
                     clear en_
                     have p428 : 0 ≤ (x6_4 : Int) := tD
                     have q428 : x6_4 < (((rd_T104 l0 x5_2).f2).length : Int) := tD
                     obtain ⟨ad428, e428, hx428_0⟩ := Kd.at_int HR427_2.out x6_4 p428 q428
                     cases e428
                     replace hx428_0 := (HB.out.cell (World.block_lt_of_cell? w _ hx428_0)).trans hx428_0
                     replace p428 := eq_true p428
                     replace q428 := eq_true q428
                     have p429 : 0 ≤ (x5_2 : Int) := tD
                     have q429 : x5_2 < (l0.length : Int) := tD
                     obtain ⟨ad429, A429_2, c429_2, e429, hx429_0, hx429_1, hx429_2, hl429_2, hi429_2⟩ := at_T104 HR0.out x5_2 p429 q429
                     obtain rfl : ad422 = ad429 := (by injection e429)
                     replace hx429_0 := (HB.out.cell (World.block_lt_of_cell? w _ hx429_0)).trans hx429_0
                     replace hx429_1 := (HB.out.cell (World.block_lt_of_cell? w _ hx429_1)).trans hx429_1
                     replace hx429_2 := (HB.out.cell (World.block_lt_of_cell? w _ hx429_2)).trans hx429_2
                     have HR429_2 := Aside0.mk hi429_2
                     have HC429_2 := Aside0.mk hl429_2
                     clear hi429_2 hl429_2
                     replace p429 := eq_true p429
                     replace q429 := eq_true q429
                     have ea_ := Option.some.inj (hx422_2.symm.trans hx429_2)
                     injection ea_ with ea_ en_ ec_
                     subst ea_
                     subst ec_
                     clear en_
                     have p430 : 0 ≤ (0 : Int) := (by omega)
                     have q430 : 0 < (((rd_T104 l0 x5_2).f2).length : Int) := tD
                     obtain ⟨ad430, e430, hx430_0⟩ := Kd.at_int HR429_2.out 0 p430 q430
                     cases e430
                     have qi430 : (0 < ((rd_T104 l0 x5_2).f2).length) = True := eq_true (by omega)
                     (try rw [show ((0 : Int)).toNat = 0 from rfl] at hx430_0)
                     (try rw [Addr.add_zero'] at hx430_0)
                     replace hx430_0 := (HB.out.cell (World.block_lt_of_cell? w _ hx430_0)).trans hx430_0
                     replace p430 := eq_true p430
                     replace q430 := eq_true q430
                     go_wp2
                     repeat (go_quiet (fail); try go_wp2)
                     go_ret
                     exact ⟨by first | rfl | (simp [errW_none, errW_some] <;> rfl) | (simp [*, errW_none, errW_some] <;> rfl), by repeat (first | (with_reducible first | exact HB.out | apply below_alloc | apply pw_below_drewN | apply below_drew1) | exact HB.out)⟩
                    ·rw [if_neg c25] at H
                     have c25b0 : ((rd ((rd_T104 l0 x5_2).f2) x6_4) == (rd ((rd_T104 l0 x5_2).f2) 0)) = false := beq_eq_false_iff_ne.mpr c25
                     have c25b1 : ((rd ((rd_T104 l0 x5_2).f2) x6_4) != (rd ((rd_T104 l0 x5_2).f2) 0)) = true := bne_iff_ne.mpr c25
                     have H' := Aside0.mk H
                     clear H
                     have p422 : 0 ≤ (x5_2 : Int) := tD
                     have q422 : x5_2 < (l0.length : Int) := tD
                     obtain ⟨ad422, A422_2, c422_2, e422, hx422_0, hx422_1, hx422_2, hl422_2, hi422_2⟩ := at_T104 HR0.out x5_2 p422 q422
                     cases e422
                     replace hx422_0 := (HB.out.cell (World.block_lt_of_cell? w _ hx422_0)).trans hx422_0
                     replace hx422_1 := (HB.out.cell (World.block_lt_of_cell? w _ hx422_1)).trans hx422_1
                     replace hx422_2 := (HB.out.cell (World.block_lt_of_cell? w _ hx422_2)).trans hx422_2
                     have HR422_2 := Aside0.mk hi422_2
                     have HC422_2 := Aside0.mk hl422_2
                     clear hi422_2 hl422_2
                     replace p422 := eq_true p422
                     replace q422 := eq_true q422
                     have p423 : 0 ≤ (x5_2 : Int) := tD
                     have q423 : x5_2 < (l0.length : Int) := tD
                     obtain ⟨ad423, A423_2, c423_2, e423, hx423_0, hx423_1, hx423_2, hl423_2, hi423_2⟩ := at_T104 HR0.out x5_2 p423 q423
                     obtain rfl : ad422 = ad423 := (by injection e423)
                     replace hx423_0 := (HB.out.cell (World.block_lt_of_cell? w _ hx423_0)).trans hx423_0
                     replace hx423_1 := (HB.out.cell (World.block_lt_of_cell? w _ hx423_1)).trans hx423_1
                     replace hx423_2 := (HB.out.cell (World.block_lt_of_cell? w _ hx423_2)).trans hx423_2
                     have HR423_2 := Aside0.mk hi423_2
                     have HC423_2 := Aside0.mk hl423_2
                     clear hi423_2 hl423_2
                     replace p423 := eq_true p423
                     replace q423 := eq_true q423
                     have ea_ := Option.some.inj (hx422_2.symm.trans hx423_2)
                     injection ea_ with ea_ en_ ec_
                     subst ea_
                     subst ec_
                     clear en_
                     have p424 : 0 ≤ (x6_4 : Int) := tD
                     have q424 : x6_4 < (((rd_T104 l0 x5_2).f2).length : Int) := tD
                     obtain ⟨ad424, e424, hx424_0⟩ := Kd.at_int HR423_2.out x6_4 p424 q424
                     cases e424
                     replace hx424_0 := (HB.out.cell (World.block_lt_of_cell? w _ hx424_0)).trans hx424_0
                     replace p424 := eq_true p424
                     replace q424 := eq_true q424
                     have p425 : 0 ≤ (x5_2 : Int) := tD
                     have q425 : x5_2 < (l0.length : Int) := tD
                     obtain ⟨ad425, A425_2, c425_2, e425, hx425_0, hx425_1, hx425_2, hl425_2, hi425_2⟩ := at_T104 HR0.out x5_2 p425 q425
                     obtain rfl : ad422 = ad425 := (by injection e425)
                     replace hx425_0 := (HB.out.cell (World.block_lt_of_cell? w _ hx425_0)).trans hx425_0
                     replace hx425_1 := (HB.out.cell (World.block_lt_of_cell? w _ hx425_1)).trans hx425_1
                     replace hx425_2 := (HB.out.cell (World.block_lt_of_cell? w _ hx425_2)).trans hx425_2
                     have HR425_2 := Aside0.mk hi425_2
                     have HC425_2 := Aside0.mk hl425_2
                     clear hi425_2 hl425_2
                     replace p425 := eq_true p425
                     replace q425 := eq_true q425
                     have ea_ := Option.some.inj (hx422_2.symm.trans hx425_2)
                     injection ea_ with ea_ en_ ec_
                     subst ea_
                     subst ec_
                     clear en_
                     have p426 : 0 ≤ (x6_4 : Int) := tD
                     have q426 : x6_4 < (((rd_T104 l0 x5_2).f2).length : Int) := tD
                     obtain ⟨ad426, e426, hx426_0⟩ := Kd.at_int HR425_2.out x6_4 p426 q426
                     cases e426
                     replace hx426_0 := (HB.out.cell (World.block_lt_of_cell? w _ hx426_0)).trans hx426_0
                     replace p426 := eq_true p426
                     replace q426 := eq_true q426
                     have p427 : 0 ≤ (x5_2 : Int) := tD
                     have q427 : x5_2 < (l0.length : Int) := tD
                     obtain ⟨ad427, A427_2, c427_2, e427, hx427_0, hx427_1, hx427_2, hl427_2, hi427_2⟩ := at_T104 HR0.out x5_2 p427 q427
                     obtain rfl : ad422 = ad427 := (by injection e427)
                     replace hx427_0 := (HB.out.cell (World.block_lt_of_cell? w _ hx427_0)).trans hx427_0
                     replace hx427_1 := (HB.out.cell (World.block_lt_of_cell? w _ hx427_1)).trans hx427_1
                     replace hx427_2 := (HB.out.cell (World.block_lt_of_cell? w _ hx427_2)).trans hx427_2
                     have HR427_2 := Aside0.mk hi427_2
                     have HC427_2 := Aside0.mk hl427_2
                     clear hi427_2 hl427_2
                     replace p427 := eq_true p427
                     replace q427 := eq_true q427
                     have ea_ := Option.some.inj (hx422_2.symm.trans hx427_2)
                     injection ea_ with ea_ en_ ec_
                     subst ea_
                     subst ec_
                     clear en_
                     have p428 : 0 ≤ (x6_4 : Int) := tD
                     have q428 : x6_4 < (((rd_T104 l0 x5_2).f2).length : Int) := tD
                     obtain ⟨ad428, e428, hx428_0⟩ := Kd.at_int HR427_2.out x6_4 p428 q428
                     cases e428
                     replace hx428_0 := (HB.out.cell (World.block_lt_of_cell? w _ hx428_0)).trans hx428_0
                     replace p428 := eq_true p428
                     replace q428 := eq_true q428
                     have p429 : 0 ≤ (x5_2 : Int) := tD
                     have q429 : x5_2 < (l0.length : Int) := tD
                     obtain ⟨ad429, A429_2, c429_2, e429, hx429_0, hx429_1, hx429_2, hl429_2, hi429_2⟩ := at_T104 HR0.out x5_2 p429 q429
                     obtain rfl : ad422 = ad429 := (by injection e429)
                     replace hx429_0 := (HB.out.cell (World.block_lt_of_cell? w _ hx429_0)).trans hx429_0
                     replace hx429_1 := (HB.out.cell (World.block_lt_of_cell? w _ hx429_1)).trans hx429_1
                     replace hx429_2 := (HB.out.cell (World.block_lt_of_cell? w _ hx429_2)).trans hx429_2
                     have HR429_2 := Aside0.mk hi429_2
                     have HC429_2 := Aside0.mk hl429_2
                     clear hi429_2 hl429_2
                     replace p429 := eq_true p429
                     replace q429 := eq_true q429
                     have ea_ := Option.some.inj (hx422_2.symm.trans hx429_2)
                     injection ea_ with ea_ en_ ec_
                     subst ea_
                     subst ec_
                     clear en_
                     have p430 : 0 ≤ (0 : Int) := (by omega)
                     have q430 : 0 < (((rd_T104 l0 x5_2).f2).length : Int) := tD
                     obtain ⟨ad430, e430, hx430_0⟩ := Kd.at_int HR429_2.out 0 p430 q430
                     cases e430
                     have qi430 : (0 < ((rd_T104 l0 x5_2).f2).length) = True := eq_true (by omega)
                     (try rw [show ((0 : Int)).toNat = 0 from rfl] at hx430_0)
                     (try rw [Addr.add_zero'] at hx430_0)
                     replace hx430_0 := (HB.out.cell (World.block_lt_of_cell? w _ hx430_0)).trans hx430_0
                     replace p430 := eq_true p430
                     replace q430 := eq_true q430
                     go_wp2
                     repeat (go_quiet (fail); try go_wp2)
                     go_roundg k4
                     case measure => have := HJ2.out; have := HK2.out; have := HJ6.out; have := HK4.out; omega
                     case rel => exact ⟨(wrap64 (x6_4 + 1)), (by first | rfl | (simp; done) | (simp [*]; done)), H', ⟨by have := HJ2.out; have := HK2.out; have := HJ6.out; have := HK4.out; omega⟩, ⟨tB0 HB.out⟩⟩
                   ·rw [if_neg c24] at H
                    exact absurd H (by simp)
                  ·rw [if_neg c23] at H
                   have c23b0 : decide (0 < x6_4) = false := decide_eq_false c23
                   clear c23
                   have H' := Aside0.mk H
                   clear H
                   have p422 : 0 ≤ (x5_2 : Int) := tD
                   have q422 : x5_2 < (l0.length : Int) := tD
                   obtain ⟨ad422, A422_2, c422_2, e422, hx422_0, hx422_1, hx422_2, hl422_2, hi422_2⟩ := at_T104 HR0.out x5_2 p422 q422
                   cases e422
                   replace hx422_0 := (HB.out.cell (World.block_lt_of_cell? w _ hx422_0)).trans hx422_0
                   replace hx422_1 := (HB.out.cell (World.block_lt_of_cell? w _ hx422_1)).trans hx422_1
                   replace hx422_2 := (HB.out.cell (World.block_lt_of_cell? w _ hx422_2)).trans hx422_2
                   have HR422_2 := Aside0.mk hi422_2
                   have HC422_2 := Aside0.mk hl422_2
                   clear hi422_2 hl422_2
                   replace p422 := eq_true p422
                   replace q422 := eq_true q422
                   have p423 : 0 ≤ (x5_2 : Int) := tD
                   have q423 : x5_2 < (l0.length : Int) := tD
                   obtain ⟨ad423, A423_2, c423_2, e423, hx423_0, hx423_1, hx423_2, hl423_2, hi423_2⟩ := at_T104 HR0.out x5_2 p423 q423
                   obtain rfl : ad422 = ad423 := (by injection e423)
                   replace hx423_0 := (HB.out.cell (World.block_lt_of_cell? w _ hx423_0)).trans hx423_0
                   replace hx423_1 := (HB.out.cell (World.block_lt_of_cell? w _ hx423_1)).trans hx423_1
                   replace hx423_2 := (HB.out.cell (World.block_lt_of_cell? w _ hx423_2)).trans hx423_2
                   have HR423_2 := Aside0.mk hi423_2
                   have HC423_2 := Aside0.mk hl423_2
                   clear hi423_2 hl423_2
                   replace p423 := eq_true p423
                   replace q423 := eq_true q423
                   have ea_ := Option.some.inj (hx422_2.symm.trans hx423_2)
                   injection ea_ with ea_ en_ ec_
                   subst ea_
                   subst ec_
                   clear en_
                   have p424 : 0 ≤ (x6_4 : Int) := tD
                   have q424 : x6_4 < (((rd_T104 l0 x5_2).f2).length : Int) := tD
                   obtain ⟨ad424, e424, hx424_0⟩ := Kd.at_int HR423_2.out x6_4 p424 q424
                   cases e424
                   replace hx424_0 := (HB.out.cell (World.block_lt_of_cell? w _ hx424_0)).trans hx424_0
                   replace p424 := eq_true p424
                   replace q424 := eq_true q424
                   have p425 : 0 ≤ (x5_2 : Int) := tD
                   have q425 : x5_2 < (l0.length : Int) := tD
                   obtain ⟨ad425, A425_2, c425_2, e425, hx425_0, hx425_1, hx425_2, hl425_2, hi425_2⟩ := at_T104 HR0.out x5_2 p425 q425
                   obtain rfl : ad422 = ad425 := (by injection e425)
                   replace hx425_0 := (HB.out.cell (World.block_lt_of_cell? w _ hx425_0)).trans hx425_0
                   replace hx425_1 := (HB.out.cell (World.block_lt_of_cell? w _ hx425_1)).trans hx425_1
                   replace hx425_2 := (HB.out.cell (World.block_lt_of_cell? w _ hx425_2)).trans hx425_2
                   have HR425_2 := Aside0.mk hi425_2
                   have HC425_2 := Aside0.mk hl425_2
                   clear hi425_2 hl425_2
                   replace p425 := eq_true p425
                   replace q425 := eq_true q425
                   have ea_ := Option.some.inj (hx422_2.symm.trans hx425_2)
                   injection ea_ with ea_ en_ ec_
                   subst ea_
                   subst ec_
                   clear en_
                   have p426 : 0 ≤ (x6_4 : Int) := tD
                   have q426 : x6_4 < (((rd_T104 l0 x5_2).f2).length : Int) := tD
                   obtain ⟨ad426, e426, hx426_0⟩ := Kd.at_int HR425_2.out x6_4 p426 q426
                   cases e426
                   replace hx426_0 := (HB.out.cell (World.block_lt_of_cell? w _ hx426_0)).trans hx426_0
                   replace p426 := eq_true p426
                   replace q426 := eq_true q426
                   go_wp2
                   repeat (go_quiet (fail); try go_wp2)
                   go_roundg k4
                   case measure => have := HJ2.out; have := HK2.out; have := HJ6.out; have := HK4.out; omega
                   case rel => exact ⟨(wrap64 (x6_4 + 1)), (by first | rfl | (simp; done) | (simp [*]; done)), H', ⟨by have := HJ2.out; have := HK2.out; have := HJ6.out; have := HK4.out; omega⟩, ⟨tB0 HB.out⟩⟩
               ·rw [if_neg c20] at H
                exact absurd H (by simp)
              ·rw [if_neg c19] at H
               have c19b0 : decide (x6_4 < (((rd_T104 l0 x5_2).f2).length : Int)) = false := decide_eq_false c19
               clear c19
               have H' := Aside0.mk H
               clear H
               have p422 : 0 ≤ (x5_2 : Int) := tD
               have q422 : x5_2 < (l0.length : Int) := tD
               obtain ⟨ad422, A422_2, c422_2, e422, hx422_0, hx422_1, hx422_2, hl422_2, hi422_2⟩ := at_T104 HR0.out x5_2 p422 q422
               cases e422
               replace hx422_0 := (HB.out.cell (World.block_lt_of_cell? w _ hx422_0)).trans hx422_0
               replace hx422_1 := (HB.out.cell (World.block_lt_of_cell? w _ hx422_1)).trans hx422_1
               replace hx422_2 := (HB.out.cell (World.block_lt_of_cell? w _ hx422_2)).trans hx422_2
               have HR422_2 := Aside0.mk hi422_2
               have HC422_2 := Aside0.mk hl422_2
               clear hi422_2 hl422_2
               replace p422 := eq_true p422
               replace q422 := eq_true q422
               go_wp2
               repeat (go_quiet (fail); try go_wp2)
               go_roundg k4
               case measure => have := HJ2.out; have := HK2.out; have := HJ6.out; have := HK4.out; omega
               case rel => exact ⟨(wrap64 (x5_2 + 1)), (by first | rfl | (simp; done) | (simp [*]; done)), H', ⟨by have := HJ2.out; have := HK2.out; have := HJ6.out; have := HK4.out; omega⟩, ⟨tB0 HB.out⟩⟩
             ·rw [if_neg c18] at H
              exact absurd H (by simp)
            ·rw [if_neg c17] at H
             exact absurd H (by simp)
      ·rw [if_neg c6] at H
       have c6b0 : decide (x5_2 < (l0.length : Int)) = false := decide_eq_false c6
       clear c6
       replace H := Option.bind_eq_some_iff.mp H
       obtain ⟨t431, A260, H⟩ := H
       replace H : (ontimeref24_Valid.l2 k2 l0 l1 t431 0) = some r := H
       have A26 := Aside0.mk A260
       clear A260
       have H' := Aside0.mk H
       clear H
       go_wp2_with (first | (go_at_call 46; (with_reducible refine (ontimeref24_Prev.calls k2 _ _ l0 t431 _ ?side1 ?side2 A26.out).mono ?_); (case side1 => exact tC (Kd.C_below HR0.out HB.out)); (case side2 => exact HC0.out); rintro e w27 ⟨v432, rfl, ho0, hb⟩; have n0_ := Aside0.mk (Kd.S_lower ho0 (below_size (tB0 HB.out))); have n1_ := Aside0.mk (below_step (tB0 HB.out) hb); clear HB; have HO433 := n0_; have HB := n1_; clear n0_ n1_; (try clear hb); (try clear hb2); (try clear hk); (try clear hi); (try clear ho0)))
       repeat (go_quiet (first | (go_at_call 46; (with_reducible refine (ontimeref24_Prev.calls k2 _ _ l0 t431 _ ?side1 ?side2 A26.out).mono ?_); (case side1 => exact tC (Kd.C_below HR0.out HB.out)); (case side2 => exact HC0.out); rintro e w27 ⟨v432, rfl, ho0, hb⟩; have n0_ := Aside0.mk (Kd.S_lower ho0 (below_size (tB0 HB.out))); have n1_ := Aside0.mk (below_step (tB0 HB.out) hb); clear HB; have HO433 := n0_; have HB := n1_; clear n0_ n1_; (try clear hb); (try clear hb2); (try clear hk); (try clear hi); (try clear ho0))); try go_wp2_with (first | (go_at_call 46; (with_reducible refine (ontimeref24_Prev.calls k2 _ _ l0 t431 _ ?side1 ?side2 A26.out).mono ?_); (case side1 => exact tC (Kd.C_below HR0.out HB.out)); (case side2 => exact HC0.out); rintro e w27 ⟨v432, rfl, ho0, hb⟩; have n0_ := Aside0.mk (Kd.S_lower ho0 (below_size (tB0 HB.out))); have n1_ := Aside0.mk (below_step (tB0 HB.out) hb); clear HB; have HO433 := n0_; have HB := n1_; clear n0_ n1_; (try clear hb); (try clear hb2); (try clear hk); (try clear hi); (try clear ho0))))
       go_loopg [8] k2 (fun kq v8 w' => ∃ (x8_3 : Int), v8 = .int .i64 x8_3 ∧ Aside0 (ontimeref24_Valid.l2 kq l0 l1 t431 x8_3 = some r) ∧ Aside0 (kq ≤ k2) ∧ Aside0 (Kd.S (Kd.slice 3 (Kd.int .i64)) 49 w' w.heap.size (fun _ => True) v432 t431) ∧ Aside0 (Below w.heap.size w w'))
       case atStart => exact ⟨(0), (by first | rfl | (simp; done) | (simp [*]; done)), H', ⟨Nat.le_refl _⟩, ⟨tS HO433.out⟩, ⟨tB0 HB.out⟩⟩
       case round =>
        clear H'
        (try clear c1);(try clear c2);(try clear p2);(try clear c4);(try clear c4b0);(try clear c4b1);(try clear c4b2);(try clear p4);(try clear q4);(try clear hx4);(try clear qi4);(try clear c5);(try clear c6);(try clear c6b0);(try clear p6);(try clear c8);(try clear c8b0);(try clear c9);(try clear c9b0);(try clear c10);(try clear c10b0);(try clear c11);(try clear c11b0);(try clear c13);(try clear c13b0);(try clear c14);(try clear c14b0);(try clear c15);(try clear c15b0);(try clear c16);(try clear c17);(try clear c17b0);(try clear c18);(try clear c18b0);(try clear c19);(try clear c19b0);(try clear c20);(try clear c20b0);(try clear c21);(try clear c21b0);(try clear c22);(try clear c22b0);(try clear c23);(try clear c23b0);(try clear c24);(try clear c24b0);(try clear c24b1);(try clear c25);(try clear c25b0);(try clear c25b1);(try clear hx415_0);(try clear hx415_1);(try clear hx415_2);(try clear hx416_0);(try clear hx416_1);(try clear hx416_2);(try clear hx417_0);(try clear hx417_1);(try clear hx417_2);(try clear hx418_0);(try clear hx418_1);(try clear hx418_2);(try clear hx419_0);(try clear hx419_1);(try clear hx419_2);(try clear hx420_0);(try clear hx420_1);(try clear hx420_2);(try clear hx421_0);(try clear hx421_1);(try clear hx421_2);(try clear hx422_0);(try clear hx422_1);(try clear hx422_2);(try clear hx423_0);(try clear hx423_1);(try clear hx423_2);(try clear hx424_0);(try clear hx425_0);(try clear hx425_1);(try clear hx425_2);(try clear hx426_0);(try clear hx427_0)
        (try clear hx427_1);(try clear hx427_2);(try clear hx428_0);(try clear hx429_0);(try clear hx429_1);(try clear hx429_2);(try clear hx430_0);(try clear p2);(try clear p4);(try clear p415);(try clear p416);(try clear p417);(try clear p418);(try clear p419);(try clear p420);(try clear p421);(try clear p422);(try clear p423);(try clear p424);(try clear p425);(try clear p426);(try clear p427);(try clear p428);(try clear p429);(try clear p430);(try clear p6);(try clear q4);(try clear q415);(try clear q416);(try clear q417);(try clear q418);(try clear q419);(try clear q420);(try clear q421);(try clear q422);(try clear q423);(try clear q424);(try clear q425);(try clear q426);(try clear q427);(try clear q428);(try clear q429);(try clear q430)
        obtain ⟨x8_3, rfl, HA, HK3, HO_7, HB⟩ := hrel
        cases gk with
        | zero => exact absurd HA.out (by simp [ontimeref24_Valid.l2])
        | succ k3 =>
         have H := HA.out
         clear HA
         simp only [ontimeref24_Valid.l2] at H
         by_cases c28 : x8_3 < (l0.length : Int)
         ·rw [if_pos c28] at H
          have c28b0 : decide (x8_3 < (l0.length : Int)) = true := decide_eq_true c28
          clear c28
          by_cases c29 : 0 ≤ x8_3
          ·rw [if_pos c29] at H
           have c29b0 : decide (0 ≤ x8_3) = true := decide_eq_true c29
           clear c29
           by_cases c30 : x8_3 < (l1.length : Int)
           ·rw [if_pos c30] at H
            have c30b0 : decide (x8_3 < (l1.length : Int)) = true := decide_eq_true c30
            clear c30
            by_cases c31 : x8_3 < (t431.length : Int)
            ·rw [if_pos c31] at H
             have c31b0 : decide (x8_3 < (t431.length : Int)) = true := decide_eq_true c31
             clear c31
             replace H := Option.bind_eq_some_iff.mp H
             obtain ⟨t436, A320, H⟩ := H
             replace H : (if t436 = true then (ontimeref24_Valid.l2 k3 l0 l1 t431 (wrap64 (x8_3 + 1))) else (some false)) = some r := H
             have A32 := Aside0.mk A320
             clear A320
             by_cases c33 : t436 = true
             ·subst c33
              have H1 : (ontimeref24_Valid.l2 k3 l0 l1 t431 (wrap64 (x8_3 + 1))) = some r := by rw [if_pos rfl] at H; exact H
              clear H
              have H := H1
              clear H1
              have H' := Aside0.mk H
              clear H
              have p434 : 0 ≤ (x8_3 : Int) := tD
              have q434 : x8_3 < (l1.length : Int) := tD
              obtain ⟨ad434, A434_0, c434_0, e434, hx434_0, hl434_0, hi434_0⟩ := at_L11 HR1.out x8_3 p434 q434
              cases e434
              replace hx434_0 := (HB.out.cell (World.block_lt_of_cell? w _ hx434_0)).trans hx434_0
              have HR434_0 := Aside0.mk hi434_0
              have HC434_0 := Aside0.mk hl434_0
              clear hi434_0 hl434_0
              replace p434 := eq_true p434
              replace q434 := eq_true q434
              obtain ⟨Ao34, co34, eo34⟩ := Kd.S_slice HO_7.out
              subst eo34
              have p435 : 0 ≤ (x8_3 : Int) := tD
              have q435 : x8_3 < (t431.length : Int) := tD
              obtain ⟨ad435, A435_0, c435_0, e435, hx435_0, hl435_0, hi435_0⟩ := at_L11 (Kd.S_reads' HO_7.out).2.2 x8_3 p435 q435
              cases e435
              obtain ⟨ce435, hce435, hMe435, hcc435⟩ := Kd.S_get HO_7.out [] x8_3 p435 (by first | exact q435 | exact tD | (have e_ := (Kd.S_reads' HO_7.out).1; omega))
              obtain ⟨ve435_0, rfl, ge435_0⟩ := hMe435
              have hv435_0 := hcc435 0 _ rfl
              rw [Nat.add_zero, show ((Kd.slice 3 (Kd.int .i64))).sz = 1 from rfl, Nat.mul_one] at hv435_0
              replace hv435_0 := Option.some.inj (hv435_0.symm.trans hx435_0)
              rw [hv435_0] at ge435_0
              have HL435_0 := Aside0.mk (show Kd.R (Kd.int .i64) 3 _ _ _ _ (rd_L11 t431 x8_3) from ge435_0)
              clear hv435_0 ge435_0 hcc435 hce435
              have HR435_0 := Aside0.mk hi435_0
              have HC435_0 := Aside0.mk hl435_0
              clear hi435_0 hl435_0
              replace p435 := eq_true p435
              replace q435 := eq_true q435
              go_wp2_with (first | (go_at_call 53; (with_reducible refine (ontimeref24_same.calls k3 _ _ (rd_L11 l1 x8_3) _ _ (rd_L11 t431 x8_3) true _ ?side1 ?side2 ?side3 ?side4 A32.out).mono ?_); (case side1 => exact tC (Kd.C_below HR434_0.out HB.out)); (case side2 => exact HC434_0.out); (case side3 => repeat (first | exact (by repeat (first | (with_reducible exact HR435_0.out) | (with_reducible refine Kd.C_alloc ?_ _) | (with_reducible refine Kd.C_drewN ?_ _) | (with_reducible refine Kd.C_drew ?_) | exact HR435_0.out)) | (with_reducible refine Kd.C_alloc ?_ _) | (with_reducible refine Kd.C_drewN ?_ _) | (with_reducible refine Kd.C_drew ?_))); (case side4 => exact HC435_0.out); rintro e w' ⟨rfl, ⟨nd, rfl⟩⟩; (try first | exact ⟨rfl, _, World.drewN_drewN _ _ _⟩ | exact ⟨rfl, _, Eq.trans (World.drewN_drewN _ _ _) (congrArg (World.drewN _) (Nat.add_assoc _ _ _))⟩)))
              repeat (go_quiet (first | (go_at_call 53; (with_reducible refine (ontimeref24_same.calls k3 _ _ (rd_L11 l1 x8_3) _ _ (rd_L11 t431 x8_3) true _ ?side1 ?side2 ?side3 ?side4 A32.out).mono ?_); (case side1 => exact tC (Kd.C_below HR434_0.out HB.out)); (case side2 => exact HC434_0.out); (case side3 => repeat (first | exact (by repeat (first | (with_reducible exact HR435_0.out) | (with_reducible refine Kd.C_alloc ?_ _) | (with_reducible refine Kd.C_drewN ?_ _) | (with_reducible refine Kd.C_drew ?_) | exact HR435_0.out)) | (with_reducible refine Kd.C_alloc ?_ _) | (with_reducible refine Kd.C_drewN ?_ _) | (with_reducible refine Kd.C_drew ?_))); (case side4 => exact HC435_0.out); rintro e w' ⟨rfl, ⟨nd, rfl⟩⟩; (try first | exact ⟨rfl, _, World.drewN_drewN _ _ _⟩ | exact ⟨rfl, _, Eq.trans (World.drewN_drewN _ _ _) (congrArg (World.drewN _) (Nat.add_assoc _ _ _))⟩))); try go_wp2_with (first | (go_at_call 53; (with_reducible refine (ontimeref24_same.calls k3 _ _ (rd_L11 l1 x8_3) _ _ (rd_L11 t431 x8_3) true _ ?side1 ?side2 ?side3 ?side4 A32.out).mono ?_); (case side1 => exact tC (Kd.C_below HR434_0.out HB.out)); (case side2 => exact HC434_0.out); (case side3 => repeat (first | exact (by repeat (first | (with_reducible exact HR435_0.out) | (with_reducible refine Kd.C_alloc ?_ _) | (with_reducible refine Kd.C_drewN ?_ _) | (with_reducible refine Kd.C_drew ?_) | exact HR435_0.out)) | (with_reducible refine Kd.C_alloc ?_ _) | (with_reducible refine Kd.C_drewN ?_ _) | (with_reducible refine Kd.C_drew ?_))); (case side4 => exact HC435_0.out); rintro e w' ⟨rfl, ⟨nd, rfl⟩⟩; (try first | exact ⟨rfl, _, World.drewN_drewN _ _ _⟩ | exact ⟨rfl, _, Eq.trans (World.drewN_drewN _ _ _) (congrArg (World.drewN _) (Nat.add_assoc _ _ _))⟩))))
              go_roundg k3
              case measure => have := HJ2.out; have := HK2.out; have := HK3.out; omega
              case rel => exact ⟨(wrap64 (x8_3 + 1)), (by first | rfl | (simp; done) | (simp [*]; done)), H', ⟨by have := HJ2.out; have := HK2.out; have := HK3.out; omega⟩, ⟨tS HO_7.out⟩, ⟨tB0 HB.out⟩⟩
             ·replace c33 := Bool.eq_false_iff.mpr c33
              subst c33
              have H1 : (some false) = some r := by rw [if_neg (show ¬ (false = true) by decide)] at H; exact H
              clear H
              have H := H1
              clear H1
              obtain rfl := Option.some.inj H
              have p434 : 0 ≤ (x8_3 : Int) := tD
              have q434 : x8_3 < (l1.length : Int) := tD
              obtain ⟨ad434, A434_0, c434_0, e434, hx434_0, hl434_0, hi434_0⟩ := at_L11 HR1.out x8_3 p434 q434
              cases e434
              replace hx434_0 := (HB.out.cell (World.block_lt_of_cell? w _ hx434_0)).trans hx434_0
              have HR434_0 := Aside0.mk hi434_0
              have HC434_0 := Aside0.mk hl434_0
              clear hi434_0 hl434_0
              replace p434 := eq_true p434
              replace q434 := eq_true q434
              obtain ⟨Ao35, co35, eo35⟩ := Kd.S_slice HO_7.out
              subst eo35
              have p435 : 0 ≤ (x8_3 : Int) := tD
              have q435 : x8_3 < (t431.length : Int) := tD
              obtain ⟨ad435, A435_0, c435_0, e435, hx435_0, hl435_0, hi435_0⟩ := at_L11 (Kd.S_reads' HO_7.out).2.2 x8_3 p435 q435
              cases e435
              obtain ⟨ce435, hce435, hMe435, hcc435⟩ := Kd.S_get HO_7.out [] x8_3 p435 (by first | exact q435 | exact tD | (have e_ := (Kd.S_reads' HO_7.out).1; omega))
              obtain ⟨ve435_0, rfl, ge435_0⟩ := hMe435
              have hv435_0 := hcc435 0 _ rfl
              rw [Nat.add_zero, show ((Kd.slice 3 (Kd.int .i64))).sz = 1 from rfl, Nat.mul_one] at hv435_0
              replace hv435_0 := Option.some.inj (hv435_0.symm.trans hx435_0)
              rw [hv435_0] at ge435_0
              have HL435_0 := Aside0.mk (show Kd.R (Kd.int .i64) 3 _ _ _ _ (rd_L11 t431 x8_3) from ge435_0)
              clear hv435_0 ge435_0 hcc435 hce435
              have HR435_0 := Aside0.mk hi435_0
              have HC435_0 := Aside0.mk hl435_0
              clear hi435_0 hl435_0
              replace p435 := eq_true p435
              replace q435 := eq_true q435
              go_wp2_with (first | (go_at_call 53; (with_reducible refine (ontimeref24_same.calls k3 _ _ (rd_L11 l1 x8_3) _ _ (rd_L11 t431 x8_3) false _ ?side1 ?side2 ?side3 ?side4 A32.out).mono ?_); (case side1 => exact tC (Kd.C_below HR434_0.out HB.out)); (case side2 => exact HC434_0.out); (case side3 => repeat (first | exact (by repeat (first | (with_reducible exact HR435_0.out) | (with_reducible refine Kd.C_alloc ?_ _) | (with_reducible refine Kd.C_drewN ?_ _) | (with_reducible refine Kd.C_drew ?_) | exact HR435_0.out)) | (with_reducible refine Kd.C_alloc ?_ _) | (with_reducible refine Kd.C_drewN ?_ _) | (with_reducible refine Kd.C_drew ?_))); (case side4 => exact HC435_0.out); rintro e w' ⟨rfl, ⟨nd, rfl⟩⟩; (try first | exact ⟨rfl, _, World.drewN_drewN _ _ _⟩ | exact ⟨rfl, _, Eq.trans (World.drewN_drewN _ _ _) (congrArg (World.drewN _) (Nat.add_assoc _ _ _))⟩)))
              repeat (go_quiet (first | (go_at_call 53; (with_reducible refine (ontimeref24_same.calls k3 _ _ (rd_L11 l1 x8_3) _ _ (rd_L11 t431 x8_3) false _ ?side1 ?side2 ?side3 ?side4 A32.out).mono ?_); (case side1 => exact tC (Kd.C_below HR434_0.out HB.out)); (case side2 => exact HC434_0.out); (case side3 => repeat (first | exact (by repeat (first | (with_reducible exact HR435_0.out) | (with_reducible refine Kd.C_alloc ?_ _) | (with_reducible refine Kd.C_drewN ?_ _) | (with_reducible refine Kd.C_drew ?_) | exact HR435_0.out)) | (with_reducible refine Kd.C_alloc ?_ _) | (with_reducible refine Kd.C_drewN ?_ _) | (with_reducible refine Kd.C_drew ?_))); (case side4 => exact HC435_0.out); rintro e w' ⟨rfl, ⟨nd, rfl⟩⟩; (try first | exact ⟨rfl, _, World.drewN_drewN _ _ _⟩ | exact ⟨rfl, _, Eq.trans (World.drewN_drewN _ _ _) (congrArg (World.drewN _) (Nat.add_assoc _ _ _))⟩))); try go_wp2_with (first | (go_at_call 53; (with_reducible refine (ontimeref24_same.calls k3 _ _ (rd_L11 l1 x8_3) _ _ (rd_L11 t431 x8_3) false _ ?side1 ?side2 ?side3 ?side4 A32.out).mono ?_); (case side1 => exact tC (Kd.C_below HR434_0.out HB.out)); (case side2 => exact HC434_0.out); (case side3 => repeat (first | exact (by repeat (first | (with_reducible exact HR435_0.out) | (with_reducible refine Kd.C_alloc ?_ _) | (with_reducible refine Kd.C_drewN ?_ _) | (with_reducible refine Kd.C_drew ?_) | exact HR435_0.out)) | (with_reducible refine Kd.C_alloc ?_ _) | (with_reducible refine Kd.C_drewN ?_ _) | (with_reducible refine Kd.C_drew ?_))); (case side4 => exact HC435_0.out); rintro e w' ⟨rfl, ⟨nd, rfl⟩⟩; (try first | exact ⟨rfl, _, World.drewN_drewN _ _ _⟩ | exact ⟨rfl, _, Eq.trans (World.drewN_drewN _ _ _) (congrArg (World.drewN _) (Nat.add_assoc _ _ _))⟩))))
              go_ret
              exact ⟨by first | rfl | (simp [errW_none, errW_some] <;> rfl) | (simp [*, errW_none, errW_some] <;> rfl), by repeat (first | (with_reducible first | exact HB.out | apply below_alloc | apply pw_below_drewN | apply below_drew1) | exact HB.out)⟩
            ·rw [if_neg c31] at H
             exact absurd H (by simp)
           ·rw [if_neg c30] at H
            exact absurd H (by simp)
          ·rw [if_neg c29] at H
           exact absurd H (by simp)
         ·rw [if_neg c28] at H
          have c28b0 : decide (x8_3 < (l0.length : Int)) = false := decide_eq_false c28
          clear c28
          obtain rfl := Option.some.inj H
          go_wp2
          repeat (go_quiet (fail); try go_wp2)
          go_ret
          exact ⟨by first | rfl | (simp [errW_none, errW_some] <;> rfl) | (simp [*, errW_none, errW_some] <;> rfl), by repeat (first | (with_reducible first | exact HB.out | apply below_alloc | apply pw_below_drewN | apply below_drew1) | exact HB.out)⟩
end Go.Proofs.Ytihmfdndiicjgaa.C
