-- Written by xprint.py (wip/tools) out of the translation and of this project's hand texts. Not trusted: Lean checks it.
import Derived.Test.YtihmfdndiicjgaaCx0
namespace Go.Proofs.Ytihmfdndiicjgaa.C
open Go.RowKit Go.Proofs.YtihmfdndiicjgaaW.PrintWords Go.Proofs.YtihmfdndiicjgaaW.PrintLast Go.Proofs.YtihmfdndiicjgaaW.PrintMore
attribute [local go_sem] max2_int min2_int max_two min_two max_three min_three max_four min_four   -- for this text's walks alone
set_option linter.unusedVariables false
set_option linter.unusedSimpArgs false
/-! ### ontimeref24_Prev: function 46 -/
mutual
def ontimeref24_Prev.l0 : Nat → List (S104) → List (List Int) → Int → Option ((List (List Int)))
 | 0, _, _, _ => none
 | k + 1, x0, x3, x4 => if x4 < (x0.length : Int) then (ontimeref24_Prev.l1 k x0 x3 x4 0) else (some x3)
def ontimeref24_Prev.l1 : Nat → List (S104) → List (List Int) → Int → Int → Option ((List (List Int)))
 | 0, _, _, _, _ => none
 | k + 1, x0, x3, x4, x5 => if 0 ≤ x4 then (if x4 < (x0.length : Int) then (if x5 < (((rd_T104 x0 x4).f2).length : Int) then (if 0 ≤ x5 then (if 0 ≤ (rd ((rd_T104 x0 x4).f2) x5) then (if (rd ((rd_T104 x0 x4).f2) x5) < (x3.length : Int) then (if (rd_L11 x3 (rd ((rd_T104 x0 x4).f2) x5)).length < 17592186044416 then (ontimeref24_Prev.l1 k x0 (x3.set ((rd ((rd_T104 x0 x4).f2) x5) : Int).toNat ((rd_L11 x3 (rd ((rd_T104 x0 x4).f2) x5)) ++ [x4])) x4 (wrap64 (x5 + 1))) else (none)) else (none)) else (none)) else (none)) else (ontimeref24_Prev.l0 k x0 x3 (wrap64 (x4 + 1)))) else (none)) else (none)
end
def ontimeref24_Prev.f (k : Nat) (l0 : List (S104)) : Option ((List (List Int))) := if 0 ≤ (l0.length : Int) then (if ((l0.length : Int) : Int).toNat ≤ 11728124029610 then (ontimeref24_Prev.l0 k l0 (List.replicate ((l0.length : Int) : Int).toNat []) 0) else (none)) else (none)
theorem ontimeref24_Prev.mono_l : ∀ k, (∀ y0 y1 y2, LeO (ontimeref24_Prev.l0 k y0 y1 y2) (ontimeref24_Prev.l0 (k + 1) y0 y1 y2)) ∧ (∀ y0 y1 y2 y3, LeO (ontimeref24_Prev.l1 k y0 y1 y2 y3) (ontimeref24_Prev.l1 (k + 1) y0 y1 y2 y3))
 | 0 => ⟨fun _ _ _ r h => by simp [ontimeref24_Prev.l0] at h, fun _ _ _ _ r h => by simp [ontimeref24_Prev.l1] at h⟩
 | k + 1 => by
  obtain ⟨ih0, ih1⟩ := ontimeref24_Prev.mono_l k
  refine ⟨?_, ?_⟩
  ·intro y0 y1 y2
   unfold ontimeref24_Prev.l0
   repeat' first
   | (with_reducible exact ih0 _ _ _)
   | (with_reducible exact ih1 _ _ _ _)
   | (with_reducible exact LeO.refl _)
   | (with_reducible exact LeO.none _)
   | (with_reducible refine LeO.ite ?_ ?_)
   | (with_reducible refine LeO.bind ?_ (fun _ => ?_))
   | exact ih0 _ _ _
   | exact ih1 _ _ _ _
   | exact LeO.none _
   | refine LeO.ite ?_ ?_
   | refine LeO.bind ?_ (fun _ => ?_)
  ·intro y0 y1 y2 y3
   unfold ontimeref24_Prev.l1
   repeat' first
   | (with_reducible exact ih0 _ _ _)
   | (with_reducible exact ih1 _ _ _ _)
   | (with_reducible exact LeO.refl _)
   | (with_reducible exact LeO.none _)
   | (with_reducible refine LeO.ite ?_ ?_)
   | (with_reducible refine LeO.bind ?_ (fun _ => ?_))
   | exact ih0 _ _ _
   | exact ih1 _ _ _ _
   | exact LeO.none _
   | refine LeO.ite ?_ ?_
   | refine LeO.bind ?_ (fun _ => ?_)
theorem ontimeref24_Prev.mono : ∀ a0 k, LeO (ontimeref24_Prev.f k a0) (ontimeref24_Prev.f (k + 1) a0) := by
 intro a0 k
 obtain ⟨ih0, ih1⟩ := ontimeref24_Prev.mono_l k
 unfold ontimeref24_Prev.f
 repeat' first
   | (with_reducible exact ih0 _ _ _)
   | (with_reducible exact ih1 _ _ _ _)
   | (with_reducible exact LeO.refl _)
   | (with_reducible exact LeO.none _)
   | (with_reducible refine LeO.ite ?_ ?_)
   | (with_reducible refine LeO.bind ?_ (fun _ => ?_))
   | exact ih0 _ _ _
   | exact ih1 _ _ _ _
   | exact LeO.none _
   | refine LeO.ite ?_ ?_
   | refine LeO.bind ?_ (fun _ => ?_)
def ontimeref24_Prev.T8 : Bool × List (List Nat × List Nat) := (true, [([], []), ([], []), ([], []), ([1, 2], [1, 2]), ([3], [3]), ([4], [4]), ([], []), ([5, 6], [5, 6]), ([7], [7]), ([], []), ([], []), ([], []), ([10, 11], [10, 11]), ([12], [12]), ([13], [13]), ([], []), ([14, 15], [14, 15]), ([16], [16]), ([9, 17], [9, 17]), ([18], [18]), ([], []), ([20], [20]), ([19, 21], [19, 21]), ([0, 8, 0, 1, 2, 3, 4, 5, 6, 7, 8, 9, 10, 11, 12, 13, 14, 15, 16, 17, 18, 19, 20, 21, 22], [0, 8]), ([23, 22, 22, 0, 1, 2, 3, 4, 5, 6, 7, 8, 9, 10, 11, 12, 13, 14, 15, 16, 17, 18, 19, 20, 21, 22], [22, 23])])
def ontimeref24_Prev.B8 : List Nat := [0, 0, 0, 6, 14, 30, 0, 126, 254, 0, 0, 0, 3072, 7168, 15360, 0, 64512, 130048, 261632, 523776, 0, 1048576, 4193792, 8388607, 16777215]
theorem ontimeref24_Prev.tab8 : rtab .any (opsOf Try.f46 8) = ontimeref24_Prev.T8 := by kernel_rfl
theorem ontimeref24_Prev.bits8 : waitsOk ontimeref24_Prev.T8.2 ontimeref24_Prev.B8 = true := by kernel_rfl
set_option maxHeartbeats 8000000 in
set_option maxRecDepth 100000 in
theorem ontimeref24_Prev.calls (k : Nat) (A0 : Option Addr) (c0 : Nat) (l0 : List (S104)) (r : List (List Int)) (w : World) (hr0 : Kd.C k104 w A0 l0.length l0) (hc0 : l0.length ≤ c0) (h : ontimeref24_Prev.f k l0 = some r) :
  Calls Try.prog 46 #[.slice A0 l0.length c0] w fun e w' => ∃ v0_ : Value, e = .returned (v0_) ∧ Kd.S (Kd.slice 3 (Kd.int .i64)) 49 w' w.heap.size (fun _ => True) v0_ r ∧ Below w.heap.size w w' := by
 have HR0 := Aside0.mk hr0
 have HC0 := Aside0.mk hc0
 clear hr0 hc0
 have HB := Aside0.mk (Below.refl w.heap.size w)
 have H : (if 0 ≤ (l0.length : Int) then (if ((l0.length : Int) : Int).toNat ≤ 11728124029610 then (ontimeref24_Prev.l0 k l0 (List.replicate ((l0.length : Int) : Int).toNat []) 0) else (none)) else (none)) = some r := h
 clear h
 by_cases c2 : 0 ≤ (l0.length : Int)
 rotate_left
 ·rw [if_neg c2] at H
  exact absurd H (by simp)
 rw [if_pos c2] at H
 have c2b0 := eq_true c2
 have c2b1 : decide (0 ≤ (l0.length : Int)) = true := decide_eq_true c2
 clear c2
 by_cases c3 : ((l0.length : Int) : Int).toNat ≤ 11728124029610
 rotate_left
 ·rw [if_neg c3] at H
  exact absurd H (by simp)
 rw [if_pos c3] at H
 have c3b0 := eq_true c3
 have c3b1 : decide (((l0.length : Int) : Int).toNat ≤ 11728124029610) = true := decide_eq_true c3
 clear c3
 obtain ⟨y232, hy232⟩ : ∃ y_ : List (List Int), y_ = (List.replicate ((l0.length : Int) : Int).toNat []) := ⟨_, rfl⟩
 replace H : (ontimeref24_Prev.l0 k l0 y232 0) = some r := by first | (rw [hy232]; with_reducible exact H) | (have H2_ := (Option.bind_some _ _).symm.trans H; rw [hy232]; with_reducible exact H2_) | (have H2_ := (Option.bind_some _ _).symm.trans H; with_reducible exact H2_) | with_reducible exact H | (rw [hy232]; exact H) | exact H
 have Ny232 := Aside0.mk hy232
 clear hy232
 have H' := Aside0.mk H
 clear H
 go_enter Try.func46, Try.ntmps46
 go_wp2_with (first | ((with_reducible refine gate_dst (N := 8) rfl ?_); refine Kd.S_make (Kd.slice 3 (Kd.int .i64)) _ 49 rfl (N := 8) rfl 29 _ _ rfl (l0.length : Int) rfl rfl Try.underlying29 (.slice none 0 0) 24 info49 rfl (by decide) (by omega) [] (ok := fun _ => True) (okp := fun _ => True) ⟨_, rfl, Kd.R_nil _ _ _ _ _⟩ (fun _ hk => hk) trivial (tD) (Nat.le_trans (Nat.mul_le_mul_right _ (tD : (l0.length : Int).toNat ≤ 11728124029610)) (by omega)) (Below.refl _ _) (Nat.le_refl _) ?_; intro v233 w4 ho5 hb hg_ hnew_; clear hg_ hnew_; (first | rw [← Ny232.out] at ho5 | (simp only [Int.reduceToNat] at ho5; rw [← Ny232.out] at ho5)); have n0_ := Aside0.mk (Kd.S_lower ho5 (below_size (tB0 HB.out))); have n1_ := Aside0.mk (below_step (tB0 HB.out) hb); clear HB; have HO234 := n0_; have HB := n1_; clear n0_ n1_; clear hb ho5))
 go_loopg [4] k (fun kq v4 w' => ∃ (x3_1 : List (List Int)) (x4_1 : Int), v4 = .int .i64 x4_1 ∧ Aside0 (ontimeref24_Prev.l0 kq l0 x3_1 x4_1 = some r) ∧ Aside0 (kq ≤ k) ∧ Aside0 (Kd.S (Kd.slice 3 (Kd.int .i64)) 49 w' w.heap.size (fun _ => True) v233 x3_1) ∧ Aside0 (Below w.heap.size w w'))
 case atStart => exact ⟨(y232), (0), (by first | rfl | (simp; done) | (simp [*]; done)), H', ⟨Nat.le_refl _⟩, ⟨tS HO234.out⟩, ⟨tB0 HB.out⟩⟩
 case round =>
  clear H'
  (try clear c2);(try clear c2b0);(try clear c2b1);(try clear p2);(try clear c3);(try clear c3b0);(try clear c3b1);(try clear c4)
  obtain ⟨x3_1, x4_1, rfl, HA, HK1, HO_3, HB⟩ := hrel
  cases gk with
  | zero => exact absurd HA.out (by simp [ontimeref24_Prev.l0])
  | succ k1 =>
   have H := HA.out
   clear HA
   simp only [ontimeref24_Prev.l0] at H
   by_cases c6 : x4_1 < (l0.length : Int)
   rotate_left
   ·rw [if_neg c6] at H
    have c6b0 : decide (x4_1 < (l0.length : Int)) = false := decide_eq_false c6
    clear c6
    obtain rfl := Option.some.inj H
    go_wp2
    go_ret
    exact ⟨_, by first | rfl | (simp [errW_none, errW_some] <;> rfl) | (simp [*, errW_none, errW_some] <;> rfl), by (with_reducible repeat (first | apply Kd.S_alloc | apply Kd.S_drewN | apply Kd.S_drew)); exact HO_3.out, by repeat (first | (with_reducible first | exact HB.out | apply below_alloc | apply pw_below_drewN | apply below_drew1) | exact HB.out)⟩
   rw [if_pos c6] at H
   have c6b0 : decide (x4_1 < (l0.length : Int)) = true := decide_eq_true c6
   clear c6
   have H' := Aside0.mk H
   clear H
   go_wp2
   go_loopg [5] k1 (fun kq v5 w' => ∃ (x3_2 : List (List Int)) (x5_2 : Int), v5 = .int .i64 x5_2 ∧ Aside0 (ontimeref24_Prev.l1 kq l0 x3_2 x4_1 x5_2 = some r) ∧ Aside0 (kq ≤ k1) ∧ Aside0 (Kd.S (Kd.slice 3 (Kd.int .i64)) 49 w' w.heap.size (fun _ => True) v233 x3_2) ∧ Aside0 (Below w.heap.size w w'))
   case atStart => exact ⟨(x3_1), (0), (by first | rfl | (simp; done) | (simp [*]; done)), H', ⟨Nat.le_refl _⟩, ⟨tS HO_3.out⟩, ⟨tB0 HB.out⟩⟩
   case round =>
    clear H'
    (try clear c2);(try clear c2b0);(try clear c2b1);(try clear p2);(try clear c3);(try clear c3b0);(try clear c3b1);(try clear c4);(try clear c6);(try clear c6b0);(try clear p2)
    obtain ⟨x3_2, x5_2, rfl, HA, HK2, HO_3, HB⟩ := hrel
    cases gk with
    | zero => exact absurd HA.out (by simp [ontimeref24_Prev.l1])
    | succ k2 =>
     have H := HA.out
     clear HA
     simp only [ontimeref24_Prev.l1] at H
     by_cases c7 : 0 ≤ x4_1
     rotate_left
     ·rw [if_neg c7] at H
      exact absurd H (by simp)
     rw [if_pos c7] at H
     have c7b0 : decide (0 ≤ x4_1) = true := decide_eq_true c7
     clear c7
     by_cases c8 : x4_1 < (l0.length : Int)
     rotate_left
     ·rw [if_neg c8] at H
      exact absurd H (by simp)
     rw [if_pos c8] at H
     have c8b0 : decide (x4_1 < (l0.length : Int)) = true := decide_eq_true c8
     clear c8
     by_cases c9 : x5_2 < (((rd_T104 l0 x4_1).f2).length : Int)
     ·rw [if_pos c9] at H
      have c9b0 : decide (x5_2 < (((rd_T104 l0 x4_1).f2).length : Int)) = true := decide_eq_true c9
      clear c9
      by_cases c10 : 0 ≤ x5_2
      rotate_left
      ·rw [if_neg c10] at H
       exact absurd H (by simp)
      rw [if_pos c10] at H
      have c10b0 : decide (0 ≤ x5_2) = true := decide_eq_true c10
      clear c10
      by_cases c11 : 0 ≤ (rd ((rd_T104 l0 x4_1).f2) x5_2)
      rotate_left
      ·rw [if_neg c11] at H
       exact absurd H (by simp)
      rw [if_pos c11] at H
      have c11b0 : decide (0 ≤ (rd ((rd_T104 l0 x4_1).f2) x5_2)) = true := decide_eq_true c11
      clear c11
      by_cases c12 : (rd ((rd_T104 l0 x4_1).f2) x5_2) < (x3_2.length : Int)
      rotate_left
      ·rw [if_neg c12] at H
       exact absurd H (by simp)
      rw [if_pos c12] at H
      have c12b0 : decide ((rd ((rd_T104 l0 x4_1).f2) x5_2) < (x3_2.length : Int)) = true := decide_eq_true c12
      clear c12
      by_cases c13 : (rd_L11 x3_2 (rd ((rd_T104 l0 x4_1).f2) x5_2)).length < 17592186044416
      rotate_left
      ·rw [if_neg c13] at H
       exact absurd H (by simp)
      rw [if_pos c13] at H
      have LMc13 := Aside0.mk c13
      clear c13
      obtain ⟨y241, hy241⟩ : ∃ y_ : List Int, y_ = ((rd_L11 x3_2 (rd ((rd_T104 l0 x4_1).f2) x5_2)) ++ [x4_1]) := ⟨_, rfl⟩
      replace H : (ontimeref24_Prev.l1 k2 l0 (x3_2.set ((rd ((rd_T104 l0 x4_1).f2) x5_2) : Int).toNat y241) x4_1 (wrap64 (x5_2 + 1))) = some r := by first | (rw [hy241]; with_reducible exact H) | (have H2_ := (Option.bind_some _ _).symm.trans H; rw [hy241]; with_reducible exact H2_) | (have H2_ := (Option.bind_some _ _).symm.trans H; with_reducible exact H2_) | with_reducible exact H | (rw [hy241]; exact H) | exact H
      have Ny241 := Aside0.mk hy241
      clear hy241
      obtain ⟨y244, hy244⟩ : ∃ y_ : List (List Int), y_ = (x3_2.set ((rd ((rd_T104 l0 x4_1).f2) x5_2) : Int).toNat y241) := ⟨_, rfl⟩
      replace H : (ontimeref24_Prev.l1 k2 l0 y244 x4_1 (wrap64 (x5_2 + 1))) = some r := by first | (rw [hy244]; with_reducible exact H) | (have H2_ := (Option.bind_some _ _).symm.trans H; rw [hy244]; with_reducible exact H2_) | (have H2_ := (Option.bind_some _ _).symm.trans H; with_reducible exact H2_) | with_reducible exact H | (rw [hy244]; exact H) | exact H
      have Ny244 := Aside0.mk hy244
      clear hy244
      have H' := Aside0.mk H
      clear H
      have p235 : 0 ≤ (x4_1 : Int) := tD
      have q235 : x4_1 < (l0.length : Int) := tD
      obtain ⟨ad235, A235_2, c235_2, e235, hx235_0, hx235_1, hx235_2, hl235_2, hi235_2⟩ := at_T104 HR0.out x4_1 p235 q235
      cases e235
      replace hx235_0 := (HB.out.cell (World.block_lt_of_cell? w _ hx235_0)).trans hx235_0
      replace hx235_1 := (HB.out.cell (World.block_lt_of_cell? w _ hx235_1)).trans hx235_1
      replace hx235_2 := (HB.out.cell (World.block_lt_of_cell? w _ hx235_2)).trans hx235_2
      have HR235_2 := Aside0.mk hi235_2
      have HC235_2 := Aside0.mk hl235_2
      clear hi235_2 hl235_2
      replace p235 := eq_true p235
      replace q235 := eq_true q235
      try go_wp2
      have n0_ := Aside0.mk (Kd.S_drew HO_3.out)
      have n1_ := Aside0.mk (below_drew1 HB.out)
      clear HO_3 HB
      have HO_3 := n0_
      have HB := n1_
      clear n0_ n1_
      have p236 : 0 ≤ (x4_1 : Int) := tD
      have q236 : x4_1 < (l0.length : Int) := tD
      obtain ⟨ad236, A236_2, c236_2, e236, hx236_0, hx236_1, hx236_2, hl236_2, hi236_2⟩ := at_T104 HR0.out x4_1 p236 q236
      have hw236_2 := hx236_2
      have hw236_1 := hx236_1
      have hw236_0 := hx236_0
      obtain rfl : ad235 = ad236 := (by injection e236)
      replace hx236_0 := (HB.out.cell (World.block_lt_of_cell? w _ hx236_0)).trans hx236_0
      replace hx236_1 := (HB.out.cell (World.block_lt_of_cell? w _ hx236_1)).trans hx236_1
      replace hx236_2 := (HB.out.cell (World.block_lt_of_cell? w _ hx236_2)).trans hx236_2
      have HR236_2 := Aside0.mk hi236_2
      have HC236_2 := Aside0.mk hl236_2
      clear hi236_2 hl236_2
      replace p236 := eq_true p236
      replace q236 := eq_true q236
      have p237 : 0 ≤ (x5_2 : Int) := tD
      have q237 : x5_2 < (((rd_T104 l0 x4_1).f2).length : Int) := tD
      obtain ⟨ad237, e237, hx237_0⟩ := Kd.at_int HR236_2.out x5_2 p237 q237
      have hw237_0 := hx237_0
      cases e237
      replace hx237_0 := (HB.out.cell (World.block_lt_of_cell? w _ hx237_0)).trans hx237_0
      replace p237 := eq_true p237
      replace q237 := eq_true q237
      have p238 : 0 ≤ (x4_1 : Int) := tD
      have q238 : x4_1 < (l0.length : Int) := tD
      obtain ⟨ad238, A238_2, c238_2, e238, hx238_0, hx238_1, hx238_2, hl238_2, hi238_2⟩ := at_T104 HR0.out x4_1 p238 q238
      have hw238_2 := hx238_2
      have hw238_1 := hx238_1
      have hw238_0 := hx238_0
      obtain rfl : ad235 = ad238 := (by injection e238)
      replace hx238_0 := (HB.out.cell (World.block_lt_of_cell? w _ hx238_0)).trans hx238_0
      replace hx238_1 := (HB.out.cell (World.block_lt_of_cell? w _ hx238_1)).trans hx238_1
      replace hx238_2 := (HB.out.cell (World.block_lt_of_cell? w _ hx238_2)).trans hx238_2
      have HR238_2 := Aside0.mk hi238_2
      have HC238_2 := Aside0.mk hl238_2
      clear hi238_2 hl238_2
      replace p238 := eq_true p238
      replace q238 := eq_true q238
      have ea_ := Option.some.inj (hx236_2.symm.trans hx238_2)
      injection ea_ with ea_ en_ ec_
      subst ea_
      subst ec_
      clear en_
      have p239 : 0 ≤ (x5_2 : Int) := tD
      have q239 : x5_2 < (((rd_T104 l0 x4_1).f2).length : Int) := tD
      obtain ⟨ad239, e239, hx239_0⟩ := Kd.at_int HR238_2.out x5_2 p239 q239
      have hw239_0 := hx239_0
      cases e239
      replace hx239_0 := (HB.out.cell (World.block_lt_of_cell? w _ hx239_0)).trans hx239_0
      replace p239 := eq_true p239
      replace q239 := eq_true q239
      obtain ⟨Ao16, co16, eo16⟩ := Kd.S_slice HO_3.out
      (first | subst eo16 | (injection eo16 with f1_ f2_ f3_; have f4_ := f1_.symm; have f5_ := f3_.symm; clear f1_ f2_ f3_; subst f4_; subst f5_))
      have p240 : 0 ≤ ((rd ((rd_T104 l0 x4_1).f2) x5_2) : Int) := tD
      have q240 : (rd ((rd_T104 l0 x4_1).f2) x5_2) < (x3_2.length : Int) := tD
      obtain ⟨ad240, A240_0, c240_0, e240, hx240_0, hl240_0, hi240_0⟩ := at_L11 (Kd.S_reads' HO_3.out).2.2 (rd ((rd_T104 l0 x4_1).f2) x5_2) p240 q240
      cases e240
      obtain ⟨ce240, hce240, hMe240, hcc240⟩ := Kd.S_get HO_3.out [] (rd ((rd_T104 l0 x4_1).f2) x5_2) p240 (by first | exact q240 | exact tD | (have e_ := (Kd.S_reads' HO_3.out).1; omega))
      obtain ⟨ve240_0, rfl, ge240_0⟩ := hMe240
      have hv240_0 := hcc240 0 _ rfl
      rw [Nat.add_zero, show ((Kd.slice 3 (Kd.int .i64))).sz = 1 from rfl, Nat.mul_one] at hv240_0
      replace hv240_0 := Option.some.inj (hv240_0.symm.trans hx240_0)
      rw [hv240_0] at ge240_0
      have HL240_0 := Aside0.mk (show Kd.R (Kd.int .i64) 3 _ _ _ _ (rd_L11 x3_2 (rd ((rd_T104 l0 x4_1).f2) x5_2)) from ge240_0)
      clear hv240_0 ge240_0
      have HX240_0 := Aside0.mk hx240_0
      clear hcc240 hce240
      have HR240_0 := Aside0.mk hi240_0
      have HC240_0 := Aside0.mk hl240_0
      clear hi240_0 hl240_0
      replace p240 := eq_true p240
      replace q240 := eq_true q240
      obtain ⟨go17, co17, eo17, gb17, gl17, cl17, HG17⟩ := Kd.S_form HO_3.out (by have h_ : ((rd ((rd_T104 l0 x4_1).f2) x5_2) : Int) < ((x3_2.length : Int) : Int) := tD; have h2_ : 0 ≤ ((rd ((rd_T104 l0 x4_1).f2) x5_2) : Int) := (tD); omega)
      (first | cases eo17 | (injection eo17 with ea_ en_ ec_; (first | subst ea_ | (injection ea_ with ea_; subst ea_)); subst ec_; clear en_))
      have GB17 := Aside0.mk gb17
      have GG17 := Aside0.mk HG17
      clear gb17 gl17 HG17
      (first | simp only [add_plain] at hx240_0 | skip)
      obtain ⟨oki17, ce17, hcl17, hM17, hcc17, _, _, hH17⟩ := Kd.S_elem HO_3.out [] ((rd ((rd_T104 l0 x4_1).f2) x5_2) : Int) (tD) (by have h_ : ((rd ((rd_T104 l0 x4_1).f2) x5_2) : Int) < ((x3_2.length : Int) : Int) := tD; first | exact h_ | (have e_ := (Kd.S_reads' HO_3.out).1; omega) | simpa using h_)
      obtain ⟨ve17_0, rfl, ge17_0⟩ := hM17
      have hv17 := hcc17 0 _ rfl
      have hX17 := HX240_0.out
      (try simp only [add_plain] at hX17)
      (try simp only [Nat.add_zero] at hv17)
      (try rw [show ((Kd.slice 3 (Kd.int .i64))).sz = 1 from rfl, Nat.mul_one] at hv17)
      replace hv17 := Option.some.inj (hv17.symm.trans hX17)
      subst hv17
      clear hX17 hcc17 hcl17
      have UU17 := Aside0.mk (show Kd.R (Kd.int .i64) 3 _ w.heap.size oki17 (.slice A240_0 (rd_L11 x3_2 (rd ((rd_T104 l0 x4_1).f2) x5_2)).length c240_0) (rd_L11 x3_2 (rd ((rd_T104 l0 x4_1).f2) x5_2)) from ge17_0)
      have HH17 := Aside0.mk hH17
      have HN17 := Aside0.mk (Kd.S_reads' HO_3.out).1
      clear hH17 ge17_0
      refine start_ (n := 25) (S := fun w' => w'.cell? (ad235.add ((x4_1).toNat * 3)) = some (.int .i64 ((rd_T104 l0 x4_1).f0)) ∧ w'.cell? ⟨(ad235.add ((x4_1).toNat * 3)).block, (ad235.add ((x4_1).toNat * 3)).off + 1, none⟩ = some (.int .i64 ((rd_T104 l0 x4_1).f1)) ∧ w'.cell? ⟨(ad235.add ((x4_1).toNat * 3)).block, (ad235.add ((x4_1).toNat * 3)).off + 2, none⟩ = some (.slice (some ad237) ((rd_T104 l0 x4_1).f2).length c236_2) ∧ w'.cell? (ad237.add (x5_2).toNat) = some (.int .i64 (rd ((rd_T104 l0 x4_1).f2) x5_2)) ∧ w'.cell? (ad235.add ((x4_1).toNat * 3)) = some (.int .i64 ((rd_T104 l0 x4_1).f0)) ∧ w'.cell? ⟨(ad235.add ((x4_1).toNat * 3)).block, (ad235.add ((x4_1).toNat * 3)).off + 1, none⟩ = some (.int .i64 ((rd_T104 l0 x4_1).f1)) ∧ w'.cell? ⟨(ad235.add ((x4_1).toNat * 3)).block, (ad235.add ((x4_1).toNat * 3)).off + 2, none⟩ = some (.slice (some ad237) ((rd_T104 l0 x4_1).f2).length c236_2) ∧ w'.cell? (ad237.add (x5_2).toNat) = some (.int .i64 (rd ((rd_T104 l0 x4_1).f2) x5_2)) ∧ w'.cell? ⟨go17, ((rd ((rd_T104 l0 x4_1).f2) x5_2)).toNat, none⟩ = some (.slice A240_0 (rd_L11 x3_2 (rd ((rd_T104 l0 x4_1).f2) x5_2)).length c240_0)) (ds := [24]) #[false, false, false, false, false, false, false, false, false, false, false, false, false, false, false, false, false, false, false, false, false, false, false, false, false] (by kernel_rfl) rfl rfl ⟨((HB.out.cell (World.block_lt_of_cell? w _ hw236_0)).trans hw236_0), ((HB.out.cell (World.block_lt_of_cell? w _ hw236_1)).trans hw236_1), ((HB.out.cell (World.block_lt_of_cell? w _ hw236_2)).trans hw236_2), ((HB.out.cell (World.block_lt_of_cell? w _ hw237_0)).trans hw237_0), ((HB.out.cell (World.block_lt_of_cell? w _ hw238_0)).trans hw238_0), ((HB.out.cell (World.block_lt_of_cell? w _ hw238_1)).trans hw238_1), ((HB.out.cell (World.block_lt_of_cell? w _ hw238_2)).trans hw238_2), ((HB.out.cell (World.block_lt_of_cell? w _ hw239_0)).trans hw239_0), hx240_0⟩ (fun hHeld => ?_); refine with_tabW ontimeref24_Prev.tab8 ontimeref24_Prev.bits8 (fun HT_ HW_ => ?_)
      generalize wr.drew = w15 at HO_3 HB GG17 HH17 HL240_0 HR236_2 HR238_2 HR240_0 HX240_0 UU17 hx236_0 hx236_1 hx236_2 hx237_0 hx238_0 hx238_1 hx238_2 hx239_0 hx240_0 hHeld ⊢
      refine pure_ (i := 0) (N := some 25) (v := ?_) (a' := ?_) #[true, false, false, false, false, false, false, false, false, false, false, false, false, false, false, false, false, false, false, false, false, false, false, false, false] rfl rfl (any_of HT_.out (by kernel_rfl)) (fun _ _ _ h => h) (Or.inl ⟨by rfl, ?_⟩) ?_ ?_
      rotate_left
      ·intro w'
       go_simp
       with_reducible rfl
      rotate_left
      ·simp only [Act.put, pA, pB, pC, i64_w, i32_w]
       rfl
      refine pure_ (i := 1) (N := some 26) (v := ?_) (a' := ?_) #[true, true, false, false, false, false, false, false, false, false, false, false, false, false, false, false, false, false, false, false, false, false, false, false, false] rfl rfl (any_of HT_.out (by kernel_rfl)) (fun _ _ _ h => h) (Or.inl ⟨by rfl, ?_⟩) ?_ ?_
      rotate_left
      ·intro w'
       go_simp
       with_reducible rfl
      rotate_left
      ·simp only [Act.put, pA, pB, pC, i64_w, i32_w]
       rfl
      refine pure_ (i := 2) (N := some 27) (v := ?_) (a' := ?_) #[true, true, true, false, false, false, false, false, false, false, false, false, false, false, false, false, false, false, false, false, false, false, false, false, false] rfl rfl (any_of HT_.out (by kernel_rfl)) (fun _ _ _ h => h) (Or.inl ⟨by rfl, ?_⟩) ?_ ?_
      rotate_left
      ·intro w'
       go_simp
       with_reducible rfl
      rotate_left
      ·simp only [Act.put, pA, pB, pC, i64_w, i32_w]
       rfl
      refine pure_ (i := 3) (N := some 28) (v := ?_) (a' := ?_) #[true, true, true, true, false, false, false, false, false, false, false, false, false, false, false, false, false, false, false, false, false, false, false, false, false] rfl rfl (any_of HT_.out (by kernel_rfl)) (fun _ _ _ h => h) (Or.inl ⟨by rfl, ?_⟩) ?_ ?_
      rotate_left
      ·intro w'
       go_simp
       with_reducible rfl
      rotate_left
      ·simp only [Act.put, pA, pB, pC, i64_w, i32_w]
       rfl
      refine pure_ (i := 4) (N := some 29) (v := ?_) (a' := ?_) #[true, true, true, true, true, false, false, false, false, false, false, false, false, false, false, false, false, false, false, false, false, false, false, false, false] rfl rfl (any_of HT_.out (by kernel_rfl)) (fun _ _ _ h => h) (Or.inl ⟨by rfl, ?_⟩) ?_ ?_
      rotate_left
      ·intro w'
       go_simp
       with_reducible rfl
      rotate_left
      ·simp only [Act.put, pA, pB, pC, i64_w, i32_w]
       rfl
      refine pure_ (i := 6) (N := some 31) (v := ?_) (a' := ?_) #[true, true, true, true, true, false, true, false, false, false, false, false, false, false, false, false, false, false, false, false, false, false, false, false, false] rfl rfl (any_of HT_.out (by kernel_rfl)) (fun _ _ _ h => h) (Or.inl ⟨by rfl, ?_⟩) ?_ ?_
      rotate_left
      ·intro w'
       go_simp
       with_reducible rfl
      rotate_left
      ·simp only [Act.put, pA, pB, pC, i64_w, i32_w]
       rfl
      refine pure_ (i := 9) (N := some 34) (v := ?_) (a' := ?_) #[true, true, true, true, true, false, true, false, false, true, false, false, false, false, false, false, false, false, false, false, false, false, false, false, false] rfl rfl (any_of HT_.out (by kernel_rfl)) (fun _ _ _ h => h) (Or.inl ⟨by rfl, ?_⟩) ?_ ?_
      rotate_left
      ·intro w'
       go_simp
       with_reducible rfl
      rotate_left
      ·simp only [Act.put, pA, pB, pC, i64_w, i32_w]
       rfl
      refine pure_ (i := 10) (N := some 35) (v := ?_) (a' := ?_) #[true, true, true, true, true, false, true, false, false, true, true, false, false, false, false, false, false, false, false, false, false, false, false, false, false] rfl rfl (any_of HT_.out (by kernel_rfl)) (fun _ _ _ h => h) (Or.inl ⟨by rfl, ?_⟩) ?_ ?_
      rotate_left
      ·intro w'
       go_simp
       with_reducible rfl
      rotate_left
      ·simp only [Act.put, pA, pB, pC, i64_w, i32_w]
       rfl
      refine pure_ (i := 11) (N := some 36) (v := ?_) (a' := ?_) #[true, true, true, true, true, false, true, false, false, true, true, true, false, false, false, false, false, false, false, false, false, false, false, false, false] rfl rfl (any_of HT_.out (by kernel_rfl)) (fun _ _ _ h => h) (Or.inl ⟨by rfl, ?_⟩) ?_ ?_
      rotate_left
      ·intro w'
       go_simp
       with_reducible rfl
      rotate_left
      ·simp only [Act.put, pA, pB, pC, i64_w, i32_w]
       rfl
      refine pure_ (i := 12) (N := some 37) (v := ?_) (a' := ?_) #[true, true, true, true, true, false, true, false, false, true, true, true, true, false, false, false, false, false, false, false, false, false, false, false, false] rfl rfl (any_of HT_.out (by kernel_rfl)) (fun _ _ _ h => h) (Or.inl ⟨by rfl, ?_⟩) ?_ ?_
      rotate_left
      ·intro w'
       go_simp
       with_reducible rfl
      rotate_left
      ·simp only [Act.put, pA, pB, pC, i64_w, i32_w]
       rfl
      refine pure_ (i := 13) (N := some 38) (v := ?_) (a' := ?_) #[true, true, true, true, true, false, true, false, false, true, true, true, true, true, false, false, false, false, false, false, false, false, false, false, false] rfl rfl (any_of HT_.out (by kernel_rfl)) (fun _ _ _ h => h) (Or.inl ⟨by rfl, ?_⟩) ?_ ?_
      rotate_left
      ·intro w'
       go_simp
       with_reducible rfl
      rotate_left
      ·simp only [Act.put, pA, pB, pC, i64_w, i32_w]
       rfl
      refine pure_ (i := 15) (N := some 40) (v := ?_) (a' := ?_) #[true, true, true, true, true, false, true, false, false, true, true, true, true, true, false, true, false, false, false, false, false, false, false, false, false] rfl rfl (any_of HT_.out (by kernel_rfl)) (fun _ _ _ h => h) (Or.inl ⟨by rfl, ?_⟩) ?_ ?_
      rotate_left
      ·intro w'
       go_simp
       with_reducible rfl
      rotate_left
      ·simp only [Act.put, pA, pB, pC, i64_w, i32_w]
       rfl
      refine pure_ (i := 20) (N := some 45) (v := ?_) (a' := ?_) #[true, true, true, true, true, false, true, false, false, true, true, true, true, true, false, true, false, false, false, false, true, false, false, false, false] rfl rfl (any_of HT_.out (by kernel_rfl)) (fun _ _ _ h => h) (Or.inl ⟨by rfl, ?_⟩) ?_ ?_
      rotate_left
      ·intro w'
       go_simp
       with_reducible rfl
      rotate_left
      ·simp only [Act.put, pA, pB, pC, i64_w, i32_w]
       rfl
      refine take_ (i := 5) (N := some 30) (v := ?_) (a' := ?_) #[true, true, true, true, true, true, true, false, false, true, true, true, true, true, false, true, false, false, false, false, true, false, false, false, false] rfl rfl (take_ofW HT_.out HW_.out (by kernel_rfl)) (fun _ _ _ h => h) (Or.inl ⟨by rfl, ?_⟩) hHeld ?_ ?_
      rotate_left
      ·rintro w' ⟨s0, s1, s2, s3, s4, s5, s6, s7, s8⟩
       go_simp
       with_reducible rfl
      rotate_left
      ·simp only [Act.put, pA, pB, pC, i64_w, i32_w]
       rfl
      refine pure_ (i := 7) (N := some 32) (v := ?_) (a' := ?_) #[true, true, true, true, true, true, true, true, false, true, true, true, true, true, false, true, false, false, false, false, true, false, false, false, false] rfl rfl (any_of HT_.out (by kernel_rfl)) (fun _ _ _ h => h) (Or.inl ⟨by rfl, ?_⟩) ?_ ?_
      rotate_left
      ·intro w'
       go_simp
       with_reducible rfl
      rotate_left
      ·simp only [Act.put, pA, pB, pC, i64_w, i32_w]
       rfl
      refine take_ (i := 8) (N := some 33) (v := ?_) (a' := ?_) #[true, true, true, true, true, true, true, true, true, true, true, true, true, true, false, true, false, false, false, false, true, false, false, false, false] rfl rfl (take_ofW HT_.out HW_.out (by kernel_rfl)) (fun _ _ _ h => h) (Or.inl ⟨by rfl, ?_⟩) hHeld ?_ ?_
      rotate_left
      ·rintro w' ⟨s0, s1, s2, s3, s4, s5, s6, s7, s8⟩
       go_simp
       with_reducible rfl
      rotate_left
      ·simp only [Act.put, pA, pB, pC, i64_w, i32_w]
       rfl
      refine take_ (i := 14) (N := some 39) (v := ?_) (a' := ?_) #[true, true, true, true, true, true, true, true, true, true, true, true, true, true, true, true, false, false, false, false, true, false, false, false, false] rfl rfl (take_ofW HT_.out HW_.out (by kernel_rfl)) (fun _ _ _ h => h) (Or.inl ⟨by rfl, ?_⟩) hHeld ?_ ?_
      rotate_left
      ·rintro w' ⟨s0, s1, s2, s3, s4, s5, s6, s7, s8⟩
       go_simp
       with_reducible rfl
      rotate_left
      ·simp only [Act.put, pA, pB, pC, i64_w, i32_w]
       rfl
      refine pure_ (i := 16) (N := some 41) (v := ?_) (a' := ?_) #[true, true, true, true, true, true, true, true, true, true, true, true, true, true, true, true, true, false, false, false, true, false, false, false, false] rfl rfl (any_of HT_.out (by kernel_rfl)) (fun _ _ _ h => h) (Or.inl ⟨by rfl, ?_⟩) ?_ ?_
      rotate_left
      ·intro w'
       go_simp
       with_reducible rfl
      rotate_left
      ·simp only [Act.put, pA, pB, pC, i64_w, i32_w]
       rfl
      refine take_ (i := 17) (N := some 42) (v := ?_) (a' := ?_) #[true, true, true, true, true, true, true, true, true, true, true, true, true, true, true, true, true, true, false, false, true, false, false, false, false] rfl rfl (take_ofW HT_.out HW_.out (by kernel_rfl)) (fun _ _ _ h => h) (Or.inl ⟨by rfl, ?_⟩) hHeld ?_ ?_
      rotate_left
      ·rintro w' ⟨s0, s1, s2, s3, s4, s5, s6, s7, s8⟩
       go_simp
       with_reducible rfl
      rotate_left
      ·simp only [Act.put, pA, pB, pC, i64_w, i32_w]
       rfl
      refine pure_ (i := 18) (N := some 43) (v := ?_) (a' := ?_) #[true, true, true, true, true, true, true, true, true, true, true, true, true, true, true, true, true, true, true, false, true, false, false, false, false] rfl rfl (any_of HT_.out (by kernel_rfl)) (fun _ _ _ h => h) (Or.inl ⟨by rfl, ?_⟩) ?_ ?_
      rotate_left
      ·intro w'
       go_simp
       with_reducible rfl
      rotate_left
      ·simp only [Act.put, pA, pB, pC, i64_w, i32_w]
       rfl
      refine take_ (i := 19) (N := some 44) (v := ?_) (a' := ?_) #[true, true, true, true, true, true, true, true, true, true, true, true, true, true, true, true, true, true, true, true, true, false, false, false, false] rfl rfl (take_ofW HT_.out HW_.out (by kernel_rfl)) (fun _ _ _ h => h) (Or.inl ⟨by rfl, ?_⟩) hHeld ?_ ?_
      rotate_left
      ·rintro w' ⟨s0, s1, s2, s3, s4, s5, s6, s7, s8⟩
       go_simp
       with_reducible rfl
      rotate_left
      ·simp only [Act.put, pA, pB, pC, i64_w, i32_w]
       rfl
      refine one_ (i := 21) (N := some 46) #[true, true, true, true, true, true, true, true, true, true, true, true, true, true, true, true, true, true, true, true, true, true, false, false, false] rfl rfl (one_of HT_.out (by kernel_rfl)) (by decide) (fun K hK => ?_)
      refine value_ (w1 := ?_) (v := ?_) (by rfl) rfl ?_ ?_
      rotate_left 2
      ·go_simp
       constructor
       ·rfl
       ·rfl
      refine hK.out _ _ ⟨(World.cell?_alloc_lt _ _ _ (World.block_lt_of_cell? _ _ (((HB.out.cell (World.block_lt_of_cell? w _ hw236_0)).trans hw236_0)))).trans (((HB.out.cell (World.block_lt_of_cell? w _ hw236_0)).trans hw236_0)), (World.cell?_alloc_lt _ _ _ (World.block_lt_of_cell? _ _ (((HB.out.cell (World.block_lt_of_cell? w _ hw236_1)).trans hw236_1)))).trans (((HB.out.cell (World.block_lt_of_cell? w _ hw236_1)).trans hw236_1)), (World.cell?_alloc_lt _ _ _ (World.block_lt_of_cell? _ _ (((HB.out.cell (World.block_lt_of_cell? w _ hw236_2)).trans hw236_2)))).trans (((HB.out.cell (World.block_lt_of_cell? w _ hw236_2)).trans hw236_2)), (World.cell?_alloc_lt _ _ _ (World.block_lt_of_cell? _ _ (((HB.out.cell (World.block_lt_of_cell? w _ hw237_0)).trans hw237_0)))).trans (((HB.out.cell (World.block_lt_of_cell? w _ hw237_0)).trans hw237_0)), (World.cell?_alloc_lt _ _ _ (World.block_lt_of_cell? _ _ (((HB.out.cell (World.block_lt_of_cell? w _ hw238_0)).trans hw238_0)))).trans (((HB.out.cell (World.block_lt_of_cell? w _ hw238_0)).trans hw238_0)), (World.cell?_alloc_lt _ _ _ (World.block_lt_of_cell? _ _ (((HB.out.cell (World.block_lt_of_cell? w _ hw238_1)).trans hw238_1)))).trans (((HB.out.cell (World.block_lt_of_cell? w _ hw238_1)).trans hw238_1)), (World.cell?_alloc_lt _ _ _ (World.block_lt_of_cell? _ _ (((HB.out.cell (World.block_lt_of_cell? w _ hw238_2)).trans hw238_2)))).trans (((HB.out.cell (World.block_lt_of_cell? w _ hw238_2)).trans hw238_2)), (World.cell?_alloc_lt _ _ _ (World.block_lt_of_cell? _ _ (((HB.out.cell (World.block_lt_of_cell? w _ hw239_0)).trans hw239_0)))).trans (((HB.out.cell (World.block_lt_of_cell? w _ hw239_0)).trans hw239_0)), (World.cell?_alloc_lt _ _ _ (World.block_lt_of_cell? _ _ (hHeld.2.2.2.2.2.2.2.2))).trans (hHeld.2.2.2.2.2.2.2.2)⟩ (fun hHeld => ?_)
      clear hK K
      refine norm_ (a' := ?_) ?_ ?_
      rotate_left
      ·show Act.put _ (some 46) _ = _
       simp only [Act.put, pA, pB, pC, i64_w, i32_w]
       rfl
      refine one_ (i := 22) (N := some 47) #[true, true, true, true, true, true, true, true, true, true, true, true, true, true, true, true, true, true, true, true, true, true, true, false, false] rfl rfl (one_of HT_.out (by kernel_rfl)) (by decide) (fun K hK => ?_)
      refine Kd.R_append_step (Kd.int .i64) (w0 := w) w.heap.size (by rfl) (.tmp 44) (.tmp 46) 49 3 (.int .i64 0) 8 rfl Try.underlying49 info3 rfl (by decide) (by omega) (.slice A240_0 (rd_L11 x3_2 (rd ((rd_T104 l0 x4_1).f2) x5_2)).length c240_0) (rd_L11 x3_2 (rd ((rd_T104 l0 x4_1).f2) x5_2)) x4_1 [.int .i64 x4_1] (fun k_ => oki17 k_ ∨ ((fun _ => True)) k_ ∧ w15.heap.size ≤ k_) (fun _ => False) rfl rfl ?aP (fun _ hk => hk.elim) ?aF ?aO ?aB ?aS ?aL ?_
      (case aP => exact rfl)
      (case aB => exact (tB0 HB.out))
      (case aF => exact (fun k_ hk => .inr ⟨trivial, hk⟩))
      (case aO => exact (by (with_reducible repeat (first | apply Kd.R_alloc | apply Kd.R_drewN | apply Kd.R_drew)); exact Kd.R_mono UU17.out (fun _ hk => .inl hk)))
      (case aS => exact (below_size (tB0 HB.out)))
      (case aL => have := LMc13.out; omega)
      intro v242 w18 ho hb hg hat
      (first | have HS8_ := cell_grown hg (hHeld.2.2.2.2.2.2.2.2) (by first | (rw [add_block]; exact (fun e_ => ((HL240_0.out.1 _ e_.symm).2) rfl)) | (show some (Addr.add _ _).block ≠ _; rw [add_block]; exact (fun e_ => ((HL240_0.out.1 _ e_.symm).2) rfl)) | exact (fun e_ => ((HL240_0.out.1 _ e_.symm).2) rfl)) | have HS8_ := cell_grown hg (cell_unalloc (hHeld.2.2.2.2.2.2.2.2) (by first | (rw [add_block]; exact Kd.S_lt HO_3.out _ rfl) | (show (Addr.add _ _).block < _; rw [add_block]; exact Kd.S_lt HO_3.out _ rfl) | exact Kd.S_lt HO_3.out _ rfl)) (by first | (rw [add_block]; exact (fun e_ => ((HL240_0.out.1 _ e_.symm).2) rfl)) | (show some (Addr.add _ _).block ≠ _; rw [add_block]; exact (fun e_ => ((HL240_0.out.1 _ e_.symm).2) rfl)) | exact (fun e_ => ((HL240_0.out.1 _ e_.symm).2) rfl)))
      rw [← Ny241.out] at ho
      have n0_ := Aside0.mk (hb)
      have n1_ := Aside0.mk (Kd.H_grown (Kd.H_widen (by repeat (first | exact HH17.out | refine Kd.H_alloc ?_ _ | refine Kd.H_drewN ?_ _ | refine Kd.H_drew ?_))) hg (fun k_ e_ => .inl (UU17.out.1 k_ e_)))
      have n2_ := Aside0.mk (ho)
      clear HB HH17 HO_3 UU17 HL240_0
      have HB := n0_
      have HH17 := n1_
      have HO243 := n2_
      clear n0_ n1_ n2_ ho hb hg hat
      have p14 : 0 ≤ ((rd ((rd_T104 l0 x4_1).f2) x5_2) : Int) := tD
      have q14 : ((rd ((rd_T104 l0 x4_1).f2) x5_2) : Int) < ((x3_2.length : Int) : Int) := tD
      replace p14 := eq_true p14
      replace q14 := eq_true q14
      obtain ⟨Ao21, co21, eo21⟩ := Kd.R_slice HO243.out
      (first | subst eo21 | (injection eo21 with f1_ f2_ f3_; have f4_ := f1_.symm; have f5_ := f3_.symm; clear f1_ f2_ f3_; subst f4_; subst f5_))
      obtain ⟨_, _, hraw19, _, _, hcc19, _⟩ := Kd.H_raw HH17.out (tD) (by have h_ : ((rd ((rd_T104 l0 x4_1).f2) x5_2) : Int) < ((x3_2.length : Int) : Int) := tD; first | exact h_ | (have e_ := (HN17.out); omega) | simpa using h_)
      obtain ⟨_, hfr19⟩ := Kd.H_at HH17.out (tD) (by have h_ : ((rd ((rd_T104 l0 x4_1).f2) x5_2) : Int) < ((x3_2.length : Int) : Int) := tD; first | exact h_ | (have e_ := (HN17.out); omega) | simpa using h_)
      have hx19_0 := hcc19 0 _ rfl
      have hf19_0 := hfr19 0
      (try simp only [Nat.add_zero] at hx19_0 hf19_0)
      (try rw [show ((Kd.slice 3 (Kd.int .i64))).sz = 1 from rfl, Nat.mul_one] at hx19_0)
      (try rw [show ((Kd.slice 3 (Kd.int .i64))).sz = 1 from rfl, Nat.mul_one] at hf19_0)
      have HP19 := Kd.S_seg0 HH17.out (tD) (by have h_ : ((rd ((rd_T104 l0 x4_1).f2) x5_2) : Int) < ((x3_2.length : Int) : Int) := tD; first | exact h_ | (have e_ := (HN17.out); omega) | simpa using h_) (seg := [.slice Ao21 y241.length co21]) (j := 0) (show 1 ≤ 1 from by decide) (x' := y241) (Kd.M_row HO243.out) (fun _ hk => hk)
      (try simp only [show ((Kd.slice 3 (Kd.int .i64))).sz = 1 from rfl, Nat.mul_one, Nat.add_zero] at HP19)
      clear hcc19 hfr19
      have HS19 := HP19.1
      rw [← Ny244.out] at HS19
      have HQ19 := Aside0.mk HS19
      obtain ⟨_, hgg19⟩ := Kd.R_typed hraw19 go17 rfl
      have GG19_ := Aside0.mk hgg19
      clear HP19 HS19 hgg19
      refine hK.out _ _ ⟨((HB.out.cell (World.block_lt_of_cell? w _ hw236_0)).trans hw236_0), ((HB.out.cell (World.block_lt_of_cell? w _ hw236_1)).trans hw236_1), ((HB.out.cell (World.block_lt_of_cell? w _ hw236_2)).trans hw236_2), ((HB.out.cell (World.block_lt_of_cell? w _ hw237_0)).trans hw237_0), ((HB.out.cell (World.block_lt_of_cell? w _ hw238_0)).trans hw238_0), ((HB.out.cell (World.block_lt_of_cell? w _ hw238_1)).trans hw238_1), ((HB.out.cell (World.block_lt_of_cell? w _ hw238_2)).trans hw238_2), ((HB.out.cell (World.block_lt_of_cell? w _ hw239_0)).trans hw239_0), HS8_⟩ (fun hHeld => ?_)
      clear hK K
      refine norm_ (a' := ?_) ?_ ?_
      rotate_left
      ·show Act.put _ (some 47) _ = _
       simp only [Act.put, pA, pB, pC, i64_w, i32_w]
       rfl
      refine pure_ (i := 23) (N := some 48) (v := ?_) (a' := ?_) #[true, true, true, true, true, true, true, true, true, true, true, true, true, true, true, true, true, true, true, true, true, true, true, true, false] rfl rfl (any_of HT_.out (by kernel_rfl)) (fun _ _ _ h => h) (Or.inl ⟨by rfl, ?_⟩) ?_ ?_
      rotate_left
      ·intro w'
       go_simp
       with_reducible rfl
      rotate_left
      ·simp only [Act.put, pA, pB, pC, i64_w, i32_w]
       rfl
      refine last_ (i := 24) (N := none) #[true, true, true, true, true, true, true, true, true, true, true, true, true, true, true, true, true, true, true, true, true, true, true, true, true] rfl rfl (one_of HT_.out (by kernel_rfl)) (by decide) (fun K hK => ?_)
      refine skip_ (w1 := ?_) (by rfl) rfl ?_ ?_
      rotate_left
      ·go_simp
       rfl
      refine hK.out _ _ ?_
      clear hK K
      refine done_ (done_of HT_.out (by kernel_rfl)) ?_
      try go_wp2
      go_roundg k2
      case measure => have := HK1.out; have := HK2.out; omega
      case rel => exact ⟨(y244), (wrap64 (x5_2 + 1)), (by first | rfl | (simp; done) | (simp [*]; done)), H', ⟨by have := HK1.out; have := HK2.out; omega⟩, ⟨tS HQ19.out⟩, ⟨tB1 HB.out GB17.out⟩⟩
     ·rw [if_neg c9] at H
      have c9b0 : decide (x5_2 < (((rd_T104 l0 x4_1).f2).length : Int)) = false := decide_eq_false c9
      clear c9
      have H' := Aside0.mk H
      clear H
      have p235 : 0 ≤ (x4_1 : Int) := tD
      have q235 : x4_1 < (l0.length : Int) := tD
      obtain ⟨ad235, A235_2, c235_2, e235, hx235_0, hx235_1, hx235_2, hl235_2, hi235_2⟩ := at_T104 HR0.out x4_1 p235 q235
      cases e235
      replace hx235_0 := (HB.out.cell (World.block_lt_of_cell? w _ hx235_0)).trans hx235_0
      replace hx235_1 := (HB.out.cell (World.block_lt_of_cell? w _ hx235_1)).trans hx235_1
      replace hx235_2 := (HB.out.cell (World.block_lt_of_cell? w _ hx235_2)).trans hx235_2
      have HR235_2 := Aside0.mk hi235_2
      have HC235_2 := Aside0.mk hl235_2
      clear hi235_2 hl235_2
      replace p235 := eq_true p235
      replace q235 := eq_true q235
      go_wp2
      go_roundg k2
      case measure => have := HK1.out; have := HK2.out; omega
      case rel => exact ⟨(x3_2), (wrap64 (x4_1 + 1)), (by first | rfl | (simp; done) | (simp [*]; done)), H', ⟨by have := HK1.out; have := HK2.out; omega⟩, ⟨tS HO_3.out⟩, ⟨tB0 HB.out⟩⟩
end Go.Proofs.Ytihmfdndiicjgaa.C
