import Derived.Test.YtihmfdndiicjgaaCx0
namespace Go.Proofs.Ytihmfdndiicjgaa.C
open Go.RowKit Go.Proofs.YtihmfdndiicjgaaW.PrintWords Go.Proofs.YtihmfdndiicjgaaW.PrintLast Go.Proofs.YtihmfdndiicjgaaW.PrintMore
attribute [local go_sem] max2_int min2_int max_two min_two max_three min_three max_four min_four   -- for this text's walks alone
set_option linter.unusedVariables false
set_option linter.unusedSimpArgs false
def ontimelaw24_ints.l0 : Nat → List Int → List Int → Int → Int → Option (Bool)
 | 0, _, _, _, _ => none
 | k + 1, x0, x1, x12, x13 => if x13 < x12 then (if 0 ≤ x13 then (if x13 < (x0.length : Int) then (if x13 < (x1.length : Int) then (if (rd x0 x13) = (rd x1 x13) then (ontimelaw24_ints.l0 k x0 x1 x12 (wrap64 (x13 + 1))) else (some false)) else (none)) else (none)) else (none)) else (some true)
def ontimelaw24_ints.f (k : Nat) (l0 : List Int) (l1 : List Int) : Option (Bool) := if (l0.length : Int) = (l1.length : Int) then (ontimelaw24_ints.l0 k l0 l1 (l0.length : Int) 0) else (some false)
set_option maxHeartbeats 8000000 in
set_option maxRecDepth 100000 in
theorem ontimelaw24_ints.calls (k : Nat) (A0 : Option Addr) (c0 : Nat) (l0 : List Int) (A1 : Option Addr) (c1 : Nat) (l1 : List Int) (r : Bool) (w : World) (hr0 : Kd.C (Kd.int .i64) w A0 l0.length l0) (hc0 : l0.length ≤ c0) (hr1 : Kd.C (Kd.int .i64) w A1 l1.length l1) (hc1 : l1.length ≤ c1) (h : ontimelaw24_ints.f k l0 l1 = some r) :
  Calls Try.prog 28 #[.slice A0 l0.length c0, .slice A1 l1.length c1] w fun e w' => e = .returned (.bool r) ∧ Drawn0 w w' := by
 have HR0 := aK hr0
 have HC0 := aK hc0
 clear hr0 hc0
 have HR1 := aK hr1
 have HC1 := aK hc1
 clear hr1 hc1
 have H : (if (l0.length : Int) = (l1.length : Int) then (ontimelaw24_ints.l0 k l0 l1 (l0.length : Int) 0) else (some false)) = some r := h
 clear h
 by_cases c3 : (l0.length : Int) = (l1.length : Int)
 rotate_left
 ·rw [if_neg c3] at H
  have c3b0 : ((l0.length : Int) == (l1.length : Int)) = false := beq_eq_false_iff_ne.mpr c3
  have c3b1 : ((l0.length : Int) != (l1.length : Int)) = true := bne_iff_ne.mpr c3
  have c3b2 : (l0.length == l1.length) = false := by first | simpa using c3 | (simp at c3 ⊢; omega)
  obtain rfl := oI H
  go_enter Try.func28, Try.ntmps28
  go_wp2
  repeat (go_quiet (fail); try go_wp2)
  go_ret
  exact ⟨by first | rfl | (simp; done) | (simp [*]; done), by repeat (first | exact Drawn0.refl _ | apply Drawn0.step)⟩
 rw [if_pos c3] at H
 have c3b0 : ((l0.length : Int) == (l1.length : Int)) = true := beq_iff_eq.mpr c3
 have c3b1 : ((l0.length : Int) != (l1.length : Int)) = false := bne_eq_false_iff_eq.mpr c3
 have c3b2 : (l0.length == l1.length) = true := by first | simpa using c3 | (simp at c3 ⊢; omega)
 clear c3
 have H' := aK H
 clear H
 go_enter Try.func28, Try.ntmps28
 go_wp2
 repeat (go_quiet (fail); try go_wp2)
 go_loopg [13] k (fun kq v13 w' => ∃ (x13_1 : Int), v13 = .int .i64 x13_1 ∧ Aside0 (ontimelaw24_ints.l0 kq l0 l1 (l0.length : Int) x13_1 = some r) ∧ Aside0 (kq ≤ k) ∧ Drawn0 w w')
 case atStart => exact ⟨(0), (by first | rfl | (simp; done) | (simp [*]; done)), H', ⟨Nat.le_refl _⟩, by repeat (first | exact Drawn0.refl _ | apply Drawn0.step)⟩
 clear H'
 obtain ⟨x13_1, rfl, HA, HK1, ⟨m1, rfl⟩⟩ := hrel
 cases gk with
 | zero => exact absurd HA.out (by simp [ontimelaw24_ints.l0])
 | succ k1 =>
  have H := HA.out
  clear HA
  simp only [ontimelaw24_ints.l0] at H
  by_cases c4 : x13_1 < (l0.length : Int)
  rotate_left
  ·rw [if_neg c4] at H
   have c4b0 : decide (x13_1 < (l0.length : Int)) = false := decide_eq_false c4
   clear c4
   obtain rfl := oI H
   go_wp2
   repeat (go_quiet (fail); try go_wp2)
   go_ret
   exact ⟨by first | rfl | (simp; done) | (simp [*]; done), by repeat (first | exact Drawn0.refl _ | apply Drawn0.step)⟩
  rw [if_pos c4] at H
  have c4b0 : decide (x13_1 < (l0.length : Int)) = true := decide_eq_true c4
  clear c4
  by_cases c5 : 0 ≤ x13_1
  rotate_left
  ·rw [if_neg c5] at H
   exact absurd H (by simp)
  rw [if_pos c5] at H
  have c5b0 : decide (0 ≤ x13_1) = true := decide_eq_true c5
  clear c5
  by_cases c6 : x13_1 < (l0.length : Int)
  rotate_left
  ·rw [if_neg c6] at H
   exact absurd H (by simp)
  rw [if_pos c6] at H
  have c6b0 : decide (x13_1 < (l0.length : Int)) = true := decide_eq_true c6
  clear c6
  by_cases c7 : x13_1 < (l1.length : Int)
  rotate_left
  ·rw [if_neg c7] at H
   exact absurd H (by simp)
  rw [if_pos c7] at H
  have c7b0 : decide (x13_1 < (l1.length : Int)) = true := decide_eq_true c7
  clear c7
  by_cases c8 : (rd l0 x13_1) = (rd l1 x13_1)
  ·rw [if_pos c8] at H
   have c8b0 : ((rd l0 x13_1) == (rd l1 x13_1)) = true := beq_iff_eq.mpr c8
   have c8b1 : ((rd l0 x13_1) != (rd l1 x13_1)) = false := bne_eq_false_iff_eq.mpr c8
   clear c8
   have H' := aK H
   clear H
   have p307 : 0 ≤ (x13_1 : Int) := tD
   have q307 : x13_1 < (l0.length : Int) := tD
   obtain ⟨ad307, e307, hx307_0⟩ := Kd.at_int HR0.out x13_1 p307 q307
   cases e307
   replace p307 := eq_true p307
   replace q307 := eq_true q307
   have p308 : 0 ≤ (x13_1 : Int) := tD
   have q308 : x13_1 < (l1.length : Int) := tD
   obtain ⟨ad308, e308, hx308_0⟩ := Kd.at_int HR1.out x13_1 p308 q308
   cases e308
   replace p308 := eq_true p308
   replace q308 := eq_true q308
   go_wp2
   repeat (go_quiet (fail); try go_wp2)
   go_roundg k1
   case measure => have := HK1.out; omega
   case rel => exact ⟨(wrap64 (x13_1 + 1)), (by first | rfl | (simp; done) | (simp [*]; done)), H', ⟨by have := HK1.out; omega⟩, by repeat (first | exact Drawn0.refl _ | apply Drawn0.step)⟩
  ·rw [if_neg c8] at H
   have c8b0 : ((rd l0 x13_1) == (rd l1 x13_1)) = false := beq_eq_false_iff_ne.mpr c8
   have c8b1 : ((rd l0 x13_1) != (rd l1 x13_1)) = true := bne_iff_ne.mpr c8
   obtain rfl := oI H
   have p307 : 0 ≤ (x13_1 : Int) := tD
   have q307 : x13_1 < (l0.length : Int) := tD
   obtain ⟨ad307, e307, hx307_0⟩ := Kd.at_int HR0.out x13_1 p307 q307
   cases e307
   replace p307 := eq_true p307
   replace q307 := eq_true q307
   have p308 : 0 ≤ (x13_1 : Int) := tD
   have q308 : x13_1 < (l1.length : Int) := tD
   obtain ⟨ad308, e308, hx308_0⟩ := Kd.at_int HR1.out x13_1 p308 q308
   cases e308
   replace p308 := eq_true p308
   replace q308 := eq_true q308
   go_wp2
   repeat (go_quiet (fail); try go_wp2)
   go_ret
   exact ⟨by first | rfl | (simp; done) | (simp [*]; done), by repeat (first | exact Drawn0.refl _ | apply Drawn0.step)⟩
mutual
def ontimeref24_Prev.l0 : Nat → List (S104) → List (List Int) → Int → Option ((List (List Int)))
 | 0, _, _, _ => none
 | k + 1, x0, x3, x4 => if x4 < (x0.length : Int) then (ontimeref24_Prev.l1 k x0 x3 x4 0) else (some x3)
def ontimeref24_Prev.l1 : Nat → List (S104) → List (List Int) → Int → Int → Option ((List (List Int)))
 | 0, _, _, _, _ => none
 | k + 1, x0, x3, x4, x5 => if 0 ≤ x4 then (if x4 < (x0.length : Int) then (if x5 < (((rd_T104 x0 x4).f2).length : Int) then (if 0 ≤ x5 then (if 0 ≤ (rd ((rd_T104 x0 x4).f2) x5) then (if (rd ((rd_T104 x0 x4).f2) x5) < (x3.length : Int) then (if (rd_L11 x3 (rd ((rd_T104 x0 x4).f2) x5)).length < 17592186044416 then (ontimeref24_Prev.l1 k x0 (x3.set ((rd ((rd_T104 x0 x4).f2) x5) : Int).toNat ((rd_L11 x3 (rd ((rd_T104 x0 x4).f2) x5)) ++ [x4])) x4 (wrap64 (x5 + 1))) else (none)) else (none)) else (none)) else (none)) else (ontimeref24_Prev.l0 k x0 x3 (wrap64 (x4 + 1)))) else (none)) else (none)
end
def ontimeref24_Prev.f (k : Nat) (l0 : List (S104)) : Option ((List (List Int))) := if 0 ≤ (l0.length : Int) then (if ((l0.length : Int) : Int).toNat ≤ 11728124029610 then (ontimeref24_Prev.l0 k l0 (List.replicate ((l0.length : Int) : Int).toNat []) 0) else (none)) else (none)
def ontimeref24_Prev.T8 : Bool × List (List Nat × List Nat) := (true, [([], []), ([], []), ([], []), ([1, 2], [1, 2]), ([3], [3]), ([4], [4]), ([], []), ([5, 6], [5, 6]), ([7], [7]), ([], []), ([], []), ([], []), ([10, 11], [10, 11]), ([12], [12]), ([13], [13]), ([], []), ([14, 15], [14, 15]), ([16], [16]), ([9, 17], [9, 17]), ([18], [18]), ([], []), ([20], [20]), ([19, 21], [19, 21]), ([0, 8, 0, 1, 2, 3, 4, 5, 6, 7, 8, 9, 10, 11, 12, 13, 14, 15, 16, 17, 18, 19, 20, 21, 22], [0, 8]), ([23, 22, 22, 0, 1, 2, 3, 4, 5, 6, 7, 8, 9, 10, 11, 12, 13, 14, 15, 16, 17, 18, 19, 20, 21, 22], [22, 23])])
def ontimeref24_Prev.B8 : List Nat := [0, 0, 0, 6, 14, 30, 0, 126, 254, 0, 0, 0, 3072, 7168, 15360, 0, 64512, 130048, 261632, 523776, 0, 1048576, 4193792, 8388607, 16777215]
theorem ontimeref24_Prev.tab8 : rtab .any (opsOf Try.f46 8) = ontimeref24_Prev.T8 := by kernel_rfl
theorem ontimeref24_Prev.bits8 : waitsOk ontimeref24_Prev.T8.2 ontimeref24_Prev.B8 = true := by kernel_rfl
set_option maxHeartbeats 8000000 in
set_option maxRecDepth 100000 in
theorem ontimeref24_Prev.calls (k : Nat) (A0 : Option Addr) (c0 : Nat) (l0 : List (S104)) (r : List (List Int)) (w : World) (hr0 : Kd.C k104 w A0 l0.length l0) (hc0 : l0.length ≤ c0) (h : ontimeref24_Prev.f k l0 = some r) :
  Calls Try.prog 46 #[.slice A0 l0.length c0] w fun e w' => ∃ v0_ : Value, e = .returned (v0_) ∧ Kd.S (Kd.slice 3 (Kd.int .i64)) 49 w' w.heap.size (fun _ => True) v0_ r ∧ Below w.heap.size w w' := by
 have HR0 := aK hr0
 have HC0 := aK hc0
 clear hr0 hc0
 have HB := aK (Below.refl w.heap.size w)
 have H : (if 0 ≤ (l0.length : Int) then (if ((l0.length : Int) : Int).toNat ≤ 11728124029610 then (ontimeref24_Prev.l0 k l0 (List.replicate ((l0.length : Int) : Int).toNat []) 0) else (none)) else (none)) = some r := h
 clear h
 by_cases c2 : 0 ≤ (l0.length : Int)
 rotate_left
 ·rw [if_neg c2] at H
  exact absurd H (by simp)
 rw [if_pos c2] at H
 have c2b0 := eq_true c2
 have c2b1 : decide (0 ≤ (l0.length : Int)) = true := decide_eq_true c2
 clear c2
 by_cases c3 : ((l0.length : Int) : Int).toNat ≤ 11728124029610
 rotate_left
 ·rw [if_neg c3] at H
  exact absurd H (by simp)
 rw [if_pos c3] at H
 have c3b0 := eq_true c3
 have c3b1 : decide (((l0.length : Int) : Int).toNat ≤ 11728124029610) = true := decide_eq_true c3
 clear c3
 obtain ⟨y309, hy309⟩ : ∃ y_ : List (List Int), y_ = (List.replicate ((l0.length : Int) : Int).toNat []) := ⟨_, rfl⟩
 replace H : (ontimeref24_Prev.l0 k l0 y309 0) = some r := by first | (rw [hy309]; with_reducible exact H) | (have H2_ := (Option.bind_some _ _).symm.trans H; rw [hy309]; with_reducible exact H2_) | (have H2_ := (Option.bind_some _ _).symm.trans H; with_reducible exact H2_) | with_reducible exact H | (rw [hy309]; exact H) | exact H
 have Ny309 := aK hy309
 clear hy309
 have H' := aK H
 clear H
 go_enter Try.func46, Try.ntmps46
 go_wp2_with (first | ((refine gate_dst (N := 8) rfl ?_); refine Kd.S_make (Kd.slice 3 (Kd.int .i64)) _ 49 rfl (N := 8) rfl 29 _ _ rfl (l0.length : Int) rfl rfl Try.underlying29 (.slice none 0 0) 24 info49 rfl (by decide) (by omega) [] (ok := fun _ => True) (okp := fun _ => True) ⟨_, rfl, Kd.R_nil _ _ _ _ _⟩ (fun _ hk => hk) trivial (tD) (Nat.le_trans (Nat.mul_le_mul_right _ (tD : (l0.length : Int).toNat ≤ 11728124029610)) (by omega)) (Below.refl _ _) (Nat.le_refl _) ?_; intro v310 w4 ho5 hb hg_ hnew_; clear hg_ hnew_; (first | rw [← Ny309.out] at ho5 | (simp only [Int.reduceToNat] at ho5; rw [← Ny309.out] at ho5)); have HO311 := aK (Kd.S_lower ho5 (below_size (tB0 HB.out))); replace HB := aK (below_step (tB0 HB.out) hb); clear hb ho5))
 go_loopg [4] k (fun kq v4 w' => ∃ (x3_1 : List (List Int)) (x4_1 : Int), v4 = .int .i64 x4_1 ∧ Aside0 (ontimeref24_Prev.l0 kq l0 x3_1 x4_1 = some r) ∧ Aside0 (kq ≤ k) ∧ Aside0 (Kd.S (Kd.slice 3 (Kd.int .i64)) 49 w' w.heap.size (fun _ => True) v310 x3_1) ∧ Aside0 (Below w.heap.size w w'))
 case atStart => exact ⟨(y309), (0), (by first | rfl | (simp; done) | (simp [*]; done)), H', ⟨Nat.le_refl _⟩, ⟨tS HO311.out⟩, ⟨tB0 HB.out⟩⟩
 clear H'
 obtain ⟨x3_1, x4_1, rfl, HA, HK1, HO_3, HB⟩ := hrel
 cases gk with
 | zero => exact absurd HA.out (by simp [ontimeref24_Prev.l0])
 | succ k1 =>
  have H := HA.out
  clear HA
  simp only [ontimeref24_Prev.l0] at H
  by_cases c6 : x4_1 < (l0.length : Int)
  rotate_left
  ·rw [if_neg c6] at H
   have c6b0 : decide (x4_1 < (l0.length : Int)) = false := decide_eq_false c6
   clear c6
   obtain rfl := oI H
   go_wp2
   go_ret
   exact ⟨_, by first | rfl | (simp [errW_none, errW_some] <;> rfl) | (simp [*, errW_none, errW_some] <;> rfl), by (with_reducible repeat (first | apply Kd.S_alloc | apply Kd.S_drewN | apply Kd.S_drew)); exact HO_3.out, by repeat (first | (with_reducible first | exact HB.out | apply below_alloc | apply pw_below_drewN | apply below_drew1) | exact HB.out)⟩
  rw [if_pos c6] at H
  have c6b0 : decide (x4_1 < (l0.length : Int)) = true := decide_eq_true c6
  clear c6
  have H' := aK H
  clear H
  go_wp2
  go_loopg [5] k1 (fun kq v5 w' => ∃ (x3_2 : List (List Int)) (x5_2 : Int), v5 = .int .i64 x5_2 ∧ Aside0 (ontimeref24_Prev.l1 kq l0 x3_2 x4_1 x5_2 = some r) ∧ Aside0 (kq ≤ k1) ∧ Aside0 (Kd.S (Kd.slice 3 (Kd.int .i64)) 49 w' w.heap.size (fun _ => True) v310 x3_2) ∧ Aside0 (Below w.heap.size w w'))
  case atStart => exact ⟨(x3_1), (0), (by first | rfl | (simp; done) | (simp [*]; done)), H', ⟨Nat.le_refl _⟩, ⟨tS HO_3.out⟩, ⟨tB0 HB.out⟩⟩
  clear H'
  obtain ⟨x3_2, x5_2, rfl, HA, HK2, HO_3, HB⟩ := hrel
  cases gk with
  | zero => exact absurd HA.out (by simp [ontimeref24_Prev.l1])
  | succ k2 =>
   have H := HA.out
   clear HA
   simp only [ontimeref24_Prev.l1] at H
   by_cases c7 : 0 ≤ x4_1
   rotate_left
   ·rw [if_neg c7] at H
    exact absurd H (by simp)
   rw [if_pos c7] at H
   have c7b0 : decide (0 ≤ x4_1) = true := decide_eq_true c7
   clear c7
   by_cases c8 : x4_1 < (l0.length : Int)
   rotate_left
   ·rw [if_neg c8] at H
    exact absurd H (by simp)
   rw [if_pos c8] at H
   have c8b0 : decide (x4_1 < (l0.length : Int)) = true := decide_eq_true c8
   clear c8
   by_cases c9 : x5_2 < (((rd_T104 l0 x4_1).f2).length : Int)
   ·rw [if_pos c9] at H
    have c9b0 : decide (x5_2 < (((rd_T104 l0 x4_1).f2).length : Int)) = true := decide_eq_true c9
    clear c9
    by_cases c10 : 0 ≤ x5_2
    rotate_left
    ·rw [if_neg c10] at H
     exact absurd H (by simp)
    rw [if_pos c10] at H
    have c10b0 : decide (0 ≤ x5_2) = true := decide_eq_true c10
    clear c10
    by_cases c11 : 0 ≤ (rd ((rd_T104 l0 x4_1).f2) x5_2)
    rotate_left
    ·rw [if_neg c11] at H
     exact absurd H (by simp)
    rw [if_pos c11] at H
    have c11b0 : decide (0 ≤ (rd ((rd_T104 l0 x4_1).f2) x5_2)) = true := decide_eq_true c11
    clear c11
    by_cases c12 : (rd ((rd_T104 l0 x4_1).f2) x5_2) < (x3_2.length : Int)
    rotate_left
    ·rw [if_neg c12] at H
     exact absurd H (by simp)
    rw [if_pos c12] at H
    have c12b0 : decide ((rd ((rd_T104 l0 x4_1).f2) x5_2) < (x3_2.length : Int)) = true := decide_eq_true c12
    clear c12
    by_cases c13 : (rd_L11 x3_2 (rd ((rd_T104 l0 x4_1).f2) x5_2)).length < 17592186044416
    rotate_left
    ·rw [if_neg c13] at H
     exact absurd H (by simp)
    rw [if_pos c13] at H
    have LMc13 := aK c13
    clear c13
    obtain ⟨y318, hy318⟩ : ∃ y_ : List Int, y_ = ((rd_L11 x3_2 (rd ((rd_T104 l0 x4_1).f2) x5_2)) ++ [x4_1]) := ⟨_, rfl⟩
    replace H : (ontimeref24_Prev.l1 k2 l0 (x3_2.set ((rd ((rd_T104 l0 x4_1).f2) x5_2) : Int).toNat y318) x4_1 (wrap64 (x5_2 + 1))) = some r := by first | (rw [hy318]; with_reducible exact H) | (have H2_ := (Option.bind_some _ _).symm.trans H; rw [hy318]; with_reducible exact H2_) | (have H2_ := (Option.bind_some _ _).symm.trans H; with_reducible exact H2_) | with_reducible exact H | (rw [hy318]; exact H) | exact H
    have Ny318 := aK hy318
    clear hy318
    obtain ⟨y321, hy321⟩ : ∃ y_ : List (List Int), y_ = (x3_2.set ((rd ((rd_T104 l0 x4_1).f2) x5_2) : Int).toNat y318) := ⟨_, rfl⟩
    replace H : (ontimeref24_Prev.l1 k2 l0 y321 x4_1 (wrap64 (x5_2 + 1))) = some r := by first | (rw [hy321]; with_reducible exact H) | (have H2_ := (Option.bind_some _ _).symm.trans H; rw [hy321]; with_reducible exact H2_) | (have H2_ := (Option.bind_some _ _).symm.trans H; with_reducible exact H2_) | with_reducible exact H | (rw [hy321]; exact H) | exact H
    have Ny321 := aK hy321
    clear hy321
    have H' := aK H
    clear H
    have p312 : 0 ≤ (x4_1 : Int) := tD
    have q312 : x4_1 < (l0.length : Int) := tD
    obtain ⟨ad312, A312_2, c312_2, e312, hx312_0, hx312_1, hx312_2, hl312_2, hi312_2⟩ := at_T104 HR0.out x4_1 p312 q312
    cases e312
    replace hx312_0 := cB HB.out hx312_0
    replace hx312_1 := cB HB.out hx312_1
    replace hx312_2 := cB HB.out hx312_2
    have HR312_2 := aK hi312_2
    have HC312_2 := aK hl312_2
    clear hi312_2 hl312_2
    replace p312 := eq_true p312
    replace q312 := eq_true q312
    try go_wp2
    replace HO_3 := aK (Kd.S_drew HO_3.out)
    replace HB := aK (below_drew1 HB.out)
    have p313 : 0 ≤ (x4_1 : Int) := tD
    have q313 : x4_1 < (l0.length : Int) := tD
    obtain ⟨ad313, A313_2, c313_2, e313, hx313_0, hx313_1, hx313_2, hl313_2, hi313_2⟩ := at_T104 HR0.out x4_1 p313 q313
    have hw313_2 := hx313_2
    have hw313_1 := hx313_1
    have hw313_0 := hx313_0
    obtain rfl : ad312 = ad313 := (by injection e313)
    replace hx313_0 := cB HB.out hx313_0
    replace hx313_1 := cB HB.out hx313_1
    replace hx313_2 := cB HB.out hx313_2
    have HR313_2 := aK hi313_2
    have HC313_2 := aK hl313_2
    clear hi313_2 hl313_2
    replace p313 := eq_true p313
    replace q313 := eq_true q313
    have p314 : 0 ≤ (x5_2 : Int) := tD
    have q314 : x5_2 < (((rd_T104 l0 x4_1).f2).length : Int) := tD
    obtain ⟨ad314, e314, hx314_0⟩ := Kd.at_int HR313_2.out x5_2 p314 q314
    have hw314_0 := hx314_0
    cases e314
    replace hx314_0 := cB HB.out hx314_0
    replace p314 := eq_true p314
    replace q314 := eq_true q314
    have p315 : 0 ≤ (x4_1 : Int) := tD
    have q315 : x4_1 < (l0.length : Int) := tD
    obtain ⟨ad315, A315_2, c315_2, e315, hx315_0, hx315_1, hx315_2, hl315_2, hi315_2⟩ := at_T104 HR0.out x4_1 p315 q315
    have hw315_2 := hx315_2
    have hw315_1 := hx315_1
    have hw315_0 := hx315_0
    obtain rfl : ad312 = ad315 := (by injection e315)
    replace hx315_0 := cB HB.out hx315_0
    replace hx315_1 := cB HB.out hx315_1
    replace hx315_2 := cB HB.out hx315_2
    have HR315_2 := aK hi315_2
    have HC315_2 := aK hl315_2
    clear hi315_2 hl315_2
    replace p315 := eq_true p315
    replace q315 := eq_true q315
    have ea_ := oI (hx313_2.symm.trans hx315_2)
    injection ea_ with ea_ en_ ec_
    subst ea_
    subst ec_
    clear en_
    have p316 : 0 ≤ (x5_2 : Int) := tD
    have q316 : x5_2 < (((rd_T104 l0 x4_1).f2).length : Int) := tD
    obtain ⟨ad316, e316, hx316_0⟩ := Kd.at_int HR315_2.out x5_2 p316 q316
    have hw316_0 := hx316_0
    cases e316
    replace hx316_0 := cB HB.out hx316_0
    replace p316 := eq_true p316
    replace q316 := eq_true q316
    obtain ⟨Ao16, co16, eo16⟩ := Kd.S_slice HO_3.out
    (first | subst eo16 | (injection eo16 with f1_ f2_ f3_; have f4_ := f1_.symm; have f5_ := f3_.symm; clear f1_ f2_ f3_; subst f4_; subst f5_))
    have p317 : 0 ≤ ((rd ((rd_T104 l0 x4_1).f2) x5_2) : Int) := tD
    have q317 : (rd ((rd_T104 l0 x4_1).f2) x5_2) < (x3_2.length : Int) := tD
    obtain ⟨ad317, A317_0, c317_0, e317, hx317_0, hl317_0, hi317_0⟩ := at_L11 (Kd.S_reads' HO_3.out).2.2 (rd ((rd_T104 l0 x4_1).f2) x5_2) p317 q317
    cases e317
    obtain ⟨ce317, hce317, hMe317, hcc317⟩ := Kd.S_get HO_3.out [] (rd ((rd_T104 l0 x4_1).f2) x5_2) p317 (by first | exact q317 | exact tD | (have e_ := (Kd.S_reads' HO_3.out).1; omega))
    obtain ⟨ve317_0, rfl, ge317_0⟩ := hMe317
    have hv317_0 := hcc317 0 _ rfl
    rw [Nat.add_zero, show ((Kd.slice 3 (Kd.int .i64))).sz = 1 from rfl, Nat.mul_one] at hv317_0
    replace hv317_0 := oI (hv317_0.symm.trans hx317_0)
    rw [hv317_0] at ge317_0
    have HL317_0 := aK (show Kd.R (Kd.int .i64) 3 _ _ _ _ (rd_L11 x3_2 (rd ((rd_T104 l0 x4_1).f2) x5_2)) from ge317_0)
    clear hv317_0 ge317_0
    have HX317_0 := aK hx317_0
    clear hcc317 hce317
    have HR317_0 := aK hi317_0
    have HC317_0 := aK hl317_0
    clear hi317_0 hl317_0
    replace p317 := eq_true p317
    replace q317 := eq_true q317
    obtain ⟨go17, co17, eo17, gb17, gl17, cl17, HG17⟩ := Kd.S_form HO_3.out (by have h_ : ((rd ((rd_T104 l0 x4_1).f2) x5_2) : Int) < ((x3_2.length : Int) : Int) := tD; have h2_ : 0 ≤ ((rd ((rd_T104 l0 x4_1).f2) x5_2) : Int) := (tD); omega)
    (first | cases eo17 | (injection eo17 with ea_ en_ ec_; (first | subst ea_ | (injection ea_ with ea_; subst ea_)); subst ec_; clear en_))
    have GB17 := aK gb17
    have GG17 := aK HG17
    clear gb17 gl17 HG17
    (first | simp only [add_plain] at hx317_0 | skip)
    obtain ⟨oki17, ce17, hcl17, hM17, hcc17, _, _, hH17⟩ := Kd.S_elem HO_3.out [] ((rd ((rd_T104 l0 x4_1).f2) x5_2) : Int) (tD) (by have h_ : ((rd ((rd_T104 l0 x4_1).f2) x5_2) : Int) < ((x3_2.length : Int) : Int) := tD; first | exact h_ | (have e_ := (Kd.S_reads' HO_3.out).1; omega) | simpa using h_)
    obtain ⟨ve17_0, rfl, ge17_0⟩ := hM17
    have hv17 := hcc17 0 _ rfl
    have hX17 := HX317_0.out
    (try simp only [add_plain] at hX17)
    (try simp only [Nat.add_zero] at hv17)
    (try rw [show ((Kd.slice 3 (Kd.int .i64))).sz = 1 from rfl, Nat.mul_one] at hv17)
    replace hv17 := oI (hv17.symm.trans hX17)
    subst hv17
    clear hX17 hcc17 hcl17
    have UU17 := aK (show Kd.R (Kd.int .i64) 3 _ w.heap.size oki17 (.slice A317_0 (rd_L11 x3_2 (rd ((rd_T104 l0 x4_1).f2) x5_2)).length c317_0) (rd_L11 x3_2 (rd ((rd_T104 l0 x4_1).f2) x5_2)) from ge17_0)
    have HH17 := aK hH17
    have HN17 := aK (Kd.S_reads' HO_3.out).1
    clear hH17 ge17_0
    refine start_ (n := 25) (S := fun w' => w'.cell? (ad312.add ((x4_1).toNat * 3)) = some (.int .i64 ((rd_T104 l0 x4_1).f0)) ∧ w'.cell? ⟨(ad312.add ((x4_1).toNat * 3)).block, (ad312.add ((x4_1).toNat * 3)).off + 1, none⟩ = some (.int .i64 ((rd_T104 l0 x4_1).f1)) ∧ w'.cell? ⟨(ad312.add ((x4_1).toNat * 3)).block, (ad312.add ((x4_1).toNat * 3)).off + 2, none⟩ = some (.slice (some ad314) ((rd_T104 l0 x4_1).f2).length c313_2) ∧ w'.cell? (ad314.add (x5_2).toNat) = some (.int .i64 (rd ((rd_T104 l0 x4_1).f2) x5_2)) ∧ w'.cell? (ad312.add ((x4_1).toNat * 3)) = some (.int .i64 ((rd_T104 l0 x4_1).f0)) ∧ w'.cell? ⟨(ad312.add ((x4_1).toNat * 3)).block, (ad312.add ((x4_1).toNat * 3)).off + 1, none⟩ = some (.int .i64 ((rd_T104 l0 x4_1).f1)) ∧ w'.cell? ⟨(ad312.add ((x4_1).toNat * 3)).block, (ad312.add ((x4_1).toNat * 3)).off + 2, none⟩ = some (.slice (some ad314) ((rd_T104 l0 x4_1).f2).length c313_2) ∧ w'.cell? (ad314.add (x5_2).toNat) = some (.int .i64 (rd ((rd_T104 l0 x4_1).f2) x5_2)) ∧ w'.cell? ⟨go17, ((rd ((rd_T104 l0 x4_1).f2) x5_2)).toNat, none⟩ = some (.slice A317_0 (rd_L11 x3_2 (rd ((rd_T104 l0 x4_1).f2) x5_2)).length c317_0)) (ds := [24]) #[F_, F_, F_, F_, F_, F_, F_, F_, F_, F_, F_, F_, F_, F_, F_, F_, F_, F_, F_, F_, F_, F_, F_, F_, F_] (by kernel_rfl) rfl rfl ⟨(cB HB.out hw313_0), (cB HB.out hw313_1), (cB HB.out hw313_2), (cB HB.out hw314_0), (cB HB.out hw315_0), (cB HB.out hw315_1), (cB HB.out hw315_2), (cB HB.out hw316_0), hx317_0⟩ (fun hHeld => ?_); refine with_tabW ontimeref24_Prev.tab8 ontimeref24_Prev.bits8 (fun HT_ HW_ => ?_)
    generalize wr.drew = w15 at HO_3 HB GG17 HH17 HL317_0 HR313_2 HR315_2 HR317_0 HX317_0 UU17 hx313_0 hx313_1 hx313_2 hx314_0 hx315_0 hx315_1 hx315_2 hx316_0 hx317_0 hHeld ⊢
    refine pure_ (i := 0) (N := some 25) (v := ?_) (a' := ?_) #[T_, F_, F_, F_, F_, F_, F_, F_, F_, F_, F_, F_, F_, F_, F_, F_, F_, F_, F_, F_, F_, F_, F_, F_, F_] rfl rfl (any_of HT_.out (by kernel_rfl)) (fun _ _ _ h => h) (Or.inl ⟨by rfl, ?_⟩) ?_ ?_
    rotate_left
    ·intro w'
     go_simp
     with_reducible rfl
    rotate_left
    ·simp only [Act.put, pA, pB, pC, i64_w, i32_w]
     rfl
    refine pure_ (i := 1) (N := some 26) (v := ?_) (a' := ?_) #[T_, T_, F_, F_, F_, F_, F_, F_, F_, F_, F_, F_, F_, F_, F_, F_, F_, F_, F_, F_, F_, F_, F_, F_, F_] rfl rfl (any_of HT_.out (by kernel_rfl)) (fun _ _ _ h => h) (Or.inl ⟨by rfl, ?_⟩) ?_ ?_
    rotate_left
    ·intro w'
     go_simp
     with_reducible rfl
    rotate_left
    ·simp only [Act.put, pA, pB, pC, i64_w, i32_w]
     rfl
    refine pure_ (i := 2) (N := some 27) (v := ?_) (a' := ?_) #[T_, T_, T_, F_, F_, F_, F_, F_, F_, F_, F_, F_, F_, F_, F_, F_, F_, F_, F_, F_, F_, F_, F_, F_, F_] rfl rfl (any_of HT_.out (by kernel_rfl)) (fun _ _ _ h => h) (Or.inl ⟨by rfl, ?_⟩) ?_ ?_
    rotate_left
    ·intro w'
     go_simp
     with_reducible rfl
    rotate_left
    ·simp only [Act.put, pA, pB, pC, i64_w, i32_w]
     rfl
    refine pure_ (i := 3) (N := some 28) (v := ?_) (a' := ?_) #[T_, T_, T_, T_, F_, F_, F_, F_, F_, F_, F_, F_, F_, F_, F_, F_, F_, F_, F_, F_, F_, F_, F_, F_, F_] rfl rfl (any_of HT_.out (by kernel_rfl)) (fun _ _ _ h => h) (Or.inl ⟨by rfl, ?_⟩) ?_ ?_
    rotate_left
    ·intro w'
     go_simp
     with_reducible rfl
    rotate_left
    ·simp only [Act.put, pA, pB, pC, i64_w, i32_w]
     rfl
    refine pure_ (i := 4) (N := some 29) (v := ?_) (a' := ?_) #[T_, T_, T_, T_, T_, F_, F_, F_, F_, F_, F_, F_, F_, F_, F_, F_, F_, F_, F_, F_, F_, F_, F_, F_, F_] rfl rfl (any_of HT_.out (by kernel_rfl)) (fun _ _ _ h => h) (Or.inl ⟨by rfl, ?_⟩) ?_ ?_
    rotate_left
    ·intro w'
     go_simp
     with_reducible rfl
    rotate_left
    ·simp only [Act.put, pA, pB, pC, i64_w, i32_w]
     rfl
    refine pure_ (i := 6) (N := some 31) (v := ?_) (a' := ?_) #[T_, T_, T_, T_, T_, F_, T_, F_, F_, F_, F_, F_, F_, F_, F_, F_, F_, F_, F_, F_, F_, F_, F_, F_, F_] rfl rfl (any_of HT_.out (by kernel_rfl)) (fun _ _ _ h => h) (Or.inl ⟨by rfl, ?_⟩) ?_ ?_
    rotate_left
    ·intro w'
     go_simp
     with_reducible rfl
    rotate_left
    ·simp only [Act.put, pA, pB, pC, i64_w, i32_w]
     rfl
    refine pure_ (i := 9) (N := some 34) (v := ?_) (a' := ?_) #[T_, T_, T_, T_, T_, F_, T_, F_, F_, T_, F_, F_, F_, F_, F_, F_, F_, F_, F_, F_, F_, F_, F_, F_, F_] rfl rfl (any_of HT_.out (by kernel_rfl)) (fun _ _ _ h => h) (Or.inl ⟨by rfl, ?_⟩) ?_ ?_
    rotate_left
    ·intro w'
     go_simp
     with_reducible rfl
    rotate_left
    ·simp only [Act.put, pA, pB, pC, i64_w, i32_w]
     rfl
    refine pure_ (i := 10) (N := some 35) (v := ?_) (a' := ?_) #[T_, T_, T_, T_, T_, F_, T_, F_, F_, T_, T_, F_, F_, F_, F_, F_, F_, F_, F_, F_, F_, F_, F_, F_, F_] rfl rfl (any_of HT_.out (by kernel_rfl)) (fun _ _ _ h => h) (Or.inl ⟨by rfl, ?_⟩) ?_ ?_
    rotate_left
    ·intro w'
     go_simp
     with_reducible rfl
    rotate_left
    ·simp only [Act.put, pA, pB, pC, i64_w, i32_w]
     rfl
    refine pure_ (i := 11) (N := some 36) (v := ?_) (a' := ?_) #[T_, T_, T_, T_, T_, F_, T_, F_, F_, T_, T_, T_, F_, F_, F_, F_, F_, F_, F_, F_, F_, F_, F_, F_, F_] rfl rfl (any_of HT_.out (by kernel_rfl)) (fun _ _ _ h => h) (Or.inl ⟨by rfl, ?_⟩) ?_ ?_
    rotate_left
    ·intro w'
     go_simp
     with_reducible rfl
    rotate_left
    ·simp only [Act.put, pA, pB, pC, i64_w, i32_w]
     rfl
    refine pure_ (i := 12) (N := some 37) (v := ?_) (a' := ?_) #[T_, T_, T_, T_, T_, F_, T_, F_, F_, T_, T_, T_, T_, F_, F_, F_, F_, F_, F_, F_, F_, F_, F_, F_, F_] rfl rfl (any_of HT_.out (by kernel_rfl)) (fun _ _ _ h => h) (Or.inl ⟨by rfl, ?_⟩) ?_ ?_
    rotate_left
    ·intro w'
     go_simp
     with_reducible rfl
    rotate_left
    ·simp only [Act.put, pA, pB, pC, i64_w, i32_w]
     rfl
    refine pure_ (i := 13) (N := some 38) (v := ?_) (a' := ?_) #[T_, T_, T_, T_, T_, F_, T_, F_, F_, T_, T_, T_, T_, T_, F_, F_, F_, F_, F_, F_, F_, F_, F_, F_, F_] rfl rfl (any_of HT_.out (by kernel_rfl)) (fun _ _ _ h => h) (Or.inl ⟨by rfl, ?_⟩) ?_ ?_
    rotate_left
    ·intro w'
     go_simp
     with_reducible rfl
    rotate_left
    ·simp only [Act.put, pA, pB, pC, i64_w, i32_w]
     rfl
    refine pure_ (i := 15) (N := some 40) (v := ?_) (a' := ?_) #[T_, T_, T_, T_, T_, F_, T_, F_, F_, T_, T_, T_, T_, T_, F_, T_, F_, F_, F_, F_, F_, F_, F_, F_, F_] rfl rfl (any_of HT_.out (by kernel_rfl)) (fun _ _ _ h => h) (Or.inl ⟨by rfl, ?_⟩) ?_ ?_
    rotate_left
    ·intro w'
     go_simp
     with_reducible rfl
    rotate_left
    ·simp only [Act.put, pA, pB, pC, i64_w, i32_w]
     rfl
    refine pure_ (i := 20) (N := some 45) (v := ?_) (a' := ?_) #[T_, T_, T_, T_, T_, F_, T_, F_, F_, T_, T_, T_, T_, T_, F_, T_, F_, F_, F_, F_, T_, F_, F_, F_, F_] rfl rfl (any_of HT_.out (by kernel_rfl)) (fun _ _ _ h => h) (Or.inl ⟨by rfl, ?_⟩) ?_ ?_
    rotate_left
    ·intro w'
     go_simp
     with_reducible rfl
    rotate_left
    ·simp only [Act.put, pA, pB, pC, i64_w, i32_w]
     rfl
    refine take_ (i := 5) (N := some 30) (v := ?_) (a' := ?_) #[T_, T_, T_, T_, T_, T_, T_, F_, F_, T_, T_, T_, T_, T_, F_, T_, F_, F_, F_, F_, T_, F_, F_, F_, F_] rfl rfl (take_ofW HT_.out HW_.out (by kernel_rfl)) (fun _ _ _ h => h) (Or.inl ⟨by rfl, ?_⟩) hHeld ?_ ?_
    rotate_left
    ·rintro w' ⟨s0, s1, s2, s3, s4, s5, s6, s7, s8⟩
     go_simp
     with_reducible rfl
    rotate_left
    ·simp only [Act.put, pA, pB, pC, i64_w, i32_w]
     rfl
    refine pure_ (i := 7) (N := some 32) (v := ?_) (a' := ?_) #[T_, T_, T_, T_, T_, T_, T_, T_, F_, T_, T_, T_, T_, T_, F_, T_, F_, F_, F_, F_, T_, F_, F_, F_, F_] rfl rfl (any_of HT_.out (by kernel_rfl)) (fun _ _ _ h => h) (Or.inl ⟨by rfl, ?_⟩) ?_ ?_
    rotate_left
    ·intro w'
     go_simp
     with_reducible rfl
    rotate_left
    ·simp only [Act.put, pA, pB, pC, i64_w, i32_w]
     rfl
    refine take_ (i := 8) (N := some 33) (v := ?_) (a' := ?_) #[T_, T_, T_, T_, T_, T_, T_, T_, T_, T_, T_, T_, T_, T_, F_, T_, F_, F_, F_, F_, T_, F_, F_, F_, F_] rfl rfl (take_ofW HT_.out HW_.out (by kernel_rfl)) (fun _ _ _ h => h) (Or.inl ⟨by rfl, ?_⟩) hHeld ?_ ?_
    rotate_left
    ·rintro w' ⟨s0, s1, s2, s3, s4, s5, s6, s7, s8⟩
     go_simp
     with_reducible rfl
    rotate_left
    ·simp only [Act.put, pA, pB, pC, i64_w, i32_w]
     rfl
    refine take_ (i := 14) (N := some 39) (v := ?_) (a' := ?_) #[T_, T_, T_, T_, T_, T_, T_, T_, T_, T_, T_, T_, T_, T_, T_, T_, F_, F_, F_, F_, T_, F_, F_, F_, F_] rfl rfl (take_ofW HT_.out HW_.out (by kernel_rfl)) (fun _ _ _ h => h) (Or.inl ⟨by rfl, ?_⟩) hHeld ?_ ?_
    rotate_left
    ·rintro w' ⟨s0, s1, s2, s3, s4, s5, s6, s7, s8⟩
     go_simp
     with_reducible rfl
    rotate_left
    ·simp only [Act.put, pA, pB, pC, i64_w, i32_w]
     rfl
    refine pure_ (i := 16) (N := some 41) (v := ?_) (a' := ?_) #[T_, T_, T_, T_, T_, T_, T_, T_, T_, T_, T_, T_, T_, T_, T_, T_, T_, F_, F_, F_, T_, F_, F_, F_, F_] rfl rfl (any_of HT_.out (by kernel_rfl)) (fun _ _ _ h => h) (Or.inl ⟨by rfl, ?_⟩) ?_ ?_
    rotate_left
    ·intro w'
     go_simp
     with_reducible rfl
    rotate_left
    ·simp only [Act.put, pA, pB, pC, i64_w, i32_w]
     rfl
    refine take_ (i := 17) (N := some 42) (v := ?_) (a' := ?_) #[T_, T_, T_, T_, T_, T_, T_, T_, T_, T_, T_, T_, T_, T_, T_, T_, T_, T_, F_, F_, T_, F_, F_, F_, F_] rfl rfl (take_ofW HT_.out HW_.out (by kernel_rfl)) (fun _ _ _ h => h) (Or.inl ⟨by rfl, ?_⟩) hHeld ?_ ?_
    rotate_left
    ·rintro w' ⟨s0, s1, s2, s3, s4, s5, s6, s7, s8⟩
     go_simp
     with_reducible rfl
    rotate_left
    ·simp only [Act.put, pA, pB, pC, i64_w, i32_w]
     rfl
    refine pure_ (i := 18) (N := some 43) (v := ?_) (a' := ?_) #[T_, T_, T_, T_, T_, T_, T_, T_, T_, T_, T_, T_, T_, T_, T_, T_, T_, T_, T_, F_, T_, F_, F_, F_, F_] rfl rfl (any_of HT_.out (by kernel_rfl)) (fun _ _ _ h => h) (Or.inl ⟨by rfl, ?_⟩) ?_ ?_
    rotate_left
    ·intro w'
     go_simp
     with_reducible rfl
    rotate_left
    ·simp only [Act.put, pA, pB, pC, i64_w, i32_w]
     rfl
    refine take_ (i := 19) (N := some 44) (v := ?_) (a' := ?_) #[T_, T_, T_, T_, T_, T_, T_, T_, T_, T_, T_, T_, T_, T_, T_, T_, T_, T_, T_, T_, T_, F_, F_, F_, F_] rfl rfl (take_ofW HT_.out HW_.out (by kernel_rfl)) (fun _ _ _ h => h) (Or.inl ⟨by rfl, ?_⟩) hHeld ?_ ?_
    rotate_left
    ·rintro w' ⟨s0, s1, s2, s3, s4, s5, s6, s7, s8⟩
     go_simp
     with_reducible rfl
    rotate_left
    ·simp only [Act.put, pA, pB, pC, i64_w, i32_w]
     rfl
    refine one_ (i := 21) (N := some 46) #[T_, T_, T_, T_, T_, T_, T_, T_, T_, T_, T_, T_, T_, T_, T_, T_, T_, T_, T_, T_, T_, T_, F_, F_, F_] rfl rfl (one_of HT_.out (by kernel_rfl)) (by decide) (fun K hK => ?_)
    refine value_ (w1 := ?_) (v := ?_) (by rfl) rfl ?_ ?_
    rotate_left 2
    ·go_simp
     constructor
     ·rfl
     ·rfl
    refine hK.out _ _ ⟨(World.cell?_alloc_lt _ _ _ (World.block_lt_of_cell? _ _ ((cB HB.out hw313_0)))).trans ((cB HB.out hw313_0)), (World.cell?_alloc_lt _ _ _ (World.block_lt_of_cell? _ _ ((cB HB.out hw313_1)))).trans ((cB HB.out hw313_1)), (World.cell?_alloc_lt _ _ _ (World.block_lt_of_cell? _ _ ((cB HB.out hw313_2)))).trans ((cB HB.out hw313_2)), (World.cell?_alloc_lt _ _ _ (World.block_lt_of_cell? _ _ ((cB HB.out hw314_0)))).trans ((cB HB.out hw314_0)), (World.cell?_alloc_lt _ _ _ (World.block_lt_of_cell? _ _ ((cB HB.out hw315_0)))).trans ((cB HB.out hw315_0)), (World.cell?_alloc_lt _ _ _ (World.block_lt_of_cell? _ _ ((cB HB.out hw315_1)))).trans ((cB HB.out hw315_1)), (World.cell?_alloc_lt _ _ _ (World.block_lt_of_cell? _ _ ((cB HB.out hw315_2)))).trans ((cB HB.out hw315_2)), (World.cell?_alloc_lt _ _ _ (World.block_lt_of_cell? _ _ ((cB HB.out hw316_0)))).trans ((cB HB.out hw316_0)), (World.cell?_alloc_lt _ _ _ (World.block_lt_of_cell? _ _ (hHeld.2.2.2.2.2.2.2.2))).trans (hHeld.2.2.2.2.2.2.2.2)⟩ (fun hHeld => ?_)
    clear hK K
    refine norm_ (a' := ?_) ?_ ?_
    rotate_left
    ·show Act.put _ (some 46) _ = _
     simp only [Act.put, pA, pB, pC, i64_w, i32_w]
     rfl
    refine one_ (i := 22) (N := some 47) #[T_, T_, T_, T_, T_, T_, T_, T_, T_, T_, T_, T_, T_, T_, T_, T_, T_, T_, T_, T_, T_, T_, T_, F_, F_] rfl rfl (one_of HT_.out (by kernel_rfl)) (by decide) (fun K hK => ?_)
    refine Kd.R_append_step (Kd.int .i64) (w0 := w) w.heap.size (by rfl) (.tmp 44) (.tmp 46) 49 3 (.int .i64 0) 8 rfl Try.underlying49 info3 rfl (by decide) (by omega) (.slice A317_0 (rd_L11 x3_2 (rd ((rd_T104 l0 x4_1).f2) x5_2)).length c317_0) (rd_L11 x3_2 (rd ((rd_T104 l0 x4_1).f2) x5_2)) x4_1 [.int .i64 x4_1] (fun k_ => oki17 k_ ∨ ((fun _ => True)) k_ ∧ w15.heap.size ≤ k_) (fun _ => False) rfl rfl ?aP (fun _ hk => hk.elim) ?aF ?aO ?aB ?aS ?aL ?_
    (case aP => exact rfl)
    (case aB => exact (tB0 HB.out))
    (case aF => exact (fun k_ hk => .inr ⟨trivial, hk⟩))
    (case aO => exact (by (with_reducible repeat (first | apply Kd.R_alloc | apply Kd.R_drewN | apply Kd.R_drew)); exact Kd.R_mono UU17.out (fun _ hk => .inl hk)))
    (case aS => exact (below_size (tB0 HB.out)))
    (case aL => have := LMc13.out; omega)
    intro v319 w18 ho hb hg hat
    (first | have HS8_ := cell_grown hg (hHeld.2.2.2.2.2.2.2.2) (by first | (rw [add_block]; exact (fun e_ => ((HL317_0.out.1 _ e_.symm).2) rfl)) | (show some (Addr.add _ _).block ≠ _; rw [add_block]; exact (fun e_ => ((HL317_0.out.1 _ e_.symm).2) rfl)) | exact (fun e_ => ((HL317_0.out.1 _ e_.symm).2) rfl)) | have HS8_ := cell_grown hg (cell_unalloc (hHeld.2.2.2.2.2.2.2.2) (by first | (rw [add_block]; exact Kd.S_lt HO_3.out _ rfl) | (show (Addr.add _ _).block < _; rw [add_block]; exact Kd.S_lt HO_3.out _ rfl) | exact Kd.S_lt HO_3.out _ rfl)) (by first | (rw [add_block]; exact (fun e_ => ((HL317_0.out.1 _ e_.symm).2) rfl)) | (show some (Addr.add _ _).block ≠ _; rw [add_block]; exact (fun e_ => ((HL317_0.out.1 _ e_.symm).2) rfl)) | exact (fun e_ => ((HL317_0.out.1 _ e_.symm).2) rfl)))
    rw [← Ny318.out] at ho
    have n0_ := aK (hb)
    have n1_ := aK (Kd.H_grown (Kd.H_widen (by repeat (first | exact HH17.out | refine Kd.H_alloc ?_ _ | refine Kd.H_drewN ?_ _ | refine Kd.H_drew ?_))) hg (fun k_ e_ => .inl (UU17.out.1 k_ e_)))
    have n2_ := aK (ho)
    clear HB HH17 HO_3 UU17 HL317_0
    have HB := n0_
    have HH17 := n1_
    have HO320 := n2_
    clear n0_ n1_ n2_ ho hb hg hat
    have p14 : 0 ≤ ((rd ((rd_T104 l0 x4_1).f2) x5_2) : Int) := tD
    have q14 : ((rd ((rd_T104 l0 x4_1).f2) x5_2) : Int) < ((x3_2.length : Int) : Int) := tD
    replace p14 := eq_true p14
    replace q14 := eq_true q14
    obtain ⟨Ao21, co21, eo21⟩ := Kd.R_slice HO320.out
    (first | subst eo21 | (injection eo21 with f1_ f2_ f3_; have f4_ := f1_.symm; have f5_ := f3_.symm; clear f1_ f2_ f3_; subst f4_; subst f5_))
    obtain ⟨_, _, hraw19, _, _, hcc19, _⟩ := Kd.H_raw HH17.out (tD) (by have h_ : ((rd ((rd_T104 l0 x4_1).f2) x5_2) : Int) < ((x3_2.length : Int) : Int) := tD; first | exact h_ | (have e_ := (HN17.out); omega) | simpa using h_)
    obtain ⟨_, hfr19⟩ := Kd.H_at HH17.out (tD) (by have h_ : ((rd ((rd_T104 l0 x4_1).f2) x5_2) : Int) < ((x3_2.length : Int) : Int) := tD; first | exact h_ | (have e_ := (HN17.out); omega) | simpa using h_)
    have hx19_0 := hcc19 0 _ rfl
    have hf19_0 := hfr19 0
    (try simp only [Nat.add_zero] at hx19_0 hf19_0)
    (try rw [show ((Kd.slice 3 (Kd.int .i64))).sz = 1 from rfl, Nat.mul_one] at hx19_0)
    (try rw [show ((Kd.slice 3 (Kd.int .i64))).sz = 1 from rfl, Nat.mul_one] at hf19_0)
    have HP19 := Kd.S_seg0 HH17.out (tD) (by have h_ : ((rd ((rd_T104 l0 x4_1).f2) x5_2) : Int) < ((x3_2.length : Int) : Int) := tD; first | exact h_ | (have e_ := (HN17.out); omega) | simpa using h_) (seg := [.slice Ao21 y318.length co21]) (j := 0) (show 1 ≤ 1 from by decide) (x' := y318) (Kd.M_row HO320.out) (fun _ hk => hk)
    (try simp only [show ((Kd.slice 3 (Kd.int .i64))).sz = 1 from rfl, Nat.mul_one, Nat.add_zero] at HP19)
    clear hcc19 hfr19
    have HS19 := HP19.1
    rw [← Ny321.out] at HS19
    have HQ19 := aK HS19
    obtain ⟨_, hgg19⟩ := Kd.R_typed hraw19 go17 rfl
    have GG19_ := aK hgg19
    clear HP19 HS19 hgg19
    refine hK.out _ _ ⟨(cB HB.out hw313_0), (cB HB.out hw313_1), (cB HB.out hw313_2), (cB HB.out hw314_0), (cB HB.out hw315_0), (cB HB.out hw315_1), (cB HB.out hw315_2), (cB HB.out hw316_0), HS8_⟩ (fun hHeld => ?_)
    clear hK K
    refine norm_ (a' := ?_) ?_ ?_
    rotate_left
    ·show Act.put _ (some 47) _ = _
     simp only [Act.put, pA, pB, pC, i64_w, i32_w]
     rfl
    refine pure_ (i := 23) (N := some 48) (v := ?_) (a' := ?_) #[T_, T_, T_, T_, T_, T_, T_, T_, T_, T_, T_, T_, T_, T_, T_, T_, T_, T_, T_, T_, T_, T_, T_, T_, F_] rfl rfl (any_of HT_.out (by kernel_rfl)) (fun _ _ _ h => h) (Or.inl ⟨by rfl, ?_⟩) ?_ ?_
    rotate_left
    ·intro w'
     go_simp
     with_reducible rfl
    rotate_left
    ·simp only [Act.put, pA, pB, pC, i64_w, i32_w]
     rfl
    refine last_ (i := 24) (N := none) #[T_, T_, T_, T_, T_, T_, T_, T_, T_, T_, T_, T_, T_, T_, T_, T_, T_, T_, T_, T_, T_, T_, T_, T_, T_] rfl rfl (one_of HT_.out (by kernel_rfl)) (by decide) (fun K hK => ?_)
    refine skip_ (w1 := ?_) (by rfl) rfl ?_ ?_
    rotate_left
    ·go_simp
     rfl
    refine hK.out _ _ ?_
    clear hK K
    refine done_ (done_of HT_.out (by kernel_rfl)) ?_
    try go_wp2
    go_roundg k2
    case measure => have := HK1.out; have := HK2.out; omega
    case rel => exact ⟨(y321), (wrap64 (x5_2 + 1)), (by first | rfl | (simp; done) | (simp [*]; done)), H', ⟨by have := HK1.out; have := HK2.out; omega⟩, ⟨tS HQ19.out⟩, ⟨tB1 HB.out GB17.out⟩⟩
   ·rw [if_neg c9] at H
    have c9b0 : decide (x5_2 < (((rd_T104 l0 x4_1).f2).length : Int)) = false := decide_eq_false c9
    clear c9
    have H' := aK H
    clear H
    have p312 : 0 ≤ (x4_1 : Int) := tD
    have q312 : x4_1 < (l0.length : Int) := tD
    obtain ⟨ad312, A312_2, c312_2, e312, hx312_0, hx312_1, hx312_2, hl312_2, hi312_2⟩ := at_T104 HR0.out x4_1 p312 q312
    cases e312
    replace hx312_0 := cB HB.out hx312_0
    replace hx312_1 := cB HB.out hx312_1
    replace hx312_2 := cB HB.out hx312_2
    have HR312_2 := aK hi312_2
    have HC312_2 := aK hl312_2
    clear hi312_2 hl312_2
    replace p312 := eq_true p312
    replace q312 := eq_true q312
    go_wp2
    go_roundg k2
    case measure => have := HK1.out; have := HK2.out; omega
    case rel => exact ⟨(x3_2), (wrap64 (x4_1 + 1)), (by first | rfl | (simp; done) | (simp [*]; done)), H', ⟨by have := HK1.out; have := HK2.out; omega⟩, ⟨tS HO_3.out⟩, ⟨tB0 HB.out⟩⟩
end Go.Proofs.Ytihmfdndiicjgaa.C
