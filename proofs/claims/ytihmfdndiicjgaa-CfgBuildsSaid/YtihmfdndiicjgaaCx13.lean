import Derived.Test.YtihmfdndiicjgaaCx0
import Derived.Test.YtihmfdndiicjgaaCx9
namespace Go.Proofs.Ytihmfdndiicjgaa.C
open Go.RowKit Go.Proofs.YtihmfdndiicjgaaW.PrintWords Go.Proofs.YtihmfdndiicjgaaW.PrintLast Go.Proofs.YtihmfdndiicjgaaW.PrintMore
attribute [local go_sem] max2_int min2_int max_two min_two max_three min_three max_four min_four   -- for this text's walks alone
set_option linter.unusedVariables false
set_option linter.unusedSimpArgs false
def ontimeref24_Find.l0 : Nat → List (S104) → Int → Int → Option (Int)
 | 0, _, _, _ => none
 | k + 1, x0, x1, x5 => if x5 < (x0.length : Int) then (if 0 ≤ x5 then (if x1 ≥ ((rd_T104 x0 x5).f0) then (if x1 < ((rd_T104 x0 x5).f1) then (some x5) else (ontimeref24_Find.l0 k x0 x1 (wrap64 (x5 + 1)))) else (ontimeref24_Find.l0 k x0 x1 (wrap64 (x5 + 1)))) else (none)) else (some (-1))
def ontimeref24_Find.f (k : Nat) (l0 : List (S104)) (a1 : Int) : Option (Int) := ontimeref24_Find.l0 k l0 a1 0
set_option maxHeartbeats 8000000 in
set_option maxRecDepth 100000 in
theorem ontimeref24_Find.calls (k : Nat) (A0 : Option Addr) (c0 : Nat) (l0 : List (S104)) (a1 : Int) (r : Int) (w : World) (hr0 : Kd.C k104 w A0 l0.length l0) (hc0 : l0.length ≤ c0) (h : ontimeref24_Find.f k l0 a1 = some r) :
  Calls Try.prog 31 #[.slice A0 l0.length c0, .int .i64 a1] w fun e w' => e = .returned (.int .i64 r) ∧ Drawn0 w w' := by
 have HR0 := aK hr0
 have HC0 := aK hc0
 clear hr0 hc0
 have H : (ontimeref24_Find.l0 k l0 a1 0) = some r := h
 clear h
 have H' := aK H
 clear H
 go_enter Try.func31, Try.ntmps31
 go_wp2
 go_loopg [5] k (fun kq v5 w' => ∃ (x5_1 : Int), v5 = .int .i64 x5_1 ∧ Aside0 (ontimeref24_Find.l0 kq l0 a1 x5_1 = some r) ∧ Aside0 (kq ≤ k) ∧ Drawn0 w w')
 case atStart => exact ⟨(0), (by first | rfl | (simp; done) | (simp [*]; done)), H', ⟨Nat.le_refl _⟩, by repeat (first | exact Drawn0.refl _ | apply Drawn0.step)⟩
 clear H'
 obtain ⟨x5_1, rfl, HA, HK1, ⟨m1, rfl⟩⟩ := hrel
 cases gk with
 | zero => exact absurd HA.out (by simp [ontimeref24_Find.l0])
 | succ k1 =>
  have H := HA.out
  clear HA
  simp only [ontimeref24_Find.l0] at H
  by_cases c3 : x5_1 < (l0.length : Int)
  rotate_left
  ·rw [if_neg c3] at H
   have c3b0 : decide (x5_1 < (l0.length : Int)) = false := decide_eq_false c3
   clear c3
   obtain rfl := oI H
   go_wp2
   go_ret
   exact ⟨by first | rfl | (simp; done) | (simp [*]; done), by repeat (first | exact Drawn0.refl _ | apply Drawn0.step)⟩
  rw [if_pos c3] at H
  have c3b0 : decide (x5_1 < (l0.length : Int)) = true := decide_eq_true c3
  clear c3
  by_cases c4 : 0 ≤ x5_1
  rotate_left
  ·rw [if_neg c4] at H
   exact absurd H (by simp)
  rw [if_pos c4] at H
  have c4b0 : decide (0 ≤ x5_1) = true := decide_eq_true c4
  clear c4
  by_cases c5 : a1 ≥ ((rd_T104 l0 x5_1).f0)
  ·rw [if_pos c5] at H
   have c5b0 : decide (((rd_T104 l0 x5_1).f0) ≤ a1) = true := decide_eq_true c5
   clear c5
   by_cases c6 : a1 < ((rd_T104 l0 x5_1).f1)
   ·rw [if_pos c6] at H
    have c6b0 : decide (a1 < ((rd_T104 l0 x5_1).f1)) = true := decide_eq_true c6
    clear c6
    obtain rfl := oI H
    have p335 : 0 ≤ (x5_1 : Int) := tD
    have q335 : x5_1 < (l0.length : Int) := tD
    obtain ⟨ad335, A335_2, c335_2, e335, hx335_0, hx335_1, hx335_2, hl335_2, hi335_2⟩ := at_T104 HR0.out x5_1 p335 q335
    cases e335
    have HR335_2 := aK hi335_2
    have HC335_2 := aK hl335_2
    clear hi335_2 hl335_2
    replace p335 := eq_true p335
    replace q335 := eq_true q335
    have p336 : 0 ≤ (x5_1 : Int) := tD
    have q336 : x5_1 < (l0.length : Int) := tD
    obtain ⟨ad336, A336_2, c336_2, e336, hx336_0, hx336_1, hx336_2, hl336_2, hi336_2⟩ := at_T104 HR0.out x5_1 p336 q336
    obtain rfl : ad335 = ad336 := (by injection e336)
    have HR336_2 := aK hi336_2
    have HC336_2 := aK hl336_2
    clear hi336_2 hl336_2
    replace p336 := eq_true p336
    replace q336 := eq_true q336
    have ea_ := oI (hx335_2.symm.trans hx336_2)
    injection ea_ with ea_ en_ ec_
    subst ea_
    subst ec_
    clear en_
    go_wp2
    go_ret
    exact ⟨by first | rfl | (simp; done) | (simp [*]; done), by repeat (first | exact Drawn0.refl _ | apply Drawn0.step)⟩
   ·rw [if_neg c6] at H
    have c6b0 : decide (a1 < ((rd_T104 l0 x5_1).f1)) = false := decide_eq_false c6
    clear c6
    have H' := aK H
    clear H
    have p335 : 0 ≤ (x5_1 : Int) := tD
    have q335 : x5_1 < (l0.length : Int) := tD
    obtain ⟨ad335, A335_2, c335_2, e335, hx335_0, hx335_1, hx335_2, hl335_2, hi335_2⟩ := at_T104 HR0.out x5_1 p335 q335
    cases e335
    have HR335_2 := aK hi335_2
    have HC335_2 := aK hl335_2
    clear hi335_2 hl335_2
    replace p335 := eq_true p335
    replace q335 := eq_true q335
    have p336 : 0 ≤ (x5_1 : Int) := tD
    have q336 : x5_1 < (l0.length : Int) := tD
    obtain ⟨ad336, A336_2, c336_2, e336, hx336_0, hx336_1, hx336_2, hl336_2, hi336_2⟩ := at_T104 HR0.out x5_1 p336 q336
    obtain rfl : ad335 = ad336 := (by injection e336)
    have HR336_2 := aK hi336_2
    have HC336_2 := aK hl336_2
    clear hi336_2 hl336_2
    replace p336 := eq_true p336
    replace q336 := eq_true q336
    have ea_ := oI (hx335_2.symm.trans hx336_2)
    injection ea_ with ea_ en_ ec_
    subst ea_
    subst ec_
    clear en_
    go_wp2
    go_roundg k1
    case measure => have := HK1.out; omega
    case rel => exact ⟨(wrap64 (x5_1 + 1)), (by first | rfl | (simp; done) | (simp [*]; done)), H', ⟨by have := HK1.out; omega⟩, by repeat (first | exact Drawn0.refl _ | apply Drawn0.step)⟩
  ·rw [if_neg c5] at H
   have c5b0 : decide (((rd_T104 l0 x5_1).f0) ≤ a1) = false := decide_eq_false c5
   clear c5
   have H' := aK H
   clear H
   have p335 : 0 ≤ (x5_1 : Int) := tD
   have q335 : x5_1 < (l0.length : Int) := tD
   obtain ⟨ad335, A335_2, c335_2, e335, hx335_0, hx335_1, hx335_2, hl335_2, hi335_2⟩ := at_T104 HR0.out x5_1 p335 q335
   cases e335
   have HR335_2 := aK hi335_2
   have HC335_2 := aK hl335_2
   clear hi335_2 hl335_2
   replace p335 := eq_true p335
   replace q335 := eq_true q335
   go_wp2
   go_roundg k1
   case measure => have := HK1.out; omega
   case rel => exact ⟨(wrap64 (x5_1 + 1)), (by first | rfl | (simp; done) | (simp [*]; done)), H', ⟨by have := HK1.out; omega⟩, by repeat (first | exact Drawn0.refl _ | apply Drawn0.step)⟩
def ontimeref24_ends.f (a0 : Int) : Option (Bool) := if a0 = 1 then (some true) else (if a0 = 24 then (some true) else (if a0 = 22 then (some true) else (some (a0 == 23))))
set_option maxHeartbeats 8000000 in
set_option maxRecDepth 100000 in
theorem ontimeref24_ends.calls (a0 : Int) (r : Bool) (w : World) (h : ontimeref24_ends.f a0 = some r) :
  Calls Try.prog 47 #[.int .u8 a0] w fun e w' => e = .returned (.bool r) ∧ Drawn0 w w' := by
 have H : (if a0 = 1 then (some true) else (if a0 = 24 then (some true) else (if a0 = 22 then (some true) else (some (a0 == 23))))) = some r := h
 clear h
 by_cases c2 : a0 = 1
 ·rw [if_pos c2] at H
  have c2b0 : (a0 == 1) = true := beq_iff_eq.mpr c2
  have c2b1 : (a0 != 1) = false := bne_eq_false_iff_eq.mpr c2
  clear c2
  obtain rfl := oI H
  go_enter Try.func47, Try.ntmps47
  go_wp2
  go_ret
  exact ⟨by first | rfl | (simp; done) | (simp [*]; done), by repeat (first | exact Drawn0.refl _ | apply Drawn0.step)⟩
 rw [if_neg c2] at H
 have c2b0 : (a0 == 1) = false := beq_eq_false_iff_ne.mpr c2
 have c2b1 : (a0 != 1) = true := bne_iff_ne.mpr c2
 by_cases c3 : a0 = 24
 ·rw [if_pos c3] at H
  have c3b0 : (a0 == 24) = true := beq_iff_eq.mpr c3
  have c3b1 : (a0 != 24) = false := bne_eq_false_iff_eq.mpr c3
  clear c3
  obtain rfl := oI H
  go_enter Try.func47, Try.ntmps47
  go_wp2
  go_ret
  exact ⟨by first | rfl | (simp; done) | (simp [*]; done), by repeat (first | exact Drawn0.refl _ | apply Drawn0.step)⟩
 rw [if_neg c3] at H
 have c3b0 : (a0 == 24) = false := beq_eq_false_iff_ne.mpr c3
 have c3b1 : (a0 != 24) = true := bne_iff_ne.mpr c3
 by_cases c4 : a0 = 22
 rotate_left
 ·rw [if_neg c4] at H
  have c4b0 : (a0 == 22) = false := beq_eq_false_iff_ne.mpr c4
  have c4b1 : (a0 != 22) = true := bne_iff_ne.mpr c4
  obtain rfl := oI H
  go_enter Try.func47, Try.ntmps47
  go_wp2
  go_ret
  exact ⟨by first | rfl | (simp; done) | (simp [*]; done), by repeat (first | exact Drawn0.refl _ | apply Drawn0.step)⟩
 rw [if_pos c4] at H
 have c4b0 : (a0 == 22) = true := beq_iff_eq.mpr c4
 have c4b1 : (a0 != 22) = false := bne_eq_false_iff_eq.mpr c4
 clear c4
 obtain rfl := oI H
 go_enter Try.func47, Try.ntmps47
 go_wp2
 go_ret
 exact ⟨by first | rfl | (simp; done) | (simp [*]; done), by repeat (first | exact Drawn0.refl _ | apply Drawn0.step)⟩
def ontimeref24_In.l0 : Nat → List Int → Int → Int → Option (Bool)
 | 0, _, _, _ => none
 | k + 1, x0, x1, x5 => if x5 < (x0.length : Int) then (if 0 ≤ x5 then (if (rd x0 x5) = x1 then (some true) else (ontimeref24_In.l0 k x0 x1 (wrap64 (x5 + 1)))) else (none)) else (some false)
def ontimeref24_In.f (k : Nat) (l0 : List Int) (a1 : Int) : Option (Bool) := ontimeref24_In.l0 k l0 a1 0
set_option maxHeartbeats 8000000 in
set_option maxRecDepth 100000 in
theorem ontimeref24_In.calls (k : Nat) (A0 : Option Addr) (c0 : Nat) (l0 : List Int) (a1 : Int) (r : Bool) (w : World) (hr0 : Kd.C (Kd.int .i64) w A0 l0.length l0) (hc0 : l0.length ≤ c0) (h : ontimeref24_In.f k l0 a1 = some r) :
  Calls Try.prog 49 #[.slice A0 l0.length c0, .int .i64 a1] w fun e w' => e = .returned (.bool r) ∧ Drawn0 w w' := by
 have HR0 := aK hr0
 have HC0 := aK hc0
 clear hr0 hc0
 have H : (ontimeref24_In.l0 k l0 a1 0) = some r := h
 clear h
 have H' := aK H
 clear H
 go_enter Try.func49, Try.ntmps49
 go_wp2
 go_loopg [5] k (fun kq v5 w' => ∃ (x5_1 : Int), v5 = .int .i64 x5_1 ∧ Aside0 (ontimeref24_In.l0 kq l0 a1 x5_1 = some r) ∧ Aside0 (kq ≤ k) ∧ Drawn0 w w')
 case atStart => exact ⟨(0), (by first | rfl | (simp; done) | (simp [*]; done)), H', ⟨Nat.le_refl _⟩, by repeat (first | exact Drawn0.refl _ | apply Drawn0.step)⟩
 clear H'
 obtain ⟨x5_1, rfl, HA, HK1, ⟨m1, rfl⟩⟩ := hrel
 cases gk with
 | zero => exact absurd HA.out (by simp [ontimeref24_In.l0])
 | succ k1 =>
  have H := HA.out
  clear HA
  simp only [ontimeref24_In.l0] at H
  by_cases c3 : x5_1 < (l0.length : Int)
  rotate_left
  ·rw [if_neg c3] at H
   have c3b0 : decide (x5_1 < (l0.length : Int)) = false := decide_eq_false c3
   clear c3
   obtain rfl := oI H
   go_wp2
   go_ret
   exact ⟨by first | rfl | (simp; done) | (simp [*]; done), by repeat (first | exact Drawn0.refl _ | apply Drawn0.step)⟩
  rw [if_pos c3] at H
  have c3b0 : decide (x5_1 < (l0.length : Int)) = true := decide_eq_true c3
  clear c3
  by_cases c4 : 0 ≤ x5_1
  rotate_left
  ·rw [if_neg c4] at H
   exact absurd H (by simp)
  rw [if_pos c4] at H
  have c4b0 : decide (0 ≤ x5_1) = true := decide_eq_true c4
  clear c4
  by_cases c5 : (rd l0 x5_1) = a1
  ·rw [if_pos c5] at H
   have c5b0 : ((rd l0 x5_1) == a1) = true := beq_iff_eq.mpr c5
   have c5b1 : ((rd l0 x5_1) != a1) = false := bne_eq_false_iff_eq.mpr c5
   clear c5
   obtain rfl := oI H
   have p337 : 0 ≤ (x5_1 : Int) := tD
   have q337 : x5_1 < (l0.length : Int) := tD
   obtain ⟨ad337, e337, hx337_0⟩ := Kd.at_int HR0.out x5_1 p337 q337
   cases e337
   replace p337 := eq_true p337
   replace q337 := eq_true q337
   go_wp2
   go_ret
   exact ⟨by first | rfl | (simp; done) | (simp [*]; done), by repeat (first | exact Drawn0.refl _ | apply Drawn0.step)⟩
  ·rw [if_neg c5] at H
   have c5b0 : ((rd l0 x5_1) == a1) = false := beq_eq_false_iff_ne.mpr c5
   have c5b1 : ((rd l0 x5_1) != a1) = true := bne_iff_ne.mpr c5
   have H' := aK H
   clear H
   have p337 : 0 ≤ (x5_1 : Int) := tD
   have q337 : x5_1 < (l0.length : Int) := tD
   obtain ⟨ad337, e337, hx337_0⟩ := Kd.at_int HR0.out x5_1 p337 q337
   cases e337
   replace p337 := eq_true p337
   replace q337 := eq_true q337
   go_wp2
   go_roundg k1
   case measure => have := HK1.out; omega
   case rel => exact ⟨(wrap64 (x5_1 + 1)), (by first | rfl | (simp; done) | (simp [*]; done)), H', ⟨by have := HK1.out; omega⟩, by repeat (first | exact Drawn0.refl _ | apply Drawn0.step)⟩
mutual
def ontimeref24_leader.j0 : Nat → List (S53) → List Bool → Int → Int → Int → Bool → Option (Bool)
 | 0, _, _, _, _, _, _ => none
 | k + 1, x0, x1, x2, x3, x4, x22 => if x22 = true then (some true) else (ontimeref24_leader.l0 k x0 x1 x3 x4 x2)
def ontimeref24_leader.l0 : Nat → List (S53) → List Bool → Int → Int → Int → Option (Bool)
 | 0, _, _, _, _, _ => none
 | k + 1, x0, x1, x3, x4, x11 => if x11 < x3 then (if 0 ≤ x11 then (if x11 < (x1.length : Int) then (if rdOf false x1 x11 = true then (if x11 < (x0.length : Int) then ((ontimeref24_after.f ((rd_T53 x0 x11).f0) ((rd_T53 x0 x11).f1) ((rd_T53 x0 x11).f2) ((rd_T53 x0 x11).f3) ((rd_T53 x0 x11).f4) x11).bind fun t341 => ((ontimeref24_In.f k t341 x4).bind fun t344 => (ontimeref24_leader.j2 k x0 x1 x3 x4 x11 (!t344)))) else (none)) else (ontimeref24_leader.j2 k x0 x1 x3 x4 x11 true)) else (none)) else (none)) else (some false)
def ontimeref24_leader.j2 : Nat → List (S53) → List Bool → Int → Int → Int → Bool → Option (Bool)
 | 0, _, _, _, _, _, _ => none
 | k + 1, x0, x1, x3, x4, x11, x44 => if x44 = true then (ontimeref24_leader.l0 k x0 x1 x3 x4 (wrap64 (x11 + 1))) else (if 0 ≤ x11 then (if x11 < (x0.length : Int) then ((ontimeref24_ends.f ((rd_T53 x0 x11).f0)).bind fun t346 => (if t346 = true then (some true) else (if ((rd_T53 x0 x11).f0) = 29 then (some true) else (ontimeref24_leader.l0 k x0 x1 x3 x4 (wrap64 (x11 + 1)))))) else (none)) else (none))
end
def ontimeref24_leader.f (k : Nat) (l0 : List (S53)) (l1 : List Bool) (a2 : Int) (a3 : Int) (a4 : Int) : Option (Bool) := if a4 = a2 then (ontimeref24_leader.j0 k l0 l1 a2 a3 a4 true) else (if 0 ≤ a4 then (if a4 < (l0.length : Int) then (ontimeref24_leader.j0 k l0 l1 a2 a3 a4 (((rd_T53 l0 a4).f0) == 28)) else (none)) else (none))
set_option maxHeartbeats 8000000 in
set_option maxRecDepth 100000 in
theorem ontimeref24_leader.calls (k : Nat) (A0 : Option Addr) (c0 : Nat) (l0 : List (S53)) (A1 : Option Addr) (c1 : Nat) (l1 : List Bool) (a2 : Int) (a3 : Int) (a4 : Int) (r : Bool) (w : World) (hr0 : Kd.C k53 w A0 l0.length l0) (hc0 : l0.length ≤ c0) (hr1 : Kd.C Kd.bool w A1 l1.length l1) (hc1 : l1.length ≤ c1) (h : ontimeref24_leader.f k l0 l1 a2 a3 a4 = some r) :
  Calls Try.prog 48 #[.slice A0 l0.length c0, .slice A1 l1.length c1, .int .i64 a2, .int .i64 a3, .int .i64 a4] w fun e w' => e = .returned (.bool r) ∧ Below w.heap.size w w' := by
 have hu53 := Try.underlying53
 have HR0 := aK hr0
 have HC0 := aK hc0
 clear hr0 hc0
 have HR1 := aK hr1
 have HC1 := aK hc1
 clear hr1 hc1
 have HB := aK (Below.refl w.heap.size w)
 have H : (if a4 = a2 then (ontimeref24_leader.j0 k l0 l1 a2 a3 a4 true) else (if 0 ≤ a4 then (if a4 < (l0.length : Int) then (ontimeref24_leader.j0 k l0 l1 a2 a3 a4 (((rd_T53 l0 a4).f0) == 28)) else (none)) else (none))) = some r := h
 clear h
 have HC6 := aK H
 clear H
 go_enter Try.func48, Try.ntmps48
 go_upto_region 1 with (fail)
 go_cut [22] (fun v22 wc => ∃ (kq : Nat) (x22_5 : Bool), v22 = .bool x22_5 ∧ Aside0 (ontimeref24_leader.j0 kq l0 l1 a2 a3 a4 x22_5 = some r) ∧ Aside0 (kq ≤ k) ∧ Aside0 (Below w.heap.size w wc))
 case first =>
  have H := HC6.out
  clear HC6
  by_cases c7 : a4 = a2
  ·rw [if_pos c7] at H
   have c7b0 : (a4 == a2) = true := beq_iff_eq.mpr c7
   have c7b1 : (a4 != a2) = false := bne_eq_false_iff_eq.mpr c7
   clear c7
   (first | rw [c7b0] | (simp only [i64_w, i32_w]; rw [c7b0]) | skip)
   have H' := aK H
   clear H
   go_wp2
   go_meet
   case rel => exact ⟨_, (true), (by first | rfl | (simp; done) | (simp [*]; done)), H', ⟨by first | omega | exact Nat.le_refl _⟩, ⟨tB0 HB.out⟩⟩
  rw [if_neg c7] at H
  have c7b0 : (a4 == a2) = false := beq_eq_false_iff_ne.mpr c7
  have c7b1 : (a4 != a2) = true := bne_iff_ne.mpr c7
  (first | rw [c7b0] | (simp only [i64_w, i32_w]; rw [c7b0]) | skip)
  by_cases c8 : 0 ≤ a4
  rotate_left
  ·rw [if_neg c8] at H
   exact absurd H (by simp)
  rw [if_pos c8] at H
  have c8b0 : decide (0 ≤ a4) = true := decide_eq_true c8
  clear c8
  by_cases c9 : a4 < (l0.length : Int)
  rotate_left
  ·rw [if_neg c9] at H
   exact absurd H (by simp)
  rw [if_pos c9] at H
  have c9b0 : decide (a4 < (l0.length : Int)) = true := decide_eq_true c9
  clear c9
  have H' := aK H
  clear H
  have p338 : 0 ≤ (a4 : Int) := tD
  have q338 : a4 < (l0.length : Int) := tD
  obtain ⟨ad338, e338, hx338_0, hx338_1, hx338_2, hx338_3, hx338_4⟩ := at_T53 HR0.out a4 p338 q338
  cases e338
  replace hx338_0 := cB HB.out hx338_0
  replace hx338_1 := cB HB.out hx338_1
  replace hx338_2 := cB HB.out hx338_2
  replace hx338_3 := cB HB.out hx338_3
  replace hx338_4 := cB HB.out hx338_4
  replace p338 := eq_true p338
  replace q338 := eq_true q338
  go_wp2
  go_meet
  case rel => exact ⟨_, ((((rd_T53 l0 a4).f0) == 28)), (by first | rfl | (simp; done) | (simp [*]; done)), H', ⟨by first | omega | exact Nat.le_refl _⟩, ⟨tB0 HB.out⟩⟩
 clear HC6
 obtain ⟨kq, x22_5, rfl, HA, HJ5, HB⟩ := hcut
 cases kq with
 | zero => exact absurd HA.out (by simp [ontimeref24_leader.j0])
 | succ kj5 =>
  have H := HA.out
  clear HA
  simp only [ontimeref24_leader.j0] at H
  by_cases c10 : x22_5 = true
  ·subst c10
   rw [if_pos rfl] at H
   obtain rfl := oI H
   go_wp2
   go_ret
   exact ⟨by first | rfl | (simp [errW_none, errW_some] <;> rfl) | (simp [*, errW_none, errW_some] <;> rfl), by repeat (first | (with_reducible first | exact HB.out | apply below_alloc | apply pw_below_drewN | apply below_drew1) | exact HB.out)⟩
  replace c10 := Bool.eq_false_iff.mpr c10
  subst c10
  rw [if_neg (show ¬ (false = true) by decide)] at H
  have H' := aK H
  clear H
  go_wp2
  go_loopg [11] kj5 (fun kq v11 w' => ∃ (x11_2 : Int), v11 = .int .i64 x11_2 ∧ Aside0 (ontimeref24_leader.l0 kq l0 l1 a3 a4 x11_2 = some r) ∧ Aside0 (kq ≤ kj5) ∧ Aside0 (Below w.heap.size w w'))
  case atStart => exact ⟨(a2), (by first | rfl | (simp; done) | (simp [*]; done)), H', ⟨Nat.le_refl _⟩, ⟨tB0 HB.out⟩⟩
  clear H'
  obtain ⟨x11_2, rfl, HA, HK2, HB⟩ := hrel
  cases gk with
  | zero => exact absurd HA.out (by simp [ontimeref24_leader.l0])
  | succ k2 =>
   have H := HA.out
   clear HA
   simp only [ontimeref24_leader.l0] at H
   by_cases c11 : x11_2 < a3
   rotate_left
   ·rw [if_neg c11] at H
    have c11b0 : decide (x11_2 < a3) = false := decide_eq_false c11
    clear c11
    obtain rfl := oI H
    go_wp2
    go_ret
    exact ⟨by first | rfl | (simp [errW_none, errW_some] <;> rfl) | (simp [*, errW_none, errW_some] <;> rfl), by repeat (first | (with_reducible first | exact HB.out | apply below_alloc | apply pw_below_drewN | apply below_drew1) | exact HB.out)⟩
   rw [if_pos c11] at H
   have c11b0 : decide (x11_2 < a3) = true := decide_eq_true c11
   clear c11
   have HC12 := aK H
   clear H
   go_upto_region 6 with (fail)
   go_cut [44] (fun v44 wc => ∃ (kq : Nat) (x44_11 : Bool), v44 = .bool x44_11 ∧ Aside0 (ontimeref24_leader.j2 kq l0 l1 a3 a4 x11_2 x44_11 = some r) ∧ Aside0 (kq ≤ k2) ∧ Aside0 (Below w.heap.size w wc))
   case first =>
    have H := HC12.out
    clear HC12
    by_cases c13 : 0 ≤ x11_2
    rotate_left
    ·rw [if_neg c13] at H
     exact absurd H (by simp)
    rw [if_pos c13] at H
    have c13b0 : decide (0 ≤ x11_2) = true := decide_eq_true c13
    clear c13
    (first | rw [c13b0] | (simp only [i64_w, i32_w]; rw [c13b0]) | skip)
    by_cases c14 : x11_2 < (l1.length : Int)
    rotate_left
    ·rw [if_neg c14] at H
     exact absurd H (by simp)
    rw [if_pos c14] at H
    have c14b0 : decide (x11_2 < (l1.length : Int)) = true := decide_eq_true c14
    clear c14
    obtain ⟨bq15, hbq15⟩ : ∃ b_ : Bool, b_ = (rdOf false l1 x11_2) := ⟨_, rfl⟩
    replace H : (if bq15 = true then (if x11_2 < (l0.length : Int) then ((ontimeref24_after.f ((rd_T53 l0 x11_2).f0) ((rd_T53 l0 x11_2).f1) ((rd_T53 l0 x11_2).f2) ((rd_T53 l0 x11_2).f3) ((rd_T53 l0 x11_2).f4) x11_2).bind fun t341 => ((ontimeref24_In.f k2 t341 a4).bind fun t344 => (ontimeref24_leader.j2 k2 l0 l1 a3 a4 x11_2 (!t344)))) else (none)) else (ontimeref24_leader.j2 k2 l0 l1 a3 a4 x11_2 true)) = some r := by rw [← hbq15] at H; exact H
    have Nbq15 := aK hbq15
    clear hbq15
    by_cases c16 : bq15 = true
    ·subst c16
     rw [if_pos rfl] at H
     by_cases c17 : x11_2 < (l0.length : Int)
     rotate_left
     ·rw [if_neg c17] at H
      exact absurd H (by simp)
     rw [if_pos c17] at H
     have c17b0 : decide (x11_2 < (l0.length : Int)) = true := decide_eq_true c17
     clear c17
     replace H := bM H
     obtain ⟨t341, A180, H⟩ := H
     (try dsimp only at H)
     have A18 := aK A180
     clear A180
     replace H := bM H
     obtain ⟨t344, A190, H⟩ := H
     (try dsimp only at H)
     have A19 := aK A190
     clear A190
     have H' := aK H
     clear H
     have p339 : 0 ≤ (x11_2 : Int) := tD
     have q339 : x11_2 < (l1.length : Int) := tD
     obtain ⟨ad339, e339, hx339_0⟩ := Kd.at_bool HR1.out x11_2 p339 q339
     (try rw [← Nbq15.out] at hx339_0)
     cases e339
     replace hx339_0 := cB HB.out hx339_0
     replace p339 := eq_true p339
     replace q339 := eq_true q339
     have p340 : 0 ≤ (x11_2 : Int) := tD
     have q340 : x11_2 < (l0.length : Int) := tD
     obtain ⟨ad340, e340, hx340_0, hx340_1, hx340_2, hx340_3, hx340_4⟩ := at_T53 HR0.out x11_2 p340 q340
     cases e340
     replace hx340_0 := cB HB.out hx340_0
     replace hx340_1 := cB HB.out hx340_1
     replace hx340_2 := cB HB.out hx340_2
     replace hx340_3 := cB HB.out hx340_3
     replace hx340_4 := cB HB.out hx340_4
     replace p340 := eq_true p340
     replace q340 := eq_true q340
     go_wp2_with (first | (go_at_call 45; (with_reducible refine (ontimeref24_after.calls ((rd_T53 l0 x11_2).f0) ((rd_T53 l0 x11_2).f1) ((rd_T53 l0 x11_2).f2) ((rd_T53 l0 x11_2).f3) ((rd_T53 l0 x11_2).f4) x11_2 t341 _ A18.out).mono ?_); rintro e w20 ⟨v342, rfl, ho0, hb⟩; have HO343 := aK (Kd.R_lower ho0 (below_size (tB0 HB.out))); replace HB := aK (below_step (tB0 HB.out) hb); obtain ⟨Ao21, co21, eo21⟩ := Kd.R_slice HO343.out; subst eo21) | (go_at_call 49; (with_reducible refine (ontimeref24_In.calls k2 _ _ t341 a4 t344 _ ?side1 ?side2 A19.out).mono ?_); (case side1 => exact tC (Kd.R_reads' HO343.out).2.2); (case side2 => exact (Kd.R_reads' HO343.out).2.1); rintro e w' ⟨rfl, ⟨nd, rfl⟩⟩))
     go_meet
     case rel => exact ⟨_, (!t344), (by first | rfl | (simp; done) | (simp [*]; done)), H', ⟨by have := HJ5.out; have := HK2.out; first | omega | exact Nat.le_refl _⟩, ⟨tB0 HB.out⟩⟩
    ·replace c16 := Bool.eq_false_iff.mpr c16
     subst c16
     rw [if_neg (show ¬ (false = true) by decide)] at H
     have H' := aK H
     clear H
     have p339 : 0 ≤ (x11_2 : Int) := tD
     have q339 : x11_2 < (l1.length : Int) := tD
     obtain ⟨ad339, e339, hx339_0⟩ := Kd.at_bool HR1.out x11_2 p339 q339
     (try rw [← Nbq15.out] at hx339_0)
     cases e339
     replace hx339_0 := cB HB.out hx339_0
     replace p339 := eq_true p339
     replace q339 := eq_true q339
     go_wp2
     go_meet
     case rel => exact ⟨_, (true), (by first | rfl | (simp; done) | (simp [*]; done)), H', ⟨by have := HJ5.out; have := HK2.out; first | omega | exact Nat.le_refl _⟩, ⟨tB0 HB.out⟩⟩
   clear HC12
   obtain ⟨kq, x44_11, rfl, HA, HJ11, HB⟩ := hcut
   cases kq with
   | zero => exact absurd HA.out (by simp [ontimeref24_leader.j2])
   | succ kj11 =>
    have H := HA.out
    clear HA
    simp only [ontimeref24_leader.j2] at H
    by_cases c22 : x44_11 = true
    ·subst c22
     rw [if_pos rfl] at H
     have H' := aK H
     clear H
     go_wp2
     go_roundg kj11
     case measure => have := HJ5.out; have := HK2.out; have := HJ11.out; omega
     case rel => exact ⟨(wrap64 (x11_2 + 1)), (by first | rfl | (simp; done) | (simp [*]; done)), H', ⟨by have := HJ5.out; have := HK2.out; have := HJ11.out; omega⟩, ⟨tB0 HB.out⟩⟩
    replace c22 := Bool.eq_false_iff.mpr c22
    subst c22
    rw [if_neg (show ¬ (false = true) by decide)] at H
    by_cases c23 : 0 ≤ x11_2
    rotate_left
    ·rw [if_neg c23] at H
     exact absurd H (by simp)
    rw [if_pos c23] at H
    have c23b0 : decide (0 ≤ x11_2) = true := decide_eq_true c23
    clear c23
    by_cases c24 : x11_2 < (l0.length : Int)
    rotate_left
    ·rw [if_neg c24] at H
     exact absurd H (by simp)
    rw [if_pos c24] at H
    have c24b0 : decide (x11_2 < (l0.length : Int)) = true := decide_eq_true c24
    clear c24
    replace H := bM H
    obtain ⟨t346, A250, H⟩ := H
    (try dsimp only at H)
    have A25 := aK A250
    clear A250
    by_cases c26 : t346 = true
    ·subst c26
     rw [if_pos rfl] at H
     obtain rfl := oI H
     have p345 : 0 ≤ (x11_2 : Int) := tD
     have q345 : x11_2 < (l0.length : Int) := tD
     obtain ⟨ad345, e345, hx345_0, hx345_1, hx345_2, hx345_3, hx345_4⟩ := at_T53 HR0.out x11_2 p345 q345
     cases e345
     replace hx345_0 := cB HB.out hx345_0
     replace hx345_1 := cB HB.out hx345_1
     replace hx345_2 := cB HB.out hx345_2
     replace hx345_3 := cB HB.out hx345_3
     replace hx345_4 := cB HB.out hx345_4
     replace p345 := eq_true p345
     replace q345 := eq_true q345
     go_wp2_with (first | ((refine gate_callee (f := 47) rfl ?_); refine goesL_ (some 50) rfl rfl Try.func47 (by kernel_rfl) rfl #[.int .u8 ((rd_T53 l0 x11_2).f0)] rfl tF ?_; (with_reducible refine (ontimeref24_ends.calls ((rd_T53 l0 x11_2).f0) true _ A25.out).mono ?_); rintro e w' ⟨rfl, ⟨nd, rfl⟩⟩; refine ⟨_, rfl, ?_⟩))
     go_ret
     exact ⟨by first | rfl | (simp [errW_none, errW_some] <;> rfl) | (simp [*, errW_none, errW_some] <;> rfl), by repeat (first | (with_reducible first | exact HB.out | apply below_alloc | apply pw_below_drewN | apply below_drew1) | exact HB.out)⟩
    ·replace c26 := Bool.eq_false_iff.mpr c26
     subst c26
     rw [if_neg (show ¬ (false = true) by decide)] at H
     by_cases c27 : ((rd_T53 l0 x11_2).f0) = 29
     ·rw [if_pos c27] at H
      have c27b0 : (((rd_T53 l0 x11_2).f0) == 29) = true := beq_iff_eq.mpr c27
      have c27b1 : (((rd_T53 l0 x11_2).f0) != 29) = false := bne_eq_false_iff_eq.mpr c27
      clear c27
      obtain rfl := oI H
      have p345 : 0 ≤ (x11_2 : Int) := tD
      have q345 : x11_2 < (l0.length : Int) := tD
      obtain ⟨ad345, e345, hx345_0, hx345_1, hx345_2, hx345_3, hx345_4⟩ := at_T53 HR0.out x11_2 p345 q345
      cases e345
      replace hx345_0 := cB HB.out hx345_0
      replace hx345_1 := cB HB.out hx345_1
      replace hx345_2 := cB HB.out hx345_2
      replace hx345_3 := cB HB.out hx345_3
      replace hx345_4 := cB HB.out hx345_4
      replace p345 := eq_true p345
      replace q345 := eq_true q345
      go_wp2_with (first | ((refine gate_callee (f := 47) rfl ?_); refine goesL_ (some 50) rfl rfl Try.func47 (by kernel_rfl) rfl #[.int .u8 ((rd_T53 l0 x11_2).f0)] rfl tF ?_; (with_reducible refine (ontimeref24_ends.calls ((rd_T53 l0 x11_2).f0) false _ A25.out).mono ?_); rintro e w' ⟨rfl, ⟨nd, rfl⟩⟩; refine ⟨_, rfl, ?_⟩; have p347 : 0 ≤ (x11_2 : Int) := tD; have q347 : x11_2 < (l0.length : Int) := tD; obtain ⟨ad347, e347, hx347_0, hx347_1, hx347_2, hx347_3, hx347_4⟩ := at_T53 HR0.out x11_2 p347 q347; obtain rfl : ad345 = ad347 := (by injection e347); replace hx347_0 := cB HB.out hx347_0; replace hx347_1 := cB HB.out hx347_1; replace hx347_2 := cB HB.out hx347_2; replace hx347_3 := cB HB.out hx347_3; replace hx347_4 := cB HB.out hx347_4; replace p347 := eq_true p347; replace q347 := eq_true q347))
      go_ret
      exact ⟨by first | rfl | (simp [errW_none, errW_some] <;> rfl) | (simp [*, errW_none, errW_some] <;> rfl), by repeat (first | (with_reducible first | exact HB.out | apply below_alloc | apply pw_below_drewN | apply below_drew1) | exact HB.out)⟩
     ·rw [if_neg c27] at H
      have c27b0 : (((rd_T53 l0 x11_2).f0) == 29) = false := beq_eq_false_iff_ne.mpr c27
      have c27b1 : (((rd_T53 l0 x11_2).f0) != 29) = true := bne_iff_ne.mpr c27
      have H' := aK H
      clear H
      have p345 : 0 ≤ (x11_2 : Int) := tD
      have q345 : x11_2 < (l0.length : Int) := tD
      obtain ⟨ad345, e345, hx345_0, hx345_1, hx345_2, hx345_3, hx345_4⟩ := at_T53 HR0.out x11_2 p345 q345
      cases e345
      replace hx345_0 := cB HB.out hx345_0
      replace hx345_1 := cB HB.out hx345_1
      replace hx345_2 := cB HB.out hx345_2
      replace hx345_3 := cB HB.out hx345_3
      replace hx345_4 := cB HB.out hx345_4
      replace p345 := eq_true p345
      replace q345 := eq_true q345
      go_wp2_with (first | ((refine gate_callee (f := 47) rfl ?_); refine goesL_ (some 50) rfl rfl Try.func47 (by kernel_rfl) rfl #[.int .u8 ((rd_T53 l0 x11_2).f0)] rfl tF ?_; (with_reducible refine (ontimeref24_ends.calls ((rd_T53 l0 x11_2).f0) false _ A25.out).mono ?_); rintro e w' ⟨rfl, ⟨nd, rfl⟩⟩; refine ⟨_, rfl, ?_⟩; have p347 : 0 ≤ (x11_2 : Int) := tD; have q347 : x11_2 < (l0.length : Int) := tD; obtain ⟨ad347, e347, hx347_0, hx347_1, hx347_2, hx347_3, hx347_4⟩ := at_T53 HR0.out x11_2 p347 q347; obtain rfl : ad345 = ad347 := (by injection e347); replace hx347_0 := cB HB.out hx347_0; replace hx347_1 := cB HB.out hx347_1; replace hx347_2 := cB HB.out hx347_2; replace hx347_3 := cB HB.out hx347_3; replace hx347_4 := cB HB.out hx347_4; replace p347 := eq_true p347; replace q347 := eq_true q347))
      go_roundg kj11
      case measure => have := HJ5.out; have := HK2.out; have := HJ11.out; omega
      case rel => exact ⟨(wrap64 (x11_2 + 1)), (by first | rfl | (simp; done) | (simp [*]; done)), H', ⟨by have := HJ5.out; have := HK2.out; have := HJ11.out; omega⟩, ⟨tB0 HB.out⟩⟩
end Go.Proofs.Ytihmfdndiicjgaa.C
