import Derived.Test.YtihmfdndiicjgaaCx0
import Derived.Test.YtihmfdndiicjgaaCx9
import Derived.Test.YtihmfdndiicjgaaCx10
import Derived.Test.YtihmfdndiicjgaaCx13
namespace Go.Proofs.Ytihmfdndiicjgaa.C
open Go.RowKit Go.Proofs.YtihmfdndiicjgaaW.PrintWords Go.Proofs.YtihmfdndiicjgaaW.PrintLast Go.Proofs.YtihmfdndiicjgaaW.PrintMore
attribute [local go_sem] max2_int min2_int max_two min_two max_three min_three max_four min_four   -- for this text's walks alone
set_option linter.unusedVariables false
set_option linter.unusedSimpArgs false
mutual
def ontimeref24_Build.l0 : Nat → List (S53) → Int → Int → List Bool → List (S104) → Int → Option ((List (S104)))
 | 0, _, _, _, _, _, _ => none
 | k + 1, x0, x1, x2, x7, x8, x9 => if x9 < x2 then (if 0 ≤ x9 then (if x9 < (x7.length : Int) then (if rdOf false x7 x9 = true then (if (x8.length : Int) > 0 then (if 0 ≤ (wrap64 ((x8.length : Int) - 1)) then (if (wrap64 ((x8.length : Int) - 1)) < (x8.length : Int) then (if ((rd_T104 x8 (wrap64 ((x8.length : Int) - 1))).f1) = x9 then (if 0 ≤ (wrap64 (x9 - 1)) then (if (wrap64 (x9 - 1)) < (x0.length : Int) then ((ontimeref24_ends.f ((rd_T53 x0 (wrap64 (x9 - 1))).f0)).bind fun t357 => (if t357 = true then (if x8.length < 3518437208883 then (ontimeref24_Build.l0 k x0 x1 x2 x7 (x8 ++ [(⟨x9, wrap64 (x9 + 1), ([] : List Int)⟩ : S104)]) (wrap64 (x9 + 1))) else (none)) else ((ontimeref24_leader.f k x0 x7 x1 x2 x9).bind fun t361 => (if t361 = true then (if x8.length < 3518437208883 then (ontimeref24_Build.l0 k x0 x1 x2 x7 (x8 ++ [(⟨x9, wrap64 (x9 + 1), ([] : List Int)⟩ : S104)]) (wrap64 (x9 + 1))) else (none)) else (ontimeref24_Build.l0 k x0 x1 x2 x7 (x8.set ((wrap64 ((x8.length : Int) - 1)) : Int).toNat (⟨(rd_T104 x8 (wrap64 ((x8.length : Int) - 1))).f0, wrap64 (x9 + 1), (rd_T104 x8 (wrap64 ((x8.length : Int) - 1))).f2⟩ : S104)) (wrap64 (x9 + 1))))))) else (none)) else (none)) else (if x8.length < 3518437208883 then (ontimeref24_Build.l0 k x0 x1 x2 x7 (x8 ++ [(⟨x9, wrap64 (x9 + 1), ([] : List Int)⟩ : S104)]) (wrap64 (x9 + 1))) else (none))) else (none)) else (none)) else (if x8.length < 3518437208883 then (ontimeref24_Build.l0 k x0 x1 x2 x7 (x8 ++ [(⟨x9, wrap64 (x9 + 1), ([] : List Int)⟩ : S104)]) (wrap64 (x9 + 1))) else (none))) else (ontimeref24_Build.l0 k x0 x1 x2 x7 x8 (wrap64 (x9 + 1)))) else (none)) else (none)) else (ontimeref24_Build.l1 k x0 x8 0)
def ontimeref24_Build.l1 : Nat → List (S53) → List (S104) → Int → Option ((List (S104)))
 | 0, _, _, _ => none
 | k + 1, x0, x8, x11 => if x11 < (x8.length : Int) then (if 0 ≤ x11 then (if 0 ≤ (wrap64 (((rd_T104 x8 x11).f1) - 1)) then (if (wrap64 (((rd_T104 x8 x11).f1) - 1)) < (x0.length : Int) then ((ontimeref24_after.f ((rd_T53 x0 (wrap64 (((rd_T104 x8 x11).f1) - 1))).f0) ((rd_T53 x0 (wrap64 (((rd_T104 x8 x11).f1) - 1))).f1) ((rd_T53 x0 (wrap64 (((rd_T104 x8 x11).f1) - 1))).f2) ((rd_T53 x0 (wrap64 (((rd_T104 x8 x11).f1) - 1))).f3) ((rd_T53 x0 (wrap64 (((rd_T104 x8 x11).f1) - 1))).f4) (wrap64 (((rd_T104 x8 x11).f1) - 1))).bind fun t374 => (ontimeref24_Build.l2 k x0 x8 x11 t374 0)) else (none)) else (none)) else (none)) else (some x8)
def ontimeref24_Build.l2 : Nat → List (S53) → List (S104) → Int → List Int → Int → Option ((List (S104)))
 | 0, _, _, _, _, _ => none
 | k + 1, x0, x8, x11, x13, x14 => if x14 < (x13.length : Int) then (if 0 ≤ x14 then ((ontimeref24_Find.f k x8 (rd x13 x14)).bind fun t378 => (if 0 ≤ x11 then (if x11 < (x8.length : Int) then ((ontimeref24_In.f k ((rd_T104 x8 x11).f2) t378).bind fun t380 => (if t380 = true then (ontimeref24_Build.l2 k x0 x8 x11 x13 (wrap64 (x14 + 1))) else (if ((rd_T104 x8 x11).f2).length < 17592186044416 then (ontimeref24_Build.l2 k x0 (x8.set (x11 : Int).toNat (⟨(rd_T104 x8 x11).f0, (rd_T104 x8 x11).f1, (((rd_T104 x8 x11).f2) ++ [t378])⟩ : S104)) x11 x13 (wrap64 (x14 + 1))) else (none)))) else (none)) else (none))) else (none)) else (ontimeref24_Build.l1 k x0 x8 (wrap64 (x11 + 1)))
end
def ontimeref24_Build.f (k : Nat) (l0 : List (S53)) (a1 : Int) (a2 : Int) : Option ((List (S104))) := (ontimeref24_Reach.f k l0 a1 a2).bind fun t348 => (ontimeref24_Build.l0 k l0 a1 a2 t348 (([] : List (S104))) a1)
set_option maxHeartbeats 8000000 in
set_option maxRecDepth 100000 in
theorem ontimeref24_Build.calls (k : Nat) (A0 : Option Addr) (c0 : Nat) (l0 : List (S53)) (a1 : Int) (a2 : Int) (r : List (S104)) (w : World) (hr0 : Kd.C k53 w A0 l0.length l0) (hc0 : l0.length ≤ c0) (h : ontimeref24_Build.f k l0 a1 a2 = some r) :
  Calls Try.prog 17 #[.slice A0 l0.length c0, .int .i64 a1, .int .i64 a2] w fun e w' => ∃ v0_ : Value, e = .returned (v0_) ∧ Kd.S k104 104 w' w.heap.size (fun _ => True) v0_ r ∧ Below w.heap.size w w' := by
 have hu104 := Try.underlying104
 have hu53 := Try.underlying53
 have HR0 := aK hr0
 have HC0 := aK hc0
 clear hr0 hc0
 have HB := aK (Below.refl w.heap.size w)
 have H : ((ontimeref24_Reach.f k l0 a1 a2).bind fun t348 => (ontimeref24_Build.l0 k l0 a1 a2 t348 (([] : List (S104))) a1)) = some r := h
 clear h
 replace H := bM H
 obtain ⟨t348, A40, H⟩ := H
 (try dsimp only at H)
 have A4 := aK A40
 clear A40
 obtain ⟨y351, hy351⟩ : ∃ y_ : List (S104), y_ = (([] : List (S104))) := ⟨_, rfl⟩
 replace H : (ontimeref24_Build.l0 k l0 a1 a2 t348 y351 a1) = some r := by first | (rw [hy351]; with_reducible exact H) | (have H2_ := (Option.bind_some _ _).symm.trans H; rw [hy351]; with_reducible exact H2_) | (have H2_ := (Option.bind_some _ _).symm.trans H; with_reducible exact H2_) | with_reducible exact H | (rw [hy351]; exact H) | exact H
 have Ny351 := aK hy351
 clear hy351
 have H' := aK H
 clear H
 go_enter Try.func17, Try.ntmps17
 go_wp2_with (first | ((refine gate_callee (f := 44) rfl ?_); refine goesL_ (some 19) rfl rfl Try.func44 (by kernel_rfl) rfl #[.slice A0 l0.length c0, .int .i64 a1, .int .i64 a2] rfl tF ?_; (with_reducible refine (ontimeref24_Reach.calls k _ _ l0 a1 a2 t348 _ ?side1 ?side2 A4.out).mono ?_); (case side1 => exact tC HR0.out); (case side2 => exact HC0.out); rintro e w5 ⟨v349, rfl, ho0, hb⟩; refine ⟨_, rfl, ?_⟩; have HO350 := aK (Kd.R_lower ho0 (below_size (tB0 HB.out))); replace HB := aK (below_step (tB0 HB.out) hb)) | ((refine gate_dst (N := 20) rfl ?_); refine Kd.S_lit k104 _ 104 ?hg (N := 20) ?hd (xs := ([] : List (S104))) (inner := []) (ok := fun _ => True) (okp := fun _ => True) ?hr ?hp (fun _ hk => hk) trivial (Below.refl _ _) (Nat.le_refl _) (by simp) ?_; (case hd => rfl); (case hg => rfl); (case hr => first | (go_simp; done) | (go_simp; rfl)); (case hp => exact (Reps.none _ _)); intro v352 w6 ho7 hb hg_ hnew_; clear hg_ hnew_; (first | rw [← Ny351.out] at ho7 | (simp only [Int.reduceToNat] at ho7; rw [← Ny351.out] at ho7)); replace HO350 := aK (Kd.R_below (tR HO350.out) hb); have HO353 := aK (Kd.S_lower ho7 (below_size (tB0 HB.out))); replace HB := aK (below_step (tB0 HB.out) hb); clear hb ho7))
 go_loopg [8, 9] k (fun kq v8 v9 w' => ∃ (x8_1 : List (S104)) (x9_1 : Int), v9 = .int .i64 x9_1 ∧ Aside0 (ontimeref24_Build.l0 kq l0 a1 a2 t348 x8_1 x9_1 = some r) ∧ Aside0 (kq ≤ k) ∧ Aside0 (Kd.R Kd.bool 4 w' w.heap.size (fun _ => True) v349 t348) ∧ Aside0 (Kd.S k104 104 w' w.heap.size (fun _ => True) v8 x8_1) ∧ Aside0 (Below w.heap.size w w'))
 case atStart => exact ⟨(y351), (a1), (by first | rfl | (simp; done) | (simp [*]; done)), H', ⟨Nat.le_refl _⟩, ⟨tR HO350.out⟩, ⟨tS HO353.out⟩, ⟨tB0 HB.out⟩⟩
 clear H'
 obtain ⟨x8_1, x9_1, rfl, HA, HK1, HO_7, HO_8, HB⟩ := hrel
 cases gk with
 | zero => exact absurd HA.out (by simp [ontimeref24_Build.l0])
 | succ k1 =>
  have H := HA.out
  clear HA
  simp only [ontimeref24_Build.l0] at H
  by_cases c8 : x9_1 < a2
  ·rw [if_pos c8] at H
   have c8b0 : decide (x9_1 < a2) = true := decide_eq_true c8
   clear c8
   by_cases c9 : 0 ≤ x9_1
   rotate_left
   ·rw [if_neg c9] at H
    exact absurd H (by simp)
   rw [if_pos c9] at H
   have c9b0 : decide (0 ≤ x9_1) = true := decide_eq_true c9
   clear c9
   by_cases c10 : x9_1 < (t348.length : Int)
   rotate_left
   ·rw [if_neg c10] at H
    exact absurd H (by simp)
   rw [if_pos c10] at H
   have c10b0 : decide (x9_1 < (t348.length : Int)) = true := decide_eq_true c10
   clear c10
   obtain ⟨bq11, hbq11⟩ : ∃ b_ : Bool, b_ = (rdOf false t348 x9_1) := ⟨_, rfl⟩
   replace H : (if bq11 = true then (if (x8_1.length : Int) > 0 then (if 0 ≤ (wrap64 ((x8_1.length : Int) - 1)) then (if (wrap64 ((x8_1.length : Int) - 1)) < (x8_1.length : Int) then (if ((rd_T104 x8_1 (wrap64 ((x8_1.length : Int) - 1))).f1) = x9_1 then (if 0 ≤ (wrap64 (x9_1 - 1)) then (if (wrap64 (x9_1 - 1)) < (l0.length : Int) then ((ontimeref24_ends.f ((rd_T53 l0 (wrap64 (x9_1 - 1))).f0)).bind fun t357 => (if t357 = true then (if x8_1.length < 3518437208883 then (ontimeref24_Build.l0 k1 l0 a1 a2 t348 (x8_1 ++ [(⟨x9_1, wrap64 (x9_1 + 1), ([] : List Int)⟩ : S104)]) (wrap64 (x9_1 + 1))) else (none)) else ((ontimeref24_leader.f k1 l0 t348 a1 a2 x9_1).bind fun t361 => (if t361 = true then (if x8_1.length < 3518437208883 then (ontimeref24_Build.l0 k1 l0 a1 a2 t348 (x8_1 ++ [(⟨x9_1, wrap64 (x9_1 + 1), ([] : List Int)⟩ : S104)]) (wrap64 (x9_1 + 1))) else (none)) else (ontimeref24_Build.l0 k1 l0 a1 a2 t348 (x8_1.set ((wrap64 ((x8_1.length : Int) - 1)) : Int).toNat (⟨(rd_T104 x8_1 (wrap64 ((x8_1.length : Int) - 1))).f0, wrap64 (x9_1 + 1), (rd_T104 x8_1 (wrap64 ((x8_1.length : Int) - 1))).f2⟩ : S104)) (wrap64 (x9_1 + 1))))))) else (none)) else (none)) else (if x8_1.length < 3518437208883 then (ontimeref24_Build.l0 k1 l0 a1 a2 t348 (x8_1 ++ [(⟨x9_1, wrap64 (x9_1 + 1), ([] : List Int)⟩ : S104)]) (wrap64 (x9_1 + 1))) else (none))) else (none)) else (none)) else (if x8_1.length < 3518437208883 then (ontimeref24_Build.l0 k1 l0 a1 a2 t348 (x8_1 ++ [(⟨x9_1, wrap64 (x9_1 + 1), ([] : List Int)⟩ : S104)]) (wrap64 (x9_1 + 1))) else (none))) else (ontimeref24_Build.l0 k1 l0 a1 a2 t348 x8_1 (wrap64 (x9_1 + 1)))) = some r := by rw [← hbq11] at H; exact H
   have Nbq11 := aK hbq11
   clear hbq11
   by_cases c12 : bq11 = true
   ·subst c12
    rw [if_pos rfl] at H
    by_cases c13 : (x8_1.length : Int) > 0
    ·rw [if_pos c13] at H
     have c13b0 : decide (0 < (x8_1.length : Int)) = true := decide_eq_true c13
     have c13b1 : decide (0 < x8_1.length) = true := decide_eq_true (by omega)
     clear c13
     obtain ⟨ji14, hji14⟩ : ∃ j_ : Int, (wrap64 ((x8_1.length : Int) - 1)) = j_ := ⟨_, rfl⟩
     replace H : (if 0 ≤ (ji14) then (if (ji14) < (x8_1.length : Int) then (if ((rd_T104 x8_1 (ji14)).f1) = x9_1 then (if 0 ≤ (wrap64 (x9_1 - 1)) then (if (wrap64 (x9_1 - 1)) < (l0.length : Int) then ((ontimeref24_ends.f ((rd_T53 l0 (wrap64 (x9_1 - 1))).f0)).bind fun t357 => (if t357 = true then (if x8_1.length < 3518437208883 then (ontimeref24_Build.l0 k1 l0 a1 a2 t348 (x8_1 ++ [(⟨x9_1, wrap64 (x9_1 + 1), ([] : List Int)⟩ : S104)]) (wrap64 (x9_1 + 1))) else (none)) else ((ontimeref24_leader.f k1 l0 t348 a1 a2 x9_1).bind fun t361 => (if t361 = true then (if x8_1.length < 3518437208883 then (ontimeref24_Build.l0 k1 l0 a1 a2 t348 (x8_1 ++ [(⟨x9_1, wrap64 (x9_1 + 1), ([] : List Int)⟩ : S104)]) (wrap64 (x9_1 + 1))) else (none)) else (ontimeref24_Build.l0 k1 l0 a1 a2 t348 (x8_1.set ((ji14) : Int).toNat (⟨(rd_T104 x8_1 (ji14)).f0, wrap64 (x9_1 + 1), (rd_T104 x8_1 (ji14)).f2⟩ : S104)) (wrap64 (x9_1 + 1))))))) else (none)) else (none)) else (if x8_1.length < 3518437208883 then (ontimeref24_Build.l0 k1 l0 a1 a2 t348 (x8_1 ++ [(⟨x9_1, wrap64 (x9_1 + 1), ([] : List Int)⟩ : S104)]) (wrap64 (x9_1 + 1))) else (none))) else (none)) else (none)) = some r := by first | (rw [hji14] at H; exact H) | (simp only [hji14] at H ⊢; exact H)
     have hji14w : (IntKind.i64.wrap ((x8_1.length : Int) - 1)) = ji14 := (i64_w _).trans hji14
     by_cases c15 : 0 ≤ (ji14)
     rotate_left
     ·rw [if_neg c15] at H
      exact absurd H (by simp)
     rw [if_pos c15] at H
     have c15b0 : decide (0 ≤ (ji14)) = true := decide_eq_true c15
     clear c15
     by_cases c16 : (ji14) < (x8_1.length : Int)
     rotate_left
     ·rw [if_neg c16] at H
      exact absurd H (by simp)
     rw [if_pos c16] at H
     have c16b0 : decide ((ji14) < (x8_1.length : Int)) = true := decide_eq_true c16
     clear c16
     by_cases c17 : ((rd_T104 x8_1 (ji14)).f1) = x9_1
     ·rw [if_pos c17] at H
      have c17b0 : (((rd_T104 x8_1 (ji14)).f1) == x9_1) = true := beq_iff_eq.mpr c17
      have c17b1 : (((rd_T104 x8_1 (ji14)).f1) != x9_1) = false := bne_eq_false_iff_eq.mpr c17
      clear c17
      obtain ⟨ji18, hji18⟩ : ∃ j_ : Int, (wrap64 (x9_1 - 1)) = j_ := ⟨_, rfl⟩
      replace H : (if 0 ≤ (ji18) then (if (ji18) < (l0.length : Int) then ((ontimeref24_ends.f ((rd_T53 l0 (ji18)).f0)).bind fun t357 => (if t357 = true then (if x8_1.length < 3518437208883 then (ontimeref24_Build.l0 k1 l0 a1 a2 t348 (x8_1 ++ [(⟨x9_1, wrap64 (x9_1 + 1), ([] : List Int)⟩ : S104)]) (wrap64 (x9_1 + 1))) else (none)) else ((ontimeref24_leader.f k1 l0 t348 a1 a2 x9_1).bind fun t361 => (if t361 = true then (if x8_1.length < 3518437208883 then (ontimeref24_Build.l0 k1 l0 a1 a2 t348 (x8_1 ++ [(⟨x9_1, wrap64 (x9_1 + 1), ([] : List Int)⟩ : S104)]) (wrap64 (x9_1 + 1))) else (none)) else (ontimeref24_Build.l0 k1 l0 a1 a2 t348 (x8_1.set ((ji14) : Int).toNat (⟨(rd_T104 x8_1 (ji14)).f0, wrap64 (x9_1 + 1), (rd_T104 x8_1 (ji14)).f2⟩ : S104)) (wrap64 (x9_1 + 1))))))) else (none)) else (none)) = some r := by first | (rw [hji18] at H; exact H) | (simp only [hji18] at H ⊢; exact H)
      have hji18w : (IntKind.i64.wrap (x9_1 - 1)) = ji18 := (i64_w _).trans hji18
      by_cases c19 : 0 ≤ (ji18)
      rotate_left
      ·rw [if_neg c19] at H
       exact absurd H (by simp)
      rw [if_pos c19] at H
      have c19b0 : decide (0 ≤ (ji18)) = true := decide_eq_true c19
      clear c19
      by_cases c20 : (ji18) < (l0.length : Int)
      rotate_left
      ·rw [if_neg c20] at H
       exact absurd H (by simp)
      rw [if_pos c20] at H
      have c20b0 : decide ((ji18) < (l0.length : Int)) = true := decide_eq_true c20
      clear c20
      replace H := bM H
      obtain ⟨t357, A210, H⟩ := H
      (try dsimp only at H)
      have A21 := aK A210
      clear A210
      by_cases c22 : t357 = true
      ·subst c22
       rw [if_pos rfl] at H
       by_cases c23 : x8_1.length < 3518437208883
       rotate_left
       ·rw [if_neg c23] at H
        exact absurd H (by simp)
       rw [if_pos c23] at H
       have LMc23 := aK c23
       clear c23
       obtain ⟨y358, hy358⟩ : ∃ y_ : List (S104), y_ = (x8_1 ++ [(⟨x9_1, wrap64 (x9_1 + 1), ([] : List Int)⟩ : S104)]) := ⟨_, rfl⟩
       replace H : (ontimeref24_Build.l0 k1 l0 a1 a2 t348 y358 (wrap64 (x9_1 + 1))) = some r := by first | (rw [hy358]; with_reducible exact H) | (have H2_ := (Option.bind_some _ _).symm.trans H; rw [hy358]; with_reducible exact H2_) | (have H2_ := (Option.bind_some _ _).symm.trans H; with_reducible exact H2_) | with_reducible exact H | (rw [hy358]; exact H) | exact H
       have Ny358 := aK hy358
       clear hy358
       have H' := aK H
       clear H
       obtain ⟨Ao24, co24, eo24⟩ := Kd.R_slice HO_7.out
       subst eo24
       have p354 : 0 ≤ (x9_1 : Int) := tD
       have q354 : x9_1 < (t348.length : Int) := tD
       obtain ⟨ad354, e354, hx354_0⟩ := Kd.at_bool (Kd.R_reads' HO_7.out).2.2 x9_1 p354 q354
       (try rw [← Nbq11.out] at hx354_0)
       cases e354
       replace p354 := eq_true p354
       replace q354 := eq_true q354
       obtain ⟨Ao25, co25, eo25⟩ := Kd.S_slice HO_8.out
       subst eo25
       have p355 : 0 ≤ ((ji14) : Int) := tD
       have q355 : (ji14) < (x8_1.length : Int) := tD
       obtain ⟨ad355, A355_2, c355_2, e355, hx355_0, hx355_1, hx355_2, hl355_2, hi355_2⟩ := at_T104 (Kd.S_reads' HO_8.out).2.2 (ji14) p355 q355
       cases e355
       obtain ⟨ce355, hce355, hMe355, hcc355⟩ := Kd.S_get HO_8.out z104 (ji14) p355 (by first | exact q355 | exact tD | (have e_ := (Kd.S_reads' HO_8.out).1; omega))
       obtain ⟨ve355_2, rfl, ge355_2⟩ := k104_openM hMe355
       have hv355_2 := hcc355 2 _ rfl
       rw [add_field _ _ 2 (by omega)] at hv355_2
       replace hv355_2 := oI (hv355_2.symm.trans hx355_2)
       rw [hv355_2] at ge355_2
       have HL355_2 := aK (show Kd.R (Kd.int .i64) 3 _ _ _ _ ((rd_T104 x8_1 (ji14)).f2) from ge355_2)
       clear hv355_2 ge355_2
       have HX355_2 := aK hx355_2
       clear hcc355 hce355
       have HR355_2 := aK hi355_2
       have HC355_2 := aK hl355_2
       clear hi355_2 hl355_2
       replace p355 := eq_true p355
       replace q355 := eq_true q355
       have p356 : 0 ≤ ((ji18) : Int) := tD
       have q356 : (ji18) < (l0.length : Int) := tD
       obtain ⟨ad356, e356, hx356_0, hx356_1, hx356_2, hx356_3, hx356_4⟩ := at_T53 HR0.out (ji18) p356 q356
       cases e356
       replace hx356_0 := cB HB.out hx356_0
       replace hx356_1 := cB HB.out hx356_1
       replace hx356_2 := cB HB.out hx356_2
       replace hx356_3 := cB HB.out hx356_3
       replace hx356_4 := cB HB.out hx356_4
       replace p356 := eq_true p356
       replace q356 := eq_true q356
       go_wp2_with (first | (go_at_call 47; (with_reducible refine (ontimeref24_ends.calls ((rd_T53 l0 (ji18)).f0) true _ A21.out).mono ?_); rintro e w' ⟨rfl, ⟨nd, rfl⟩⟩) | ((refine gate_builtin (b := .append) (xs := #[.tmp 72, .tmp 77]) rfl ?_); at_builtin; refine Kd.S_append k104 (w0 := w) w.heap.size rfl (.tmp 72) (.tmp 77) 42 104 (.agg #[(.int .i64 0), (.int .i64 0), (.slice none 0 0)]) 40 rfl Try.underlying42 info104 rfl (by decide) (by omega) (.slice (some ad355) x8_1.length co25) x8_1 (⟨x9_1, wrap64 (x9_1 + 1), ([] : List Int)⟩ : S104) [.int .i64 x9_1, .int .i64 (wrap64 (x9_1 + 1)), .slice none 0 0] (fun _ => True) (fun _ => False) rfl rfl ?aP (fun k_ hk_ => hk_.elim) ?aF ?aO ?aB ?aS ?aL ?_; (case aP => exact k104_mkM _ _ _ (⟨x9_1, wrap64 (x9_1 + 1), ([] : List Int)⟩ : S104) (Kd.R_nil _ _ _ _ _)); (case aB => exact (tB0 HB.out)); (case aF => exact (fun _ _ => trivial)); (case aO => exact (by (with_reducible repeat (first | apply Kd.S_alloc | apply Kd.S_drewN | apply Kd.S_drew)); exact Kd.S_mono HO_8.out (fun k_ hk => ⟨trivial, fun e_ => e_⟩))); (case aS => exact (below_size (tB0 HB.out))); (case aL => have := LMc23.out; omega); intro v359 w26 ho hb hg hat; rw [← Ny358.out] at ho; replace HO_7 := aK (Kd.R_over' (tR HO_7.out) (Kd.S_typed (tS HO_8.out)) (by decide) hg); replace HL355_2 := aK (Kd.R_after (ok := (fun _ => True)) (tR HL355_2.out) hg hat); replace HB := aK (hb); have HO360 := aK (ho); clear HO_8; clear ho hb hg hat))
       go_roundg k1
       case measure => have := HK1.out; omega
       case rel => exact ⟨(y358), (wrap64 (x9_1 + 1)), (by first | rfl | (simp; done) | (simp [*]; done)), H', ⟨by have := HK1.out; omega⟩, ⟨tR HO_7.out⟩, ⟨tS HO360.out⟩, ⟨tB0 HB.out⟩⟩
      ·replace c22 := Bool.eq_false_iff.mpr c22
       subst c22
       rw [if_neg (show ¬ (false = true) by decide)] at H
       replace H := bM H
       obtain ⟨t361, A270, H⟩ := H
       (try dsimp only at H)
       have A27 := aK A270
       clear A270
       by_cases c28 : t361 = true
       ·subst c28
        rw [if_pos rfl] at H
        by_cases c29 : x8_1.length < 3518437208883
        rotate_left
        ·rw [if_neg c29] at H
         exact absurd H (by simp)
        rw [if_pos c29] at H
        have LMc29 := aK c29
        clear c29
        obtain ⟨y362, hy362⟩ : ∃ y_ : List (S104), y_ = (x8_1 ++ [(⟨x9_1, wrap64 (x9_1 + 1), ([] : List Int)⟩ : S104)]) := ⟨_, rfl⟩
        replace H : (ontimeref24_Build.l0 k1 l0 a1 a2 t348 y362 (wrap64 (x9_1 + 1))) = some r := by first | (rw [hy362]; with_reducible exact H) | (have H2_ := (Option.bind_some _ _).symm.trans H; rw [hy362]; with_reducible exact H2_) | (have H2_ := (Option.bind_some _ _).symm.trans H; with_reducible exact H2_) | with_reducible exact H | (rw [hy362]; exact H) | exact H
        have Ny362 := aK hy362
        clear hy362
        have H' := aK H
        clear H
        obtain ⟨Ao30, co30, eo30⟩ := Kd.R_slice HO_7.out
        subst eo30
        have p354 : 0 ≤ (x9_1 : Int) := tD
        have q354 : x9_1 < (t348.length : Int) := tD
        obtain ⟨ad354, e354, hx354_0⟩ := Kd.at_bool (Kd.R_reads' HO_7.out).2.2 x9_1 p354 q354
        (try rw [← Nbq11.out] at hx354_0)
        cases e354
        replace p354 := eq_true p354
        replace q354 := eq_true q354
        obtain ⟨Ao31, co31, eo31⟩ := Kd.S_slice HO_8.out
        subst eo31
        have p355 : 0 ≤ ((ji14) : Int) := tD
        have q355 : (ji14) < (x8_1.length : Int) := tD
        obtain ⟨ad355, A355_2, c355_2, e355, hx355_0, hx355_1, hx355_2, hl355_2, hi355_2⟩ := at_T104 (Kd.S_reads' HO_8.out).2.2 (ji14) p355 q355
        cases e355
        obtain ⟨ce355, hce355, hMe355, hcc355⟩ := Kd.S_get HO_8.out z104 (ji14) p355 (by first | exact q355 | exact tD | (have e_ := (Kd.S_reads' HO_8.out).1; omega))
        obtain ⟨ve355_2, rfl, ge355_2⟩ := k104_openM hMe355
        have hv355_2 := hcc355 2 _ rfl
        rw [add_field _ _ 2 (by omega)] at hv355_2
        replace hv355_2 := oI (hv355_2.symm.trans hx355_2)
        rw [hv355_2] at ge355_2
        have HL355_2 := aK (show Kd.R (Kd.int .i64) 3 _ _ _ _ ((rd_T104 x8_1 (ji14)).f2) from ge355_2)
        clear hv355_2 ge355_2
        have HX355_2 := aK hx355_2
        clear hcc355 hce355
        have HR355_2 := aK hi355_2
        have HC355_2 := aK hl355_2
        clear hi355_2 hl355_2
        replace p355 := eq_true p355
        replace q355 := eq_true q355
        have p356 : 0 ≤ ((ji18) : Int) := tD
        have q356 : (ji18) < (l0.length : Int) := tD
        obtain ⟨ad356, e356, hx356_0, hx356_1, hx356_2, hx356_3, hx356_4⟩ := at_T53 HR0.out (ji18) p356 q356
        cases e356
        replace hx356_0 := cB HB.out hx356_0
        replace hx356_1 := cB HB.out hx356_1
        replace hx356_2 := cB HB.out hx356_2
        replace hx356_3 := cB HB.out hx356_3
        replace hx356_4 := cB HB.out hx356_4
        replace p356 := eq_true p356
        replace q356 := eq_true q356
        go_wp2_with (first | (go_at_call 47; (with_reducible refine (ontimeref24_ends.calls ((rd_T53 l0 (ji18)).f0) false _ A21.out).mono ?_); rintro e w' ⟨rfl, ⟨nd, rfl⟩⟩) | (go_at_call 48; (with_reducible refine (ontimeref24_leader.calls k1 _ _ l0 _ _ t348 a1 a2 x9_1 true _ ?side1 ?side2 ?side3 ?side4 A27.out).mono ?_); (case side1 => exact tC (Kd.C_below HR0.out (tB0 HB.out))); (case side2 => exact HC0.out); (case side3 => exact tC (Kd.R_reads' HO_7.out).2.2); (case side4 => exact (Kd.R_reads' HO_7.out).2.1); rintro e w32 ⟨rfl, hb⟩; replace HO_7 := aK (Kd.R_below (tR HO_7.out) hb); replace HO_8 := aK (Kd.S_below (tS HO_8.out) hb); replace HL355_2 := aK (Kd.R_below (tR HL355_2.out) hb); replace HR355_2 := aK (Kd.C_below (by repeat (first | (with_reducible exact HR355_2.out) | (with_reducible refine Kd.C_alloc ?_ _) | (with_reducible refine Kd.C_drewN ?_ _) | (with_reducible refine Kd.C_drew ?_) | exact HR355_2.out)) hb); replace HX355_2 := aK (pw_cell_below hb HX355_2.out); replace HB := aK (below_step (tB0 HB.out) hb)) | ((refine gate_builtin (b := .append) (xs := #[.tmp 72, .tmp 77]) rfl ?_); at_builtin; refine Kd.S_append k104 (w0 := w) w.heap.size rfl (.tmp 72) (.tmp 77) 42 104 (.agg #[(.int .i64 0), (.int .i64 0), (.slice none 0 0)]) 40 rfl Try.underlying42 info104 rfl (by decide) (by omega) (.slice (some ad355) x8_1.length co31) x8_1 (⟨x9_1, wrap64 (x9_1 + 1), ([] : List Int)⟩ : S104) [.int .i64 x9_1, .int .i64 (wrap64 (x9_1 + 1)), .slice none 0 0] (fun _ => True) (fun _ => False) rfl rfl ?aP (fun k_ hk_ => hk_.elim) ?aF ?aO ?aB ?aS ?aL ?_; (case aP => exact k104_mkM _ _ _ (⟨x9_1, wrap64 (x9_1 + 1), ([] : List Int)⟩ : S104) (Kd.R_nil _ _ _ _ _)); (case aB => exact (tB0 HB.out)); (case aF => exact (fun _ _ => trivial)); (case aO => exact (by (with_reducible repeat (first | apply Kd.S_alloc | apply Kd.S_drewN | apply Kd.S_drew)); exact Kd.S_mono HO_8.out (fun k_ hk => ⟨trivial, fun e_ => e_⟩))); (case aS => exact (below_size (tB0 HB.out))); (case aL => have := LMc29.out; omega); intro v363 w33 ho hb hg hat; rw [← Ny362.out] at ho; replace HO_7 := aK (Kd.R_over' (tR HO_7.out) (Kd.S_typed (tS HO_8.out)) (by decide) hg); replace HL355_2 := aK (Kd.R_after (ok := (fun _ => True)) (tR HL355_2.out) hg hat); replace HB := aK (hb); have HO364 := aK (ho); clear HO_8; clear ho hb hg hat))
        go_roundg k1
        case measure => have := HK1.out; omega
        case rel => exact ⟨(y362), (wrap64 (x9_1 + 1)), (by first | rfl | (simp; done) | (simp [*]; done)), H', ⟨by have := HK1.out; omega⟩, ⟨tR HO_7.out⟩, ⟨tS HO364.out⟩, ⟨tB0 HB.out⟩⟩
       ·replace c28 := Bool.eq_false_iff.mpr c28
        subst c28
        rw [if_neg (show ¬ (false = true) by decide)] at H
        obtain ⟨y365, hy365⟩ : ∃ y_ : List (S104), y_ = (x8_1.set ((ji14) : Int).toNat (⟨(rd_T104 x8_1 (ji14)).f0, wrap64 (x9_1 + 1), (rd_T104 x8_1 (ji14)).f2⟩ : S104)) := ⟨_, rfl⟩
        replace H : (ontimeref24_Build.l0 k1 l0 a1 a2 t348 y365 (wrap64 (x9_1 + 1))) = some r := by first | (rw [hy365]; with_reducible exact H) | (have H2_ := (Option.bind_some _ _).symm.trans H; rw [hy365]; with_reducible exact H2_) | (have H2_ := (Option.bind_some _ _).symm.trans H; with_reducible exact H2_) | with_reducible exact H | (rw [hy365]; exact H) | exact H
        have Ny365 := aK hy365
        clear hy365
        have H' := aK H
        clear H
        obtain ⟨Ao35, co35, eo35⟩ := Kd.R_slice HO_7.out
        subst eo35
        have p354 : 0 ≤ (x9_1 : Int) := tD
        have q354 : x9_1 < (t348.length : Int) := tD
        obtain ⟨ad354, e354, hx354_0⟩ := Kd.at_bool (Kd.R_reads' HO_7.out).2.2 x9_1 p354 q354
        (try rw [← Nbq11.out] at hx354_0)
        cases e354
        replace p354 := eq_true p354
        replace q354 := eq_true q354
        obtain ⟨Ao36, co36, eo36⟩ := Kd.S_slice HO_8.out
        subst eo36
        have p355 : 0 ≤ ((ji14) : Int) := tD
        have q355 : (ji14) < (x8_1.length : Int) := tD
        obtain ⟨ad355, A355_2, c355_2, e355, hx355_0, hx355_1, hx355_2, hl355_2, hi355_2⟩ := at_T104 (Kd.S_reads' HO_8.out).2.2 (ji14) p355 q355
        cases e355
        obtain ⟨ce355, hce355, hMe355, hcc355⟩ := Kd.S_get HO_8.out z104 (ji14) p355 (by first | exact q355 | exact tD | (have e_ := (Kd.S_reads' HO_8.out).1; omega))
        obtain ⟨ve355_2, rfl, ge355_2⟩ := k104_openM hMe355
        have hv355_2 := hcc355 2 _ rfl
        rw [add_field _ _ 2 (by omega)] at hv355_2
        replace hv355_2 := oI (hv355_2.symm.trans hx355_2)
        rw [hv355_2] at ge355_2
        have HL355_2 := aK (show Kd.R (Kd.int .i64) 3 _ _ _ _ ((rd_T104 x8_1 (ji14)).f2) from ge355_2)
        clear hv355_2 ge355_2
        have HX355_2 := aK hx355_2
        clear hcc355 hce355
        have HR355_2 := aK hi355_2
        have HC355_2 := aK hl355_2
        clear hi355_2 hl355_2
        replace p355 := eq_true p355
        replace q355 := eq_true q355
        have p356 : 0 ≤ ((ji18) : Int) := tD
        have q356 : (ji18) < (l0.length : Int) := tD
        obtain ⟨ad356, e356, hx356_0, hx356_1, hx356_2, hx356_3, hx356_4⟩ := at_T53 HR0.out (ji18) p356 q356
        cases e356
        replace hx356_0 := cB HB.out hx356_0
        replace hx356_1 := cB HB.out hx356_1
        replace hx356_2 := cB HB.out hx356_2
        replace hx356_3 := cB HB.out hx356_3
        replace hx356_4 := cB HB.out hx356_4
        replace p356 := eq_true p356
        replace q356 := eq_true q356
        go_wp2_with (first | (go_at_call 47; (with_reducible refine (ontimeref24_ends.calls ((rd_T53 l0 (ji18)).f0) false _ A21.out).mono ?_); rintro e w' ⟨rfl, ⟨nd, rfl⟩⟩) | (go_at_call 48; (with_reducible refine (ontimeref24_leader.calls k1 _ _ l0 _ _ t348 a1 a2 x9_1 false _ ?side1 ?side2 ?side3 ?side4 A27.out).mono ?_); (case side1 => exact tC (Kd.C_below HR0.out HB.out)); (case side2 => exact HC0.out); (case side3 => exact tC (Kd.R_reads' HO_7.out).2.2); (case side4 => exact (Kd.R_reads' HO_7.out).2.1); rintro e w37 ⟨rfl, hb⟩; replace HO_7 := aK (Kd.R_below (tR HO_7.out) hb); replace HO_8 := aK (Kd.S_below (tS HO_8.out) hb); replace HL355_2 := aK (Kd.R_below (tR HL355_2.out) hb); replace HR355_2 := aK (Kd.C_below (by repeat (first | (with_reducible exact HR355_2.out) | (with_reducible refine Kd.C_alloc ?_ _) | (with_reducible refine Kd.C_drewN ?_ _) | (with_reducible refine Kd.C_drew ?_) | exact HR355_2.out)) hb); replace HX355_2 := aK (pw_cell_below hb HX355_2.out); replace HB := aK (below_step (tB0 HB.out) hb); have p34 : 0 ≤ ((ji14) : Int) := tD; have q34 : ((ji14) : Int) < ((x8_1.length : Int) : Int) := tD; obtain ⟨go34, co34, eo34, gb34, gl34, cl34, HG34⟩ := Kd.S_form HO_8.out (by omega); (first | cases eo34 | (injection eo34 with ea_ en_ ec_; (first | subst ea_ | (injection ea_ with ea_; subst ea_)); subst ec_; clear en_)); have GB34 := aK gb34; have GG34 := aK HG34; clear gb34 gl34 HG34; (first | simp only [add_plain] at hx355_0 | skip); (first | simp only [add_plain] at hx355_1 | skip); (first | simp only [add_plain] at hx355_2 | skip); obtain ⟨_, ce34, hcl34, hM34, hcc34, hfr34, _, _⟩ := Kd.S_elem HO_8.out z104 ((ji14) : Int) p34 q34; obtain ⟨ve34_2, rfl, ge34_2⟩ := k104_openM hM34; have hx34_0 : w37.cell? ⟨go34, ((ji14) : Int).toNat * 3, none⟩ = some (.int .i64 ((rd_T104 x8_1 (ji14)).f0)) := hcc34 0 _ rfl; have hx34_1 : w37.cell? ⟨go34, ((ji14) : Int).toNat * 3 + 1, none⟩ = some (.int .i64 ((rd_T104 x8_1 (ji14)).f1)) := hcc34 1 _ rfl; have hx34_2 : w37.cell? ⟨go34, ((ji14) : Int).toNat * 3 + 2, none⟩ = some (ve34_2) := hcc34 2 _ rfl; have hf34_0 : w37.frozen? ⟨go34, ((ji14) : Int).toNat * 3, none⟩ = false := hfr34 0; have hf34_1 : w37.frozen? ⟨go34, ((ji14) : Int).toNat * 3 + 1, none⟩ = false := hfr34 1; have hf34_2 : w37.frozen? ⟨go34, ((ji14) : Int).toNat * 3 + 2, none⟩ = false := hfr34 2; clear hcl34 hcc34 hfr34 hM34; replace p34 := eq_true p34; replace q34 := eq_true q34; have HX38 := aK (show Kd.S k104 104 w37 w.heap.size (fun k_ => ((fun _ => True)) k_ ∧ ¬ ((fun _ => False)) k_) (.slice (some ⟨go34, 0, none⟩) x8_1.length co36) x8_1 from (by (with_reducible repeat (first | apply Kd.S_alloc | apply Kd.S_drewN | apply Kd.S_drew)); exact Kd.S_mono HO_8.out (fun k_ hk => ⟨trivial, fun e_ => e_⟩))); obtain ⟨oki38, ce38, hcl38, hM38, hcc38, hfr38, hoki38, hH38⟩ := Kd.S_elem HX38.out z104 ((ji14) : Int) (tD) (by have h_ : ((ji14) : Int) < ((x8_1.length : Int) : Int) := tD; first | exact h_ | (have e_ := (Kd.S_reads' HO_8.out).1; omega) | simpa using h_); obtain ⟨ve38_2, rfl, ge38_2⟩ := k104_openM hM38; have HP38 := Kd.S_seg hH38 (tD) (by have h_ : ((ji14) : Int) < ((x8_1.length : Int) : Int) := tD; first | exact h_ | (have e_ := (Kd.S_reads' HO_8.out).1; omega) | simpa using h_) (seg := [.int .i64 (wrap64 (x9_1 + 1))]) (j := 1) (show 2 ≤ 3 from by decide) (x' := (⟨(rd_T104 x8_1 (ji14)).f0, wrap64 (x9_1 + 1), (rd_T104 x8_1 (ji14)).f2⟩ : S104)) (k104_mkM _ _ _ (⟨(rd_T104 x8_1 (ji14)).f0, wrap64 (x9_1 + 1), (rd_T104 x8_1 (ji14)).f2⟩ : S104) (Kd.R_mono ge38_2 (fun _ h_ => Or.inl h_))) (fun _ hk => hk) (fun k_ hk_ => hk_.elim); have hx38_1 := hcc38 1 _ rfl; (try simp only [show (k104).sz = 3 from rfl, Nat.mul_one, Nat.add_zero] at hx38_1); have hf38_1 := hfr38 1; (try simp only [show (k104).sz = 3 from rfl, Nat.mul_one, Nat.add_zero] at hf38_1); clear hcl38 hcc38 hfr38 hM38 hoki38 hH38) | ((refine gate_store (t := 3) (p := 71) rfl ?_); refine store_event (t := 3) (p := 71) (v := ?vo_w39) (w1 := (w37.setCell ⟨go34, ((ji14) : Int).toNat * 3 + 1, none⟩ (.int .i64 (wrap64 (x9_1 + 1))))) ?hg ?ho ?hn ?hr ?_; (case ho => rfl); (case hg => rfl); (case hn => rfl); (case hr => first | (go_simp; done) | (go_simp; rfl)); intro w39 hw; have hg : w37.grownBy w39 (some go34) := (by rw [hw]; exact HP38.2); have hp_ : Kd.S k104 104 w39 w.heap.size (fun _ => True) (.slice (some ⟨go34, 0, none⟩) x8_1.length co36) y365 := (by rw [hw, Ny365.out]; exact HP38.1); clear HP38; replace HO_7 := aK (Kd.R_over' (v := (.slice (some ⟨go34, 0, none⟩) x8_1.length co36)) (tR HO_7.out) (Kd.S_typed HO_8.out) (by decide) hg); replace HO_8 := aK (hp_); replace HL355_2 := aK (Kd.R_after (v := (.slice (some ⟨go34, 0, none⟩) x8_1.length co36)) (v1 := (.slice (some ⟨go34, 0, none⟩) x8_1.length co36)) (ok := (fun _ => True)) (tR HL355_2.out) hg (.inl rfl)); replace HB := aK ((by rw [hw]; exact below_set (HB.out) GB34.out : Below w.heap.size w w39)); clear hg hw hp_))
        go_roundg k1
        case measure => have := HK1.out; omega
        case rel => exact ⟨(y365), (wrap64 (x9_1 + 1)), (by first | rfl | (simp; done) | (simp [*]; done)), H', ⟨by have := HK1.out; omega⟩, ⟨tR HO_7.out⟩, ⟨tS HO_8.out⟩, ⟨tB0 HB.out⟩⟩
     ·rw [if_neg c17] at H
      have c17b0 : (((rd_T104 x8_1 (ji14)).f1) == x9_1) = false := beq_eq_false_iff_ne.mpr c17
      have c17b1 : (((rd_T104 x8_1 (ji14)).f1) != x9_1) = true := bne_iff_ne.mpr c17
      by_cases c40 : x8_1.length < 3518437208883
      rotate_left
      ·rw [if_neg c40] at H
       exact absurd H (by simp)
      rw [if_pos c40] at H
      have LMc40 := aK c40
      clear c40
      obtain ⟨y366, hy366⟩ : ∃ y_ : List (S104), y_ = (x8_1 ++ [(⟨x9_1, wrap64 (x9_1 + 1), ([] : List Int)⟩ : S104)]) := ⟨_, rfl⟩
      replace H : (ontimeref24_Build.l0 k1 l0 a1 a2 t348 y366 (wrap64 (x9_1 + 1))) = some r := by first | (rw [hy366]; with_reducible exact H) | (have H2_ := (Option.bind_some _ _).symm.trans H; rw [hy366]; with_reducible exact H2_) | (have H2_ := (Option.bind_some _ _).symm.trans H; with_reducible exact H2_) | with_reducible exact H | (rw [hy366]; exact H) | exact H
      have Ny366 := aK hy366
      clear hy366
      have H' := aK H
      clear H
      obtain ⟨Ao41, co41, eo41⟩ := Kd.R_slice HO_7.out
      subst eo41
      have p354 : 0 ≤ (x9_1 : Int) := tD
      have q354 : x9_1 < (t348.length : Int) := tD
      obtain ⟨ad354, e354, hx354_0⟩ := Kd.at_bool (Kd.R_reads' HO_7.out).2.2 x9_1 p354 q354
      (try rw [← Nbq11.out] at hx354_0)
      cases e354
      replace p354 := eq_true p354
      replace q354 := eq_true q354
      obtain ⟨Ao42, co42, eo42⟩ := Kd.S_slice HO_8.out
      subst eo42
      have p355 : 0 ≤ ((ji14) : Int) := tD
      have q355 : (ji14) < (x8_1.length : Int) := tD
      obtain ⟨ad355, A355_2, c355_2, e355, hx355_0, hx355_1, hx355_2, hl355_2, hi355_2⟩ := at_T104 (Kd.S_reads' HO_8.out).2.2 (ji14) p355 q355
      cases e355
      obtain ⟨ce355, hce355, hMe355, hcc355⟩ := Kd.S_get HO_8.out z104 (ji14) p355 (by first | exact q355 | exact tD | (have e_ := (Kd.S_reads' HO_8.out).1; omega))
      obtain ⟨ve355_2, rfl, ge355_2⟩ := k104_openM hMe355
      have hv355_2 := hcc355 2 _ rfl
      rw [add_field _ _ 2 (by omega)] at hv355_2
      replace hv355_2 := oI (hv355_2.symm.trans hx355_2)
      rw [hv355_2] at ge355_2
      have HL355_2 := aK (show Kd.R (Kd.int .i64) 3 _ _ _ _ ((rd_T104 x8_1 (ji14)).f2) from ge355_2)
      clear hv355_2 ge355_2
      have HX355_2 := aK hx355_2
      clear hcc355 hce355
      have HR355_2 := aK hi355_2
      have HC355_2 := aK hl355_2
      clear hi355_2 hl355_2
      replace p355 := eq_true p355
      replace q355 := eq_true q355
      go_wp2_with (first | ((refine gate_builtin (b := .append) (xs := #[.tmp 72, .tmp 77]) rfl ?_); at_builtin; refine Kd.S_append k104 (w0 := w) w.heap.size rfl (.tmp 72) (.tmp 77) 42 104 (.agg #[(.int .i64 0), (.int .i64 0), (.slice none 0 0)]) 40 rfl Try.underlying42 info104 rfl (by decide) (by omega) (.slice (some ad355) x8_1.length co42) x8_1 (⟨x9_1, wrap64 (x9_1 + 1), ([] : List Int)⟩ : S104) [.int .i64 x9_1, .int .i64 (wrap64 (x9_1 + 1)), .slice none 0 0] (fun _ => True) (fun _ => False) rfl rfl ?aP (fun k_ hk_ => hk_.elim) ?aF ?aO ?aB ?aS ?aL ?_; (case aP => exact k104_mkM _ _ _ (⟨x9_1, wrap64 (x9_1 + 1), ([] : List Int)⟩ : S104) (Kd.R_nil _ _ _ _ _)); (case aB => exact (tB0 HB.out)); (case aF => exact (fun _ _ => trivial)); (case aO => exact (by (with_reducible repeat (first | apply Kd.S_alloc | apply Kd.S_drewN | apply Kd.S_drew)); exact Kd.S_mono HO_8.out (fun k_ hk => ⟨trivial, fun e_ => e_⟩))); (case aS => exact (below_size (tB0 HB.out))); (case aL => have := LMc40.out; omega); intro v367 w43 ho hb hg hat; rw [← Ny366.out] at ho; replace HO_7 := aK (Kd.R_over' (tR HO_7.out) (Kd.S_typed (tS HO_8.out)) (by decide) hg); replace HL355_2 := aK (Kd.R_after (ok := (fun _ => True)) (tR HL355_2.out) hg hat); replace HB := aK (hb); have HO368 := aK (ho); clear HO_8; clear ho hb hg hat))
      go_roundg k1
      case measure => have := HK1.out; omega
      case rel => exact ⟨(y366), (wrap64 (x9_1 + 1)), (by first | rfl | (simp; done) | (simp [*]; done)), H', ⟨by have := HK1.out; omega⟩, ⟨tR HO_7.out⟩, ⟨tS HO368.out⟩, ⟨tB0 HB.out⟩⟩
    ·rw [if_neg c13] at H
     have c13b0 : decide (0 < (x8_1.length : Int)) = false := decide_eq_false c13
     have c13b1 : decide (0 < x8_1.length) = false := decide_eq_false (by omega)
     clear c13
     by_cases c44 : x8_1.length < 3518437208883
     rotate_left
     ·rw [if_neg c44] at H
      exact absurd H (by simp)
     rw [if_pos c44] at H
     have LMc44 := aK c44
     clear c44
     obtain ⟨y369, hy369⟩ : ∃ y_ : List (S104), y_ = (x8_1 ++ [(⟨x9_1, wrap64 (x9_1 + 1), ([] : List Int)⟩ : S104)]) := ⟨_, rfl⟩
     replace H : (ontimeref24_Build.l0 k1 l0 a1 a2 t348 y369 (wrap64 (x9_1 + 1))) = some r := by first | (rw [hy369]; with_reducible exact H) | (have H2_ := (Option.bind_some _ _).symm.trans H; rw [hy369]; with_reducible exact H2_) | (have H2_ := (Option.bind_some _ _).symm.trans H; with_reducible exact H2_) | with_reducible exact H | (rw [hy369]; exact H) | exact H
     have Ny369 := aK hy369
     clear hy369
     have H' := aK H
     clear H
     obtain ⟨Ao45, co45, eo45⟩ := Kd.R_slice HO_7.out
     subst eo45
     have p354 : 0 ≤ (x9_1 : Int) := tD
     have q354 : x9_1 < (t348.length : Int) := tD
     obtain ⟨ad354, e354, hx354_0⟩ := Kd.at_bool (Kd.R_reads' HO_7.out).2.2 x9_1 p354 q354
     (try rw [← Nbq11.out] at hx354_0)
     cases e354
     replace p354 := eq_true p354
     replace q354 := eq_true q354
     obtain ⟨Ao46, co46, eo46⟩ := Kd.S_slice HO_8.out
     subst eo46
     go_wp2_with (first | ((refine gate_builtin (b := .append) (xs := #[.tmp 72, .tmp 77]) rfl ?_); at_builtin; refine Kd.S_append k104 (w0 := w) w.heap.size rfl (.tmp 72) (.tmp 77) 42 104 (.agg #[(.int .i64 0), (.int .i64 0), (.slice none 0 0)]) 40 rfl Try.underlying42 info104 rfl (by decide) (by omega) (.slice Ao46 x8_1.length co46) x8_1 (⟨x9_1, wrap64 (x9_1 + 1), ([] : List Int)⟩ : S104) [.int .i64 x9_1, .int .i64 (wrap64 (x9_1 + 1)), .slice none 0 0] (fun _ => True) (fun _ => False) rfl rfl ?aP (fun k_ hk_ => hk_.elim) ?aF ?aO ?aB ?aS ?aL ?_; (case aP => exact k104_mkM _ _ _ (⟨x9_1, wrap64 (x9_1 + 1), ([] : List Int)⟩ : S104) (Kd.R_nil _ _ _ _ _)); (case aB => exact (tB0 HB.out)); (case aF => exact (fun _ _ => trivial)); (case aO => exact (by (with_reducible repeat (first | apply Kd.S_alloc | apply Kd.S_drewN | apply Kd.S_drew)); exact Kd.S_mono HO_8.out (fun k_ hk => ⟨trivial, fun e_ => e_⟩))); (case aS => exact (below_size (tB0 HB.out))); (case aL => have := LMc44.out; omega); intro v370 w47 ho hb hg hat; rw [← Ny369.out] at ho; replace HO_7 := aK (Kd.R_over' (tR HO_7.out) (Kd.S_typed (tS HO_8.out)) (by decide) hg); replace HB := aK (hb); have HO371 := aK (ho); clear HO_8; clear ho hb hg hat))
     go_roundg k1
     case measure => have := HK1.out; omega
     case rel => exact ⟨(y369), (wrap64 (x9_1 + 1)), (by first | rfl | (simp; done) | (simp [*]; done)), H', ⟨by have := HK1.out; omega⟩, ⟨tR HO_7.out⟩, ⟨tS HO371.out⟩, ⟨tB0 HB.out⟩⟩
   ·replace c12 := Bool.eq_false_iff.mpr c12
    subst c12
    rw [if_neg (show ¬ (false = true) by decide)] at H
    have H' := aK H
    clear H
    obtain ⟨Ao48, co48, eo48⟩ := Kd.R_slice HO_7.out
    subst eo48
    have p354 : 0 ≤ (x9_1 : Int) := tD
    have q354 : x9_1 < (t348.length : Int) := tD
    obtain ⟨ad354, e354, hx354_0⟩ := Kd.at_bool (Kd.R_reads' HO_7.out).2.2 x9_1 p354 q354
    (try rw [← Nbq11.out] at hx354_0)
    cases e354
    replace p354 := eq_true p354
    replace q354 := eq_true q354
    go_wp2
    go_roundg k1
    case measure => have := HK1.out; omega
    case rel => exact ⟨(x8_1), (wrap64 (x9_1 + 1)), (by first | rfl | (simp; done) | (simp [*]; done)), H', ⟨by have := HK1.out; omega⟩, ⟨tR HO_7.out⟩, ⟨tS HO_8.out⟩, ⟨tB0 HB.out⟩⟩
  ·rw [if_neg c8] at H
   have c8b0 : decide (x9_1 < a2) = false := decide_eq_false c8
   clear c8
   have H' := aK H
   clear H
   go_wp2
   go_loopg [11] k1 (fun kq v11 w' => ∃ (x8_2 : List (S104)) (x11_2 : Int), v11 = .int .i64 x11_2 ∧ Aside0 (ontimeref24_Build.l1 kq l0 x8_2 x11_2 = some r) ∧ Aside0 (kq ≤ k1) ∧ Aside0 (Kd.S k104 104 w' w.heap.size (fun _ => True) u8 x8_2) ∧ Aside0 (Below w.heap.size w w'))
   case atStart => exact ⟨(x8_1), (0), (by first | rfl | (simp; done) | (simp [*]; done)), H', ⟨Nat.le_refl _⟩, ⟨tS HO_8.out⟩, ⟨tB0 HB.out⟩⟩
   clear H'
   obtain ⟨x8_2, x11_2, rfl, HA, HK2, HO_8, HB⟩ := hrel
   cases gk with
   | zero => exact absurd HA.out (by simp [ontimeref24_Build.l1])
   | succ k2 =>
    have H := HA.out
    clear HA
    simp only [ontimeref24_Build.l1] at H
    by_cases c49 : x11_2 < (x8_2.length : Int)
    rotate_left
    ·rw [if_neg c49] at H
     have c49b0 : decide (x11_2 < (x8_2.length : Int)) = false := decide_eq_false c49
     clear c49
     obtain rfl := oI H
     obtain ⟨Ao74, co74, eo74⟩ := Kd.S_slice HO_8.out
     subst eo74
     go_wp2
     go_ret
     exact ⟨_, by first | rfl | (simp [errW_none, errW_some] <;> rfl) | (simp [*, errW_none, errW_some] <;> rfl), by (with_reducible repeat (first | apply Kd.S_alloc | apply Kd.S_drewN | apply Kd.S_drew)); exact HO_8.out, by repeat (first | (with_reducible first | exact HB.out | apply below_alloc | apply pw_below_drewN | apply below_drew1) | exact HB.out)⟩
    rw [if_pos c49] at H
    have c49b0 : decide (x11_2 < (x8_2.length : Int)) = true := decide_eq_true c49
    clear c49
    by_cases c50 : 0 ≤ x11_2
    rotate_left
    ·rw [if_neg c50] at H
     exact absurd H (by simp)
    rw [if_pos c50] at H
    have c50b0 : decide (0 ≤ x11_2) = true := decide_eq_true c50
    clear c50
    obtain ⟨ji51, hji51⟩ : ∃ j_ : Int, (wrap64 (((rd_T104 x8_2 x11_2).f1) - 1)) = j_ := ⟨_, rfl⟩
    replace H : (if 0 ≤ (ji51) then (if (ji51) < (l0.length : Int) then ((ontimeref24_after.f ((rd_T53 l0 (ji51)).f0) ((rd_T53 l0 (ji51)).f1) ((rd_T53 l0 (ji51)).f2) ((rd_T53 l0 (ji51)).f3) ((rd_T53 l0 (ji51)).f4) (ji51)).bind fun t374 => (ontimeref24_Build.l2 k2 l0 x8_2 x11_2 t374 0)) else (none)) else (none)) = some r := by first | (rw [hji51] at H; exact H) | (simp only [hji51] at H ⊢; exact H)
    have hji51w : (IntKind.i64.wrap (((rd_T104 x8_2 x11_2).f1) - 1)) = ji51 := (i64_w _).trans hji51
    by_cases c52 : 0 ≤ (ji51)
    rotate_left
    ·rw [if_neg c52] at H
     exact absurd H (by simp)
    rw [if_pos c52] at H
    have c52b0 : decide (0 ≤ (ji51)) = true := decide_eq_true c52
    clear c52
    by_cases c53 : (ji51) < (l0.length : Int)
    rotate_left
    ·rw [if_neg c53] at H
     exact absurd H (by simp)
    rw [if_pos c53] at H
    have c53b0 : decide ((ji51) < (l0.length : Int)) = true := decide_eq_true c53
    clear c53
    replace H := bM H
    obtain ⟨t374, A540, H⟩ := H
    (try dsimp only at H)
    have A54 := aK A540
    clear A540
    have H' := aK H
    clear H
    obtain ⟨Ao55, co55, eo55⟩ := Kd.S_slice HO_8.out
    subst eo55
    have p372 : 0 ≤ (x11_2 : Int) := tD
    have q372 : x11_2 < (x8_2.length : Int) := tD
    obtain ⟨ad372, A372_2, c372_2, e372, hx372_0, hx372_1, hx372_2, hl372_2, hi372_2⟩ := at_T104 (Kd.S_reads' HO_8.out).2.2 x11_2 p372 q372
    cases e372
    obtain ⟨ce372, hce372, hMe372, hcc372⟩ := Kd.S_get HO_8.out z104 x11_2 p372 (by first | exact q372 | exact tD | (have e_ := (Kd.S_reads' HO_8.out).1; omega))
    obtain ⟨ve372_2, rfl, ge372_2⟩ := k104_openM hMe372
    have hv372_2 := hcc372 2 _ rfl
    rw [add_field _ _ 2 (by omega)] at hv372_2
    replace hv372_2 := oI (hv372_2.symm.trans hx372_2)
    rw [hv372_2] at ge372_2
    have HL372_2 := aK (show Kd.R (Kd.int .i64) 3 _ _ _ _ ((rd_T104 x8_2 x11_2).f2) from ge372_2)
    clear hv372_2 ge372_2
    have HX372_2 := aK hx372_2
    clear hcc372 hce372
    have HR372_2 := aK hi372_2
    have HC372_2 := aK hl372_2
    clear hi372_2 hl372_2
    replace p372 := eq_true p372
    replace q372 := eq_true q372
    have p373 : 0 ≤ ((ji51) : Int) := tD
    have q373 : (ji51) < (l0.length : Int) := tD
    obtain ⟨ad373, e373, hx373_0, hx373_1, hx373_2, hx373_3, hx373_4⟩ := at_T53 HR0.out (ji51) p373 q373
    cases e373
    replace hx373_0 := cB HB.out hx373_0
    replace hx373_1 := cB HB.out hx373_1
    replace hx373_2 := cB HB.out hx373_2
    replace hx373_3 := cB HB.out hx373_3
    replace hx373_4 := cB HB.out hx373_4
    replace p373 := eq_true p373
    replace q373 := eq_true q373
    go_wp2_with (first | ((refine gate_callee (f := 45) rfl ?_); refine goesL_ (some 96) rfl rfl Try.func45 (by kernel_rfl) rfl #[.agg #[.int .u8 ((rd_T53 l0 (ji51)).f0), .int .i64 ((rd_T53 l0 (ji51)).f1), .int .i64 ((rd_T53 l0 (ji51)).f2), .int .i64 ((rd_T53 l0 (ji51)).f3), .int .i64 ((rd_T53 l0 (ji51)).f4)], .int .i64 ji51] rfl (by (try simp only [List.map_toArray, List.map_cons, List.map_nil]); first | done | (simp only [hji51]; rfl) | rfl | (simp only [List.length_drop, List.length_take]; rfl)) ?_; (with_reducible refine (ontimeref24_after.calls ((rd_T53 l0 (ji51)).f0) ((rd_T53 l0 (ji51)).f1) ((rd_T53 l0 (ji51)).f2) ((rd_T53 l0 (ji51)).f3) ((rd_T53 l0 (ji51)).f4) ji51 t374 _ A54.out).mono ?_); rintro e w56 ⟨v375, rfl, ho0, hb⟩; refine ⟨_, rfl, ?_⟩; replace HO_8 := aK (Kd.S_elder' (tS HO_8.out) (Kd.R_base ho0) hb); have HO376 := aK (Kd.R_lower (Kd.R_new' ho0 (Kd.R_lt (tR HL372_2.out))) (below_size (tB0 HB.out))); replace HL372_2 := aK (Kd.R_elder' (tR HL372_2.out) (Kd.R_base ho0) hb); replace HR372_2 := aK (Kd.C_below (by repeat (first | (with_reducible exact HR372_2.out) | (with_reducible refine Kd.C_alloc ?_ _) | (with_reducible refine Kd.C_drewN ?_ _) | (with_reducible refine Kd.C_drew ?_) | exact HR372_2.out)) hb); replace HX372_2 := aK (pw_cell_below hb HX372_2.out); replace HB := aK (below_step (tB0 HB.out) hb)))
    (try generalize (Value.pointer (some (ad372.add (x11_2.toNat * 3)))) = up1_)
    (try generalize (Value.pointer (some ⟨(ad372.add (x11_2.toNat * 3)).block, (ad372.add (x11_2.toNat * 3)).off + 1, none⟩)) = up2_)
    go_loopg [14] k2 (fun kq v14 w' => ∃ (x8_3 : List (S104)) (x14_3 : Int), v14 = .int .i64 x14_3 ∧ Aside0 (ontimeref24_Build.l2 kq l0 x8_3 x11_2 t374 x14_3 = some r) ∧ Aside0 (kq ≤ k2) ∧ Aside0 (Kd.S k104 104 w' w.heap.size (fun k_ => some k_ ≠ (v375 : Value).ownBlock) (.slice (some ad372) x8_2.length co55) x8_3) ∧ Aside0 (Kd.R (Kd.int .i64) 3 w' w.heap.size (fun _ => True) v375 t374) ∧ Aside0 (Below w.heap.size w w'))
    case atStart => exact ⟨(x8_2), (0), (by first | rfl | (simp; done) | (simp [*]; done)), H', ⟨Nat.le_refl _⟩, ⟨by (with_reducible repeat (first | apply Kd.S_alloc | apply Kd.S_drewN | apply Kd.S_drew)); exact Kd.S_mono HO_8.out (fun _ hk => hk.2)⟩, ⟨by (with_reducible repeat (first | apply Kd.R_alloc | apply Kd.R_drewN | apply Kd.R_drew)); exact Kd.R_mono HO376.out (fun _ hk => trivial)⟩, ⟨tB0 HB.out⟩⟩
    clear H'
    obtain ⟨x8_3, x14_3, rfl, HA, HK3, HO_8, HO_13, HB⟩ := hrel
    have hl8_3 := (Kd.S_reads' HO_8.out).1
    rw [hl8_3] at HO_8
    (try simp only [hl8_3])
    (try simp only [hl8_3] at HO_13)
    cases gk with
    | zero => exact absurd HA.out (by simp [ontimeref24_Build.l2])
    | succ k3 =>
     have H := HA.out
     clear HA
     simp only [ontimeref24_Build.l2] at H
     by_cases c57 : x14_3 < (t374.length : Int)
     rotate_left
     ·rw [if_neg c57] at H
      have c57b0 : decide (x14_3 < (t374.length : Int)) = false := decide_eq_false c57
      clear c57
      have H' := aK H
      clear H
      obtain ⟨Ao73, co73, eo73⟩ := Kd.R_slice HO_13.out
      subst eo73
      go_wp2
      (try simp only [← hl8_3])
      go_roundg k3
      case measure => have := HK1.out; have := HK2.out; have := HK3.out; omega
      case rel => exact ⟨(x8_3), (wrap64 (x11_2 + 1)), (by first | rfl | (simp; done) | (simp [*]; done)), H', ⟨by have := HK1.out; have := HK2.out; have := HK3.out; omega⟩, ⟨by (try simp only [hl8_3]); (with_reducible repeat (first | apply Kd.S_alloc | apply Kd.S_drewN | apply Kd.S_drew)); exact Kd.S_mono HO_8.out (fun _ hk => trivial)⟩, ⟨tB0 HB.out⟩⟩
     rw [if_pos c57] at H
     have c57b0 : decide (x14_3 < (t374.length : Int)) = true := decide_eq_true c57
     clear c57
     by_cases c58 : 0 ≤ x14_3
     rotate_left
     ·rw [if_neg c58] at H
      exact absurd H (by simp)
     rw [if_pos c58] at H
     have c58b0 : decide (0 ≤ x14_3) = true := decide_eq_true c58
     clear c58
     replace H := bM H
     obtain ⟨t378, A590, H⟩ := H
     (try dsimp only at H)
     have A59 := aK A590
     clear A590
     by_cases c60 : 0 ≤ x11_2
     rotate_left
     ·rw [if_neg c60] at H
      exact absurd H (by simp)
     rw [if_pos c60] at H
     have c60b0 : decide (0 ≤ x11_2) = true := decide_eq_true c60
     clear c60
     by_cases c61 : x11_2 < (x8_3.length : Int)
     rotate_left
     ·rw [if_neg c61] at H
      exact absurd H (by simp)
     rw [if_pos c61] at H
     have c61b0 : decide (x11_2 < (x8_3.length : Int)) = true := decide_eq_true c61
     clear c61
     replace H := bM H
     obtain ⟨t380, A620, H⟩ := H
     (try dsimp only at H)
     have A62 := aK A620
     clear A620
     by_cases c63 : t380 = true
     ·subst c63
      rw [if_pos rfl] at H
      have H' := aK H
      clear H
      obtain ⟨Ao64, co64, eo64⟩ := Kd.R_slice HO_13.out
      subst eo64
      have p377 : 0 ≤ (x14_3 : Int) := tD
      have q377 : x14_3 < (t374.length : Int) := tD
      obtain ⟨ad377, e377, hx377_0⟩ := Kd.at_int (Kd.R_reads' HO_13.out).2.2 x14_3 p377 q377
      cases e377
      replace p377 := eq_true p377
      replace q377 := eq_true q377
      go_wp2_with (first | ((refine gate_callee (f := 31) rfl ?_); refine goesL_ (some 108) rfl rfl Try.func31 (by kernel_rfl) rfl #[.slice (some ad372) x8_3.length co55, .int .i64 (rd t374 x14_3)] rfl tF ?_; (with_reducible refine (ontimeref24_Find.calls k3 _ _ x8_3 (rd t374 x14_3) t378 _ ?side1 ?side2 A59.out).mono ?_); (case side1 => exact tC (Kd.S_reads' HO_8.out).2.2); (case side2 => exact (Kd.S_reads' HO_8.out).2.1); rintro e w' ⟨rfl, ⟨nd, rfl⟩⟩; refine ⟨_, rfl, ?_⟩; have p379 : 0 ≤ (x11_2 : Int) := tD; have q379 : x11_2 < (x8_3.length : Int) := tD; obtain ⟨ad379, A379_2, c379_2, e379, hx379_0, hx379_1, hx379_2, hl379_2, hi379_2⟩ := at_T104 (Kd.S_reads' HO_8.out).2.2 x11_2 p379 q379; obtain rfl : ad372 = ad379 := (by injection e379); obtain ⟨ce379, hce379, hMe379, hcc379⟩ := Kd.S_get HO_8.out z104 x11_2 p379 (by first | exact q379 | exact tD | (have e_ := (Kd.S_reads' HO_8.out).1; omega)); obtain ⟨ve379_2, rfl, ge379_2⟩ := k104_openM hMe379; have hv379_2 := hcc379 2 _ rfl; rw [add_field _ _ 2 (by omega)] at hv379_2; replace hv379_2 := oI (hv379_2.symm.trans hx379_2); rw [hv379_2] at ge379_2; have HL379_2 := aK (show Kd.R (Kd.int .i64) 3 _ _ _ _ ((rd_T104 x8_3 x11_2).f2) from ge379_2); clear hv379_2 ge379_2; have HX379_2 := aK hx379_2; clear hcc379 hce379; have HR379_2 := aK hi379_2; have HC379_2 := aK hl379_2; clear hi379_2 hl379_2; replace p379 := eq_true p379; replace q379 := eq_true q379) | ((refine gate_callee (f := 49) rfl ?_); refine goesL_ (some 115) rfl rfl Try.func49 (by kernel_rfl) rfl #[.slice A379_2 ((rd_T104 x8_3 x11_2).f2).length c379_2, .int .i64 t378] rfl tF ?_; (with_reducible refine (ontimeref24_In.calls k3 _ _ ((rd_T104 x8_3 x11_2).f2) t378 true _ ?side1 ?side2 A62.out).mono ?_); (case side1 => repeat (first | exact (by repeat (first | (with_reducible exact HR379_2.out) | (with_reducible refine Kd.C_alloc ?_ _) | (with_reducible refine Kd.C_drewN ?_ _) | (with_reducible refine Kd.C_drew ?_) | exact HR379_2.out)) | (with_reducible refine Kd.C_alloc ?_ _) | (with_reducible refine Kd.C_drewN ?_ _) | (with_reducible refine Kd.C_drew ?_))); (case side2 => exact HC379_2.out); rintro e w' ⟨rfl, ⟨nd, rfl⟩⟩; refine ⟨_, rfl, ?_⟩))
      (try simp only [← hl8_3])
      go_roundg k3
      case measure => have := HK1.out; have := HK2.out; have := HK3.out; omega
      case rel => exact ⟨(x8_3), (wrap64 (x14_3 + 1)), (by first | rfl | (simp; done) | (simp [*]; done)), H', ⟨by have := HK1.out; have := HK2.out; have := HK3.out; omega⟩, ⟨by (try simp only [hl8_3]); (with_reducible repeat (first | apply Kd.S_alloc | apply Kd.S_drewN | apply Kd.S_drew)); exact HO_8.out⟩, ⟨by (try simp only [hl8_3]); (with_reducible repeat (first | apply Kd.R_alloc | apply Kd.R_drewN | apply Kd.R_drew)); exact HO_13.out⟩, ⟨tB0 HB.out⟩⟩
     ·replace c63 := Bool.eq_false_iff.mpr c63
      subst c63
      rw [if_neg (show ¬ (false = true) by decide)] at H
      by_cases c65 : ((rd_T104 x8_3 x11_2).f2).length < 17592186044416
      rotate_left
      ·rw [if_neg c65] at H
       exact absurd H (by simp)
      rw [if_pos c65] at H
      have LMc65 := aK c65
      clear c65
      obtain ⟨y382, hy382⟩ : ∃ y_ : List Int, y_ = (((rd_T104 x8_3 x11_2).f2) ++ [t378]) := ⟨_, rfl⟩
      replace H : (ontimeref24_Build.l2 k3 l0 (x8_3.set (x11_2 : Int).toNat (⟨(rd_T104 x8_3 x11_2).f0, (rd_T104 x8_3 x11_2).f1, y382⟩ : S104)) x11_2 t374 (wrap64 (x14_3 + 1))) = some r := by first | (rw [hy382]; with_reducible exact H) | (have H2_ := (Option.bind_some _ _).symm.trans H; rw [hy382]; with_reducible exact H2_) | (have H2_ := (Option.bind_some _ _).symm.trans H; with_reducible exact H2_) | with_reducible exact H | (rw [hy382]; exact H) | exact H
      have Ny382 := aK hy382
      clear hy382
      obtain ⟨y385, hy385⟩ : ∃ y_ : List (S104), y_ = (x8_3.set (x11_2 : Int).toNat (⟨(rd_T104 x8_3 x11_2).f0, (rd_T104 x8_3 x11_2).f1, y382⟩ : S104)) := ⟨_, rfl⟩
      replace H : (ontimeref24_Build.l2 k3 l0 y385 x11_2 t374 (wrap64 (x14_3 + 1))) = some r := by first | (rw [hy385]; with_reducible exact H) | (have H2_ := (Option.bind_some _ _).symm.trans H; rw [hy385]; with_reducible exact H2_) | (have H2_ := (Option.bind_some _ _).symm.trans H; with_reducible exact H2_) | with_reducible exact H | (rw [hy385]; exact H) | exact H
      have Ny385 := aK hy385
      clear hy385
      have H' := aK H
      clear H
      obtain ⟨Ao67, co67, eo67⟩ := Kd.R_slice HO_13.out
      subst eo67
      have p377 : 0 ≤ (x14_3 : Int) := tD
      have q377 : x14_3 < (t374.length : Int) := tD
      obtain ⟨ad377, e377, hx377_0⟩ := Kd.at_int (Kd.R_reads' HO_13.out).2.2 x14_3 p377 q377
      cases e377
      replace p377 := eq_true p377
      replace q377 := eq_true q377
      go_wp2_with (first | ((refine gate_callee (f := 31) rfl ?_); refine goesL_ (some 108) rfl rfl Try.func31 (by kernel_rfl) rfl #[.slice (some ad372) x8_3.length co55, .int .i64 (rd t374 x14_3)] rfl tF ?_; (with_reducible refine (ontimeref24_Find.calls k3 _ _ x8_3 (rd t374 x14_3) t378 _ ?side1 ?side2 A59.out).mono ?_); (case side1 => exact tC (Kd.S_reads' HO_8.out).2.2); (case side2 => exact (Kd.S_reads' HO_8.out).2.1); rintro e w' ⟨rfl, ⟨nd, rfl⟩⟩; refine ⟨_, rfl, ?_⟩; have p379 : 0 ≤ (x11_2 : Int) := tD; have q379 : x11_2 < (x8_3.length : Int) := tD; obtain ⟨ad379, A379_2, c379_2, e379, hx379_0, hx379_1, hx379_2, hl379_2, hi379_2⟩ := at_T104 (Kd.S_reads' HO_8.out).2.2 x11_2 p379 q379; obtain rfl : ad372 = ad379 := (by injection e379); obtain ⟨ce379, hce379, hMe379, hcc379⟩ := Kd.S_get HO_8.out z104 x11_2 p379 (by first | exact q379 | exact tD | (have e_ := (Kd.S_reads' HO_8.out).1; omega)); obtain ⟨ve379_2, rfl, ge379_2⟩ := k104_openM hMe379; have hv379_2 := hcc379 2 _ rfl; rw [add_field _ _ 2 (by omega)] at hv379_2; replace hv379_2 := oI (hv379_2.symm.trans hx379_2); rw [hv379_2] at ge379_2; have HL379_2 := aK (show Kd.R (Kd.int .i64) 3 _ _ _ _ ((rd_T104 x8_3 x11_2).f2) from ge379_2); clear hv379_2 ge379_2; have HX379_2 := aK hx379_2; clear hcc379 hce379; have HR379_2 := aK hi379_2; have HC379_2 := aK hl379_2; clear hi379_2 hl379_2; replace p379 := eq_true p379; replace q379 := eq_true q379) | ((refine gate_callee (f := 49) rfl ?_); refine goesL_ (some 115) rfl rfl Try.func49 (by kernel_rfl) rfl #[.slice A379_2 ((rd_T104 x8_3 x11_2).f2).length c379_2, .int .i64 t378] rfl tF ?_; (with_reducible refine (ontimeref24_In.calls k3 _ _ ((rd_T104 x8_3 x11_2).f2) t378 false _ ?side1 ?side2 A62.out).mono ?_); (case side1 => repeat (first | exact (by repeat (first | (with_reducible exact HR379_2.out) | (with_reducible refine Kd.C_alloc ?_ _) | (with_reducible refine Kd.C_drewN ?_ _) | (with_reducible refine Kd.C_drew ?_) | exact HR379_2.out)) | (with_reducible refine Kd.C_alloc ?_ _) | (with_reducible refine Kd.C_drewN ?_ _) | (with_reducible refine Kd.C_drew ?_))); (case side2 => exact HC379_2.out); rintro e w' ⟨rfl, ⟨nd, rfl⟩⟩; refine ⟨_, rfl, ?_⟩; have p381 : 0 ≤ (x11_2 : Int) := tD; have q381 : x11_2 < (x8_3.length : Int) := tD; obtain ⟨ad381, A381_2, c381_2, e381, hx381_0, hx381_1, hx381_2, hl381_2, hi381_2⟩ := at_T104 (Kd.S_reads' HO_8.out).2.2 x11_2 p381 q381; obtain rfl : ad372 = ad381 := (by injection e381); obtain ⟨ce381, hce381, hMe381, hcc381⟩ := Kd.S_get HO_8.out z104 x11_2 p381 (by first | exact q381 | exact tD | (have e_ := (Kd.S_reads' HO_8.out).1; omega)); obtain ⟨ve381_2, rfl, ge381_2⟩ := k104_openM hMe381; have hv381_2 := hcc381 2 _ rfl; rw [add_field _ _ 2 (by omega)] at hv381_2; replace hv381_2 := oI (hv381_2.symm.trans hx381_2); rw [hv381_2] at ge381_2; have HL381_2 := aK (show Kd.R (Kd.int .i64) 3 _ _ _ _ ((rd_T104 x8_3 x11_2).f2) from ge381_2); clear hv381_2 ge381_2; have HX381_2 := aK hx381_2; clear hcc381 hce381; have HR381_2 := aK hi381_2; have HC381_2 := aK hl381_2; clear hi381_2 hl381_2; replace p381 := eq_true p381; replace q381 := eq_true q381; have ea_ := oI (hx379_2.symm.trans hx381_2); injection ea_ with ea_ en_ ec_; subst ea_; subst ec_; clear en_; obtain ⟨go68, co68, eo68, gb68, gl68, cl68, HG68⟩ := Kd.S_form HO_8.out (by have h_ : (x11_2 : Int) < ((x8_3.length : Int) : Int) := tD; have h2_ : 0 ≤ (x11_2 : Int) := (tD); omega); (first | cases eo68 | (injection eo68 with ea_ en_ ec_; (first | subst ea_ | (injection ea_ with ea_; subst ea_)); subst ec_; clear en_)); have GB68 := aK gb68; have GG68 := aK HG68; clear gb68 gl68 HG68; (first | simp only [add_plain] at hx372_0 | skip); (first | simp only [add_plain] at hx372_1 | skip); (first | simp only [add_plain] at hx372_2 | skip); (first | simp only [add_plain] at hx379_0 | skip); (first | simp only [add_plain] at hx379_1 | skip); (first | simp only [add_plain] at hx379_2 | skip); (first | simp only [add_plain] at hx381_0 | skip); (first | simp only [add_plain] at hx381_1 | skip); (first | simp only [add_plain] at hx381_2 | skip); obtain ⟨oki68, ce68, hcl68, hM68, hcc68, _, _, hH68⟩ := Kd.S_elem HO_8.out z104 (x11_2 : Int) (tD) (by have h_ : (x11_2 : Int) < ((x8_3.length : Int) : Int) := tD; first | exact h_ | (have e_ := (Kd.S_reads' HO_8.out).1; omega) | simpa using h_); obtain ⟨ve68_2, rfl, ge68_2⟩ := k104_openM hM68; have hv68 := hcc68 2 _ rfl; have hX68 := HX381_2.out; (try simp only [add_plain] at hX68); (try simp only [Nat.add_zero] at hv68); replace hv68 := oI (hv68.symm.trans hX68); subst hv68; clear hX68 hcc68 hcl68; have UU68 := aK (show Kd.R (Kd.int .i64) 3 _ w.heap.size oki68 (.slice A379_2 ((rd_T104 x8_3 x11_2).f2).length c379_2) ((rd_T104 x8_3 x11_2).f2) from ge68_2); have HH68 := aK hH68; have HN68 := aK (Kd.S_reads' HO_8.out).1; clear hH68 ge68_2) | ((refine gate_builtin (b := .append) (xs := #[.tmp 123, .tmp 125]) rfl ?_); at_builtin; refine Kd.R_append (Kd.int .i64) (w0 := w) w.heap.size rfl (.tmp 123) (.tmp 125) 49 3 (.int .i64 0) 8 rfl Try.underlying49 info3 rfl (by decide) (by omega) (.slice A379_2 ((rd_T104 x8_3 x11_2).f2).length c379_2) ((rd_T104 x8_3 x11_2).f2) t378 [.int .i64 t378] (fun k_ => oki68 k_ ∨ ((fun k_ => some k_ ≠ (.slice (some ad377) t374.length co67 : Value).ownBlock)) k_ ∧ wr.heap.size ≤ k_) (fun _ => False) rfl rfl ?aP (fun _ hk => hk.elim) ?aF ?aO ?aB ?aS ?aL ?_; (case aP => exact rfl); (case aB => exact (tB0 HB.out)); (case aF => exact (fun k_ hk => .inr ⟨Kd.fresh' (Kd.R_lt (tR HO_13.out)) k_ hk, hk⟩)); (case aO => exact (by (with_reducible repeat (first | apply Kd.R_alloc | apply Kd.R_drewN | apply Kd.R_drew)); exact Kd.R_mono UU68.out (fun _ hk => .inl hk))); (case aS => exact (below_size (tB0 HB.out))); (case aL => have := LMc65.out; omega); intro v383 w69 ho hb hg hat; rw [← Ny382.out] at ho; replace HO_13 := aK (Kd.R_grown2 (tR HO_13.out) rfl hg (fun k_ e_ => (HL381_2.out.1 k_ e_).1)); replace HB := aK (hb); replace HH68 := aK (Kd.H_grown (Kd.H_widen (by repeat (first | exact HH68.out | refine Kd.H_alloc ?_ _ | refine Kd.H_drewN ?_ _ | refine Kd.H_drew ?_))) hg (fun k_ e_ => .inl (UU68.out.1 k_ e_))); have HO384 := aK (ho); clear HO_8 UU68 HL379_2 HL381_2; clear ho hb hg hat; have p66 : 0 ≤ (x11_2 : Int) := tD; have q66 : (x11_2 : Int) < ((x8_3.length : Int) : Int) := tD; replace p66 := eq_true p66; replace q66 := eq_true q66; obtain ⟨Ao72, co72, eo72⟩ := Kd.R_slice HO384.out; subst eo72; obtain ⟨_, _, hraw70, _, _, hcc70, _⟩ := Kd.H_raw HH68.out (tD) (by have h_ : (x11_2 : Int) < ((x8_3.length : Int) : Int) := tD; first | exact h_ | (have e_ := (HN68.out); omega) | simpa using h_); obtain ⟨_, hfr70⟩ := Kd.H_at HH68.out (tD) (by have h_ : (x11_2 : Int) < ((x8_3.length : Int) : Int) := tD; first | exact h_ | (have e_ := (HN68.out); omega) | simpa using h_); have hx70_0 := hcc70 2 _ rfl; have hf70_0 := hfr70 2; (try rw [show (k104).sz = 3 from rfl] at hx70_0); (try rw [show (k104).sz = 3 from rfl] at hf70_0); have HP70 := Kd.S_seg0 HH68.out (tD) (by have h_ : (x11_2 : Int) < ((x8_3.length : Int) : Int) := tD; first | exact h_ | (have e_ := (HN68.out); omega) | simpa using h_) (seg := [.slice Ao72 y382.length co72]) (j := 2) (show 3 ≤ 3 from by decide) (x' := (⟨(rd_T104 x8_3 x11_2).f0, (rd_T104 x8_3 x11_2).f1, y382⟩ : S104)) (k104_mkM _ _ _ (⟨(rd_T104 x8_3 x11_2).f0, (rd_T104 x8_3 x11_2).f1, y382⟩ : S104) HO384.out) (fun _ hk => hk); clear hcc70 hfr70) | ((refine gate_store (t := 49) (p := 128) rfl ?_); refine store_event (t := 49) (p := 128) (v := ?vo_w71) (w1 := (w69.setCell ⟨go68, (x11_2 : Int).toNat * 3 + 2, none⟩ (.slice Ao72 y382.length co72))) ?hg ?ho ?hn ?hr ?_; (case ho => rfl); (case hg => rfl); (case hn => rfl); (case hr => first | (go_simp; done) | (go_simp; rfl)); intro w71 hw; have hg : w69.grownBy w71 (some go68) := (by rw [hw]; exact HP70.2); have hp_ : Kd.S k104 104 w71 w.heap.size (fun k_ => some k_ ≠ (.slice (some ad377) t374.length co67 : Value).ownBlock) (.slice (some ⟨go68, 0, none⟩) x8_3.length co55) y385 := (by rw [hw, Ny385.out]; exact HP70.1); clear HP70; replace HO_13 := aK (Kd.R_over' (v := (.slice (some ⟨go68, 0, none⟩) x8_3.length co55)) (tR HO_13.out) (Kd.R_typed hraw70) (by decide) hg); replace HB := aK ((by rw [hw]; exact below_set HB.out GB68.out : Below w.heap.size w w71)); have HO_8 := aK (hp_); clear HO384 HH68; clear hg hw hp_ hraw70))
      (try simp only [← hl8_3])
      go_roundg k3
      case measure => have := HK1.out; have := HK2.out; have := HK3.out; omega
      case rel => exact ⟨(y385), (wrap64 (x14_3 + 1)), (by first | rfl | (simp; done) | (simp [*]; done)), H', ⟨by have := HK1.out; have := HK2.out; have := HK3.out; omega⟩, ⟨by (try simp only [hl8_3]); (with_reducible repeat (first | apply Kd.S_alloc | apply Kd.S_drewN | apply Kd.S_drew)); exact HO_8.out⟩, ⟨by (try simp only [hl8_3]); (with_reducible repeat (first | apply Kd.R_alloc | apply Kd.R_drewN | apply Kd.R_drew)); exact HO_13.out⟩, ⟨tB0 HB.out⟩⟩
end Go.Proofs.Ytihmfdndiicjgaa.C
