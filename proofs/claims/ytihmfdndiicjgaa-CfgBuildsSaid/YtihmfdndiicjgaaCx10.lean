import Derived.Test.YtihmfdndiicjgaaCx0
import Derived.Test.YtihmfdndiicjgaaCx9
namespace Go.Proofs.Ytihmfdndiicjgaa.C
open Go.RowKit Go.Proofs.YtihmfdndiicjgaaW.PrintWords Go.Proofs.YtihmfdndiicjgaaW.PrintLast Go.Proofs.YtihmfdndiicjgaaW.PrintMore
attribute [local go_sem] max2_int min2_int max_two min_two max_three min_three max_four min_four   -- for this text's walks alone
set_option linter.unusedVariables false
set_option linter.unusedSimpArgs false
mutual
def ontimeref24_Reach.l0 : Nat → List (S53) → Int → Int → List Bool → Bool → Option (List Bool)
 | 0, _, _, _, _, _ => none
 | k + 1, x0, x1, x2, x7, x8 => if x8 = true then (ontimeref24_Reach.l1 k x0 x1 x2 x7 false x1) else (some x7)
def ontimeref24_Reach.l1 : Nat → List (S53) → Int → Int → List Bool → Bool → Int → Option (List Bool)
 | 0, _, _, _, _, _, _ => none
 | k + 1, x0, x1, x2, x7, x8, x9 => if x9 < x2 then (if 0 ≤ x9 then (if x9 < (x7.length : Int) then (if rdOf false x7 x9 = true then (if x9 < (x0.length : Int) then ((ontimeref24_after.f ((rd_T53 x0 x9).f0) ((rd_T53 x0 x9).f1) ((rd_T53 x0 x9).f2) ((rd_T53 x0 x9).f3) ((rd_T53 x0 x9).f4) x9).bind fun t288 => (ontimeref24_Reach.l2 k x0 x1 x2 x7 x8 x9 t288 0)) else (none)) else (ontimeref24_Reach.l1 k x0 x1 x2 x7 x8 (wrap64 (x9 + 1)))) else (none)) else (none)) else (ontimeref24_Reach.l0 k x0 x1 x2 x7 x8)
def ontimeref24_Reach.l2 : Nat → List (S53) → Int → Int → List Bool → Bool → Int → List Int → Int → Option (List Bool)
 | 0, _, _, _, _, _, _, _, _ => none
 | k + 1, x0, x1, x2, x7, x8, x9, x10, x11 => if x11 < (x10.length : Int) then (if 0 ≤ x11 then (if (rd x10 x11) ≥ x1 then (if (rd x10 x11) < x2 then (if 0 ≤ (rd x10 x11) then (if (rd x10 x11) < (x7.length : Int) then (if (rdOf false x7 (rd x10 x11) = true) then (ontimeref24_Reach.l2 k x0 x1 x2 x7 x8 x9 x10 (wrap64 (x11 + 1))) else (ontimeref24_Reach.l2 k x0 x1 x2 (x7.set ((rd x10 x11) : Int).toNat true) true x9 x10 (wrap64 (x11 + 1)))) else (none)) else (none)) else (ontimeref24_Reach.l2 k x0 x1 x2 x7 x8 x9 x10 (wrap64 (x11 + 1)))) else (ontimeref24_Reach.l2 k x0 x1 x2 x7 x8 x9 x10 (wrap64 (x11 + 1)))) else (none)) else (ontimeref24_Reach.l1 k x0 x1 x2 x7 x8 (wrap64 (x9 + 1)))
end
def ontimeref24_Reach.f (k : Nat) (l0 : List (S53)) (a1 : Int) (a2 : Int) : Option (List Bool) := if 0 ≤ (l0.length : Int) then (if ((l0.length : Int) : Int).toNat ≤ 281474976710656 then ((some (List.replicate ((l0.length : Int) : Int).toNat false : List Bool)).bind fun y282 => (if 0 ≤ a1 then (if a1 < (y282.length : Int) then (ontimeref24_Reach.l0 k l0 a1 a2 (y282.set (a1 : Int).toNat true) true) else (none)) else (none))) else (none)) else (none)
set_option maxHeartbeats 8000000 in
set_option maxRecDepth 100000 in
theorem ontimeref24_Reach.calls (k : Nat) (A0 : Option Addr) (c0 : Nat) (l0 : List (S53)) (a1 : Int) (a2 : Int) (r : List Bool) (w : World) (hr0 : Kd.C k53 w A0 l0.length l0) (hc0 : l0.length ≤ c0) (h : ontimeref24_Reach.f k l0 a1 a2 = some r) :
  Calls Try.prog 44 #[.slice A0 l0.length c0, .int .i64 a1, .int .i64 a2] w fun e w' => ∃ v0_ : Value, e = .returned (v0_) ∧ Kd.R Kd.bool 4 w' w.heap.size (fun _ => True) v0_ r ∧ Below w.heap.size w w' := by
 have hu53 := Try.underlying53
 have HR0 := aK hr0
 have HC0 := aK hc0
 clear hr0 hc0
 have HB := aK (Below.refl w.heap.size w)
 have H : (if 0 ≤ (l0.length : Int) then (if ((l0.length : Int) : Int).toNat ≤ 281474976710656 then ((some (List.replicate ((l0.length : Int) : Int).toNat false : List Bool)).bind fun y282 => (if 0 ≤ a1 then (if a1 < (y282.length : Int) then (ontimeref24_Reach.l0 k l0 a1 a2 (y282.set (a1 : Int).toNat true) true) else (none)) else (none))) else (none)) else (none)) = some r := h
 clear h
 by_cases c4 : 0 ≤ (l0.length : Int)
 rotate_left
 ·rw [if_neg c4] at H
  exact absurd H (by simp)
 rw [if_pos c4] at H
 have c4b0 := eq_true c4
 have c4b1 : decide (0 ≤ (l0.length : Int)) = true := decide_eq_true c4
 clear c4
 by_cases c5 : ((l0.length : Int) : Int).toNat ≤ 281474976710656
 rotate_left
 ·rw [if_neg c5] at H
  exact absurd H (by simp)
 rw [if_pos c5] at H
 have c5b0 := eq_true c5
 have c5b1 : decide (((l0.length : Int) : Int).toNat ≤ 281474976710656) = true := decide_eq_true c5
 clear c5
 obtain ⟨y282, hy282⟩ : ∃ y_ : List Bool, y_ = (List.replicate ((l0.length : Int) : Int).toNat false) := ⟨_, rfl⟩
 replace H : (if 0 ≤ a1 then (if a1 < (y282.length : Int) then (ontimeref24_Reach.l0 k l0 a1 a2 (y282.set (a1 : Int).toNat true) true) else (none)) else (none)) = some r := by first | (rw [hy282]; with_reducible exact H) | (have H2_ := (Option.bind_some _ _).symm.trans H; rw [hy282]; with_reducible exact H2_) | (have H2_ := (Option.bind_some _ _).symm.trans H; with_reducible exact H2_) | with_reducible exact H | (rw [hy282]; exact H) | exact H
 have Ny282 := aK hy282
 clear hy282
 by_cases c6 : 0 ≤ a1
 rotate_left
 ·rw [if_neg c6] at H
  exact absurd H (by simp)
 rw [if_pos c6] at H
 have c6b0 : decide (0 ≤ a1) = true := decide_eq_true c6
 clear c6
 by_cases c7 : a1 < (y282.length : Int)
 rotate_left
 ·rw [if_neg c7] at H
  exact absurd H (by simp)
 rw [if_pos c7] at H
 have c7b0 : decide (a1 < (y282.length : Int)) = true := decide_eq_true c7
 clear c7
 obtain ⟨y285, hy285⟩ : ∃ y_ : List Bool, y_ = (y282.set (a1 : Int).toNat true) := ⟨_, rfl⟩
 replace H : (ontimeref24_Reach.l0 k l0 a1 a2 y285 true) = some r := by first | (rw [hy285]; with_reducible exact H) | (have H2_ := (Option.bind_some _ _).symm.trans H; rw [hy285]; with_reducible exact H2_) | (have H2_ := (Option.bind_some _ _).symm.trans H; with_reducible exact H2_) | with_reducible exact H | (rw [hy285]; exact H) | exact H
 have Ny285 := aK hy285
 clear hy285
 have H' := aK H
 clear H
 go_enter Try.func44, Try.ntmps44
 go_wp2_with (first | ((refine gate_dst (N := 14) rfl ?_); refine Kd.R_make Kd.bool _ 4 rfl (N := 14) rfl 101 _ _ rfl (l0.length : Int) rfl rfl Try.underlying101 (.bool false) 1 info4 rfl (by decide) (by omega) false (ok := fun _ => True) (okp := fun _ => True) rfl (fun _ hk => hk) trivial (tD) (Nat.le_trans (Nat.mul_le_mul_right _ (tD : (l0.length : Int).toNat ≤ 281474976710656)) (by omega)) (Below.refl _ _) (Nat.le_refl _) ?_; intro v283 w9 ho10 hb hg_ hnew_; clear hg_ hnew_; (first | rw [← Ny282.out] at ho10 | (simp only [Int.reduceToNat] at ho10; rw [← Ny282.out] at ho10)); have HO284 := aK (Kd.R_lower ho10 (below_size (tB0 HB.out))); replace HB := aK (below_step (tB0 HB.out) hb); clear hb ho10; have p8 : 0 ≤ (a1 : Int) := tD; have q8 : (a1 : Int) < ((y282.length : Int) : Int) := tD; obtain ⟨go8, co8, eo8, gb8, gl8, cl8, HG8⟩ := Kd.R_form HO284.out (by omega); (first | cases eo8 | (injection eo8 with ea_ en_ ec_; (first | subst ea_ | (injection ea_ with ea_; subst ea_)); subst ec_; clear en_)); have GB8 := aK gb8; have GG8 := aK HG8; clear gb8 gl8 HG8; obtain ⟨hx8_0, hf8_0⟩ := Kd.R_celln false HO284.out (a1 : Int) p8 q8; replace p8 := eq_true p8; replace q8 := eq_true q8; obtain ⟨hy11_, hz11_⟩ := Kd.R_celln false HO284.out (a1 : Int) (tD) (tD); have HP11 := Kd.R_putg HO284.out (a1 : Int) true) | ((refine gate_store (t := 4) (p := 17) rfl ?_); refine store_event (t := 4) (p := 17) (v := ?vo_w12) (w1 := (w9.setCell ⟨go8, (a1 : Int).toNat, none⟩ (.bool true))) ?hg ?ho ?hn ?hr ?_; (case ho => rfl); (case hg => rfl); (case hn => rfl); (case hr => first | (go_simp; done) | (go_simp; rfl)); intro w12 hw; have hg : w9.grownBy w12 (some go8) := (by rw [hw]; exact HP11.2); have hp_ : Kd.R Kd.bool 4 w12 w.heap.size (fun _ => True) (.slice (some ⟨go8, 0, none⟩) y282.length co8) y285 := (by rw [hw, Ny285.out]; exact HP11.1); clear HP11; replace HO284 := aK (hp_); replace HB := aK ((by rw [hw]; exact below_set (HB.out) GB8.out : Below w.heap.size w w12)); clear hg hw hp_))
 go_loopg [8] k (fun kq v8 w' => ∃ (x7_1 : List Bool) (x8_1 : Bool), v8 = .bool x8_1 ∧ Aside0 (ontimeref24_Reach.l0 kq l0 a1 a2 x7_1 x8_1 = some r) ∧ Aside0 (kq ≤ k) ∧ Aside0 (Kd.R Kd.bool 4 w' w.heap.size (fun _ => True) (.slice (some ⟨go8, 0, none⟩) y282.length co8) x7_1) ∧ Aside0 (Below w.heap.size w w'))
 case atStart => exact ⟨(y285), (true), (by first | rfl | (simp; done) | (simp [*]; done)), H', ⟨Nat.le_refl _⟩, ⟨tR HO284.out⟩, ⟨tB0 HB.out⟩⟩
 clear H'
 obtain ⟨x7_1, x8_1, rfl, HA, HK1, HO_7, HB⟩ := hrel
 have hl7_1 := (Kd.R_reads' HO_7.out).1
 rw [hl7_1] at HO_7
 (try simp only [hl7_1])
 cases gk with
 | zero => exact absurd HA.out (by simp [ontimeref24_Reach.l0])
 | succ k1 =>
  have H := HA.out
  clear HA
  simp only [ontimeref24_Reach.l0] at H
  by_cases c13 : x8_1 = true
  rotate_left
  ·replace c13 := Bool.eq_false_iff.mpr c13
   subst c13
   rw [if_neg (show ¬ (false = true) by decide)] at H
   obtain rfl := oI H
   go_wp2
   go_ret
   exact ⟨_, by first | rfl | (simp [errW_none, errW_some] <;> rfl) | (simp [*, errW_none, errW_some] <;> rfl), by (with_reducible repeat (first | apply Kd.R_alloc | apply Kd.R_drewN | apply Kd.R_drew)); exact HO_7.out, by repeat (first | (with_reducible first | exact HB.out | apply below_alloc | apply pw_below_drewN | apply below_drew1) | exact HB.out)⟩
  subst c13
  rw [if_pos rfl] at H
  have H' := aK H
  clear H
  go_wp2
  go_loopg [8, 9] k1 (fun kq v8 v9 w' => ∃ (x7_2 : List Bool) (x8_2 : Bool) (x9_2 : Int), v8 = .bool x8_2 ∧ v9 = .int .i64 x9_2 ∧ Aside0 (ontimeref24_Reach.l1 kq l0 a1 a2 x7_2 x8_2 x9_2 = some r) ∧ Aside0 (kq ≤ k1) ∧ Aside0 (Kd.R Kd.bool 4 w' w.heap.size (fun _ => True) (.slice (some ⟨go8, 0, none⟩) x7_1.length co8) x7_2) ∧ Aside0 (Below w.heap.size w w'))
  case atStart => exact ⟨(x7_1), (false), (a1), (by first | rfl | (simp; done) | (simp [*]; done)), (by first | rfl | (simp; done) | (simp [*]; done)), H', ⟨Nat.le_refl _⟩, ⟨by (try simp only [hl7_1]); (with_reducible repeat (first | apply Kd.R_alloc | apply Kd.R_drewN | apply Kd.R_drew)); exact HO_7.out⟩, ⟨tB0 HB.out⟩⟩
  clear H'
  obtain ⟨x7_2, x8_2, x9_2, rfl, rfl, HA, HK2, HO_7, HB⟩ := hrel
  have hl7_2 := (Kd.R_reads' HO_7.out).1
  rw [hl7_2] at HO_7
  (try simp only [hl7_2])
  cases gk with
  | zero => exact absurd HA.out (by simp [ontimeref24_Reach.l1])
  | succ k2 =>
   have H := HA.out
   clear HA
   simp only [ontimeref24_Reach.l1] at H
   by_cases c14 : x9_2 < a2
   rotate_left
   ·rw [if_neg c14] at H
    have c14b0 : decide (x9_2 < a2) = false := decide_eq_false c14
    clear c14
    have H' := aK H
    clear H
    go_wp2
    (try simp only [← hl7_1, ← hl7_2])
    go_roundg k2
    case measure => have := HK1.out; have := HK2.out; omega
    case rel => exact ⟨(x7_2), (x8_2), (by first | rfl | (simp; done) | (simp [*]; done)), H', ⟨by have := HK1.out; have := HK2.out; omega⟩, ⟨by (try simp only [hl7_1]); (try simp only [hl7_2]); (with_reducible repeat (first | apply Kd.R_alloc | apply Kd.R_drewN | apply Kd.R_drew)); exact HO_7.out⟩, ⟨tB0 HB.out⟩⟩
   rw [if_pos c14] at H
   have c14b0 : decide (x9_2 < a2) = true := decide_eq_true c14
   clear c14
   by_cases c15 : 0 ≤ x9_2
   rotate_left
   ·rw [if_neg c15] at H
    exact absurd H (by simp)
   rw [if_pos c15] at H
   have c15b0 : decide (0 ≤ x9_2) = true := decide_eq_true c15
   clear c15
   by_cases c16 : x9_2 < (x7_2.length : Int)
   rotate_left
   ·rw [if_neg c16] at H
    exact absurd H (by simp)
   rw [if_pos c16] at H
   have c16b0 : decide (x9_2 < (x7_2.length : Int)) = true := decide_eq_true c16
   clear c16
   obtain ⟨bq17, hbq17⟩ : ∃ b_ : Bool, b_ = (rdOf false x7_2 x9_2) := ⟨_, rfl⟩
   replace H : (if bq17 = true then (if x9_2 < (l0.length : Int) then ((ontimeref24_after.f ((rd_T53 l0 x9_2).f0) ((rd_T53 l0 x9_2).f1) ((rd_T53 l0 x9_2).f2) ((rd_T53 l0 x9_2).f3) ((rd_T53 l0 x9_2).f4) x9_2).bind fun t288 => (ontimeref24_Reach.l2 k2 l0 a1 a2 x7_2 x8_2 x9_2 t288 0)) else (none)) else (ontimeref24_Reach.l1 k2 l0 a1 a2 x7_2 x8_2 (wrap64 (x9_2 + 1)))) = some r := by rw [← hbq17] at H; exact H
   have Nbq17 := aK hbq17
   clear hbq17
   by_cases c18 : bq17 = true
   ·subst c18
    rw [if_pos rfl] at H
    by_cases c19 : x9_2 < (l0.length : Int)
    rotate_left
    ·rw [if_neg c19] at H
     exact absurd H (by simp)
    rw [if_pos c19] at H
    have c19b0 : decide (x9_2 < (l0.length : Int)) = true := decide_eq_true c19
    clear c19
    replace H := bM H
    obtain ⟨t288, A200, H⟩ := H
    (try dsimp only at H)
    have A20 := aK A200
    clear A200
    have H' := aK H
    clear H
    have p286 : 0 ≤ (x9_2 : Int) := tD
    have q286 : x9_2 < (x7_2.length : Int) := tD
    obtain ⟨ad286, e286, hx286_0⟩ := Kd.at_bool (Kd.R_reads' HO_7.out).2.2 x9_2 p286 q286
    (try rw [← Nbq17.out] at hx286_0)
    obtain rfl : (⟨go8, 0, none⟩ : Addr) = ad286 := (by injection e286)
    (first | simp only [add_plain] at hx286_0 | simp only [add_at] at hx286_0 | simp only [Addr.add, Nat.zero_add] at hx286_0 | skip)
    replace p286 := eq_true p286
    replace q286 := eq_true q286
    have p287 : 0 ≤ (x9_2 : Int) := tD
    have q287 : x9_2 < (l0.length : Int) := tD
    obtain ⟨ad287, e287, hx287_0, hx287_1, hx287_2, hx287_3, hx287_4⟩ := at_T53 HR0.out x9_2 p287 q287
    cases e287
    replace hx287_0 := cB HB.out hx287_0
    replace hx287_1 := cB HB.out hx287_1
    replace hx287_2 := cB HB.out hx287_2
    replace hx287_3 := cB HB.out hx287_3
    replace hx287_4 := cB HB.out hx287_4
    replace p287 := eq_true p287
    replace q287 := eq_true q287
    go_wp2_with (first | ((refine gate_callee (f := 45) rfl ?_); refine goesL_ (some 35) rfl rfl Try.func45 (by kernel_rfl) rfl #[.agg #[.int .u8 ((rd_T53 l0 x9_2).f0), .int .i64 ((rd_T53 l0 x9_2).f1), .int .i64 ((rd_T53 l0 x9_2).f2), .int .i64 ((rd_T53 l0 x9_2).f3), .int .i64 ((rd_T53 l0 x9_2).f4)], .int .i64 x9_2] rfl tF ?_; (with_reducible refine (ontimeref24_after.calls ((rd_T53 l0 x9_2).f0) ((rd_T53 l0 x9_2).f1) ((rd_T53 l0 x9_2).f2) ((rd_T53 l0 x9_2).f3) ((rd_T53 l0 x9_2).f4) x9_2 t288 _ A20.out).mono ?_); rintro e w21 ⟨v289, rfl, ho0, hb⟩; refine ⟨_, rfl, ?_⟩; replace HO_7 := aK (Kd.R_below (tR HO_7.out) hb); have HO290 := aK (Kd.R_lower ho0 (below_size (tB0 HB.out))); replace HB := aK (below_step (tB0 HB.out) hb)))
    go_loopg [8, 11] k2 (fun kq v8 v11 w' => ∃ (x7_3 : List Bool) (x8_3 : Bool) (x11_3 : Int), v8 = .bool x8_3 ∧ v11 = .int .i64 x11_3 ∧ Aside0 (ontimeref24_Reach.l2 kq l0 a1 a2 x7_3 x8_3 x9_2 t288 x11_3 = some r) ∧ Aside0 (kq ≤ k2) ∧ Aside0 (Kd.R Kd.bool 4 w' w.heap.size (fun _ => True) (.slice (some ⟨go8, 0, none⟩) x7_2.length co8) x7_3) ∧ Aside0 (Kd.R (Kd.int .i64) 3 w' w.heap.size (fun _ => True) v289 t288) ∧ Aside0 (Below w.heap.size w w'))
    case atStart => exact ⟨(x7_2), (x8_2), (0), (by first | rfl | (simp; done) | (simp [*]; done)), (by first | rfl | (simp; done) | (simp [*]; done)), H', ⟨Nat.le_refl _⟩, ⟨by (try simp only [hl7_1]); (try simp only [hl7_2]); (with_reducible repeat (first | apply Kd.R_alloc | apply Kd.R_drewN | apply Kd.R_drew)); exact HO_7.out⟩, ⟨by (try simp only [hl7_1]); (try simp only [hl7_2]); (with_reducible repeat (first | apply Kd.R_alloc | apply Kd.R_drewN | apply Kd.R_drew)); exact HO290.out⟩, ⟨tB0 HB.out⟩⟩
    clear H'
    obtain ⟨x7_3, x8_3, x11_3, rfl, rfl, HA, HK3, HO_7, HO_10, HB⟩ := hrel
    have hl7_3 := (Kd.R_reads' HO_7.out).1
    rw [hl7_3] at HO_7
    (try simp only [hl7_3])
    (try simp only [hl7_3] at HO_10)
    cases gk with
    | zero => exact absurd HA.out (by simp [ontimeref24_Reach.l2])
    | succ k3 =>
     have H := HA.out
     clear HA
     simp only [ontimeref24_Reach.l2] at H
     by_cases c22 : x11_3 < (t288.length : Int)
     rotate_left
     ·rw [if_neg c22] at H
      have c22b0 : decide (x11_3 < (t288.length : Int)) = false := decide_eq_false c22
      clear c22
      have H' := aK H
      clear H
      obtain ⟨Ao37, co37, eo37⟩ := Kd.R_slice HO_10.out
      subst eo37
      go_wp2
      (try simp only [← hl7_2, ← hl7_3])
      go_roundg k3
      case measure => have := HK1.out; have := HK2.out; have := HK3.out; omega
      case rel => exact ⟨(x7_3), (x8_3), (wrap64 (x9_2 + 1)), (by first | rfl | (simp; done) | (simp [*]; done)), (by first | rfl | (simp; done) | (simp [*]; done)), H', ⟨by have := HK1.out; have := HK2.out; have := HK3.out; omega⟩, ⟨by (try simp only [hl7_1]); (try simp only [hl7_2]); (try simp only [hl7_3]); (with_reducible repeat (first | apply Kd.R_alloc | apply Kd.R_drewN | apply Kd.R_drew)); exact HO_7.out⟩, ⟨tB0 HB.out⟩⟩
     rw [if_pos c22] at H
     have c22b0 : decide (x11_3 < (t288.length : Int)) = true := decide_eq_true c22
     clear c22
     by_cases c23 : 0 ≤ x11_3
     rotate_left
     ·rw [if_neg c23] at H
      exact absurd H (by simp)
     rw [if_pos c23] at H
     have c23b0 : decide (0 ≤ x11_3) = true := decide_eq_true c23
     clear c23
     by_cases c24 : (rd t288 x11_3) ≥ a1
     ·rw [if_pos c24] at H
      have c24b0 : decide (a1 ≤ (rd t288 x11_3)) = true := decide_eq_true c24
      clear c24
      by_cases c25 : (rd t288 x11_3) < a2
      ·rw [if_pos c25] at H
       have c25b0 : decide ((rd t288 x11_3) < a2) = true := decide_eq_true c25
       clear c25
       by_cases c26 : 0 ≤ (rd t288 x11_3)
       rotate_left
       ·rw [if_neg c26] at H
        exact absurd H (by simp)
       rw [if_pos c26] at H
       have c26b0 : decide (0 ≤ (rd t288 x11_3)) = true := decide_eq_true c26
       clear c26
       by_cases c27 : (rd t288 x11_3) < (x7_3.length : Int)
       rotate_left
       ·rw [if_neg c27] at H
        exact absurd H (by simp)
       rw [if_pos c27] at H
       have c27b0 : decide ((rd t288 x11_3) < (x7_3.length : Int)) = true := decide_eq_true c27
       clear c27
       obtain ⟨bq28, hbq28⟩ : ∃ b_ : Bool, b_ = (rdOf false x7_3 (rd t288 x11_3)) := ⟨_, rfl⟩
       replace H : (if (bq28 = true) then (ontimeref24_Reach.l2 k3 l0 a1 a2 x7_3 x8_3 x9_2 t288 (wrap64 (x11_3 + 1))) else (ontimeref24_Reach.l2 k3 l0 a1 a2 (x7_3.set ((rd t288 x11_3) : Int).toNat true) true x9_2 t288 (wrap64 (x11_3 + 1)))) = some r := by rw [← hbq28] at H; exact H
       have Nbq28 := aK hbq28
       clear hbq28
       by_cases c29 : (bq28 = true)
       ·subst c29
        rw [if_pos rfl] at H
        have H' := aK H
        clear H
        obtain ⟨Ao30, co30, eo30⟩ := Kd.R_slice HO_10.out
        subst eo30
        have p291 : 0 ≤ (x11_3 : Int) := tD
        have q291 : x11_3 < (t288.length : Int) := tD
        obtain ⟨ad291, e291, hx291_0⟩ := Kd.at_int (Kd.R_reads' HO_10.out).2.2 x11_3 p291 q291
        cases e291
        replace p291 := eq_true p291
        replace q291 := eq_true q291
        have p292 : 0 ≤ (x11_3 : Int) := tD
        have q292 : x11_3 < (t288.length : Int) := tD
        obtain ⟨ad292, e292, hx292_0⟩ := Kd.at_int (Kd.R_reads' HO_10.out).2.2 x11_3 p292 q292
        obtain rfl : ad291 = ad292 := (by injection e292)
        replace p292 := eq_true p292
        replace q292 := eq_true q292
        have p293 : 0 ≤ (x11_3 : Int) := tD
        have q293 : x11_3 < (t288.length : Int) := tD
        obtain ⟨ad293, e293, hx293_0⟩ := Kd.at_int (Kd.R_reads' HO_10.out).2.2 x11_3 p293 q293
        obtain rfl : ad291 = ad293 := (by injection e293)
        replace p293 := eq_true p293
        replace q293 := eq_true q293
        have p294 : 0 ≤ ((rd t288 x11_3) : Int) := tD
        have q294 : (rd t288 x11_3) < (x7_3.length : Int) := tD
        obtain ⟨ad294, e294, hx294_0⟩ := Kd.at_bool (Kd.R_reads' HO_7.out).2.2 (rd t288 x11_3) p294 q294
        (try rw [← Nbq17.out] at hx294_0)
        (try rw [← Nbq28.out] at hx294_0)
        obtain rfl : (⟨go8, 0, none⟩ : Addr) = ad294 := (by injection e294)
        (first | simp only [add_plain] at hx294_0 | simp only [add_at] at hx294_0 | simp only [Addr.add, Nat.zero_add] at hx294_0 | skip)
        replace p294 := eq_true p294
        replace q294 := eq_true q294
        go_wp2
        (try simp only [← hl7_3])
        go_roundg k3
        case measure => have := HK1.out; have := HK2.out; have := HK3.out; omega
        case rel => exact ⟨(x7_3), (x8_3), (wrap64 (x11_3 + 1)), (by first | rfl | (simp; done) | (simp [*]; done)), (by first | rfl | (simp; done) | (simp [*]; done)), H', ⟨by have := HK1.out; have := HK2.out; have := HK3.out; omega⟩, ⟨by (try simp only [hl7_1]); (try simp only [hl7_2]); (try simp only [hl7_3]); (with_reducible repeat (first | apply Kd.R_alloc | apply Kd.R_drewN | apply Kd.R_drew)); exact HO_7.out⟩, ⟨by (try simp only [hl7_1]); (try simp only [hl7_2]); (try simp only [hl7_3]); (with_reducible repeat (first | apply Kd.R_alloc | apply Kd.R_drewN | apply Kd.R_drew)); exact HO_10.out⟩, ⟨tB0 HB.out⟩⟩
       ·replace c29 := Bool.eq_false_iff.mpr c29
        subst c29
        rw [if_neg (show ¬ (false = true) by decide)] at H
        obtain ⟨y296, hy296⟩ : ∃ y_ : List Bool, y_ = (x7_3.set ((rd t288 x11_3) : Int).toNat true) := ⟨_, rfl⟩
        replace H : (ontimeref24_Reach.l2 k3 l0 a1 a2 y296 true x9_2 t288 (wrap64 (x11_3 + 1))) = some r := by first | (rw [hy296]; with_reducible exact H) | (have H2_ := (Option.bind_some _ _).symm.trans H; rw [hy296]; with_reducible exact H2_) | (have H2_ := (Option.bind_some _ _).symm.trans H; with_reducible exact H2_) | with_reducible exact H | (rw [hy296]; exact H) | exact H
        have Ny296 := aK hy296
        clear hy296
        have H' := aK H
        clear H
        obtain ⟨Ao32, co32, eo32⟩ := Kd.R_slice HO_10.out
        subst eo32
        have p291 : 0 ≤ (x11_3 : Int) := tD
        have q291 : x11_3 < (t288.length : Int) := tD
        obtain ⟨ad291, e291, hx291_0⟩ := Kd.at_int (Kd.R_reads' HO_10.out).2.2 x11_3 p291 q291
        cases e291
        replace p291 := eq_true p291
        replace q291 := eq_true q291
        have p292 : 0 ≤ (x11_3 : Int) := tD
        have q292 : x11_3 < (t288.length : Int) := tD
        obtain ⟨ad292, e292, hx292_0⟩ := Kd.at_int (Kd.R_reads' HO_10.out).2.2 x11_3 p292 q292
        obtain rfl : ad291 = ad292 := (by injection e292)
        replace p292 := eq_true p292
        replace q292 := eq_true q292
        have p293 : 0 ≤ (x11_3 : Int) := tD
        have q293 : x11_3 < (t288.length : Int) := tD
        obtain ⟨ad293, e293, hx293_0⟩ := Kd.at_int (Kd.R_reads' HO_10.out).2.2 x11_3 p293 q293
        obtain rfl : ad291 = ad293 := (by injection e293)
        replace p293 := eq_true p293
        replace q293 := eq_true q293
        have p294 : 0 ≤ ((rd t288 x11_3) : Int) := tD
        have q294 : (rd t288 x11_3) < (x7_3.length : Int) := tD
        obtain ⟨ad294, e294, hx294_0⟩ := Kd.at_bool (Kd.R_reads' HO_7.out).2.2 (rd t288 x11_3) p294 q294
        (try rw [← Nbq17.out] at hx294_0)
        (try rw [← Nbq28.out] at hx294_0)
        obtain rfl : (⟨go8, 0, none⟩ : Addr) = ad294 := (by injection e294)
        (first | simp only [add_plain] at hx294_0 | simp only [add_at] at hx294_0 | simp only [Addr.add, Nat.zero_add] at hx294_0 | skip)
        replace p294 := eq_true p294
        replace q294 := eq_true q294
        have p295 : 0 ≤ (x11_3 : Int) := tD
        have q295 : x11_3 < (t288.length : Int) := tD
        obtain ⟨ad295, e295, hx295_0⟩ := Kd.at_int (Kd.R_reads' HO_10.out).2.2 x11_3 p295 q295
        obtain rfl : ad291 = ad295 := (by injection e295)
        replace p295 := eq_true p295
        replace q295 := eq_true q295
        have p31 : 0 ≤ ((rd t288 x11_3) : Int) := tD
        have q31 : ((rd t288 x11_3) : Int) < ((x7_3.length : Int) : Int) := tD
        obtain ⟨hx31_0, hf31_0⟩ := Kd.R_celln false HO_7.out ((rd t288 x11_3) : Int) p31 q31
        replace p31 := eq_true p31
        replace q31 := eq_true q31
        have HP33 := Kd.R_putg HO_7.out ((rd t288 x11_3) : Int) true
        go_wp2_with (first | ((refine gate_store (t := 4) (p := 71) rfl ?_); refine store_event (t := 4) (p := 71) (v := ?vo_w34) (w1 := (wr.setCell ⟨go8, ((rd t288 x11_3) : Int).toNat, none⟩ (.bool true))) ?hg ?ho ?hn ?hr ?_; (case ho => rfl); (case hg => rfl); (case hn => rfl); (case hr => first | (go_simp; done) | (go_simp; rfl)); intro w34 hw; have hg : wr.grownBy w34 (some go8) := (by rw [hw]; exact HP33.2); have hp_ : Kd.R Kd.bool 4 w34 w.heap.size (fun _ => True) (.slice (some ⟨go8, 0, none⟩) x7_3.length co8) y296 := (by rw [hw, Ny296.out]; exact HP33.1); clear HP33; replace HO_10 := aK (Kd.R_over' (v := (.slice (some ⟨go8, 0, none⟩) x7_3.length co8)) (tR HO_10.out) (Kd.R_typed HO_7.out) (by decide) hg); replace HO_7 := aK (hp_); replace HB := aK ((by rw [hw]; exact below_set (HB.out) GB8.out : Below w.heap.size w w34)); clear hg hw hp_))
        (try simp only [← hl7_3])
        go_roundg k3
        case measure => have := HK1.out; have := HK2.out; have := HK3.out; omega
        case rel => exact ⟨(y296), (true), (wrap64 (x11_3 + 1)), (by first | rfl | (simp; done) | (simp [*]; done)), (by first | rfl | (simp; done) | (simp [*]; done)), H', ⟨by have := HK1.out; have := HK2.out; have := HK3.out; omega⟩, ⟨by (try simp only [hl7_1]); (try simp only [hl7_2]); (try simp only [hl7_3]); (with_reducible repeat (first | apply Kd.R_alloc | apply Kd.R_drewN | apply Kd.R_drew)); exact HO_7.out⟩, ⟨by (try simp only [hl7_1]); (try simp only [hl7_2]); (try simp only [hl7_3]); (with_reducible repeat (first | apply Kd.R_alloc | apply Kd.R_drewN | apply Kd.R_drew)); exact HO_10.out⟩, ⟨tB0 HB.out⟩⟩
      ·rw [if_neg c25] at H
       have c25b0 : decide ((rd t288 x11_3) < a2) = false := decide_eq_false c25
       clear c25
       have H' := aK H
       clear H
       obtain ⟨Ao35, co35, eo35⟩ := Kd.R_slice HO_10.out
       subst eo35
       have p291 : 0 ≤ (x11_3 : Int) := tD
       have q291 : x11_3 < (t288.length : Int) := tD
       obtain ⟨ad291, e291, hx291_0⟩ := Kd.at_int (Kd.R_reads' HO_10.out).2.2 x11_3 p291 q291
       cases e291
       replace p291 := eq_true p291
       replace q291 := eq_true q291
       have p292 : 0 ≤ (x11_3 : Int) := tD
       have q292 : x11_3 < (t288.length : Int) := tD
       obtain ⟨ad292, e292, hx292_0⟩ := Kd.at_int (Kd.R_reads' HO_10.out).2.2 x11_3 p292 q292
       obtain rfl : ad291 = ad292 := (by injection e292)
       replace p292 := eq_true p292
       replace q292 := eq_true q292
       go_wp2
       (try simp only [← hl7_3])
       go_roundg k3
       case measure => have := HK1.out; have := HK2.out; have := HK3.out; omega
       case rel => exact ⟨(x7_3), (x8_3), (wrap64 (x11_3 + 1)), (by first | rfl | (simp; done) | (simp [*]; done)), (by first | rfl | (simp; done) | (simp [*]; done)), H', ⟨by have := HK1.out; have := HK2.out; have := HK3.out; omega⟩, ⟨by (try simp only [hl7_1]); (try simp only [hl7_2]); (try simp only [hl7_3]); (with_reducible repeat (first | apply Kd.R_alloc | apply Kd.R_drewN | apply Kd.R_drew)); exact HO_7.out⟩, ⟨by (try simp only [hl7_1]); (try simp only [hl7_2]); (try simp only [hl7_3]); (with_reducible repeat (first | apply Kd.R_alloc | apply Kd.R_drewN | apply Kd.R_drew)); exact HO_10.out⟩, ⟨tB0 HB.out⟩⟩
     ·rw [if_neg c24] at H
      have c24b0 : decide (a1 ≤ (rd t288 x11_3)) = false := decide_eq_false c24
      clear c24
      have H' := aK H
      clear H
      obtain ⟨Ao36, co36, eo36⟩ := Kd.R_slice HO_10.out
      subst eo36
      have p291 : 0 ≤ (x11_3 : Int) := tD
      have q291 : x11_3 < (t288.length : Int) := tD
      obtain ⟨ad291, e291, hx291_0⟩ := Kd.at_int (Kd.R_reads' HO_10.out).2.2 x11_3 p291 q291
      cases e291
      replace p291 := eq_true p291
      replace q291 := eq_true q291
      go_wp2
      (try simp only [← hl7_3])
      go_roundg k3
      case measure => have := HK1.out; have := HK2.out; have := HK3.out; omega
      case rel => exact ⟨(x7_3), (x8_3), (wrap64 (x11_3 + 1)), (by first | rfl | (simp; done) | (simp [*]; done)), (by first | rfl | (simp; done) | (simp [*]; done)), H', ⟨by have := HK1.out; have := HK2.out; have := HK3.out; omega⟩, ⟨by (try simp only [hl7_1]); (try simp only [hl7_2]); (try simp only [hl7_3]); (with_reducible repeat (first | apply Kd.R_alloc | apply Kd.R_drewN | apply Kd.R_drew)); exact HO_7.out⟩, ⟨by (try simp only [hl7_1]); (try simp only [hl7_2]); (try simp only [hl7_3]); (with_reducible repeat (first | apply Kd.R_alloc | apply Kd.R_drewN | apply Kd.R_drew)); exact HO_10.out⟩, ⟨tB0 HB.out⟩⟩
   ·replace c18 := Bool.eq_false_iff.mpr c18
    subst c18
    rw [if_neg (show ¬ (false = true) by decide)] at H
    have H' := aK H
    clear H
    have p286 : 0 ≤ (x9_2 : Int) := tD
    have q286 : x9_2 < (x7_2.length : Int) := tD
    obtain ⟨ad286, e286, hx286_0⟩ := Kd.at_bool (Kd.R_reads' HO_7.out).2.2 x9_2 p286 q286
    (try rw [← Nbq17.out] at hx286_0)
    obtain rfl : (⟨go8, 0, none⟩ : Addr) = ad286 := (by injection e286)
    (first | simp only [add_plain] at hx286_0 | simp only [add_at] at hx286_0 | simp only [Addr.add, Nat.zero_add] at hx286_0 | skip)
    replace p286 := eq_true p286
    replace q286 := eq_true q286
    go_wp2
    (try simp only [← hl7_2])
    go_roundg k2
    case measure => have := HK1.out; have := HK2.out; omega
    case rel => exact ⟨(x7_2), (x8_2), (wrap64 (x9_2 + 1)), (by first | rfl | (simp; done) | (simp [*]; done)), (by first | rfl | (simp; done) | (simp [*]; done)), H', ⟨by have := HK1.out; have := HK2.out; omega⟩, ⟨by (try simp only [hl7_1]); (try simp only [hl7_2]); (with_reducible repeat (first | apply Kd.R_alloc | apply Kd.R_drewN | apply Kd.R_drew)); exact HO_7.out⟩, ⟨tB0 HB.out⟩⟩
mutual
def ontimeref24_Leave.l0 : Nat → List (S53) → Int → Int → List Bool → Int → Option (Int)
 | 0, _, _, _, _, _ => none
 | k + 1, x0, x1, x2, x7, x8 => if x8 < x2 then (if 0 ≤ x8 then (if x8 < (x7.length : Int) then (if rdOf false x7 x8 = true then (if x8 < (x0.length : Int) then ((ontimeref24_after.f ((rd_T53 x0 x8).f0) ((rd_T53 x0 x8).f1) ((rd_T53 x0 x8).f2) ((rd_T53 x0 x8).f3) ((rd_T53 x0 x8).f4) x8).bind fun t302 => (ontimeref24_Leave.l1 k x0 x1 x2 x7 x8 t302 0)) else (none)) else (ontimeref24_Leave.l0 k x0 x1 x2 x7 (wrap64 (x8 + 1)))) else (none)) else (none)) else (some (-1))
def ontimeref24_Leave.l1 : Nat → List (S53) → Int → Int → List Bool → Int → List Int → Int → Option (Int)
 | 0, _, _, _, _, _, _, _ => none
 | k + 1, x0, x1, x2, x7, x8, x9, x10 => if x10 < (x9.length : Int) then (if 0 ≤ x10 then (if (rd x9 x10) < x1 then (some x8) else (if (rd x9 x10) ≥ x2 then (some x8) else (ontimeref24_Leave.l1 k x0 x1 x2 x7 x8 x9 (wrap64 (x10 + 1))))) else (none)) else (ontimeref24_Leave.l0 k x0 x1 x2 x7 (wrap64 (x8 + 1)))
end
def ontimeref24_Leave.f (k : Nat) (l0 : List (S53)) (a1 : Int) (a2 : Int) : Option (Int) := (ontimeref24_Reach.f k l0 a1 a2).bind fun t297 => (ontimeref24_Leave.l0 k l0 a1 a2 t297 a1)
set_option maxHeartbeats 8000000 in
set_option maxRecDepth 100000 in
theorem ontimeref24_Leave.calls (k : Nat) (A0 : Option Addr) (c0 : Nat) (l0 : List (S53)) (a1 : Int) (a2 : Int) (r : Int) (w : World) (hr0 : Kd.C k53 w A0 l0.length l0) (hc0 : l0.length ≤ c0) (h : ontimeref24_Leave.f k l0 a1 a2 = some r) :
  Calls Try.prog 15 #[.slice A0 l0.length c0, .int .i64 a1, .int .i64 a2] w fun e w' => e = .returned (.int .i64 r) ∧ Below w.heap.size w w' := by
 have hu53 := Try.underlying53
 have HR0 := aK hr0
 have HC0 := aK hc0
 clear hr0 hc0
 have HB := aK (Below.refl w.heap.size w)
 have H : ((ontimeref24_Reach.f k l0 a1 a2).bind fun t297 => (ontimeref24_Leave.l0 k l0 a1 a2 t297 a1)) = some r := h
 clear h
 replace H := bM H
 obtain ⟨t297, A40, H⟩ := H
 (try dsimp only at H)
 have A4 := aK A40
 clear A40
 have H' := aK H
 clear H
 go_enter Try.func15, Try.ntmps15
 go_wp2_with (first | ((refine gate_callee (f := 44) rfl ?_); refine goesL_ (some 14) rfl rfl Try.func44 (by kernel_rfl) rfl #[.slice A0 l0.length c0, .int .i64 a1, .int .i64 a2] rfl tF ?_; (with_reducible refine (ontimeref24_Reach.calls k _ _ l0 a1 a2 t297 _ ?side1 ?side2 A4.out).mono ?_); (case side1 => exact tC HR0.out); (case side2 => exact HC0.out); rintro e w5 ⟨v298, rfl, ho0, hb⟩; refine ⟨_, rfl, ?_⟩; have HO299 := aK (Kd.R_lower ho0 (below_size (tB0 HB.out))); replace HB := aK (below_step (tB0 HB.out) hb)))
 go_loopg [8] k (fun kq v8 w' => ∃ (x8_1 : Int), v8 = .int .i64 x8_1 ∧ Aside0 (ontimeref24_Leave.l0 kq l0 a1 a2 t297 x8_1 = some r) ∧ Aside0 (kq ≤ k) ∧ Aside0 (Kd.R Kd.bool 4 w' w.heap.size (fun _ => True) v298 t297) ∧ Aside0 (Below w.heap.size w w'))
 case atStart => exact ⟨(a1), (by first | rfl | (simp; done) | (simp [*]; done)), H', ⟨Nat.le_refl _⟩, ⟨tR HO299.out⟩, ⟨tB0 HB.out⟩⟩
 clear H'
 obtain ⟨x8_1, rfl, HA, HK1, HO_7, HB⟩ := hrel
 cases gk with
 | zero => exact absurd HA.out (by simp [ontimeref24_Leave.l0])
 | succ k1 =>
  have H := HA.out
  clear HA
  simp only [ontimeref24_Leave.l0] at H
  by_cases c6 : x8_1 < a2
  rotate_left
  ·rw [if_neg c6] at H
   have c6b0 : decide (x8_1 < a2) = false := decide_eq_false c6
   clear c6
   obtain rfl := oI H
   go_wp2
   go_ret
   exact ⟨by first | rfl | (simp [errW_none, errW_some] <;> rfl) | (simp [*, errW_none, errW_some] <;> rfl), by repeat (first | (with_reducible first | exact HB.out | apply below_alloc | apply pw_below_drewN | apply below_drew1) | exact HB.out)⟩
  rw [if_pos c6] at H
  have c6b0 : decide (x8_1 < a2) = true := decide_eq_true c6
  clear c6
  by_cases c7 : 0 ≤ x8_1
  rotate_left
  ·rw [if_neg c7] at H
   exact absurd H (by simp)
  rw [if_pos c7] at H
  have c7b0 : decide (0 ≤ x8_1) = true := decide_eq_true c7
  clear c7
  by_cases c8 : x8_1 < (t297.length : Int)
  rotate_left
  ·rw [if_neg c8] at H
   exact absurd H (by simp)
  rw [if_pos c8] at H
  have c8b0 : decide (x8_1 < (t297.length : Int)) = true := decide_eq_true c8
  clear c8
  obtain ⟨bq9, hbq9⟩ : ∃ b_ : Bool, b_ = (rdOf false t297 x8_1) := ⟨_, rfl⟩
  replace H : (if bq9 = true then (if x8_1 < (l0.length : Int) then ((ontimeref24_after.f ((rd_T53 l0 x8_1).f0) ((rd_T53 l0 x8_1).f1) ((rd_T53 l0 x8_1).f2) ((rd_T53 l0 x8_1).f3) ((rd_T53 l0 x8_1).f4) x8_1).bind fun t302 => (ontimeref24_Leave.l1 k1 l0 a1 a2 t297 x8_1 t302 0)) else (none)) else (ontimeref24_Leave.l0 k1 l0 a1 a2 t297 (wrap64 (x8_1 + 1)))) = some r := by rw [← hbq9] at H; exact H
  have Nbq9 := aK hbq9
  clear hbq9
  by_cases c10 : bq9 = true
  ·subst c10
   rw [if_pos rfl] at H
   by_cases c11 : x8_1 < (l0.length : Int)
   rotate_left
   ·rw [if_neg c11] at H
    exact absurd H (by simp)
   rw [if_pos c11] at H
   have c11b0 : decide (x8_1 < (l0.length : Int)) = true := decide_eq_true c11
   clear c11
   replace H := bM H
   obtain ⟨t302, A120, H⟩ := H
   (try dsimp only at H)
   have A12 := aK A120
   clear A120
   have H' := aK H
   clear H
   obtain ⟨Ao13, co13, eo13⟩ := Kd.R_slice HO_7.out
   subst eo13
   have p300 : 0 ≤ (x8_1 : Int) := tD
   have q300 : x8_1 < (t297.length : Int) := tD
   obtain ⟨ad300, e300, hx300_0⟩ := Kd.at_bool (Kd.R_reads' HO_7.out).2.2 x8_1 p300 q300
   (try rw [← Nbq9.out] at hx300_0)
   cases e300
   replace p300 := eq_true p300
   replace q300 := eq_true q300
   have p301 : 0 ≤ (x8_1 : Int) := tD
   have q301 : x8_1 < (l0.length : Int) := tD
   obtain ⟨ad301, e301, hx301_0, hx301_1, hx301_2, hx301_3, hx301_4⟩ := at_T53 HR0.out x8_1 p301 q301
   cases e301
   replace hx301_0 := cB HB.out hx301_0
   replace hx301_1 := cB HB.out hx301_1
   replace hx301_2 := cB HB.out hx301_2
   replace hx301_3 := cB HB.out hx301_3
   replace hx301_4 := cB HB.out hx301_4
   replace p301 := eq_true p301
   replace q301 := eq_true q301
   go_wp2_with (first | ((refine gate_callee (f := 45) rfl ?_); refine goesL_ (some 31) rfl rfl Try.func45 (by kernel_rfl) rfl #[.agg #[.int .u8 ((rd_T53 l0 x8_1).f0), .int .i64 ((rd_T53 l0 x8_1).f1), .int .i64 ((rd_T53 l0 x8_1).f2), .int .i64 ((rd_T53 l0 x8_1).f3), .int .i64 ((rd_T53 l0 x8_1).f4)], .int .i64 x8_1] rfl tF ?_; (with_reducible refine (ontimeref24_after.calls ((rd_T53 l0 x8_1).f0) ((rd_T53 l0 x8_1).f1) ((rd_T53 l0 x8_1).f2) ((rd_T53 l0 x8_1).f3) ((rd_T53 l0 x8_1).f4) x8_1 t302 _ A12.out).mono ?_); rintro e w14 ⟨v303, rfl, ho0, hb⟩; refine ⟨_, rfl, ?_⟩; replace HO_7 := aK (Kd.R_below (tR HO_7.out) hb); have HO304 := aK (Kd.R_lower ho0 (below_size (tB0 HB.out))); replace HB := aK (below_step (tB0 HB.out) hb)))
   go_loopg [10] k1 (fun kq v10 w' => ∃ (x10_2 : Int), v10 = .int .i64 x10_2 ∧ Aside0 (ontimeref24_Leave.l1 kq l0 a1 a2 t297 x8_1 t302 x10_2 = some r) ∧ Aside0 (kq ≤ k1) ∧ Aside0 (Kd.R Kd.bool 4 w' w.heap.size (fun _ => True) (.slice (some ad300) t297.length co13) t297) ∧ Aside0 (Kd.R (Kd.int .i64) 3 w' w.heap.size (fun _ => True) v303 t302) ∧ Aside0 (Below w.heap.size w w'))
   case atStart => exact ⟨(0), (by first | rfl | (simp; done) | (simp [*]; done)), H', ⟨Nat.le_refl _⟩, ⟨tR HO_7.out⟩, ⟨tR HO304.out⟩, ⟨tB0 HB.out⟩⟩
   clear H'
   obtain ⟨x10_2, rfl, HA, HK2, HO_7, HO_9, HB⟩ := hrel
   cases gk with
   | zero => exact absurd HA.out (by simp [ontimeref24_Leave.l1])
   | succ k2 =>
    have H := HA.out
    clear HA
    simp only [ontimeref24_Leave.l1] at H
    by_cases c15 : x10_2 < (t302.length : Int)
    rotate_left
    ·rw [if_neg c15] at H
     have c15b0 : decide (x10_2 < (t302.length : Int)) = false := decide_eq_false c15
     clear c15
     have H' := aK H
     clear H
     obtain ⟨Ao22, co22, eo22⟩ := Kd.R_slice HO_9.out
     subst eo22
     go_wp2
     go_roundg k2
     case measure => have := HK1.out; have := HK2.out; omega
     case rel => exact ⟨(wrap64 (x8_1 + 1)), (by first | rfl | (simp; done) | (simp [*]; done)), H', ⟨by have := HK1.out; have := HK2.out; omega⟩, ⟨tR HO_7.out⟩, ⟨tB0 HB.out⟩⟩
    rw [if_pos c15] at H
    have c15b0 : decide (x10_2 < (t302.length : Int)) = true := decide_eq_true c15
    clear c15
    by_cases c16 : 0 ≤ x10_2
    rotate_left
    ·rw [if_neg c16] at H
     exact absurd H (by simp)
    rw [if_pos c16] at H
    have c16b0 : decide (0 ≤ x10_2) = true := decide_eq_true c16
    clear c16
    by_cases c17 : (rd t302 x10_2) < a1
    ·rw [if_pos c17] at H
     have c17b0 : decide ((rd t302 x10_2) < a1) = true := decide_eq_true c17
     clear c17
     obtain rfl := oI H
     obtain ⟨Ao18, co18, eo18⟩ := Kd.R_slice HO_9.out
     subst eo18
     have p305 : 0 ≤ (x10_2 : Int) := tD
     have q305 : x10_2 < (t302.length : Int) := tD
     obtain ⟨ad305, e305, hx305_0⟩ := Kd.at_int (Kd.R_reads' HO_9.out).2.2 x10_2 p305 q305
     cases e305
     replace p305 := eq_true p305
     replace q305 := eq_true q305
     go_wp2
     go_ret
     exact ⟨by first | rfl | (simp [errW_none, errW_some] <;> rfl) | (simp [*, errW_none, errW_some] <;> rfl), by repeat (first | (with_reducible first | exact HB.out | apply below_alloc | apply pw_below_drewN | apply below_drew1) | exact HB.out)⟩
    ·rw [if_neg c17] at H
     have c17b0 : decide ((rd t302 x10_2) < a1) = false := decide_eq_false c17
     clear c17
     by_cases c19 : (rd t302 x10_2) ≥ a2
     ·rw [if_pos c19] at H
      have c19b0 : decide (a2 ≤ (rd t302 x10_2)) = true := decide_eq_true c19
      clear c19
      obtain rfl := oI H
      obtain ⟨Ao20, co20, eo20⟩ := Kd.R_slice HO_9.out
      subst eo20
      have p305 : 0 ≤ (x10_2 : Int) := tD
      have q305 : x10_2 < (t302.length : Int) := tD
      obtain ⟨ad305, e305, hx305_0⟩ := Kd.at_int (Kd.R_reads' HO_9.out).2.2 x10_2 p305 q305
      cases e305
      replace p305 := eq_true p305
      replace q305 := eq_true q305
      have p306 : 0 ≤ (x10_2 : Int) := tD
      have q306 : x10_2 < (t302.length : Int) := tD
      obtain ⟨ad306, e306, hx306_0⟩ := Kd.at_int (Kd.R_reads' HO_9.out).2.2 x10_2 p306 q306
      obtain rfl : ad305 = ad306 := (by injection e306)
      replace p306 := eq_true p306
      replace q306 := eq_true q306
      go_wp2
      go_ret
      exact ⟨by first | rfl | (simp [errW_none, errW_some] <;> rfl) | (simp [*, errW_none, errW_some] <;> rfl), by repeat (first | (with_reducible first | exact HB.out | apply below_alloc | apply pw_below_drewN | apply below_drew1) | exact HB.out)⟩
     ·rw [if_neg c19] at H
      have c19b0 : decide (a2 ≤ (rd t302 x10_2)) = false := decide_eq_false c19
      clear c19
      have H' := aK H
      clear H
      obtain ⟨Ao21, co21, eo21⟩ := Kd.R_slice HO_9.out
      subst eo21
      have p305 : 0 ≤ (x10_2 : Int) := tD
      have q305 : x10_2 < (t302.length : Int) := tD
      obtain ⟨ad305, e305, hx305_0⟩ := Kd.at_int (Kd.R_reads' HO_9.out).2.2 x10_2 p305 q305
      cases e305
      replace p305 := eq_true p305
      replace q305 := eq_true q305
      have p306 : 0 ≤ (x10_2 : Int) := tD
      have q306 : x10_2 < (t302.length : Int) := tD
      obtain ⟨ad306, e306, hx306_0⟩ := Kd.at_int (Kd.R_reads' HO_9.out).2.2 x10_2 p306 q306
      obtain rfl : ad305 = ad306 := (by injection e306)
      replace p306 := eq_true p306
      replace q306 := eq_true q306
      go_wp2
      go_roundg k2
      case measure => have := HK1.out; have := HK2.out; omega
      case rel => exact ⟨(wrap64 (x10_2 + 1)), (by first | rfl | (simp; done) | (simp [*]; done)), H', ⟨by have := HK1.out; have := HK2.out; omega⟩, ⟨tR HO_7.out⟩, ⟨tR HO_9.out⟩, ⟨tB0 HB.out⟩⟩
  ·replace c10 := Bool.eq_false_iff.mpr c10
   subst c10
   rw [if_neg (show ¬ (false = true) by decide)] at H
   have H' := aK H
   clear H
   obtain ⟨Ao23, co23, eo23⟩ := Kd.R_slice HO_7.out
   subst eo23
   have p300 : 0 ≤ (x8_1 : Int) := tD
   have q300 : x8_1 < (t297.length : Int) := tD
   obtain ⟨ad300, e300, hx300_0⟩ := Kd.at_bool (Kd.R_reads' HO_7.out).2.2 x8_1 p300 q300
   (try rw [← Nbq9.out] at hx300_0)
   cases e300
   replace p300 := eq_true p300
   replace q300 := eq_true q300
   go_wp2
   go_roundg k1
   case measure => have := HK1.out; omega
   case rel => exact ⟨(wrap64 (x8_1 + 1)), (by first | rfl | (simp; done) | (simp [*]; done)), H', ⟨by have := HK1.out; omega⟩, ⟨tR HO_7.out⟩, ⟨tB0 HB.out⟩⟩
end Go.Proofs.Ytihmfdndiicjgaa.C
