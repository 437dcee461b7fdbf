import Derived.Test.YtihmfdndiicjgaaCx0
import Derived.Test.YtihmfdndiicjgaaCx7
namespace Go.Proofs.Ytihmfdndiicjgaa.C
open Go.RowKit Go.Proofs.YtihmfdndiicjgaaW.PrintWords Go.Proofs.YtihmfdndiicjgaaW.PrintLast Go.Proofs.YtihmfdndiicjgaaW.PrintMore
attribute [local go_sem] max2_int min2_int max_two min_two max_three min_three max_four min_four   -- for this text's walks alone
set_option linter.unusedVariables false
set_option linter.unusedSimpArgs false
def ontimeref04_Valid.j0 : Nat → Int → Int → Bool → Int → Int → Int → Int → Int → Option (Bool)
 | 0, _, _, _, _, _, _, _, _ => none
 | k + 1, x4, x5, x43, x231000, x231001, x231002, x231003, x231004 => if x43 = true then (some false) else (if x4 > x5 then (some (x231004 == 0)) else (if x231004 ≥ x4 then (some (decide (x231004 ≤ x5))) else (some false)))
def ontimeref04_Valid.f (k : Nat) (a0_0 : Int) (a0_1 : Int) (a0_2 : Int) (a0_3 : Int) (a0_4 : Int) : Option (Bool) := (ontimeref04_Format.f k a0_0).bind fun bt231 => (if bt231.2.2.2 = true then ((ontimeref04_reg.f a0_1 (decide ((bt231.1.size : Int) > 0))).bind fun t235 => (if t235 = true then ((ontimeref04_reg.f a0_2 (decide ((bt231.1.size : Int) > 1))).bind fun t236 => (if t236 = true then ((ontimeref04_reg.f a0_3 (decide ((bt231.1.size : Int) > 2))).bind fun t237 => (ontimeref04_Valid.j0 k bt231.2.1 bt231.2.2.1 (!t237) a0_0 a0_1 a0_2 a0_3 a0_4)) else (ontimeref04_Valid.j0 k bt231.2.1 bt231.2.2.1 true a0_0 a0_1 a0_2 a0_3 a0_4))) else (ontimeref04_Valid.j0 k bt231.2.1 bt231.2.2.1 true a0_0 a0_1 a0_2 a0_3 a0_4))) else (ontimeref04_Valid.j0 k bt231.2.1 bt231.2.2.1 true a0_0 a0_1 a0_2 a0_3 a0_4))
set_option maxHeartbeats 8000000 in
set_option maxRecDepth 100000 in
theorem ontimeref04_Valid.calls (k : Nat) (a0_0 : Int) (a0_1 : Int) (a0_2 : Int) (a0_3 : Int) (a0_4 : Int) (r : Bool) (w : World) (h : ontimeref04_Valid.f k a0_0 a0_1 a0_2 a0_3 a0_4 = some r) :
  Calls Try.prog 64 #[.agg #[.int .u8 a0_0, .int .i64 a0_1, .int .i64 a0_2, .int .i64 a0_3, .int .i64 a0_4]] w fun e w' => e = .returned (.bool r) ∧ Below w.heap.size w w' := by
 have hu53 := Try.underlying53
 have HB := aK (Below.refl w.heap.size w)
 have H : ((ontimeref04_Format.f k a0_0).bind fun bt231 => (if bt231.2.2.2 = true then ((ontimeref04_reg.f a0_1 (decide ((bt231.1.size : Int) > 0))).bind fun t235 => (if t235 = true then ((ontimeref04_reg.f a0_2 (decide ((bt231.1.size : Int) > 1))).bind fun t236 => (if t236 = true then ((ontimeref04_reg.f a0_3 (decide ((bt231.1.size : Int) > 2))).bind fun t237 => (ontimeref04_Valid.j0 k bt231.2.1 bt231.2.2.1 (!t237) a0_0 a0_1 a0_2 a0_3 a0_4)) else (ontimeref04_Valid.j0 k bt231.2.1 bt231.2.2.1 true a0_0 a0_1 a0_2 a0_3 a0_4))) else (ontimeref04_Valid.j0 k bt231.2.1 bt231.2.2.1 true a0_0 a0_1 a0_2 a0_3 a0_4))) else (ontimeref04_Valid.j0 k bt231.2.1 bt231.2.2.1 true a0_0 a0_1 a0_2 a0_3 a0_4))) = some r := h
 clear h
 replace H := bM H
 obtain ⟨⟨t231, t232, t233, t234⟩, A20, H⟩ := H
 (try dsimp only at H)
 have A2 := aK A20
 clear A20
 have HC3 := aK H
 clear H
 go_enter Try.func64, Try.ntmps64
 go_upto_region 2 with (first | ((refine gate_dst (N := 1) rfl ?_); (try (refine gate_guard (by rfl) ?_; dsimp only)); refine box_event ?hg (N := 1) ?hd (cs := #[.int .u8 a0_0, .int .i64 a0_1, .int .i64 a0_2, .int .i64 a0_3, .int .i64 a0_4]) (t := 53) ?hr ?_; (case hd => rfl); (case hg => rfl); (case hr => first | (go_simp; done) | (go_simp; rfl)); intro gb230 hg w4 hbox hb; have BK230 := aK (hbox); have GW230 := aK ((by rw [hg]; exact (below_size (tB0 HB.out)) : w.heap.size ≤ gb230)); have GE230 := GW230; replace HB := aK (below_step (tB0 HB.out) hb); clear hb hbox hg; have hcz5_0 := bc 0 BK230.out; have hcz5_1 := bc 1 BK230.out; have hcz5_2 := bc 2 BK230.out; have hcz5_3 := bc 3 BK230.out; have hcz5_4 := bc 4 BK230.out; have hfz5_0 := blk_frozen BK230.out 0; have hfz5_1 := blk_frozen BK230.out 1; have hfz5_2 := blk_frozen BK230.out 2; have hfz5_3 := blk_frozen BK230.out 3; have hfz5_4 := blk_frozen BK230.out 4) | ((refine gate_callee (f := 63) rfl ?_); refine goesL_ (some 10) rfl rfl Try.func63 (by kernel_rfl) rfl #[.int .u8 a0_0] rfl tF ?_; (with_reducible refine (ontimeref04_Format.calls k a0_0 t231 t232 t233 t234 _ A2.out).mono ?_); rintro e w' ⟨rfl, ⟨nd, rfl⟩⟩; refine ⟨_, rfl, ?_⟩))
 (try simp only [Act.put, pA, pB, pC])
 go_cut [43] (fun v43 wc => ∃ (kq : Nat) (x43_2 : Bool), v43 = .bool x43_2 ∧ Aside0 (ontimeref04_Valid.j0 kq t232 t233 x43_2 a0_0 a0_1 a0_2 a0_3 a0_4 = some r) ∧ Aside0 (kq ≤ k) ∧ Aside0 (wc.heap[gb230]? = some (.cells #[.int .u8 a0_0, .int .i64 a0_1, .int .i64 a0_2, .int .i64 a0_3, .int .i64 a0_4] 53 (0, 0))) ∧ Aside0 (Below w.heap.size w wc))
 case first =>
  have H := HC3.out
  clear HC3
  by_cases c6 : t234 = true
  rotate_left
  ·replace c6 := Bool.eq_false_iff.mpr c6
   subst c6
   rw [if_neg (show ¬ (false = true) by decide)] at H
   have H' := aK H
   clear H
   go_wp2
   go_meet
   case rel => exact ⟨_, (true), (by first | rfl | (simp; done) | (simp [*]; done)), H', ⟨by first | omega | exact Nat.le_refl _⟩, ⟨tK BK230.out⟩, ⟨tB1 HB.out GE230.out⟩⟩
  subst c6
  rw [if_pos rfl] at H
  replace H := bM H
  obtain ⟨t235, A70, H⟩ := H
  (try dsimp only at H)
  have A7 := aK A70
  clear A70
  by_cases c8 : t235 = true
  ·subst c8
   rw [if_pos rfl] at H
   replace H := bM H
   obtain ⟨t236, A90, H⟩ := H
   (try dsimp only at H)
   have A9 := aK A90
   clear A90
   by_cases c10 : t236 = true
   ·subst c10
    rw [if_pos rfl] at H
    replace H := bM H
    obtain ⟨t237, A110, H⟩ := H
    (try dsimp only at H)
    have A11 := aK A110
    clear A110
    have H' := aK H
    clear H
    have hcz12_0 := bc 0 BK230.out
    have hcz12_1 := bc 1 BK230.out
    have hcz12_2 := bc 2 BK230.out
    have hcz12_3 := bc 3 BK230.out
    have hcz12_4 := bc 4 BK230.out
    have hfz12_0 := blk_frozen BK230.out 0
    have hfz12_1 := blk_frozen BK230.out 1
    have hfz12_2 := blk_frozen BK230.out 2
    have hfz12_3 := blk_frozen BK230.out 3
    have hfz12_4 := blk_frozen BK230.out 4
    go_wp2_with (first | (go_at_call 77; (with_reducible refine (ontimeref04_reg.calls a0_1 (decide (0 < t231.size)) true _ (by have h_ := A7.out; rw [show decide ((t231.size : Int) > 0) = decide (0 < t231.size) from decide_eq_decide.mpr (by omega)] at h_; exact h_)).mono ?_); rintro e w' ⟨rfl, ⟨nd, rfl⟩⟩) | (go_at_call 77; (with_reducible refine (ontimeref04_reg.calls a0_2 (decide ((t231.size : Int) > 1)) true _ A9.out).mono ?_); rintro e w' ⟨rfl, ⟨nd, rfl⟩⟩) | (go_at_call 77; (with_reducible refine (ontimeref04_reg.calls a0_3 (decide ((t231.size : Int) > 2)) t237 _ A11.out).mono ?_); rintro e w' ⟨rfl, ⟨nd, rfl⟩⟩))
    go_meet
    case rel => exact ⟨_, (!t237), (by first | rfl | (simp; done) | (simp [*]; done)), H', ⟨by first | omega | exact Nat.le_refl _⟩, ⟨tK BK230.out⟩, ⟨tB1 HB.out GE230.out⟩⟩
   ·replace c10 := Bool.eq_false_iff.mpr c10
    subst c10
    rw [if_neg (show ¬ (false = true) by decide)] at H
    have H' := aK H
    clear H
    have hcz13_0 := bc 0 BK230.out
    have hcz13_1 := bc 1 BK230.out
    have hcz13_2 := bc 2 BK230.out
    have hcz13_3 := bc 3 BK230.out
    have hcz13_4 := bc 4 BK230.out
    have hfz13_0 := blk_frozen BK230.out 0
    have hfz13_1 := blk_frozen BK230.out 1
    have hfz13_2 := blk_frozen BK230.out 2
    have hfz13_3 := blk_frozen BK230.out 3
    have hfz13_4 := blk_frozen BK230.out 4
    go_wp2_with (first | (go_at_call 77; (with_reducible refine (ontimeref04_reg.calls a0_1 (decide (0 < t231.size)) true _ (by have h_ := A7.out; rw [show decide ((t231.size : Int) > 0) = decide (0 < t231.size) from decide_eq_decide.mpr (by omega)] at h_; exact h_)).mono ?_); rintro e w' ⟨rfl, ⟨nd, rfl⟩⟩) | (go_at_call 77; (with_reducible refine (ontimeref04_reg.calls a0_2 (decide ((t231.size : Int) > 1)) false _ A9.out).mono ?_); rintro e w' ⟨rfl, ⟨nd, rfl⟩⟩))
    go_meet
    case rel => exact ⟨_, (true), (by first | rfl | (simp; done) | (simp [*]; done)), H', ⟨by first | omega | exact Nat.le_refl _⟩, ⟨tK BK230.out⟩, ⟨tB1 HB.out GE230.out⟩⟩
  ·replace c8 := Bool.eq_false_iff.mpr c8
   subst c8
   rw [if_neg (show ¬ (false = true) by decide)] at H
   have H' := aK H
   clear H
   have hcz14_0 := bc 0 BK230.out
   have hcz14_1 := bc 1 BK230.out
   have hcz14_2 := bc 2 BK230.out
   have hcz14_3 := bc 3 BK230.out
   have hcz14_4 := bc 4 BK230.out
   have hfz14_0 := blk_frozen BK230.out 0
   have hfz14_1 := blk_frozen BK230.out 1
   have hfz14_2 := blk_frozen BK230.out 2
   have hfz14_3 := blk_frozen BK230.out 3
   have hfz14_4 := blk_frozen BK230.out 4
   go_wp2_with (first | (go_at_call 77; (with_reducible refine (ontimeref04_reg.calls a0_1 (decide (0 < t231.size)) false _ (by have h_ := A7.out; rw [show decide ((t231.size : Int) > 0) = decide (0 < t231.size) from decide_eq_decide.mpr (by omega)] at h_; exact h_)).mono ?_); rintro e w' ⟨rfl, ⟨nd, rfl⟩⟩))
   go_meet
   case rel => exact ⟨_, (true), (by first | rfl | (simp; done) | (simp [*]; done)), H', ⟨by first | omega | exact Nat.le_refl _⟩, ⟨tK BK230.out⟩, ⟨tB1 HB.out GE230.out⟩⟩
 clear HC3
 obtain ⟨kq, x43_2, rfl, HA, HJ2, BK230, HB⟩ := hcut
 cases kq with
 | zero => exact absurd HA.out (by simp [ontimeref04_Valid.j0])
 | succ kj2 =>
  have H := HA.out
  clear HA
  simp only [ontimeref04_Valid.j0] at H
  by_cases c15 : x43_2 = true
  ·subst c15
   rw [if_pos rfl] at H
   obtain rfl := oI H
   go_wp2
   go_ret
   exact ⟨by first | rfl | (simp [errW_none, errW_some] <;> rfl) | (simp [*, errW_none, errW_some] <;> rfl), by repeat (first | (with_reducible first | exact HB.out | apply below_alloc | apply pw_below_drewN | apply below_drew1 | refine below_set ?_ GE230.out) | exact HB.out)⟩
  replace c15 := Bool.eq_false_iff.mpr c15
  subst c15
  rw [if_neg (show ¬ (false = true) by decide)] at H
  by_cases c16 : t232 > t233
  ·rw [if_pos c16] at H
   have c16b0 : decide (t233 < t232) = true := decide_eq_true c16
   clear c16
   obtain rfl := oI H
   have hcz17_0 := bc 0 BK230.out
   have hcz17_1 := bc 1 BK230.out
   have hcz17_2 := bc 2 BK230.out
   have hcz17_3 := bc 3 BK230.out
   have hcz17_4 := bc 4 BK230.out
   have hfz17_0 := blk_frozen BK230.out 0
   have hfz17_1 := blk_frozen BK230.out 1
   have hfz17_2 := blk_frozen BK230.out 2
   have hfz17_3 := blk_frozen BK230.out 3
   have hfz17_4 := blk_frozen BK230.out 4
   go_wp2
   go_ret
   exact ⟨by first | rfl | (simp [errW_none, errW_some] <;> rfl) | (simp [*, errW_none, errW_some] <;> rfl), by repeat (first | (with_reducible first | exact HB.out | apply below_alloc | apply pw_below_drewN | apply below_drew1 | refine below_set ?_ GE230.out) | exact HB.out)⟩
  ·rw [if_neg c16] at H
   have c16b0 : decide (t233 < t232) = false := decide_eq_false c16
   clear c16
   by_cases c18 : a0_4 ≥ t232
   ·rw [if_pos c18] at H
    have c18b0 : decide (t232 ≤ a0_4) = true := decide_eq_true c18
    clear c18
    obtain rfl := oI H
    have hcz19_0 := bc 0 BK230.out
    have hcz19_1 := bc 1 BK230.out
    have hcz19_2 := bc 2 BK230.out
    have hcz19_3 := bc 3 BK230.out
    have hcz19_4 := bc 4 BK230.out
    have hfz19_0 := blk_frozen BK230.out 0
    have hfz19_1 := blk_frozen BK230.out 1
    have hfz19_2 := blk_frozen BK230.out 2
    have hfz19_3 := blk_frozen BK230.out 3
    have hfz19_4 := blk_frozen BK230.out 4
    go_wp2
    go_ret
    exact ⟨by first | rfl | (simp [errW_none, errW_some] <;> rfl) | (simp [*, errW_none, errW_some] <;> rfl), by repeat (first | (with_reducible first | exact HB.out | apply below_alloc | apply pw_below_drewN | apply below_drew1 | refine below_set ?_ GE230.out) | exact HB.out)⟩
   ·rw [if_neg c18] at H
    have c18b0 : decide (t232 ≤ a0_4) = false := decide_eq_false c18
    clear c18
    obtain rfl := oI H
    have hcz20_0 := bc 0 BK230.out
    have hcz20_1 := bc 1 BK230.out
    have hcz20_2 := bc 2 BK230.out
    have hcz20_3 := bc 3 BK230.out
    have hcz20_4 := bc 4 BK230.out
    have hfz20_0 := blk_frozen BK230.out 0
    have hfz20_1 := blk_frozen BK230.out 1
    have hfz20_2 := blk_frozen BK230.out 2
    have hfz20_3 := blk_frozen BK230.out 3
    have hfz20_4 := blk_frozen BK230.out 4
    go_wp2
    go_ret
    exact ⟨by first | rfl | (simp [errW_none, errW_some] <;> rfl) | (simp [*, errW_none, errW_some] <;> rfl), by repeat (first | (with_reducible first | exact HB.out | apply below_alloc | apply pw_below_drewN | apply below_drew1 | refine below_set ?_ GE230.out) | exact HB.out)⟩
def ontimeref04_Encode.f (k : Nat) (a0_0 : Int) (a0_1 : Int) (a0_2 : Int) (a0_3 : Int) (a0_4 : Int) : Option (Int) := (ontimeref04_Format.f k a0_0).bind fun bt239 => (if bt239.2.1 > bt239.2.2.1 then (some ((((((((((a0_0) % 4294967296) * 67108864) % 4294967296) + ((((a0_1) % 4294967296) * 4194304) % 4294967296)) % 4294967296) + ((((a0_2) % 4294967296) * 262144) % 4294967296)) % 4294967296) + ((((a0_3) % 4294967296) * 16384) % 4294967296)) % 4294967296)) else (if a0_4 < 0 then (some ((((((((((((a0_0) % 4294967296) * 67108864) % 4294967296) + ((((a0_1) % 4294967296) * 4194304) % 4294967296)) % 4294967296) + ((((a0_2) % 4294967296) * 262144) % 4294967296)) % 4294967296) + ((((a0_3) % 4294967296) * 16384) % 4294967296)) % 4294967296) + ((wrap64 (a0_4 + 262144)) % 4294967296)) % 4294967296)) else (some ((((((((((((a0_0) % 4294967296) * 67108864) % 4294967296) + ((((a0_1) % 4294967296) * 4194304) % 4294967296)) % 4294967296) + ((((a0_2) % 4294967296) * 262144) % 4294967296)) % 4294967296) + ((((a0_3) % 4294967296) * 16384) % 4294967296)) % 4294967296) + ((a0_4) % 4294967296)) % 4294967296))))
set_option maxHeartbeats 8000000 in
set_option maxRecDepth 100000 in
theorem ontimeref04_Encode.calls (k : Nat) (a0_0 : Int) (a0_1 : Int) (a0_2 : Int) (a0_3 : Int) (a0_4 : Int) (r : Int) (w : World) (h : ontimeref04_Encode.f k a0_0 a0_1 a0_2 a0_3 a0_4 = some r) :
  Calls Try.prog 65 #[.agg #[.int .u8 a0_0, .int .i64 a0_1, .int .i64 a0_2, .int .i64 a0_3, .int .i64 a0_4]] w fun e w' => e = .returned (.int .u32 r) ∧ Below w.heap.size w w' := by
 have hu53 := Try.underlying53
 have HB := aK (Below.refl w.heap.size w)
 have H : ((ontimeref04_Format.f k a0_0).bind fun bt239 => (if bt239.2.1 > bt239.2.2.1 then (some ((((((((((a0_0) % 4294967296) * 67108864) % 4294967296) + ((((a0_1) % 4294967296) * 4194304) % 4294967296)) % 4294967296) + ((((a0_2) % 4294967296) * 262144) % 4294967296)) % 4294967296) + ((((a0_3) % 4294967296) * 16384) % 4294967296)) % 4294967296)) else (if a0_4 < 0 then (some ((((((((((((a0_0) % 4294967296) * 67108864) % 4294967296) + ((((a0_1) % 4294967296) * 4194304) % 4294967296)) % 4294967296) + ((((a0_2) % 4294967296) * 262144) % 4294967296)) % 4294967296) + ((((a0_3) % 4294967296) * 16384) % 4294967296)) % 4294967296) + ((wrap64 (a0_4 + 262144)) % 4294967296)) % 4294967296)) else (some ((((((((((((a0_0) % 4294967296) * 67108864) % 4294967296) + ((((a0_1) % 4294967296) * 4194304) % 4294967296)) % 4294967296) + ((((a0_2) % 4294967296) * 262144) % 4294967296)) % 4294967296) + ((((a0_3) % 4294967296) * 16384) % 4294967296)) % 4294967296) + ((a0_4) % 4294967296)) % 4294967296))))) = some r := h
 clear h
 replace H := bM H
 obtain ⟨⟨t239, t240, t241, t242⟩, A20, H⟩ := H
 (try dsimp only at H)
 have A2 := aK A20
 clear A20
 by_cases c3 : t240 > t241
 ·rw [if_pos c3] at H
  have c3b0 : decide (t241 < t240) = true := decide_eq_true c3
  clear c3
  obtain rfl := oI H
  go_enter Try.func65, Try.ntmps65
  go_wp2_with (first | ((refine gate_dst (N := 1) rfl ?_); refine box_event ?hg (N := 1) ?hd (cs := #[.int .u8 a0_0, .int .i64 a0_1, .int .i64 a0_2, .int .i64 a0_3, .int .i64 a0_4]) (t := 53) ?hr ?_; (case hd => rfl); (case hg => rfl); (case hr => first | (go_simp; done) | (go_simp; rfl)); intro gb238 hg w4 hbox hb; have BK238 := aK (hbox); have GW238 := aK ((by rw [hg]; exact (below_size (tB0 HB.out)) : w.heap.size ≤ gb238)); have GE238 := GW238; replace HB := aK (below_step (tB0 HB.out) hb); clear hb hbox hg; have hcz5_0 := bc 0 BK238.out; have hcz5_1 := bc 1 BK238.out; have hcz5_2 := bc 2 BK238.out; have hcz5_3 := bc 3 BK238.out; have hcz5_4 := bc 4 BK238.out; have hfz5_0 := blk_frozen BK238.out 0; have hfz5_1 := blk_frozen BK238.out 1; have hfz5_2 := blk_frozen BK238.out 2; have hfz5_3 := blk_frozen BK238.out 3; have hfz5_4 := blk_frozen BK238.out 4) | ((refine gate_callee (f := 63) rfl ?_); refine goesL_ (some 12) rfl rfl Try.func63 (by kernel_rfl) rfl #[.int .u8 a0_0] rfl tF ?_; (with_reducible refine (ontimeref04_Format.calls k a0_0 t239 t240 t241 t242 _ A2.out).mono ?_); rintro e w' ⟨rfl, ⟨nd, rfl⟩⟩; refine ⟨_, rfl, ?_⟩))
  go_ret
  exact ⟨by first | rfl | (simp [errW_none, errW_some] <;> rfl) | (simp [*, errW_none, errW_some] <;> rfl), by repeat (first | (with_reducible first | exact HB.out | apply below_alloc | apply pw_below_drewN | apply below_drew1 | refine below_set ?_ GE238.out) | exact HB.out)⟩
 rw [if_neg c3] at H
 have c3b0 : decide (t241 < t240) = false := decide_eq_false c3
 clear c3
 by_cases c6 : a0_4 < 0
 ·rw [if_pos c6] at H
  have c6b0 : decide (a0_4 < 0) = true := decide_eq_true c6
  clear c6
  obtain rfl := oI H
  go_enter Try.func65, Try.ntmps65
  go_wp2_with (first | ((refine gate_dst (N := 1) rfl ?_); refine box_event ?hg (N := 1) ?hd (cs := #[.int .u8 a0_0, .int .i64 a0_1, .int .i64 a0_2, .int .i64 a0_3, .int .i64 a0_4]) (t := 53) ?hr ?_; (case hd => rfl); (case hg => rfl); (case hr => first | (go_simp; done) | (go_simp; rfl)); intro gb238 hg w7 hbox hb; have BK238 := aK (hbox); have GW238 := aK ((by rw [hg]; exact (below_size (tB0 HB.out)) : w.heap.size ≤ gb238)); have GE238 := GW238; replace HB := aK (below_step (tB0 HB.out) hb); clear hb hbox hg; have hcz8_0 := bc 0 BK238.out; have hcz8_1 := bc 1 BK238.out; have hcz8_2 := bc 2 BK238.out; have hcz8_3 := bc 3 BK238.out; have hcz8_4 := bc 4 BK238.out; have hfz8_0 := blk_frozen BK238.out 0; have hfz8_1 := blk_frozen BK238.out 1; have hfz8_2 := blk_frozen BK238.out 2; have hfz8_3 := blk_frozen BK238.out 3; have hfz8_4 := blk_frozen BK238.out 4) | ((refine gate_callee (f := 63) rfl ?_); refine goesL_ (some 12) rfl rfl Try.func63 (by kernel_rfl) rfl #[.int .u8 a0_0] rfl tF ?_; (with_reducible refine (ontimeref04_Format.calls k a0_0 t239 t240 t241 t242 _ A2.out).mono ?_); rintro e w' ⟨rfl, ⟨nd, rfl⟩⟩; refine ⟨_, rfl, ?_⟩))
  go_ret
  exact ⟨by first | rfl | (simp [errW_none, errW_some] <;> rfl) | (simp [*, errW_none, errW_some] <;> rfl), by repeat (first | (with_reducible first | exact HB.out | apply below_alloc | apply pw_below_drewN | apply below_drew1 | refine below_set ?_ GE238.out) | exact HB.out)⟩
 ·rw [if_neg c6] at H
  have c6b0 : decide (a0_4 < 0) = false := decide_eq_false c6
  clear c6
  obtain rfl := oI H
  go_enter Try.func65, Try.ntmps65
  go_wp2_with (first | ((refine gate_dst (N := 1) rfl ?_); refine box_event ?hg (N := 1) ?hd (cs := #[.int .u8 a0_0, .int .i64 a0_1, .int .i64 a0_2, .int .i64 a0_3, .int .i64 a0_4]) (t := 53) ?hr ?_; (case hd => rfl); (case hg => rfl); (case hr => first | (go_simp; done) | (go_simp; rfl)); intro gb238 hg w9 hbox hb; have BK238 := aK (hbox); have GW238 := aK ((by rw [hg]; exact (below_size (tB0 HB.out)) : w.heap.size ≤ gb238)); have GE238 := GW238; replace HB := aK (below_step (tB0 HB.out) hb); clear hb hbox hg; have hcz10_0 := bc 0 BK238.out; have hcz10_1 := bc 1 BK238.out; have hcz10_2 := bc 2 BK238.out; have hcz10_3 := bc 3 BK238.out; have hcz10_4 := bc 4 BK238.out; have hfz10_0 := blk_frozen BK238.out 0; have hfz10_1 := blk_frozen BK238.out 1; have hfz10_2 := blk_frozen BK238.out 2; have hfz10_3 := blk_frozen BK238.out 3; have hfz10_4 := blk_frozen BK238.out 4) | ((refine gate_callee (f := 63) rfl ?_); refine goesL_ (some 12) rfl rfl Try.func63 (by kernel_rfl) rfl #[.int .u8 a0_0] rfl tF ?_; (with_reducible refine (ontimeref04_Format.calls k a0_0 t239 t240 t241 t242 _ A2.out).mono ?_); rintro e w' ⟨rfl, ⟨nd, rfl⟩⟩; refine ⟨_, rfl, ?_⟩))
  go_ret
  exact ⟨by first | rfl | (simp [errW_none, errW_some] <;> rfl) | (simp [*, errW_none, errW_some] <;> rfl), by repeat (first | (with_reducible first | exact HB.out | apply below_alloc | apply pw_below_drewN | apply below_drew1 | refine below_set ?_ GE238.out) | exact HB.out)⟩
end Go.Proofs.Ytihmfdndiicjgaa.C
