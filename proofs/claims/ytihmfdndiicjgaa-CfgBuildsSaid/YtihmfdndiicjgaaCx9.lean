import Derived.Test.YtihmfdndiicjgaaCx0
import Derived.Test.YtihmfdndiicjgaaCx7
import Derived.Test.YtihmfdndiicjgaaCx8
namespace Go.Proofs.Ytihmfdndiicjgaa.C
open Go.RowKit Go.Proofs.YtihmfdndiicjgaaW.PrintWords Go.Proofs.YtihmfdndiicjgaaW.PrintLast Go.Proofs.YtihmfdndiicjgaaW.PrintMore
attribute [local go_sem] max2_int min2_int max_two min_two max_three min_three max_four min_four   -- for this text's walks alone
set_option linter.unusedVariables false
set_option linter.unusedSimpArgs false
mutual
def ontimeref04_Decode.j0 : Nat → Int → ByteArray → Int → Int → Int → Int → Int → Int → Int → Option (Int × Int × Int × Int × Int × Bool)
 | 0, _, _, _, _, _, _, _, _, _ => none
 | k + 1, x0, x5, x6, x7, x249000, x249001, x249002, x249003, x249004 => if (x5.size : Int) > 2 then (ontimeref04_Decode.j1 k x0 x6 x7 x249000 x249001 x249002 ((Int.tdiv x0 16384) % 16) x249004) else (ontimeref04_Decode.j1 k x0 x6 x7 x249000 x249001 x249002 x249003 x249004)
def ontimeref04_Decode.j1 : Nat → Int → Int → Int → Int → Int → Int → Int → Int → Option (Int × Int × Int × Int × Int × Bool)
 | 0, _, _, _, _, _, _, _, _ => none
 | k + 1, x0, x6, x7, x249000, x249001, x249002, x249003, x249004 => if x6 ≤ x7 then (if (wrap64 (Int.tmod x0 262144)) > 131071 then (ontimeref04_Decode.j2 k x0 x249000 x249001 x249002 x249003 (wrap64 ((wrap64 (Int.tmod x0 262144)) - 262144))) else (ontimeref04_Decode.j2 k x0 x249000 x249001 x249002 x249003 (wrap64 (Int.tmod x0 262144)))) else (ontimeref04_Decode.j2 k x0 x249000 x249001 x249002 x249003 x249004)
def ontimeref04_Decode.j2 : Nat → Int → Int → Int → Int → Int → Int → Option (Int × Int × Int × Int × Int × Bool)
 | 0, _, _, _, _, _, _ => none
 | k + 1, x0, x249000, x249001, x249002, x249003, x249004 => (ontimeref04_Valid.f k x249000 x249001 x249002 x249003 x249004).bind fun t249 => (if t249 = true then ((ontimeref04_Encode.f k x249000 x249001 x249002 x249003 x249004).bind fun t250 => (if t250 = x0 then (some (x249000, x249001, x249002, x249003, x249004, true)) else (some (0, 0, 0, 0, 0, false)))) else (some (0, 0, 0, 0, 0, false)))
end
def ontimeref04_Decode.f (k : Nat) (a0 : Int) : Option (Int × Int × Int × Int × Int × Bool) := if ((Int.tdiv a0 67108864) % 4294967296) ≥ 30 then (some (0, 0, 0, 0, 0, false)) else ((ontimeref04_Format.f k (((Int.tdiv a0 67108864) % 4294967296) % 256)).bind fun bt244 => (if (bt244.1.size : Int) > 1 then (ontimeref04_Decode.j0 k a0 bt244.1 bt244.2.1 bt244.2.2.1 ((Int.tdiv a0 67108864) % 256) ((Int.tdiv a0 4194304) % 16) ((Int.tdiv a0 262144) % 16) 0 0) else (ontimeref04_Decode.j0 k a0 bt244.1 bt244.2.1 bt244.2.2.1 ((Int.tdiv a0 67108864) % 256) ((Int.tdiv a0 4194304) % 16) 0 0 0)))
set_option maxHeartbeats 8000000 in
set_option maxRecDepth 100000 in
theorem ontimeref04_Decode.calls (k : Nat) (a0 : Int) (r1 : Int) (r2 : Int) (r3 : Int) (r4 : Int) (r5 : Int) (r6 : Bool) (w : World) (h : ontimeref04_Decode.f k a0 = some (r1, r2, r3, r4, r5, r6)) :
  Calls Try.prog 43 #[.int .u32 a0] w fun e w' => e = .returned (.tuple #[.agg #[.int .u8 r1, .int .i64 r2, .int .i64 r3, .int .i64 r4, .int .i64 r5], .bool r6]) ∧ Below w.heap.size w w' := by
 have hu53 := Try.underlying53
 have HB := aK (Below.refl w.heap.size w)
 have H : (if ((Int.tdiv a0 67108864) % 4294967296) ≥ 30 then (some (0, 0, 0, 0, 0, false)) else ((ontimeref04_Format.f k (((Int.tdiv a0 67108864) % 4294967296) % 256)).bind fun bt244 => (if (bt244.1.size : Int) > 1 then (ontimeref04_Decode.j0 k a0 bt244.1 bt244.2.1 bt244.2.2.1 ((Int.tdiv a0 67108864) % 256) ((Int.tdiv a0 4194304) % 16) ((Int.tdiv a0 262144) % 16) 0 0) else (ontimeref04_Decode.j0 k a0 bt244.1 bt244.2.1 bt244.2.2.1 ((Int.tdiv a0 67108864) % 256) ((Int.tdiv a0 4194304) % 16) 0 0 0)))) = some (r1, r2, r3, r4, r5, r6) := h
 clear h
 by_cases c2 : ((Int.tdiv a0 67108864) % 4294967296) ≥ 30
 ·rw [if_pos c2] at H
  have c2b0 : decide (30 ≤ ((Int.tdiv a0 67108864) % 4294967296)) = true := decide_eq_true c2
  clear c2
  simp only [Option.some.injEq, Prod.mk.injEq] at H
  obtain ⟨rfl, rfl, rfl, rfl, rfl, rfl⟩ := H
  go_enter Try.func43, Try.ntmps43
  go_wp2_with (first | ((refine gate_dst (N := 2) rfl ?_); refine box_event ?hg (N := 2) ?hd (cs := #[.int .u8 0, .int .i64 0, .int .i64 0, .int .i64 0, .int .i64 0]) (t := 53) ?hr ?_; (case hd => rfl); (case hg => rfl); (case hr => first | (go_simp; done) | (go_simp; rfl)); intro gb243 hg w3 hbox hb; have BK243 := aK (hbox); have GW243 := aK ((by rw [hg]; exact (below_size (tB0 HB.out)) : w.heap.size ≤ gb243)); have GE243 := GW243; replace HB := aK (below_step (tB0 HB.out) hb); clear hb hbox hg; have hcz4_0 := bc 0 BK243.out; have hcz4_1 := bc 1 BK243.out; have hcz4_2 := bc 2 BK243.out; have hcz4_3 := bc 3 BK243.out; have hcz4_4 := bc 4 BK243.out; have hfz4_0 := blk_frozen BK243.out 0; have hfz4_1 := blk_frozen BK243.out 1; have hfz4_2 := blk_frozen BK243.out 2; have hfz4_3 := blk_frozen BK243.out 3; have hfz4_4 := blk_frozen BK243.out 4))
  refine bodyPost_ret (results_ct rfl _ _ gb243 53 #[.int .u8 0, .int .i64 0, .int .i64 0, .int .i64 0, .int .i64 0] (0, 0) _ rfl (by refine tK ?_; refine blk_put (cs := #[.int .u8 0, .int .i64 0, .int .i64 0, .int .i64 0, .int .i64 0]) ?_ 4 _ rfl; refine tK ?_; refine blk_put (cs := #[.int .u8 0, .int .i64 0, .int .i64 0, .int .i64 0, .int .i64 0]) ?_ 3 _ rfl; refine tK ?_; refine blk_put (cs := #[.int .u8 0, .int .i64 0, .int .i64 0, .int .i64 0, .int .i64 0]) ?_ 2 _ rfl; refine tK ?_; refine blk_put (cs := #[.int .u8 0, .int .i64 0, .int .i64 0, .int .i64 0, .int .i64 0]) ?_ 1 _ rfl; refine tK ?_; refine blk_put (cs := #[.int .u8 0, .int .i64 0, .int .i64 0, .int .i64 0, .int .i64 0]) ?_ 0 _ rfl; refine tK ?_; exact BK243.out) Try.underlying53 rfl (by kernel_rfl)) rfl ?_
  exact ⟨by first | rfl | (simp [errW_none, errW_some] <;> rfl) | (simp [*, errW_none, errW_some] <;> rfl), by repeat (first | (with_reducible first | exact HB.out | apply below_alloc | apply pw_below_drewN | apply below_drew1 | refine below_set ?_ GE243.out) | exact HB.out)⟩
 rw [if_neg c2] at H
 have c2b0 : decide (30 ≤ ((Int.tdiv a0 67108864) % 4294967296)) = false := decide_eq_false c2
 clear c2
 replace H := bM H
 obtain ⟨⟨t244, t245, t246, t247⟩, A50, H⟩ := H
 (try dsimp only at H)
 have A5 := aK A50
 clear A50
 have HC6 := aK H
 clear H
 go_enter Try.func43, Try.ntmps43
 go_upto_if 32 with (first | ((refine gate_dst (N := 2) rfl ?_); refine box_event ?hg (N := 2) ?hd (cs := #[.int .u8 0, .int .i64 0, .int .i64 0, .int .i64 0, .int .i64 0]) (t := 53) ?hr ?_; (case hd => rfl); (case hg => rfl); (case hr => first | (go_simp; done) | (go_simp; rfl)); intro gb243 hg w7 hbox hb; have BK243 := aK (hbox); have GW243 := aK ((by rw [hg]; exact (below_size (tB0 HB.out)) : w.heap.size ≤ gb243)); have GE243 := GW243; replace HB := aK (below_step (tB0 HB.out) hb); clear hb hbox hg) | ((refine gate_callee (f := 63) rfl ?_); refine goesL_ (some 18) rfl rfl Try.func63 (by kernel_rfl) rfl #[.int .u8 (((Int.tdiv a0 67108864) % 4294967296) % 256)] rfl tF ?_; (with_reducible refine (ontimeref04_Format.calls k (((Int.tdiv a0 67108864) % 4294967296) % 256) t244 t245 t246 t247 _ A5.out).mono ?_); rintro e w' ⟨rfl, ⟨nd, rfl⟩⟩; refine ⟨_, rfl, ?_⟩; (try (rw [drewN_self w7]; generalize hq_ : World.drewN w7 _ = w7; replace BK243 : Aside0 (w7.heap[gb243]? = some (.cells #[.int .u8 0, .int .i64 0, .int .i64 0, .int .i64 0, .int .i64 0] 53 (0, 0))) := ⟨by rw [← hq_]; exact (tK BK243.out)⟩; replace HB : Aside0 (Below w.heap.size w w7) := ⟨by rw [← hq_]; exact (tB1 HB.out GE243.out)⟩; clear hq_))) | ((refine gate_dst (N := 9) rfl ?_); refine box_event ?hg (N := 9) ?hd (cs := #[.int .u8 0, .int .i64 0, .int .i64 0, .int .i64 0, .int .i64 0]) (t := 53) ?hr ?_; (case hd => rfl); (case hg => rfl); (case hr => first | (go_simp; done) | (go_simp; rfl)); intro gb248 hg w8 hbox hb; have BK248 := aK (hbox); have GW248 := aK ((by rw [hg]; exact (below_size (tB1 HB.out GE243.out)) : w.heap.size ≤ gb248)); have GE248 := GW248; replace HB := aK (below_step (tB1 HB.out GE243.out) hb); have NB243_248 := aK ((by rw [hg]; exact Nat.ne_of_lt (blk_lt (g := gb243) (o := .cells #[.int .u8 0, .int .i64 0, .int .i64 0, .int .i64 0, .int .i64 0] 53 (0, 0)) (tK BK243.out)) : gb243 ≠ gb248)); have NB248_243 := aK ((by rw [hg]; exact Nat.ne_of_gt (blk_lt (g := gb243) (o := .cells #[.int .u8 0, .int .i64 0, .int .i64 0, .int .i64 0, .int .i64 0] 53 (0, 0)) (tK BK243.out)) : gb248 ≠ gb243)); replace BK243 := aK (blk_below (g := gb243) (tK BK243.out) hb); clear hb hbox hg; have hnb9 := NB248_243.out; have hnc9 := NB243_248.out; have hcz10_0 := bc 0 BK248.out; have hcz10_1 := bc 1 BK248.out; have hcz10_2 := bc 2 BK248.out; have hcz10_3 := bc 3 BK248.out; have hcz10_4 := bc 4 BK248.out; have hfz10_0 := blk_frozen BK248.out 0; have hfz10_1 := blk_frozen BK248.out 1; have hfz10_2 := blk_frozen BK248.out 2; have hfz10_3 := blk_frozen BK248.out 3; have hfz10_4 := blk_frozen BK248.out 4))
 (try simp only [Act.put, pA, pB, pC])
 go_cut [] (fun wc => ∃ (kq : Nat) (x249002_5 : Int), Aside0 (ontimeref04_Decode.j0 kq a0 t244 t245 t246 ((Int.tdiv a0 67108864) % 256) ((Int.tdiv a0 4194304) % 16) x249002_5 0 0 = some (r1, r2, r3, r4, r5, r6)) ∧ Aside0 (kq ≤ k) ∧ Aside0 (wc.heap[gb243]? = some (.cells #[.int .u8 0, .int .i64 0, .int .i64 0, .int .i64 0, .int .i64 0] 53 (0, 0))) ∧ Aside0 (wc.heap[gb248]? = some (.cells #[.int .u8 ((Int.tdiv a0 67108864) % 256), .int .i64 ((Int.tdiv a0 4194304) % 16), .int .i64 x249002_5, .int .i64 0, .int .i64 0] 53 (0, 0))) ∧ Aside0 (Below w.heap.size w wc))
 case first =>
  have H := HC6.out
  clear HC6
  by_cases c11 : (t244.size : Int) > 1
  rotate_left
  ·rw [if_neg c11] at H
   have c11b0 : decide (1 < (t244.size : Int)) = false := decide_eq_false c11
   have c11b1 : decide (1 < t244.size) = false := decide_eq_false (by omega)
   clear c11
   (first | rw [c11b0] | (simp only [i64_w, i32_w]; rw [c11b0]) | skip)
   have H' := aK H
   clear H
   go_wp2
   go_meet
   case rel => exact ⟨_, (0), H', ⟨by first | omega | exact Nat.le_refl _⟩, ⟨by refine tK ?_; refine blk_far ?_ NB243_248.out _; refine tK ?_; refine blk_far ?_ NB243_248.out _; refine tK ?_; refine blk_far ?_ NB243_248.out _; refine tK ?_; refine blk_far ?_ NB243_248.out _; refine tK ?_; refine blk_far ?_ NB243_248.out _; refine tK ?_; exact BK243.out⟩, ⟨by refine tK ?_; refine blk_put (cs := #[.int .u8 ((Int.tdiv a0 67108864) % 256), .int .i64 ((Int.tdiv a0 4194304) % 16), .int .i64 0, .int .i64 0, .int .i64 0]) ?_ 4 _ rfl; refine tK ?_; refine blk_put (cs := #[.int .u8 ((Int.tdiv a0 67108864) % 256), .int .i64 ((Int.tdiv a0 4194304) % 16), .int .i64 0, .int .i64 0, .int .i64 0]) ?_ 3 _ rfl; refine tK ?_; refine blk_put (cs := #[.int .u8 ((Int.tdiv a0 67108864) % 256), .int .i64 ((Int.tdiv a0 4194304) % 16), .int .i64 0, .int .i64 0, .int .i64 0]) ?_ 2 _ rfl; refine tK ?_; refine blk_put (cs := #[.int .u8 ((Int.tdiv a0 67108864) % 256), .int .i64 0, .int .i64 0, .int .i64 0, .int .i64 0]) ?_ 1 _ rfl; refine tK ?_; refine blk_put (cs := #[.int .u8 0, .int .i64 0, .int .i64 0, .int .i64 0, .int .i64 0]) ?_ 0 _ rfl; refine tK ?_; exact BK248.out⟩, ⟨tB2 HB.out GE243.out GE248.out⟩⟩
  rw [if_pos c11] at H
  have c11b0 : decide (1 < (t244.size : Int)) = true := decide_eq_true c11
  have c11b1 : decide (1 < t244.size) = true := decide_eq_true (by omega)
  clear c11
  (first | rw [c11b0] | (simp only [i64_w, i32_w]; rw [c11b0]) | skip)
  have H' := aK H
  clear H
  have hnb12 := NB248_243.out
  have hnc12 := NB243_248.out
  have hcz13_0 := bc 0 BK248.out
  have hcz13_1 := bc 1 BK248.out
  have hcz13_2 := bc 2 BK248.out
  have hcz13_3 := bc 3 BK248.out
  have hcz13_4 := bc 4 BK248.out
  have hfz13_0 := blk_frozen BK248.out 0
  have hfz13_1 := blk_frozen BK248.out 1
  have hfz13_2 := blk_frozen BK248.out 2
  have hfz13_3 := blk_frozen BK248.out 3
  have hfz13_4 := blk_frozen BK248.out 4
  go_wp2
  go_meet
  case rel => exact ⟨_, ((Int.tdiv a0 262144) % 16), H', ⟨by first | omega | exact Nat.le_refl _⟩, ⟨by refine tK ?_; refine blk_far ?_ NB243_248.out _; refine tK ?_; refine blk_far ?_ NB243_248.out _; refine tK ?_; refine blk_far ?_ NB243_248.out _; refine tK ?_; refine blk_far ?_ NB243_248.out _; refine tK ?_; refine blk_far ?_ NB243_248.out _; refine tK ?_; refine blk_far ?_ NB243_248.out _; refine tK ?_; exact BK243.out⟩, ⟨by refine tK ?_; refine blk_put (cs := #[.int .u8 ((Int.tdiv a0 67108864) % 256), .int .i64 ((Int.tdiv a0 4194304) % 16), .int .i64 0, .int .i64 0, .int .i64 0]) ?_ 2 _ rfl; refine tK ?_; refine blk_put (cs := #[.int .u8 ((Int.tdiv a0 67108864) % 256), .int .i64 ((Int.tdiv a0 4194304) % 16), .int .i64 0, .int .i64 0, .int .i64 0]) ?_ 4 _ rfl; refine tK ?_; refine blk_put (cs := #[.int .u8 ((Int.tdiv a0 67108864) % 256), .int .i64 ((Int.tdiv a0 4194304) % 16), .int .i64 0, .int .i64 0, .int .i64 0]) ?_ 3 _ rfl; refine tK ?_; refine blk_put (cs := #[.int .u8 ((Int.tdiv a0 67108864) % 256), .int .i64 ((Int.tdiv a0 4194304) % 16), .int .i64 0, .int .i64 0, .int .i64 0]) ?_ 2 _ rfl; refine tK ?_; refine blk_put (cs := #[.int .u8 ((Int.tdiv a0 67108864) % 256), .int .i64 0, .int .i64 0, .int .i64 0, .int .i64 0]) ?_ 1 _ rfl; refine tK ?_; refine blk_put (cs := #[.int .u8 0, .int .i64 0, .int .i64 0, .int .i64 0, .int .i64 0]) ?_ 0 _ rfl; refine tK ?_; exact BK248.out⟩, ⟨tB2 HB.out GE243.out GE248.out⟩⟩
 clear HC6
 obtain ⟨kq, x249002_5, HA, HJ5, BK243, BK248, HB⟩ := hcut
 cases kq with
 | zero => exact absurd HA.out (by simp [ontimeref04_Decode.j0])
 | succ kj5 =>
  have H := HA.out
  clear HA
  simp only [ontimeref04_Decode.j0] at H
  have HC14 := aK H
  clear H
  go_upto_if 40 with (fail)
  go_cut [] (fun wc => ∃ (kq : Nat) (x249003_13 : Int), Aside0 (ontimeref04_Decode.j1 kq a0 t245 t246 ((Int.tdiv a0 67108864) % 256) ((Int.tdiv a0 4194304) % 16) x249002_5 x249003_13 0 = some (r1, r2, r3, r4, r5, r6)) ∧ Aside0 (kq ≤ kj5) ∧ Aside0 (wc.heap[gb243]? = some (.cells #[.int .u8 0, .int .i64 0, .int .i64 0, .int .i64 0, .int .i64 0] 53 (0, 0))) ∧ Aside0 (wc.heap[gb248]? = some (.cells #[.int .u8 ((Int.tdiv a0 67108864) % 256), .int .i64 ((Int.tdiv a0 4194304) % 16), .int .i64 x249002_5, .int .i64 x249003_13, .int .i64 0] 53 (0, 0))) ∧ Aside0 (Below w.heap.size w wc))
  case first =>
   have H := HC14.out
   clear HC14
   by_cases c15 : (t244.size : Int) > 2
   rotate_left
   ·rw [if_neg c15] at H
    have c15b0 : decide (2 < (t244.size : Int)) = false := decide_eq_false c15
    have c15b1 : decide (2 < t244.size) = false := decide_eq_false (by omega)
    clear c15
    (first | rw [c15b0] | (simp only [i64_w, i32_w]; rw [c15b0]) | skip)
    have H' := aK H
    clear H
    go_wp2
    go_meet
    case rel => exact ⟨_, (0), H', ⟨by have := HJ5.out; first | omega | exact Nat.le_refl _⟩, ⟨tK BK243.out⟩, ⟨tK BK248.out⟩, ⟨tB2 HB.out GE243.out GE248.out⟩⟩
   rw [if_pos c15] at H
   have c15b0 : decide (2 < (t244.size : Int)) = true := decide_eq_true c15
   have c15b1 : decide (2 < t244.size) = true := decide_eq_true (by omega)
   clear c15
   (first | rw [c15b0] | (simp only [i64_w, i32_w]; rw [c15b0]) | skip)
   have H' := aK H
   clear H
   have hnb16 := NB248_243.out
   have hnc16 := NB243_248.out
   have hcz17_0 := bc 0 BK248.out
   have hcz17_1 := bc 1 BK248.out
   have hcz17_2 := bc 2 BK248.out
   have hcz17_3 := bc 3 BK248.out
   have hcz17_4 := bc 4 BK248.out
   have hfz17_0 := blk_frozen BK248.out 0
   have hfz17_1 := blk_frozen BK248.out 1
   have hfz17_2 := blk_frozen BK248.out 2
   have hfz17_3 := blk_frozen BK248.out 3
   have hfz17_4 := blk_frozen BK248.out 4
   go_wp2
   go_meet
   case rel => exact ⟨_, ((Int.tdiv a0 16384) % 16), H', ⟨by have := HJ5.out; first | omega | exact Nat.le_refl _⟩, ⟨by refine tK ?_; refine blk_far ?_ NB243_248.out _; refine tK ?_; exact BK243.out⟩, ⟨by refine tK ?_; refine blk_put (cs := #[.int .u8 ((Int.tdiv a0 67108864) % 256), .int .i64 ((Int.tdiv a0 4194304) % 16), .int .i64 x249002_5, .int .i64 0, .int .i64 0]) ?_ 3 _ rfl; refine tK ?_; exact BK248.out⟩, ⟨tB2 HB.out GE243.out GE248.out⟩⟩
  clear HC14
  obtain ⟨kq, x249003_13, HA, HJ13, BK243, BK248, HB⟩ := hcut
  cases kq with
  | zero => exact absurd HA.out (by simp [ontimeref04_Decode.j1])
  | succ kj13 =>
   have H := HA.out
   clear HA
   simp only [ontimeref04_Decode.j1] at H
   have HC18 := aK H
   clear H
   go_upto_if 48 with (fail)
   go_cut [] (fun wc => ∃ (kq : Nat) (x249004_17 : Int), Aside0 (ontimeref04_Decode.j2 kq a0 ((Int.tdiv a0 67108864) % 256) ((Int.tdiv a0 4194304) % 16) x249002_5 x249003_13 x249004_17 = some (r1, r2, r3, r4, r5, r6)) ∧ Aside0 (kq ≤ kj13) ∧ Aside0 (wc.heap[gb243]? = some (.cells #[.int .u8 0, .int .i64 0, .int .i64 0, .int .i64 0, .int .i64 0] 53 (0, 0))) ∧ Aside0 (wc.heap[gb248]? = some (.cells #[.int .u8 ((Int.tdiv a0 67108864) % 256), .int .i64 ((Int.tdiv a0 4194304) % 16), .int .i64 x249002_5, .int .i64 x249003_13, .int .i64 x249004_17] 53 (0, 0))) ∧ Aside0 (Below w.heap.size w wc))
   case first =>
    have H := HC18.out
    clear HC18
    by_cases c19 : t245 ≤ t246
    rotate_left
    ·rw [if_neg c19] at H
     have c19b0 : decide (t245 ≤ t246) = false := decide_eq_false c19
     clear c19
     (first | rw [c19b0] | (simp only [i64_w, i32_w]; rw [c19b0]) | skip)
     have H' := aK H
     clear H
     go_wp2
     go_meet
     case rel => exact ⟨_, (0), H', ⟨by have := HJ5.out; have := HJ13.out; first | omega | exact Nat.le_refl _⟩, ⟨tK BK243.out⟩, ⟨tK BK248.out⟩, ⟨tB2 HB.out GE243.out GE248.out⟩⟩
    rw [if_pos c19] at H
    have c19b0 : decide (t245 ≤ t246) = true := decide_eq_true c19
    clear c19
    (first | rw [c19b0] | (simp only [i64_w, i32_w]; rw [c19b0]) | skip)
    by_cases c20 : (wrap64 (Int.tmod a0 262144)) > 131071
    ·rw [if_pos c20] at H
     have c20b0 : decide (131071 < (wrap64 (Int.tmod a0 262144))) = true := decide_eq_true c20
     clear c20
     have H' := aK H
     clear H
     have hnb21 := NB248_243.out
     have hnc21 := NB243_248.out
     have hcz22_0 := bc 0 BK248.out
     have hcz22_1 := bc 1 BK248.out
     have hcz22_2 := bc 2 BK248.out
     have hcz22_3 := bc 3 BK248.out
     have hcz22_4 := bc 4 BK248.out
     have hfz22_0 := blk_frozen BK248.out 0
     have hfz22_1 := blk_frozen BK248.out 1
     have hfz22_2 := blk_frozen BK248.out 2
     have hfz22_3 := blk_frozen BK248.out 3
     have hfz22_4 := blk_frozen BK248.out 4
     go_wp2
     go_meet
     case rel => exact ⟨_, (wrap64 ((wrap64 (Int.tmod a0 262144)) - 262144)), H', ⟨by have := HJ5.out; have := HJ13.out; first | omega | exact Nat.le_refl _⟩, ⟨by refine tK ?_; refine blk_far ?_ NB243_248.out _; refine tK ?_; refine blk_far ?_ NB243_248.out _; refine tK ?_; exact BK243.out⟩, ⟨by refine tK ?_; refine blk_put (cs := #[.int .u8 ((Int.tdiv a0 67108864) % 256), .int .i64 ((Int.tdiv a0 4194304) % 16), .int .i64 x249002_5, .int .i64 x249003_13, .int .i64 (wrap64 (Int.tmod a0 262144))]) ?_ 4 _ rfl; refine tK ?_; refine blk_put (cs := #[.int .u8 ((Int.tdiv a0 67108864) % 256), .int .i64 ((Int.tdiv a0 4194304) % 16), .int .i64 x249002_5, .int .i64 x249003_13, .int .i64 0]) ?_ 4 _ rfl; refine tK ?_; exact BK248.out⟩, ⟨tB2 HB.out GE243.out GE248.out⟩⟩
    ·rw [if_neg c20] at H
     have c20b0 : decide (131071 < (wrap64 (Int.tmod a0 262144))) = false := decide_eq_false c20
     clear c20
     have H' := aK H
     clear H
     have hnb23 := NB248_243.out
     have hnc23 := NB243_248.out
     have hcz24_0 := bc 0 BK248.out
     have hcz24_1 := bc 1 BK248.out
     have hcz24_2 := bc 2 BK248.out
     have hcz24_3 := bc 3 BK248.out
     have hcz24_4 := bc 4 BK248.out
     have hfz24_0 := blk_frozen BK248.out 0
     have hfz24_1 := blk_frozen BK248.out 1
     have hfz24_2 := blk_frozen BK248.out 2
     have hfz24_3 := blk_frozen BK248.out 3
     have hfz24_4 := blk_frozen BK248.out 4
     go_wp2
     go_meet
     case rel => exact ⟨_, (wrap64 (Int.tmod a0 262144)), H', ⟨by have := HJ5.out; have := HJ13.out; first | omega | exact Nat.le_refl _⟩, ⟨by refine tK ?_; refine blk_far ?_ NB243_248.out _; refine tK ?_; exact BK243.out⟩, ⟨by refine tK ?_; refine blk_put (cs := #[.int .u8 ((Int.tdiv a0 67108864) % 256), .int .i64 ((Int.tdiv a0 4194304) % 16), .int .i64 x249002_5, .int .i64 x249003_13, .int .i64 0]) ?_ 4 _ rfl; refine tK ?_; exact BK248.out⟩, ⟨tB2 HB.out GE243.out GE248.out⟩⟩
   clear HC18
   obtain ⟨kq, x249004_17, HA, HJ17, BK243, BK248, HB⟩ := hcut
   cases kq with
   | zero => exact absurd HA.out (by simp [ontimeref04_Decode.j2])
   | succ kj17 =>
    have H := HA.out
    clear HA
    simp only [ontimeref04_Decode.j2] at H
    replace H := bM H
    obtain ⟨t249, A250, H⟩ := H
    (try dsimp only at H)
    have A25 := aK A250
    clear A250
    by_cases c26 : t249 = true
    ·subst c26
     rw [if_pos rfl] at H
     replace H := bM H
     obtain ⟨t250, A270, H⟩ := H
     (try dsimp only at H)
     have A27 := aK A270
     clear A270
     by_cases c28 : t250 = a0
     ·rw [if_pos c28] at H
      have c28b0 : (t250 == a0) = true := beq_iff_eq.mpr c28
      have c28b1 : (t250 != a0) = false := bne_eq_false_iff_eq.mpr c28
      clear c28
      simp only [Option.some.injEq, Prod.mk.injEq] at H
      obtain ⟨rfl, rfl, rfl, rfl, rfl, rfl⟩ := H
      have hnb29 := NB248_243.out
      have hnc29 := NB243_248.out
      have hcz30_0 := bc 0 BK248.out
      have hcz30_1 := bc 1 BK248.out
      have hcz30_2 := bc 2 BK248.out
      have hcz30_3 := bc 3 BK248.out
      have hcz30_4 := bc 4 BK248.out
      have hfz30_0 := blk_frozen BK248.out 0
      have hfz30_1 := blk_frozen BK248.out 1
      have hfz30_2 := blk_frozen BK248.out 2
      have hfz30_3 := blk_frozen BK248.out 3
      have hfz30_4 := blk_frozen BK248.out 4
      go_wp2_with (first | ((refine gate_callee (f := 64) rfl ?_); refine goesL_ (some 61) rfl rfl Try.func64 (by kernel_rfl) rfl #[.agg #[.int .u8 ((Int.tdiv a0 67108864) % 256), .int .i64 ((Int.tdiv a0 4194304) % 16), .int .i64 x249002_5, .int .i64 x249003_13, .int .i64 x249004_17]] rfl tF ?_; (with_reducible refine (ontimeref04_Valid.calls kj17 ((Int.tdiv a0 67108864) % 256) ((Int.tdiv a0 4194304) % 16) x249002_5 x249003_13 x249004_17 true _ A25.out).mono ?_); rintro e w31 ⟨rfl, hb⟩; refine ⟨_, rfl, ?_⟩; replace BK243 := aK (blk_below (g := gb243) (tK BK243.out) hb); replace BK248 := aK (blk_below (g := gb248) (tK BK248.out) hb); replace HB := aK (below_step (tB2 HB.out GE243.out GE248.out) hb); have hcz32_0 := bc 0 BK248.out; have hcz32_1 := bc 1 BK248.out; have hcz32_2 := bc 2 BK248.out; have hcz32_3 := bc 3 BK248.out; have hcz32_4 := bc 4 BK248.out; have hfz32_0 := blk_frozen BK248.out 0; have hfz32_1 := blk_frozen BK248.out 1; have hfz32_2 := blk_frozen BK248.out 2; have hfz32_3 := blk_frozen BK248.out 3; have hfz32_4 := blk_frozen BK248.out 4) | (go_at_call 65; (with_reducible refine (ontimeref04_Encode.calls kj17 ((Int.tdiv a0 67108864) % 256) ((Int.tdiv a0 4194304) % 16) x249002_5 x249003_13 x249004_17 t250 _ A27.out).mono ?_); rintro e w33 ⟨rfl, hb⟩; replace BK243 := aK (blk_below (g := gb243) (tK BK243.out) hb); replace BK248 := aK (blk_below (g := gb248) (tK BK248.out) hb); replace HB := aK (below_step (tB2 HB.out GE243.out GE248.out) hb); have hcz34_0 := bc 0 BK248.out; have hcz34_1 := bc 1 BK248.out; have hcz34_2 := bc 2 BK248.out; have hcz34_3 := bc 3 BK248.out; have hcz34_4 := bc 4 BK248.out; have hfz34_0 := blk_frozen BK248.out 0; have hfz34_1 := blk_frozen BK248.out 1; have hfz34_2 := blk_frozen BK248.out 2; have hfz34_3 := blk_frozen BK248.out 3; have hfz34_4 := blk_frozen BK248.out 4; have hcz35_0 := bc 0 BK243.out; have hcz35_1 := bc 1 BK243.out; have hcz35_2 := bc 2 BK243.out; have hcz35_3 := bc 3 BK243.out; have hcz35_4 := bc 4 BK243.out; have hfz35_0 := blk_frozen BK243.out 0; have hfz35_1 := blk_frozen BK243.out 1; have hfz35_2 := blk_frozen BK243.out 2; have hfz35_3 := blk_frozen BK243.out 3; have hfz35_4 := blk_frozen BK243.out 4))
      refine bodyPost_ret (results_ct rfl _ _ gb243 53 #[.int .u8 ((Int.tdiv a0 67108864) % 256), .int .i64 ((Int.tdiv a0 4194304) % 16), .int .i64 x249002_5, .int .i64 x249003_13, .int .i64 x249004_17] (0, 0) _ rfl (by refine tK ?_; refine blk_put (cs := #[.int .u8 ((Int.tdiv a0 67108864) % 256), .int .i64 ((Int.tdiv a0 4194304) % 16), .int .i64 x249002_5, .int .i64 x249003_13, .int .i64 0]) ?_ 4 _ rfl; refine tK ?_; refine blk_put (cs := #[.int .u8 ((Int.tdiv a0 67108864) % 256), .int .i64 ((Int.tdiv a0 4194304) % 16), .int .i64 x249002_5, .int .i64 0, .int .i64 0]) ?_ 3 _ rfl; refine tK ?_; refine blk_put (cs := #[.int .u8 ((Int.tdiv a0 67108864) % 256), .int .i64 ((Int.tdiv a0 4194304) % 16), .int .i64 0, .int .i64 0, .int .i64 0]) ?_ 2 _ rfl; refine tK ?_; refine blk_put (cs := #[.int .u8 ((Int.tdiv a0 67108864) % 256), .int .i64 0, .int .i64 0, .int .i64 0, .int .i64 0]) ?_ 1 _ rfl; refine tK ?_; refine blk_put (cs := #[.int .u8 0, .int .i64 0, .int .i64 0, .int .i64 0, .int .i64 0]) ?_ 0 _ rfl; refine tK ?_; exact BK243.out) Try.underlying53 rfl (by kernel_rfl)) rfl ?_
      exact ⟨by first | rfl | (simp [errW_none, errW_some] <;> rfl) | (simp [*, errW_none, errW_some] <;> rfl), by repeat (first | (with_reducible first | exact HB.out | apply below_alloc | apply pw_below_drewN | apply below_drew1 | refine below_set ?_ GE243.out | refine below_set ?_ GE248.out) | exact HB.out)⟩
     ·rw [if_neg c28] at H
      have c28b0 : (t250 == a0) = false := beq_eq_false_iff_ne.mpr c28
      have c28b1 : (t250 != a0) = true := bne_iff_ne.mpr c28
      simp only [Option.some.injEq, Prod.mk.injEq] at H
      obtain ⟨rfl, rfl, rfl, rfl, rfl, rfl⟩ := H
      have hnb36 := NB248_243.out
      have hnc36 := NB243_248.out
      have hcz37_0 := bc 0 BK248.out
      have hcz37_1 := bc 1 BK248.out
      have hcz37_2 := bc 2 BK248.out
      have hcz37_3 := bc 3 BK248.out
      have hcz37_4 := bc 4 BK248.out
      have hfz37_0 := blk_frozen BK248.out 0
      have hfz37_1 := blk_frozen BK248.out 1
      have hfz37_2 := blk_frozen BK248.out 2
      have hfz37_3 := blk_frozen BK248.out 3
      have hfz37_4 := blk_frozen BK248.out 4
      go_wp2_with (first | ((refine gate_callee (f := 64) rfl ?_); refine goesL_ (some 61) rfl rfl Try.func64 (by kernel_rfl) rfl #[.agg #[.int .u8 ((Int.tdiv a0 67108864) % 256), .int .i64 ((Int.tdiv a0 4194304) % 16), .int .i64 x249002_5, .int .i64 x249003_13, .int .i64 x249004_17]] rfl tF ?_; (with_reducible refine (ontimeref04_Valid.calls kj17 ((Int.tdiv a0 67108864) % 256) ((Int.tdiv a0 4194304) % 16) x249002_5 x249003_13 x249004_17 true _ A25.out).mono ?_); rintro e w38 ⟨rfl, hb⟩; refine ⟨_, rfl, ?_⟩; replace BK243 := aK (blk_below (g := gb243) (tK BK243.out) hb); replace BK248 := aK (blk_below (g := gb248) (tK BK248.out) hb); replace HB := aK (below_step (tB2 HB.out GE243.out GE248.out) hb); have hcz39_0 := bc 0 BK248.out; have hcz39_1 := bc 1 BK248.out; have hcz39_2 := bc 2 BK248.out; have hcz39_3 := bc 3 BK248.out; have hcz39_4 := bc 4 BK248.out; have hfz39_0 := blk_frozen BK248.out 0; have hfz39_1 := blk_frozen BK248.out 1; have hfz39_2 := blk_frozen BK248.out 2; have hfz39_3 := blk_frozen BK248.out 3; have hfz39_4 := blk_frozen BK248.out 4) | (go_at_call 65; (with_reducible refine (ontimeref04_Encode.calls kj17 ((Int.tdiv a0 67108864) % 256) ((Int.tdiv a0 4194304) % 16) x249002_5 x249003_13 x249004_17 t250 _ A27.out).mono ?_); rintro e w40 ⟨rfl, hb⟩; replace BK243 := aK (blk_below (g := gb243) (tK BK243.out) hb); replace BK248 := aK (blk_below (g := gb248) (tK BK248.out) hb); replace HB := aK (below_step (tB2 HB.out GE243.out GE248.out) hb); have hcz41_0 := bc 0 BK243.out; have hcz41_1 := bc 1 BK243.out; have hcz41_2 := bc 2 BK243.out; have hcz41_3 := bc 3 BK243.out; have hcz41_4 := bc 4 BK243.out; have hfz41_0 := blk_frozen BK243.out 0; have hfz41_1 := blk_frozen BK243.out 1; have hfz41_2 := blk_frozen BK243.out 2; have hfz41_3 := blk_frozen BK243.out 3; have hfz41_4 := blk_frozen BK243.out 4))
      refine bodyPost_ret (results_ct rfl _ _ gb243 53 #[.int .u8 0, .int .i64 0, .int .i64 0, .int .i64 0, .int .i64 0] (0, 0) _ rfl (by refine tK ?_; refine blk_put (cs := #[.int .u8 0, .int .i64 0, .int .i64 0, .int .i64 0, .int .i64 0]) ?_ 4 _ rfl; refine tK ?_; refine blk_put (cs := #[.int .u8 0, .int .i64 0, .int .i64 0, .int .i64 0, .int .i64 0]) ?_ 3 _ rfl; refine tK ?_; refine blk_put (cs := #[.int .u8 0, .int .i64 0, .int .i64 0, .int .i64 0, .int .i64 0]) ?_ 2 _ rfl; refine tK ?_; refine blk_put (cs := #[.int .u8 0, .int .i64 0, .int .i64 0, .int .i64 0, .int .i64 0]) ?_ 1 _ rfl; refine tK ?_; refine blk_put (cs := #[.int .u8 0, .int .i64 0, .int .i64 0, .int .i64 0, .int .i64 0]) ?_ 0 _ rfl; refine tK ?_; exact BK243.out) Try.underlying53 rfl (by kernel_rfl)) rfl ?_
      exact ⟨by first | rfl | (simp [errW_none, errW_some] <;> rfl) | (simp [*, errW_none, errW_some] <;> rfl), by repeat (first | (with_reducible first | exact HB.out | apply below_alloc | apply pw_below_drewN | apply below_drew1 | refine below_set ?_ GE243.out | refine below_set ?_ GE248.out) | exact HB.out)⟩
    ·replace c26 := Bool.eq_false_iff.mpr c26
     subst c26
     rw [if_neg (show ¬ (false = true) by decide)] at H
     simp only [Option.some.injEq, Prod.mk.injEq] at H
     obtain ⟨rfl, rfl, rfl, rfl, rfl, rfl⟩ := H
     have hnb42 := NB248_243.out
     have hnc42 := NB243_248.out
     have hcz43_0 := bc 0 BK248.out
     have hcz43_1 := bc 1 BK248.out
     have hcz43_2 := bc 2 BK248.out
     have hcz43_3 := bc 3 BK248.out
     have hcz43_4 := bc 4 BK248.out
     have hfz43_0 := blk_frozen BK248.out 0
     have hfz43_1 := blk_frozen BK248.out 1
     have hfz43_2 := blk_frozen BK248.out 2
     have hfz43_3 := blk_frozen BK248.out 3
     have hfz43_4 := blk_frozen BK248.out 4
     go_wp2_with (first | ((refine gate_callee (f := 64) rfl ?_); refine goesL_ (some 61) rfl rfl Try.func64 (by kernel_rfl) rfl #[.agg #[.int .u8 ((Int.tdiv a0 67108864) % 256), .int .i64 ((Int.tdiv a0 4194304) % 16), .int .i64 x249002_5, .int .i64 x249003_13, .int .i64 x249004_17]] rfl tF ?_; (with_reducible refine (ontimeref04_Valid.calls kj17 ((Int.tdiv a0 67108864) % 256) ((Int.tdiv a0 4194304) % 16) x249002_5 x249003_13 x249004_17 false _ A25.out).mono ?_); rintro e w44 ⟨rfl, hb⟩; refine ⟨_, rfl, ?_⟩; replace BK243 := aK (blk_below (g := gb243) (tK BK243.out) hb); replace BK248 := aK (blk_below (g := gb248) (tK BK248.out) hb); replace HB := aK (below_step (tB2 HB.out GE243.out GE248.out) hb); have hcz45_0 := bc 0 BK243.out; have hcz45_1 := bc 1 BK243.out; have hcz45_2 := bc 2 BK243.out; have hcz45_3 := bc 3 BK243.out; have hcz45_4 := bc 4 BK243.out; have hfz45_0 := blk_frozen BK243.out 0; have hfz45_1 := blk_frozen BK243.out 1; have hfz45_2 := blk_frozen BK243.out 2; have hfz45_3 := blk_frozen BK243.out 3; have hfz45_4 := blk_frozen BK243.out 4))
     refine bodyPost_ret (results_ct rfl _ _ gb243 53 #[.int .u8 0, .int .i64 0, .int .i64 0, .int .i64 0, .int .i64 0] (0, 0) _ rfl (by refine tK ?_; refine blk_put (cs := #[.int .u8 0, .int .i64 0, .int .i64 0, .int .i64 0, .int .i64 0]) ?_ 4 _ rfl; refine tK ?_; refine blk_put (cs := #[.int .u8 0, .int .i64 0, .int .i64 0, .int .i64 0, .int .i64 0]) ?_ 3 _ rfl; refine tK ?_; refine blk_put (cs := #[.int .u8 0, .int .i64 0, .int .i64 0, .int .i64 0, .int .i64 0]) ?_ 2 _ rfl; refine tK ?_; refine blk_put (cs := #[.int .u8 0, .int .i64 0, .int .i64 0, .int .i64 0, .int .i64 0]) ?_ 1 _ rfl; refine tK ?_; refine blk_put (cs := #[.int .u8 0, .int .i64 0, .int .i64 0, .int .i64 0, .int .i64 0]) ?_ 0 _ rfl; refine tK ?_; exact BK243.out) Try.underlying53 rfl (by kernel_rfl)) rfl ?_
     exact ⟨by first | rfl | (simp [errW_none, errW_some] <;> rfl) | (simp [*, errW_none, errW_some] <;> rfl), by repeat (first | (with_reducible first | exact HB.out | apply below_alloc | apply pw_below_drewN | apply below_drew1 | refine below_set ?_ GE243.out | refine below_set ?_ GE248.out) | exact HB.out)⟩
def ontimeref24_Code.l0 : Nat → List (S53) → Int → List Int → List (S39) → Int → Int → Option ((List (S53)))
 | 0, _, _, _, _, _, _ => none
 | k + 1, x3, x4, x252000, x252001, x252002, x252003 => if x4 < (x252000.length : Int) then (if 0 ≤ x4 then ((ontimeref04_Decode.f k (rd x252000 x4)).bind fun bt256 => (if x3.length < 3518437208883 then (ontimeref24_Code.l0 k (x3 ++ [(⟨bt256.1, bt256.2.1, bt256.2.2.1, bt256.2.2.2.1, bt256.2.2.2.2.1⟩ : S53)]) (wrap64 (x4 + 1)) x252000 x252001 x252002 x252003) else (none))) else (none)) else (some x3)
def ontimeref24_Code.f (k : Nat) (l0_0 : List Int) (l0_1 : List (S39)) (a0_2 : Int) (a0_3 : Int) : Option ((List (S53))) := ontimeref24_Code.l0 k (([] : List (S53))) 0 l0_0 l0_1 a0_2 a0_3
set_option maxHeartbeats 8000000 in
set_option maxRecDepth 100000 in
theorem ontimeref24_Code.calls (k : Nat) (A0_0 : Option Addr) (c0_0 : Nat) (l0_0 : List Int) (A0_1 : Option Addr) (c0_1 : Nat) (l0_1 : List (S39)) (a0_2 : Int) (a0_3 : Int) (r : List (S53)) (w : World) (hr0_0 : Kd.C (Kd.int .u32) w A0_0 l0_0.length l0_0) (hc0_0 : l0_0.length ≤ c0_0) (hr0_1 : Kd.C k39 w A0_1 l0_1.length l0_1) (hc0_1 : l0_1.length ≤ c0_1) (h : ontimeref24_Code.f k l0_0 l0_1 a0_2 a0_3 = some r) :
  Calls Try.prog 14 #[.agg #[.slice A0_0 l0_0.length c0_0, .slice A0_1 l0_1.length c0_1, .int .i64 a0_2, .int .i64 a0_3]] w fun e w' => ∃ v0_ : Value, e = .returned (v0_) ∧ Kd.R k53 53 w' w.heap.size (fun _ => True) v0_ r ∧ Below w.heap.size w w' := by
 have hu25 := Try.underlying25
 have hu53 := Try.underlying53
 have HR0_0 := aK hr0_0
 have HC0_0 := aK hc0_0
 clear hr0_0 hc0_0
 have HR0_1 := aK hr0_1
 have HC0_1 := aK hc0_1
 clear hr0_1 hc0_1
 have HB := aK (Below.refl w.heap.size w)
 have H : (ontimeref24_Code.l0 k (([] : List (S53))) 0 l0_0 l0_1 a0_2 a0_3) = some r := h
 clear h
 obtain ⟨y252, hy252⟩ : ∃ y_ : List (S53), y_ = (([] : List (S53))) := ⟨_, rfl⟩
 replace H : (ontimeref24_Code.l0 k y252 0 l0_0 l0_1 a0_2 a0_3) = some r := by first | (rw [hy252]; with_reducible exact H) | (have H2_ := (Option.bind_some _ _).symm.trans H; rw [hy252]; with_reducible exact H2_) | (have H2_ := (Option.bind_some _ _).symm.trans H; with_reducible exact H2_) | with_reducible exact H | (rw [hy252]; exact H) | exact H
 have Ny252 := aK hy252
 clear hy252
 have H' := aK H
 clear H
 go_enter Try.func14, Try.ntmps14
 go_wp2_with (first | ((refine gate_dst (N := 1) rfl ?_); refine box_event ?hg (N := 1) ?hd (cs := #[.slice A0_0 l0_0.length c0_0, .slice A0_1 l0_1.length c0_1, .int .i64 a0_2, .int .i64 a0_3]) (t := 25) ?hr ?_; (case hd => rfl); (case hg => rfl); (case hr => first | (go_simp; done) | (go_simp; rfl)); intro gb251 hg w2 hbox hb; have BK251 := aK (hbox); have GW251 := aK ((by rw [hg]; exact (below_size (tB0 HB.out)) : w.heap.size ≤ gb251)); have GE251 := GW251; replace HB := aK (below_step (tB0 HB.out) hb); clear hb hbox hg) | ((refine gate_dst (N := 7) rfl ?_); refine Kd.R_lit k53 _ 53 ?hg (N := 7) ?hd (xs := ([] : List (S53))) (inner := []) (ok := fun _ => True) (okp := fun _ => True) ?hr ?hp (fun _ hk => hk) trivial (Below.refl _ _) (Nat.le_refl _) (by simp) ?_; (case hd => rfl); (case hg => rfl); (case hr => first | (go_simp; done) | (go_simp; rfl)); (case hp => exact (Reps.none _ _)); intro v253 w3 ho4 hb hg_ hnew_; clear hg_ hnew_; (first | rw [← Ny252.out] at ho4 | (simp only [Int.reduceToNat] at ho4; rw [← Ny252.out] at ho4)); have HO254 := aK (Kd.R_lower ho4 (below_size (tB1 HB.out GE251.out))); replace BK251 := aK (blk_below (g := gb251) (tK BK251.out) hb); replace HB := aK (below_step (tB1 HB.out GE251.out) hb); clear hb ho4))
 go_loopg [3, 4] k (fun kq v3 v4 w' => ∃ (x3_1 : List (S53)) (x4_1 : Int), v4 = .int .i64 x4_1 ∧ Aside0 (ontimeref24_Code.l0 kq x3_1 x4_1 l0_0 l0_1 a0_2 a0_3 = some r) ∧ Aside0 (kq ≤ k) ∧ Aside0 (Kd.R k53 53 w' w.heap.size (fun _ => True) v3 x3_1) ∧ Aside0 (w'.heap[gb251]? = some (.cells #[(.slice A0_0 l0_0.length c0_0), (.slice A0_1 l0_1.length c0_1), .int .i64 a0_2, .int .i64 a0_3] 25 (0, 0))) ∧ Aside0 (Below w.heap.size w w'))
 case atStart => exact ⟨(y252), (0), (by first | rfl | (simp; done) | (simp [*]; done)), H', ⟨Nat.le_refl _⟩, ⟨tR HO254.out⟩, ⟨tK BK251.out⟩, ⟨tB1 HB.out GE251.out⟩⟩
 clear H'
 obtain ⟨x3_1, x4_1, rfl, HA, HK1, HO_3, BK251, HB⟩ := hrel
 cases gk with
 | zero => exact absurd HA.out (by simp [ontimeref24_Code.l0])
 | succ k1 =>
  have H := HA.out
  clear HA
  simp only [ontimeref24_Code.l0] at H
  by_cases c5 : x4_1 < (l0_0.length : Int)
  ·rw [if_pos c5] at H
   have c5b0 : decide (x4_1 < (l0_0.length : Int)) = true := decide_eq_true c5
   clear c5
   by_cases c6 : 0 ≤ x4_1
   rotate_left
   ·rw [if_neg c6] at H
    exact absurd H (by simp)
   rw [if_pos c6] at H
   have c6b0 : decide (0 ≤ x4_1) = true := decide_eq_true c6
   clear c6
   replace H := bM H
   obtain ⟨⟨t256, t257, t258, t259, t260, t261⟩, A70, H⟩ := H
   (try dsimp only at H)
   have A7 := aK A70
   clear A70
   by_cases c8 : x3_1.length < 3518437208883
   rotate_left
   ·rw [if_neg c8] at H
    exact absurd H (by simp)
   rw [if_pos c8] at H
   have LMc8 := aK c8
   clear c8
   obtain ⟨y263, hy263⟩ : ∃ y_ : List (S53), y_ = (x3_1 ++ [(⟨t256, t257, t258, t259, t260⟩ : S53)]) := ⟨_, rfl⟩
   replace H : (ontimeref24_Code.l0 k1 y263 (wrap64 (x4_1 + 1)) l0_0 l0_1 a0_2 a0_3) = some r := by first | (rw [hy263]; with_reducible exact H) | (have H2_ := (Option.bind_some _ _).symm.trans H; rw [hy263]; with_reducible exact H2_) | (have H2_ := (Option.bind_some _ _).symm.trans H; with_reducible exact H2_) | with_reducible exact H | (rw [hy263]; exact H) | exact H
   have Ny263 := aK hy263
   clear hy263
   have H' := aK H
   clear H
   have hcz9_0 := bc 0 BK251.out
   have hcz9_1 := bc 1 BK251.out
   have hcz9_2 := bc 2 BK251.out
   have hcz9_3 := bc 3 BK251.out
   have hfz9_0 := blk_frozen BK251.out 0
   have hfz9_1 := blk_frozen BK251.out 1
   have hfz9_2 := blk_frozen BK251.out 2
   have hfz9_3 := blk_frozen BK251.out 3
   have p255 : 0 ≤ (x4_1 : Int) := tD
   have q255 : x4_1 < (l0_0.length : Int) := tD
   obtain ⟨ad255, e255, hx255_0⟩ := Kd.at_int HR0_0.out x4_1 p255 q255
   cases e255
   replace hx255_0 := cB HB.out hx255_0
   replace p255 := eq_true p255
   replace q255 := eq_true q255
   go_wp2_with (first | ((refine gate_callee (f := 43) rfl ?_); refine goesL_ (some 21) rfl rfl Try.func43 (by kernel_rfl) rfl #[.int .u32 (rd l0_0 x4_1)] rfl tF ?_; (with_reducible refine (ontimeref04_Decode.calls k1 (rd l0_0 x4_1) t256 t257 t258 t259 t260 t261 _ A7.out).mono ?_); rintro e w10 ⟨rfl, hb⟩; refine ⟨_, rfl, ?_⟩; replace HO_3 := aK (Kd.R_below (tR HO_3.out) hb); replace BK251 := aK (blk_below (g := gb251) (tK BK251.out) hb); replace HB := aK (below_step (tB1 HB.out GE251.out) hb)) | ((refine gate_dst (N := 5) rfl ?_); refine box_event ?hg (N := 5) ?hd (cs := #[.int .u8 0, .int .i64 0, .int .i64 0, .int .i64 0, .int .i64 0]) (t := 53) ?hr ?_; (case hd => rfl); (case hg => rfl); (case hr => first | (go_simp; done) | (go_simp; rfl)); intro gb262 hg w11 hbox hb; replace HO_3 := aK (Kd.R_below (Kd.R_elderB (tR HO_3.out) gb262 (Nat.le_of_eq hg.symm)) hb); have BK262 := aK (hbox); have GW262 := aK ((by rw [hg]; exact (below_size (tB1 HB.out GE251.out)) : w.heap.size ≤ gb262)); have GE262 := GW262; replace HB := aK (below_step (tB1 HB.out GE251.out) hb); have NB251_262 := aK ((by rw [hg]; exact Nat.ne_of_lt (blk_lt (g := gb251) (o := .cells #[.slice (some ad255) l0_0.length c0_0, .slice A0_1 l0_1.length c0_1, .int .i64 a0_2, .int .i64 a0_3] 25 (0, 0)) (tK BK251.out)) : gb251 ≠ gb262)); have NB262_251 := aK ((by rw [hg]; exact Nat.ne_of_gt (blk_lt (g := gb251) (o := .cells #[.slice (some ad255) l0_0.length c0_0, .slice A0_1 l0_1.length c0_1, .int .i64 a0_2, .int .i64 a0_3] 25 (0, 0)) (tK BK251.out)) : gb262 ≠ gb251)); replace BK251 := aK (blk_below (g := gb251) (tK BK251.out) hb); clear hb hbox hg; have hnb12 := NB262_251.out; have hnc12 := NB251_262.out; have hcz13_0 := bc 0 BK262.out; have hcz13_1 := bc 1 BK262.out; have hcz13_2 := bc 2 BK262.out; have hcz13_3 := bc 3 BK262.out; have hcz13_4 := bc 4 BK262.out; have hfz13_0 := blk_frozen BK262.out 0; have hfz13_1 := blk_frozen BK262.out 1; have hfz13_2 := blk_frozen BK262.out 2; have hfz13_3 := blk_frozen BK262.out 3; have hfz13_4 := blk_frozen BK262.out 4) | ((refine gate_builtin (b := .append) (xs := #[.tmp 24, .tmp 26]) rfl ?_); at_builtin; refine Kd.R_append k53 (w0 := w) w.heap.size rfl (.tmp 24) (.tmp 26) 36 53 (.agg #[(.int .u8 0), (.int .i64 0), (.int .i64 0), (.int .i64 0), (.int .i64 0)]) 40 rfl Try.underlying36 info53 rfl (by decide) (by omega) u3 x3_1 (⟨t256, t257, t258, t259, t260⟩ : S53) [.int .u8 t256, .int .i64 t257, .int .i64 t258, .int .i64 t259, .int .i64 t260] (fun k_ => k_ ≠ gb262) (fun _ => False) rfl (by first | (go_simp; done) | (go_simp; rfl)) ?aP (fun _ hk => hk.elim) ?aF ?aO ?aB ?aS ?aL ?_; (case aP => exact k53_mkM _ _ _ (⟨t256, t257, t258, t259, t260⟩ : S53)); (case aB => exact (tB2 HB.out GE251.out GE262.out)); (case aF => exact (fun k_ hk => Kd.freshB (g := gb262) (o := .cells #[.int .u8 t256, .int .i64 t257, .int .i64 t258, .int .i64 t259, .int .i64 t260] 53 (0, 0)) (by refine tK ?_; refine blk_put (cs := #[.int .u8 t256, .int .i64 t257, .int .i64 t258, .int .i64 t259, .int .i64 0]) ?_ 4 _ rfl; refine tK ?_; refine blk_put (cs := #[.int .u8 t256, .int .i64 t257, .int .i64 t258, .int .i64 0, .int .i64 0]) ?_ 3 _ rfl; refine tK ?_; refine blk_put (cs := #[.int .u8 t256, .int .i64 t257, .int .i64 0, .int .i64 0, .int .i64 0]) ?_ 2 _ rfl; refine tK ?_; refine blk_put (cs := #[.int .u8 t256, .int .i64 0, .int .i64 0, .int .i64 0, .int .i64 0]) ?_ 1 _ rfl; refine tK ?_; refine blk_put (cs := #[.int .u8 0, .int .i64 0, .int .i64 0, .int .i64 0, .int .i64 0]) ?_ 0 _ rfl; refine tK ?_; exact BK262.out) k_ hk)); (case aO => exact (by (with_reducible repeat (first | apply Kd.R_alloc | apply Kd.R_drewN | apply Kd.R_drew)); exact Kd.R_mono (Kd.R_far (p := ⟨gb262, 4, none⟩) (Kd.R_far (p := ⟨gb262, 3, none⟩) (Kd.R_far (p := ⟨gb262, 2, none⟩) (Kd.R_far (p := ⟨gb262, 1, none⟩) (Kd.R_far (p := ⟨gb262, 0, none⟩) (Kd.R_mono HO_3.out (fun k_ hk => (⟨hk, hk.2⟩ : _ ∧ k_ ≠ gb262))) (fun _ hk => hk.2) (.int .u8 t256)) (fun _ hk => hk.2) (.int .i64 t257)) (fun _ hk => hk.2) (.int .i64 t258)) (fun _ hk => hk.2) (.int .i64 t259)) (fun _ hk => hk.2) (.int .i64 t260)) (fun _ hk => hk.1.2))); (case aS => exact (below_size (tB2 HB.out GE251.out GE262.out))); (case aL => have := LMc8.out; omega); intro v264 w14 ho hb hg hat; rw [← Ny263.out] at ho; replace BK251 := aK (blk_grown (g := gb251) (o := .cells #[.slice (some ad255) l0_0.length c0_0, .slice A0_1 l0_1.length c0_1, .int .i64 a0_2, .int .i64 a0_3] 25 (0, 0)) (by refine tK ?_; refine blk_far ?_ NB251_262.out _; refine tK ?_; refine blk_far ?_ NB251_262.out _; refine tK ?_; refine blk_far ?_ NB251_262.out _; refine tK ?_; refine blk_far ?_ NB251_262.out _; refine tK ?_; refine blk_far ?_ NB251_262.out _; refine tK ?_; exact BK251.out) hg (Kd.R_ne HO_3.out BK251.out (by decide))); replace BK262 := aK (blk_grown (g := gb262) (o := .cells #[.int .u8 t256, .int .i64 t257, .int .i64 t258, .int .i64 t259, .int .i64 t260] 53 (0, 0)) (by refine tK ?_; refine blk_put (cs := #[.int .u8 t256, .int .i64 t257, .int .i64 t258, .int .i64 t259, .int .i64 0]) ?_ 4 _ rfl; refine tK ?_; refine blk_put (cs := #[.int .u8 t256, .int .i64 t257, .int .i64 t258, .int .i64 0, .int .i64 0]) ?_ 3 _ rfl; refine tK ?_; refine blk_put (cs := #[.int .u8 t256, .int .i64 t257, .int .i64 0, .int .i64 0, .int .i64 0]) ?_ 2 _ rfl; refine tK ?_; refine blk_put (cs := #[.int .u8 t256, .int .i64 0, .int .i64 0, .int .i64 0, .int .i64 0]) ?_ 1 _ rfl; refine tK ?_; refine blk_put (cs := #[.int .u8 0, .int .i64 0, .int .i64 0, .int .i64 0, .int .i64 0]) ?_ 0 _ rfl; refine tK ?_; exact BK262.out) hg (Kd.R_away HO_3.out (fun _ hk => hk.2))); replace HB := aK (hb); have HO265 := aK (ho); clear HO_3; clear ho hb hg hat))
   go_roundg k1
   case measure => have := HK1.out; omega
   case rel => exact ⟨(y263), (wrap64 (x4_1 + 1)), (by first | rfl | (simp; done) | (simp [*]; done)), H', ⟨by have := HK1.out; omega⟩, ⟨by (with_reducible repeat (first | apply Kd.R_alloc | apply Kd.R_drewN | apply Kd.R_drew)); exact Kd.R_mono HO265.out (fun _ hk => trivial)⟩, ⟨tK BK251.out⟩, ⟨tB2 HB.out GE251.out GE262.out⟩⟩
  ·rw [if_neg c5] at H
   have c5b0 : decide (x4_1 < (l0_0.length : Int)) = false := decide_eq_false c5
   clear c5
   obtain rfl := oI H
   have hcz15_0 := bc 0 BK251.out
   have hcz15_1 := bc 1 BK251.out
   have hcz15_2 := bc 2 BK251.out
   have hcz15_3 := bc 3 BK251.out
   have hfz15_0 := blk_frozen BK251.out 0
   have hfz15_1 := blk_frozen BK251.out 1
   have hfz15_2 := blk_frozen BK251.out 2
   have hfz15_3 := blk_frozen BK251.out 3
   go_wp2
   go_ret
   exact ⟨_, by first | rfl | (simp [errW_none, errW_some] <;> rfl) | (simp [*, errW_none, errW_some] <;> rfl), by (with_reducible repeat (first | apply Kd.R_alloc | apply Kd.R_drewN | apply Kd.R_drew)); exact HO_3.out, by repeat (first | (with_reducible first | exact HB.out | apply below_alloc | apply pw_below_drewN | apply below_drew1 | refine below_set ?_ GE251.out) | exact HB.out)⟩
def ontimeref24_after.f (a0_0 : Int) (a0_1 : Int) (a0_2 : Int) (a0_3 : Int) (a0_4 : Int) (a1 : Int) : Option (List Int) := if a0_0 = 1 then (some (([] : List Int))) else (if a0_0 = 24 then (some (([wrap64 ((wrap64 (a1 + 1)) + a0_4)] : List Int))) else (if a0_0 = 22 then (some (([wrap64 (a1 + 1), wrap64 ((wrap64 (a1 + 1)) + a0_4)] : List Int))) else (if a0_0 = 23 then (some (([wrap64 (a1 + 1), wrap64 ((wrap64 (a1 + 1)) + a0_4)] : List Int))) else (some (([wrap64 (a1 + 1)] : List Int))))))
set_option maxHeartbeats 8000000 in
set_option maxRecDepth 100000 in
theorem ontimeref24_after.calls (a0_0 : Int) (a0_1 : Int) (a0_2 : Int) (a0_3 : Int) (a0_4 : Int) (a1 : Int) (r : List Int) (w : World) (h : ontimeref24_after.f a0_0 a0_1 a0_2 a0_3 a0_4 a1 = some r) :
  Calls Try.prog 45 #[.agg #[.int .u8 a0_0, .int .i64 a0_1, .int .i64 a0_2, .int .i64 a0_3, .int .i64 a0_4], .int .i64 a1] w fun e w' => ∃ v0_ : Value, e = .returned (v0_) ∧ Kd.R (Kd.int .i64) 3 w' w.heap.size (fun _ => True) v0_ r ∧ Below w.heap.size w w' := by
 have hu53 := Try.underlying53
 have HB := aK (Below.refl w.heap.size w)
 have H : (if a0_0 = 1 then (some (([] : List Int))) else (if a0_0 = 24 then (some (([wrap64 ((wrap64 (a1 + 1)) + a0_4)] : List Int))) else (if a0_0 = 22 then (some (([wrap64 (a1 + 1), wrap64 ((wrap64 (a1 + 1)) + a0_4)] : List Int))) else (if a0_0 = 23 then (some (([wrap64 (a1 + 1), wrap64 ((wrap64 (a1 + 1)) + a0_4)] : List Int))) else (some (([wrap64 (a1 + 1)] : List Int))))))) = some r := h
 clear h
 by_cases c3 : a0_0 = 1
 ·rw [if_pos c3] at H
  have c3b0 : (a0_0 == 1) = true := beq_iff_eq.mpr c3
  have c3b1 : (a0_0 != 1) = false := bne_eq_false_iff_eq.mpr c3
  clear c3
  obtain ⟨y267, hy267⟩ : ∃ y_ : List Int, y_ = (([] : List Int)) := ⟨_, rfl⟩
  replace H : (some y267) = some r := by first | (rw [hy267]; with_reducible exact H) | (have H2_ := (Option.bind_some _ _).symm.trans H; rw [hy267]; with_reducible exact H2_) | (have H2_ := (Option.bind_some _ _).symm.trans H; with_reducible exact H2_) | with_reducible exact H | (rw [hy267]; exact H) | exact H
  have Ny267 := aK hy267
  clear hy267
  obtain rfl := oI H
  go_enter Try.func45, Try.ntmps45
  go_wp2_with (first | ((refine gate_dst (N := 2) rfl ?_); refine box_event ?hg (N := 2) ?hd (cs := #[.int .u8 a0_0, .int .i64 a0_1, .int .i64 a0_2, .int .i64 a0_3, .int .i64 a0_4]) (t := 53) ?hr ?_; (case hd => rfl); (case hg => rfl); (case hr => first | (go_simp; done) | (go_simp; rfl)); intro gb266 hg w4 hbox hb; have BK266 := aK (hbox); have GW266 := aK ((by rw [hg]; exact (below_size (tB0 HB.out)) : w.heap.size ≤ gb266)); have GE266 := GW266; replace HB := aK (below_step (tB0 HB.out) hb); clear hb hbox hg; have hcz5_0 := bc 0 BK266.out; have hcz5_1 := bc 1 BK266.out; have hcz5_2 := bc 2 BK266.out; have hcz5_3 := bc 3 BK266.out; have hcz5_4 := bc 4 BK266.out; have hfz5_0 := blk_frozen BK266.out 0; have hfz5_1 := blk_frozen BK266.out 1; have hfz5_2 := blk_frozen BK266.out 2; have hfz5_3 := blk_frozen BK266.out 3; have hfz5_4 := blk_frozen BK266.out 4) | ((refine gate_dst (N := 9) rfl ?_); refine Kd.R_lit (Kd.int .i64) _ 3 ?hg (N := 9) ?hd (xs := ([] : List Int)) (inner := []) (ok := fun _ => True) (okp := fun _ => True) ?hr ?hp (fun _ hk => hk) trivial (Below.refl _ _) (Nat.le_refl _) (by simp) ?_; (case hd => rfl); (case hg => rfl); (case hr => first | (go_simp; done) | (go_simp; rfl)); (case hp => exact (Reps.none _ _)); intro v268 w6 ho7 hb hg_ hnew_; clear hg_ hnew_; (first | rw [← Ny267.out] at ho7 | (simp only [Int.reduceToNat] at ho7; rw [← Ny267.out] at ho7)); have HO269 := aK (Kd.R_lower ho7 (below_size (tB1 HB.out GE266.out))); replace BK266 := aK (blk_below (g := gb266) (tK BK266.out) hb); replace HB := aK (below_step (tB1 HB.out GE266.out) hb); clear hb ho7))
  go_ret
  exact ⟨_, by first | rfl | (simp [errW_none, errW_some] <;> rfl) | (simp [*, errW_none, errW_some] <;> rfl), by (with_reducible repeat (first | apply Kd.R_alloc | apply Kd.R_drewN | apply Kd.R_drew)); exact HO269.out, by repeat (first | (with_reducible first | exact HB.out | apply below_alloc | apply pw_below_drewN | apply below_drew1 | refine below_set ?_ GE266.out) | exact HB.out)⟩
 ·rw [if_neg c3] at H
  have c3b0 : (a0_0 == 1) = false := beq_eq_false_iff_ne.mpr c3
  have c3b1 : (a0_0 != 1) = true := bne_iff_ne.mpr c3
  by_cases c8 : a0_0 = 24
  ·rw [if_pos c8] at H
   have c8b0 : (a0_0 == 24) = true := beq_iff_eq.mpr c8
   have c8b1 : (a0_0 != 24) = false := bne_eq_false_iff_eq.mpr c8
   clear c8
   obtain ⟨y270, hy270⟩ : ∃ y_ : List Int, y_ = (([wrap64 ((wrap64 (a1 + 1)) + a0_4)] : List Int)) := ⟨_, rfl⟩
   replace H : (some y270) = some r := by first | (rw [hy270]; with_reducible exact H) | (have H2_ := (Option.bind_some _ _).symm.trans H; rw [hy270]; with_reducible exact H2_) | (have H2_ := (Option.bind_some _ _).symm.trans H; with_reducible exact H2_) | with_reducible exact H | (rw [hy270]; exact H) | exact H
   have Ny270 := aK hy270
   clear hy270
   obtain rfl := oI H
   go_enter Try.func45, Try.ntmps45
   go_wp2_with (first | ((refine gate_dst (N := 2) rfl ?_); refine box_event ?hg (N := 2) ?hd (cs := #[.int .u8 a0_0, .int .i64 a0_1, .int .i64 a0_2, .int .i64 a0_3, .int .i64 a0_4]) (t := 53) ?hr ?_; (case hd => rfl); (case hg => rfl); (case hr => first | (go_simp; done) | (go_simp; rfl)); intro gb266 hg w9 hbox hb; have BK266 := aK (hbox); have GW266 := aK ((by rw [hg]; exact (below_size (tB0 HB.out)) : w.heap.size ≤ gb266)); have GE266 := GW266; replace HB := aK (below_step (tB0 HB.out) hb); clear hb hbox hg; have hcz10_0 := bc 0 BK266.out; have hcz10_1 := bc 1 BK266.out; have hcz10_2 := bc 2 BK266.out; have hcz10_3 := bc 3 BK266.out; have hcz10_4 := bc 4 BK266.out; have hfz10_0 := blk_frozen BK266.out 0; have hfz10_1 := blk_frozen BK266.out 1; have hfz10_2 := blk_frozen BK266.out 2; have hfz10_3 := blk_frozen BK266.out 3; have hfz10_4 := blk_frozen BK266.out 4) | ((refine gate_dst (N := 17) rfl ?_); refine Kd.R_lit (Kd.int .i64) _ 3 ?hg (N := 17) ?hd (xs := ([wrap64 ((wrap64 (a1 + 1)) + a0_4)] : List Int)) (inner := [.int .i64 (wrap64 ((wrap64 (a1 + 1)) + a0_4))]) (ok := fun _ => True) (okp := fun _ => True) ?hr ?hp (fun _ hk => hk) trivial (Below.refl _ _) (Nat.le_refl _) (by simp) ?_; (case hd => rfl); (case hg => rfl); (case hr => first | (go_simp; done) | (go_simp; rfl)); (case hp => exact (Reps.one (show Kd.M (Kd.int .i64) _ _ _ (wrap64 ((wrap64 (a1 + 1)) + a0_4)) [.int .i64 (wrap64 ((wrap64 (a1 + 1)) + a0_4))] from rfl) (Reps.none _ _))); intro v271 w11 ho12 hb hg_ hnew_; clear hg_ hnew_; (first | rw [← Ny270.out] at ho12 | (simp only [Int.reduceToNat] at ho12; rw [← Ny270.out] at ho12)); have HO272 := aK (Kd.R_lower ho12 (below_size (tB1 HB.out GE266.out))); replace BK266 := aK (blk_below (g := gb266) (tK BK266.out) hb); replace HB := aK (below_step (tB1 HB.out GE266.out) hb); clear hb ho12))
   go_ret
   exact ⟨_, by first | rfl | (simp [errW_none, errW_some] <;> rfl) | (simp [*, errW_none, errW_some] <;> rfl), by (with_reducible repeat (first | apply Kd.R_alloc | apply Kd.R_drewN | apply Kd.R_drew)); exact HO272.out, by repeat (first | (with_reducible first | exact HB.out | apply below_alloc | apply pw_below_drewN | apply below_drew1 | refine below_set ?_ GE266.out) | exact HB.out)⟩
  ·rw [if_neg c8] at H
   have c8b0 : (a0_0 == 24) = false := beq_eq_false_iff_ne.mpr c8
   have c8b1 : (a0_0 != 24) = true := bne_iff_ne.mpr c8
   by_cases c13 : a0_0 = 22
   ·rw [if_pos c13] at H
    have c13b0 : (a0_0 == 22) = true := beq_iff_eq.mpr c13
    have c13b1 : (a0_0 != 22) = false := bne_eq_false_iff_eq.mpr c13
    clear c13
    obtain ⟨y273, hy273⟩ : ∃ y_ : List Int, y_ = (([wrap64 (a1 + 1), wrap64 ((wrap64 (a1 + 1)) + a0_4)] : List Int)) := ⟨_, rfl⟩
    replace H : (some y273) = some r := by first | (rw [hy273]; with_reducible exact H) | (have H2_ := (Option.bind_some _ _).symm.trans H; rw [hy273]; with_reducible exact H2_) | (have H2_ := (Option.bind_some _ _).symm.trans H; with_reducible exact H2_) | with_reducible exact H | (rw [hy273]; exact H) | exact H
    have Ny273 := aK hy273
    clear hy273
    obtain rfl := oI H
    go_enter Try.func45, Try.ntmps45
    go_wp2_with (first | ((refine gate_dst (N := 2) rfl ?_); refine box_event ?hg (N := 2) ?hd (cs := #[.int .u8 a0_0, .int .i64 a0_1, .int .i64 a0_2, .int .i64 a0_3, .int .i64 a0_4]) (t := 53) ?hr ?_; (case hd => rfl); (case hg => rfl); (case hr => first | (go_simp; done) | (go_simp; rfl)); intro gb266 hg w14 hbox hb; have BK266 := aK (hbox); have GW266 := aK ((by rw [hg]; exact (below_size (tB0 HB.out)) : w.heap.size ≤ gb266)); have GE266 := GW266; replace HB := aK (below_step (tB0 HB.out) hb); clear hb hbox hg; have hcz15_0 := bc 0 BK266.out; have hcz15_1 := bc 1 BK266.out; have hcz15_2 := bc 2 BK266.out; have hcz15_3 := bc 3 BK266.out; have hcz15_4 := bc 4 BK266.out; have hfz15_0 := blk_frozen BK266.out 0; have hfz15_1 := blk_frozen BK266.out 1; have hfz15_2 := blk_frozen BK266.out 2; have hfz15_3 := blk_frozen BK266.out 3; have hfz15_4 := blk_frozen BK266.out 4) | ((refine gate_dst (N := 28) rfl ?_); refine Kd.R_lit (Kd.int .i64) _ 3 ?hg (N := 28) ?hd (xs := ([wrap64 (a1 + 1), wrap64 ((wrap64 (a1 + 1)) + a0_4)] : List Int)) (inner := [.int .i64 (wrap64 (a1 + 1)), .int .i64 (wrap64 ((wrap64 (a1 + 1)) + a0_4))]) (ok := fun _ => True) (okp := fun _ => True) ?hr ?hp (fun _ hk => hk) trivial (Below.refl _ _) (Nat.le_refl _) (by simp) ?_; (case hd => rfl); (case hg => rfl); (case hr => first | (go_simp; done) | (go_simp; rfl)); (case hp => exact (Reps.one (show Kd.M (Kd.int .i64) _ _ _ (wrap64 (a1 + 1)) [.int .i64 (wrap64 (a1 + 1))] from rfl) (Reps.one (show Kd.M (Kd.int .i64) _ _ _ (wrap64 ((wrap64 (a1 + 1)) + a0_4)) [.int .i64 (wrap64 ((wrap64 (a1 + 1)) + a0_4))] from rfl) (Reps.none _ _)))); intro v274 w16 ho17 hb hg_ hnew_; clear hg_ hnew_; (first | rw [← Ny273.out] at ho17 | (simp only [Int.reduceToNat] at ho17; rw [← Ny273.out] at ho17)); have HO275 := aK (Kd.R_lower ho17 (below_size (tB1 HB.out GE266.out))); replace BK266 := aK (blk_below (g := gb266) (tK BK266.out) hb); replace HB := aK (below_step (tB1 HB.out GE266.out) hb); clear hb ho17))
    go_ret
    exact ⟨_, by first | rfl | (simp [errW_none, errW_some] <;> rfl) | (simp [*, errW_none, errW_some] <;> rfl), by (with_reducible repeat (first | apply Kd.R_alloc | apply Kd.R_drewN | apply Kd.R_drew)); exact HO275.out, by repeat (first | (with_reducible first | exact HB.out | apply below_alloc | apply pw_below_drewN | apply below_drew1 | refine below_set ?_ GE266.out) | exact HB.out)⟩
   ·rw [if_neg c13] at H
    have c13b0 : (a0_0 == 22) = false := beq_eq_false_iff_ne.mpr c13
    have c13b1 : (a0_0 != 22) = true := bne_iff_ne.mpr c13
    by_cases c18 : a0_0 = 23
    rotate_left
    ·rw [if_neg c18] at H
     have c18b0 : (a0_0 == 23) = false := beq_eq_false_iff_ne.mpr c18
     have c18b1 : (a0_0 != 23) = true := bne_iff_ne.mpr c18
     obtain ⟨y279, hy279⟩ : ∃ y_ : List Int, y_ = (([wrap64 (a1 + 1)] : List Int)) := ⟨_, rfl⟩
     replace H : (some y279) = some r := by first | (rw [hy279]; with_reducible exact H) | (have H2_ := (Option.bind_some _ _).symm.trans H; rw [hy279]; with_reducible exact H2_) | (have H2_ := (Option.bind_some _ _).symm.trans H; with_reducible exact H2_) | with_reducible exact H | (rw [hy279]; exact H) | exact H
     have Ny279 := aK hy279
     clear hy279
     obtain rfl := oI H
     go_enter Try.func45, Try.ntmps45
     go_wp2_with (first | ((refine gate_dst (N := 2) rfl ?_); refine box_event ?hg (N := 2) ?hd (cs := #[.int .u8 a0_0, .int .i64 a0_1, .int .i64 a0_2, .int .i64 a0_3, .int .i64 a0_4]) (t := 53) ?hr ?_; (case hd => rfl); (case hg => rfl); (case hr => first | (go_simp; done) | (go_simp; rfl)); intro gb266 hg w23 hbox hb; have BK266 := aK (hbox); have GW266 := aK ((by rw [hg]; exact (below_size (tB0 HB.out)) : w.heap.size ≤ gb266)); have GE266 := GW266; replace HB := aK (below_step (tB0 HB.out) hb); clear hb hbox hg; have hcz24_0 := bc 0 BK266.out; have hcz24_1 := bc 1 BK266.out; have hcz24_2 := bc 2 BK266.out; have hcz24_3 := bc 3 BK266.out; have hcz24_4 := bc 4 BK266.out; have hfz24_0 := blk_frozen BK266.out 0; have hfz24_1 := blk_frozen BK266.out 1; have hfz24_2 := blk_frozen BK266.out 2; have hfz24_3 := blk_frozen BK266.out 3; have hfz24_4 := blk_frozen BK266.out 4) | ((refine gate_dst (N := 31) rfl ?_); refine Kd.R_lit (Kd.int .i64) _ 3 ?hg (N := 31) ?hd (xs := ([wrap64 (a1 + 1)] : List Int)) (inner := [.int .i64 (wrap64 (a1 + 1))]) (ok := fun _ => True) (okp := fun _ => True) ?hr ?hp (fun _ hk => hk) trivial (Below.refl _ _) (Nat.le_refl _) (by simp) ?_; (case hd => rfl); (case hg => rfl); (case hr => first | (go_simp; done) | (go_simp; rfl)); (case hp => exact (Reps.one (show Kd.M (Kd.int .i64) _ _ _ (wrap64 (a1 + 1)) [.int .i64 (wrap64 (a1 + 1))] from rfl) (Reps.none _ _))); intro v280 w25 ho26 hb hg_ hnew_; clear hg_ hnew_; (first | rw [← Ny279.out] at ho26 | (simp only [Int.reduceToNat] at ho26; rw [← Ny279.out] at ho26)); have HO281 := aK (Kd.R_lower ho26 (below_size (tB1 HB.out GE266.out))); replace BK266 := aK (blk_below (g := gb266) (tK BK266.out) hb); replace HB := aK (below_step (tB1 HB.out GE266.out) hb); clear hb ho26))
     go_ret
     exact ⟨_, by first | rfl | (simp [errW_none, errW_some] <;> rfl) | (simp [*, errW_none, errW_some] <;> rfl), by (with_reducible repeat (first | apply Kd.R_alloc | apply Kd.R_drewN | apply Kd.R_drew)); exact HO281.out, by repeat (first | (with_reducible first | exact HB.out | apply below_alloc | apply pw_below_drewN | apply below_drew1 | refine below_set ?_ GE266.out) | exact HB.out)⟩
    rw [if_pos c18] at H
    have c18b0 : (a0_0 == 23) = true := beq_iff_eq.mpr c18
    have c18b1 : (a0_0 != 23) = false := bne_eq_false_iff_eq.mpr c18
    clear c18
    obtain ⟨y276, hy276⟩ : ∃ y_ : List Int, y_ = (([wrap64 (a1 + 1), wrap64 ((wrap64 (a1 + 1)) + a0_4)] : List Int)) := ⟨_, rfl⟩
    replace H : (some y276) = some r := by first | (rw [hy276]; with_reducible exact H) | (have H2_ := (Option.bind_some _ _).symm.trans H; rw [hy276]; with_reducible exact H2_) | (have H2_ := (Option.bind_some _ _).symm.trans H; with_reducible exact H2_) | with_reducible exact H | (rw [hy276]; exact H) | exact H
    have Ny276 := aK hy276
    clear hy276
    obtain rfl := oI H
    go_enter Try.func45, Try.ntmps45
    go_wp2_with (first | ((refine gate_dst (N := 2) rfl ?_); refine box_event ?hg (N := 2) ?hd (cs := #[.int .u8 a0_0, .int .i64 a0_1, .int .i64 a0_2, .int .i64 a0_3, .int .i64 a0_4]) (t := 53) ?hr ?_; (case hd => rfl); (case hg => rfl); (case hr => first | (go_simp; done) | (go_simp; rfl)); intro gb266 hg w19 hbox hb; have BK266 := aK (hbox); have GW266 := aK ((by rw [hg]; exact (below_size (tB0 HB.out)) : w.heap.size ≤ gb266)); have GE266 := GW266; replace HB := aK (below_step (tB0 HB.out) hb); clear hb hbox hg; have hcz20_0 := bc 0 BK266.out; have hcz20_1 := bc 1 BK266.out; have hcz20_2 := bc 2 BK266.out; have hcz20_3 := bc 3 BK266.out; have hcz20_4 := bc 4 BK266.out; have hfz20_0 := blk_frozen BK266.out 0; have hfz20_1 := blk_frozen BK266.out 1; have hfz20_2 := blk_frozen BK266.out 2; have hfz20_3 := blk_frozen BK266.out 3; have hfz20_4 := blk_frozen BK266.out 4) | ((refine gate_dst (N := 28) rfl ?_); refine Kd.R_lit (Kd.int .i64) _ 3 ?hg (N := 28) ?hd (xs := ([wrap64 (a1 + 1), wrap64 ((wrap64 (a1 + 1)) + a0_4)] : List Int)) (inner := [.int .i64 (wrap64 (a1 + 1)), .int .i64 (wrap64 ((wrap64 (a1 + 1)) + a0_4))]) (ok := fun _ => True) (okp := fun _ => True) ?hr ?hp (fun _ hk => hk) trivial (Below.refl _ _) (Nat.le_refl _) (by simp) ?_; (case hd => rfl); (case hg => rfl); (case hr => first | (go_simp; done) | (go_simp; rfl)); (case hp => exact (Reps.one (show Kd.M (Kd.int .i64) _ _ _ (wrap64 (a1 + 1)) [.int .i64 (wrap64 (a1 + 1))] from rfl) (Reps.one (show Kd.M (Kd.int .i64) _ _ _ (wrap64 ((wrap64 (a1 + 1)) + a0_4)) [.int .i64 (wrap64 ((wrap64 (a1 + 1)) + a0_4))] from rfl) (Reps.none _ _)))); intro v277 w21 ho22 hb hg_ hnew_; clear hg_ hnew_; (first | rw [← Ny276.out] at ho22 | (simp only [Int.reduceToNat] at ho22; rw [← Ny276.out] at ho22)); have HO278 := aK (Kd.R_lower ho22 (below_size (tB1 HB.out GE266.out))); replace BK266 := aK (blk_below (g := gb266) (tK BK266.out) hb); replace HB := aK (below_step (tB1 HB.out GE266.out) hb); clear hb ho22))
    go_ret
    exact ⟨_, by first | rfl | (simp [errW_none, errW_some] <;> rfl) | (simp [*, errW_none, errW_some] <;> rfl), by (with_reducible repeat (first | apply Kd.R_alloc | apply Kd.R_drewN | apply Kd.R_drew)); exact HO278.out, by repeat (first | (with_reducible first | exact HB.out | apply below_alloc | apply pw_below_drewN | apply below_drew1 | refine below_set ?_ GE266.out) | exact HB.out)⟩
end Go.Proofs.Ytihmfdndiicjgaa.C
