import Derived.Test.YtihmfdndiicjgaaCx0
import Derived.Test.YtihmfdndiicjgaaCx2
namespace Go.Proofs.Ytihmfdndiicjgaa.C
open Go.RowKit Go.Proofs.YtihmfdndiicjgaaW.PrintWords Go.Proofs.YtihmfdndiicjgaaW.PrintLast Go.Proofs.YtihmfdndiicjgaaW.PrintMore
attribute [local go_sem] max2_int min2_int max_two min_two max_three min_three max_four min_four   -- for this text's walks alone
set_option linter.unusedVariables false
set_option linter.unusedSimpArgs false
def cfg_successors.f (a0_0 : Int) (a0_1 : Int) (a0_2 : Int) (a0_3 : Int) (a0_4 : Int) (a1 : Int) : Option (List Int) := (isa_Target.f a0_0 a0_1 a0_2 a0_3 a0_4 a1).bind fun bt153 => (if a0_0 = 1 then (some ([] : List Int)) else (if a0_0 = 24 then (some (([bt153.1] : List Int))) else (if a0_0 = 22 then (some (([wrap64 (a1 + 1), bt153.1] : List Int))) else (if a0_0 = 23 then (some (([wrap64 (a1 + 1), bt153.1] : List Int))) else (some (([wrap64 (a1 + 1)] : List Int)))))))
set_option maxHeartbeats 8000000 in
set_option maxRecDepth 100000 in
theorem cfg_successors.calls (a0_0 : Int) (a0_1 : Int) (a0_2 : Int) (a0_3 : Int) (a0_4 : Int) (a1 : Int) (r : List Int) (w : World) (h : cfg_successors.f a0_0 a0_1 a0_2 a0_3 a0_4 a1 = some r) :
  Calls Try.prog 37 #[.agg #[.int .u8 a0_0, .int .i64 a0_1, .int .i64 a0_2, .int .i64 a0_3, .int .i64 a0_4], .int .i64 a1] w fun e w' => ∃ v0_ : Value, e = .returned (v0_) ∧ Kd.R (Kd.int .i64) 3 w' w.heap.size (fun _ => True) v0_ r ∧ Below w.heap.size w w' := by
 have hu53 := Try.underlying53
 have HB := aK (Below.refl w.heap.size w)
 have H : ((isa_Target.f a0_0 a0_1 a0_2 a0_3 a0_4 a1).bind fun bt153 => (if a0_0 = 1 then (some ([] : List Int)) else (if a0_0 = 24 then (some (([bt153.1] : List Int))) else (if a0_0 = 22 then (some (([wrap64 (a1 + 1), bt153.1] : List Int))) else (if a0_0 = 23 then (some (([wrap64 (a1 + 1), bt153.1] : List Int))) else (some (([wrap64 (a1 + 1)] : List Int)))))))) = some r := h
 clear h
 replace H := bM H
 obtain ⟨⟨t153, t154⟩, A30, H⟩ := H
 (try dsimp only at H)
 have A3 := aK A30
 clear A30
 by_cases c4 : a0_0 = 1
 ·rw [if_pos c4] at H
  have c4b0 : (a0_0 == 1) = true := beq_iff_eq.mpr c4
  have c4b1 : (a0_0 != 1) = false := bne_eq_false_iff_eq.mpr c4
  clear c4
  obtain rfl := oI H
  go_enter Try.func37, Try.ntmps37
  go_wp2_with (first | ((refine gate_dst (N := 2) rfl ?_); refine box_event ?hg (N := 2) ?hd (cs := #[.int .u8 a0_0, .int .i64 a0_1, .int .i64 a0_2, .int .i64 a0_3, .int .i64 a0_4]) (t := 53) ?hr ?_; (case hd => rfl); (case hg => rfl); (case hr => first | (go_simp; done) | (go_simp; rfl)); intro gb152 hg w5 hbox hb; have BK152 := aK (hbox); have GW152 := aK ((by rw [hg]; exact (below_size (tB0 HB.out)) : w.heap.size ≤ gb152)); have GE152 := GW152; replace HB := aK (below_step (tB0 HB.out) hb); clear hb hbox hg; have hcz6_0 := bc 0 BK152.out; have hcz6_1 := bc 1 BK152.out; have hcz6_2 := bc 2 BK152.out; have hcz6_3 := bc 3 BK152.out; have hcz6_4 := bc 4 BK152.out; have hfz6_0 := blk_frozen BK152.out 0; have hfz6_1 := blk_frozen BK152.out 1; have hfz6_2 := blk_frozen BK152.out 2; have hfz6_3 := blk_frozen BK152.out 3; have hfz6_4 := blk_frozen BK152.out 4) | ((refine gate_callee (f := 26) rfl ?_); refine goesL_ (some 10) rfl rfl Try.func26 (by kernel_rfl) rfl #[.agg #[.int .u8 a0_0, .int .i64 a0_1, .int .i64 a0_2, .int .i64 a0_3, .int .i64 a0_4], .int .i64 a1] rfl tF ?_; (with_reducible refine (isa_Target.calls a0_0 a0_1 a0_2 a0_3 a0_4 a1 t153 t154 _ A3.out).mono ?_); rintro e w7 ⟨rfl, hb⟩; refine ⟨_, rfl, ?_⟩; replace BK152 := aK (blk_below (g := gb152) (tK BK152.out) hb); replace HB := aK (below_step (tB1 HB.out GE152.out) hb); have hcz8_0 := bc 0 BK152.out; have hcz8_1 := bc 1 BK152.out; have hcz8_2 := bc 2 BK152.out; have hcz8_3 := bc 3 BK152.out; have hcz8_4 := bc 4 BK152.out; have hfz8_0 := blk_frozen BK152.out 0; have hfz8_1 := blk_frozen BK152.out 1; have hfz8_2 := blk_frozen BK152.out 2; have hfz8_3 := blk_frozen BK152.out 3; have hfz8_4 := blk_frozen BK152.out 4))
  go_ret
  exact ⟨_, by first | rfl | (simp [errW_none, errW_some] <;> rfl) | (simp [*, errW_none, errW_some] <;> rfl), by first | exact Kd.R_nil _ _ _ _ _ | exact Kd.N_nil _ _ _ _ _ | exact Kd.V_nil _ _ _ _ _ | exact Kd.Q_nil _ _ _ _ _ | exact Kd.S_nil _ _ _ _ _, by repeat (first | (with_reducible first | exact HB.out | apply below_alloc | apply pw_below_drewN | apply below_drew1 | refine below_set ?_ GE152.out) | exact HB.out)⟩
 rw [if_neg c4] at H
 have c4b0 : (a0_0 == 1) = false := beq_eq_false_iff_ne.mpr c4
 have c4b1 : (a0_0 != 1) = true := bne_iff_ne.mpr c4
 by_cases c9 : a0_0 = 24
 ·rw [if_pos c9] at H
  have c9b0 : (a0_0 == 24) = true := beq_iff_eq.mpr c9
  have c9b1 : (a0_0 != 24) = false := bne_eq_false_iff_eq.mpr c9
  clear c9
  obtain ⟨y155, hy155⟩ : ∃ y_ : List Int, y_ = (([t153] : List Int)) := ⟨_, rfl⟩
  replace H : (some y155) = some r := by first | (rw [hy155]; with_reducible exact H) | (have H2_ := (Option.bind_some _ _).symm.trans H; rw [hy155]; with_reducible exact H2_) | (have H2_ := (Option.bind_some _ _).symm.trans H; with_reducible exact H2_) | with_reducible exact H | (rw [hy155]; exact H) | exact H
  have Ny155 := aK hy155
  clear hy155
  obtain rfl := oI H
  go_enter Try.func37, Try.ntmps37
  go_wp2_with (first | ((refine gate_dst (N := 2) rfl ?_); refine box_event ?hg (N := 2) ?hd (cs := #[.int .u8 a0_0, .int .i64 a0_1, .int .i64 a0_2, .int .i64 a0_3, .int .i64 a0_4]) (t := 53) ?hr ?_; (case hd => rfl); (case hg => rfl); (case hr => first | (go_simp; done) | (go_simp; rfl)); intro gb152 hg w10 hbox hb; have BK152 := aK (hbox); have GW152 := aK ((by rw [hg]; exact (below_size (tB0 HB.out)) : w.heap.size ≤ gb152)); have GE152 := GW152; replace HB := aK (below_step (tB0 HB.out) hb); clear hb hbox hg; have hcz11_0 := bc 0 BK152.out; have hcz11_1 := bc 1 BK152.out; have hcz11_2 := bc 2 BK152.out; have hcz11_3 := bc 3 BK152.out; have hcz11_4 := bc 4 BK152.out; have hfz11_0 := blk_frozen BK152.out 0; have hfz11_1 := blk_frozen BK152.out 1; have hfz11_2 := blk_frozen BK152.out 2; have hfz11_3 := blk_frozen BK152.out 3; have hfz11_4 := blk_frozen BK152.out 4) | ((refine gate_callee (f := 26) rfl ?_); refine goesL_ (some 10) rfl rfl Try.func26 (by kernel_rfl) rfl #[.agg #[.int .u8 a0_0, .int .i64 a0_1, .int .i64 a0_2, .int .i64 a0_3, .int .i64 a0_4], .int .i64 a1] rfl tF ?_; (with_reducible refine (isa_Target.calls a0_0 a0_1 a0_2 a0_3 a0_4 a1 t153 t154 _ A3.out).mono ?_); rintro e w12 ⟨rfl, hb⟩; refine ⟨_, rfl, ?_⟩; replace BK152 := aK (blk_below (g := gb152) (tK BK152.out) hb); replace HB := aK (below_step (tB1 HB.out GE152.out) hb); have hcz13_0 := bc 0 BK152.out; have hcz13_1 := bc 1 BK152.out; have hcz13_2 := bc 2 BK152.out; have hcz13_3 := bc 3 BK152.out; have hcz13_4 := bc 4 BK152.out; have hfz13_0 := blk_frozen BK152.out 0; have hfz13_1 := blk_frozen BK152.out 1; have hfz13_2 := blk_frozen BK152.out 2; have hfz13_3 := blk_frozen BK152.out 3; have hfz13_4 := blk_frozen BK152.out 4) | ((refine gate_dst (N := 20) rfl ?_); refine Kd.R_lit (Kd.int .i64) _ 3 ?hg (N := 20) ?hd (xs := ([t153] : List Int)) (inner := [.int .i64 t153]) (ok := fun _ => True) (okp := fun _ => True) ?hr ?hp (fun _ hk => hk) trivial (Below.refl _ _) (Nat.le_refl _) (by simp) ?_; (case hd => rfl); (case hg => rfl); (case hr => first | (go_simp; done) | (go_simp; rfl)); (case hp => exact (Reps.one (show Kd.M (Kd.int .i64) _ _ _ t153 [.int .i64 t153] from rfl) (Reps.none _ _))); intro v156 w14 ho15 hb hg_ hnew_; clear hg_ hnew_; (first | rw [← Ny155.out] at ho15 | (simp only [Int.reduceToNat] at ho15; rw [← Ny155.out] at ho15)); have HO157 := aK (Kd.R_lower ho15 (below_size (tB1 HB.out GE152.out))); replace BK152 := aK (blk_below (g := gb152) (tK BK152.out) hb); replace HB := aK (below_step (tB1 HB.out GE152.out) hb); clear hb ho15))
  go_ret
  exact ⟨_, by first | rfl | (simp [errW_none, errW_some] <;> rfl) | (simp [*, errW_none, errW_some] <;> rfl), by (with_reducible repeat (first | apply Kd.R_alloc | apply Kd.R_drewN | apply Kd.R_drew)); exact HO157.out, by repeat (first | (with_reducible first | exact HB.out | apply below_alloc | apply pw_below_drewN | apply below_drew1 | refine below_set ?_ GE152.out) | exact HB.out)⟩
 ·rw [if_neg c9] at H
  have c9b0 : (a0_0 == 24) = false := beq_eq_false_iff_ne.mpr c9
  have c9b1 : (a0_0 != 24) = true := bne_iff_ne.mpr c9
  by_cases c16 : a0_0 = 22
  ·rw [if_pos c16] at H
   have c16b0 : (a0_0 == 22) = true := beq_iff_eq.mpr c16
   have c16b1 : (a0_0 != 22) = false := bne_eq_false_iff_eq.mpr c16
   clear c16
   obtain ⟨y158, hy158⟩ : ∃ y_ : List Int, y_ = (([wrap64 (a1 + 1), t153] : List Int)) := ⟨_, rfl⟩
   replace H : (some y158) = some r := by first | (rw [hy158]; with_reducible exact H) | (have H2_ := (Option.bind_some _ _).symm.trans H; rw [hy158]; with_reducible exact H2_) | (have H2_ := (Option.bind_some _ _).symm.trans H; with_reducible exact H2_) | with_reducible exact H | (rw [hy158]; exact H) | exact H
   have Ny158 := aK hy158
   clear hy158
   obtain rfl := oI H
   go_enter Try.func37, Try.ntmps37
   go_wp2_with (first | ((refine gate_dst (N := 2) rfl ?_); refine box_event ?hg (N := 2) ?hd (cs := #[.int .u8 a0_0, .int .i64 a0_1, .int .i64 a0_2, .int .i64 a0_3, .int .i64 a0_4]) (t := 53) ?hr ?_; (case hd => rfl); (case hg => rfl); (case hr => first | (go_simp; done) | (go_simp; rfl)); intro gb152 hg w17 hbox hb; have BK152 := aK (hbox); have GW152 := aK ((by rw [hg]; exact (below_size (tB0 HB.out)) : w.heap.size ≤ gb152)); have GE152 := GW152; replace HB := aK (below_step (tB0 HB.out) hb); clear hb hbox hg; have hcz18_0 := bc 0 BK152.out; have hcz18_1 := bc 1 BK152.out; have hcz18_2 := bc 2 BK152.out; have hcz18_3 := bc 3 BK152.out; have hcz18_4 := bc 4 BK152.out; have hfz18_0 := blk_frozen BK152.out 0; have hfz18_1 := blk_frozen BK152.out 1; have hfz18_2 := blk_frozen BK152.out 2; have hfz18_3 := blk_frozen BK152.out 3; have hfz18_4 := blk_frozen BK152.out 4) | ((refine gate_callee (f := 26) rfl ?_); refine goesL_ (some 10) rfl rfl Try.func26 (by kernel_rfl) rfl #[.agg #[.int .u8 a0_0, .int .i64 a0_1, .int .i64 a0_2, .int .i64 a0_3, .int .i64 a0_4], .int .i64 a1] rfl tF ?_; (with_reducible refine (isa_Target.calls a0_0 a0_1 a0_2 a0_3 a0_4 a1 t153 t154 _ A3.out).mono ?_); rintro e w19 ⟨rfl, hb⟩; refine ⟨_, rfl, ?_⟩; replace BK152 := aK (blk_below (g := gb152) (tK BK152.out) hb); replace HB := aK (below_step (tB1 HB.out GE152.out) hb); have hcz20_0 := bc 0 BK152.out; have hcz20_1 := bc 1 BK152.out; have hcz20_2 := bc 2 BK152.out; have hcz20_3 := bc 3 BK152.out; have hcz20_4 := bc 4 BK152.out; have hfz20_0 := blk_frozen BK152.out 0; have hfz20_1 := blk_frozen BK152.out 1; have hfz20_2 := blk_frozen BK152.out 2; have hfz20_3 := blk_frozen BK152.out 3; have hfz20_4 := blk_frozen BK152.out 4) | ((refine gate_dst (N := 27) rfl ?_); refine Kd.R_lit (Kd.int .i64) _ 3 ?hg (N := 27) ?hd (xs := ([wrap64 (a1 + 1), t153] : List Int)) (inner := [.int .i64 (wrap64 (a1 + 1)), .int .i64 t153]) (ok := fun _ => True) (okp := fun _ => True) ?hr ?hp (fun _ hk => hk) trivial (Below.refl _ _) (Nat.le_refl _) (by simp) ?_; (case hd => rfl); (case hg => rfl); (case hr => first | (go_simp; done) | (go_simp; rfl)); (case hp => exact (Reps.one (show Kd.M (Kd.int .i64) _ _ _ (wrap64 (a1 + 1)) [.int .i64 (wrap64 (a1 + 1))] from rfl) (Reps.one (show Kd.M (Kd.int .i64) _ _ _ t153 [.int .i64 t153] from rfl) (Reps.none _ _)))); intro v159 w21 ho22 hb hg_ hnew_; clear hg_ hnew_; (first | rw [← Ny158.out] at ho22 | (simp only [Int.reduceToNat] at ho22; rw [← Ny158.out] at ho22)); have HO160 := aK (Kd.R_lower ho22 (below_size (tB1 HB.out GE152.out))); replace BK152 := aK (blk_below (g := gb152) (tK BK152.out) hb); replace HB := aK (below_step (tB1 HB.out GE152.out) hb); clear hb ho22))
   go_ret
   exact ⟨_, by first | rfl | (simp [errW_none, errW_some] <;> rfl) | (simp [*, errW_none, errW_some] <;> rfl), by (with_reducible repeat (first | apply Kd.R_alloc | apply Kd.R_drewN | apply Kd.R_drew)); exact HO160.out, by repeat (first | (with_reducible first | exact HB.out | apply below_alloc | apply pw_below_drewN | apply below_drew1 | refine below_set ?_ GE152.out) | exact HB.out)⟩
  ·rw [if_neg c16] at H
   have c16b0 : (a0_0 == 22) = false := beq_eq_false_iff_ne.mpr c16
   have c16b1 : (a0_0 != 22) = true := bne_iff_ne.mpr c16
   by_cases c23 : a0_0 = 23
   rotate_left
   ·rw [if_neg c23] at H
    have c23b0 : (a0_0 == 23) = false := beq_eq_false_iff_ne.mpr c23
    have c23b1 : (a0_0 != 23) = true := bne_iff_ne.mpr c23
    obtain ⟨y164, hy164⟩ : ∃ y_ : List Int, y_ = (([wrap64 (a1 + 1)] : List Int)) := ⟨_, rfl⟩
    replace H : (some y164) = some r := by first | (rw [hy164]; with_reducible exact H) | (have H2_ := (Option.bind_some _ _).symm.trans H; rw [hy164]; with_reducible exact H2_) | (have H2_ := (Option.bind_some _ _).symm.trans H; with_reducible exact H2_) | with_reducible exact H | (rw [hy164]; exact H) | exact H
    have Ny164 := aK hy164
    clear hy164
    obtain rfl := oI H
    go_enter Try.func37, Try.ntmps37
    go_wp2_with (first | ((refine gate_dst (N := 2) rfl ?_); refine box_event ?hg (N := 2) ?hd (cs := #[.int .u8 a0_0, .int .i64 a0_1, .int .i64 a0_2, .int .i64 a0_3, .int .i64 a0_4]) (t := 53) ?hr ?_; (case hd => rfl); (case hg => rfl); (case hr => first | (go_simp; done) | (go_simp; rfl)); intro gb152 hg w30 hbox hb; have BK152 := aK (hbox); have GW152 := aK ((by rw [hg]; exact (below_size (tB0 HB.out)) : w.heap.size ≤ gb152)); have GE152 := GW152; replace HB := aK (below_step (tB0 HB.out) hb); clear hb hbox hg; have hcz31_0 := bc 0 BK152.out; have hcz31_1 := bc 1 BK152.out; have hcz31_2 := bc 2 BK152.out; have hcz31_3 := bc 3 BK152.out; have hcz31_4 := bc 4 BK152.out; have hfz31_0 := blk_frozen BK152.out 0; have hfz31_1 := blk_frozen BK152.out 1; have hfz31_2 := blk_frozen BK152.out 2; have hfz31_3 := blk_frozen BK152.out 3; have hfz31_4 := blk_frozen BK152.out 4) | ((refine gate_callee (f := 26) rfl ?_); refine goesL_ (some 10) rfl rfl Try.func26 (by kernel_rfl) rfl #[.agg #[.int .u8 a0_0, .int .i64 a0_1, .int .i64 a0_2, .int .i64 a0_3, .int .i64 a0_4], .int .i64 a1] rfl tF ?_; (with_reducible refine (isa_Target.calls a0_0 a0_1 a0_2 a0_3 a0_4 a1 t153 t154 _ A3.out).mono ?_); rintro e w32 ⟨rfl, hb⟩; refine ⟨_, rfl, ?_⟩; replace BK152 := aK (blk_below (g := gb152) (tK BK152.out) hb); replace HB := aK (below_step (tB1 HB.out GE152.out) hb); have hcz33_0 := bc 0 BK152.out; have hcz33_1 := bc 1 BK152.out; have hcz33_2 := bc 2 BK152.out; have hcz33_3 := bc 3 BK152.out; have hcz33_4 := bc 4 BK152.out; have hfz33_0 := blk_frozen BK152.out 0; have hfz33_1 := blk_frozen BK152.out 1; have hfz33_2 := blk_frozen BK152.out 2; have hfz33_3 := blk_frozen BK152.out 3; have hfz33_4 := blk_frozen BK152.out 4) | ((refine gate_dst (N := 30) rfl ?_); refine Kd.R_lit (Kd.int .i64) _ 3 ?hg (N := 30) ?hd (xs := ([wrap64 (a1 + 1)] : List Int)) (inner := [.int .i64 (wrap64 (a1 + 1))]) (ok := fun _ => True) (okp := fun _ => True) ?hr ?hp (fun _ hk => hk) trivial (Below.refl _ _) (Nat.le_refl _) (by simp) ?_; (case hd => rfl); (case hg => rfl); (case hr => first | (go_simp; done) | (go_simp; rfl)); (case hp => exact (Reps.one (show Kd.M (Kd.int .i64) _ _ _ (wrap64 (a1 + 1)) [.int .i64 (wrap64 (a1 + 1))] from rfl) (Reps.none _ _))); intro v165 w34 ho35 hb hg_ hnew_; clear hg_ hnew_; (first | rw [← Ny164.out] at ho35 | (simp only [Int.reduceToNat] at ho35; rw [← Ny164.out] at ho35)); have HO166 := aK (Kd.R_lower ho35 (below_size (tB1 HB.out GE152.out))); replace BK152 := aK (blk_below (g := gb152) (tK BK152.out) hb); replace HB := aK (below_step (tB1 HB.out GE152.out) hb); clear hb ho35))
    go_ret
    exact ⟨_, by first | rfl | (simp [errW_none, errW_some] <;> rfl) | (simp [*, errW_none, errW_some] <;> rfl), by (with_reducible repeat (first | apply Kd.R_alloc | apply Kd.R_drewN | apply Kd.R_drew)); exact HO166.out, by repeat (first | (with_reducible first | exact HB.out | apply below_alloc | apply pw_below_drewN | apply below_drew1 | refine below_set ?_ GE152.out) | exact HB.out)⟩
   rw [if_pos c23] at H
   have c23b0 : (a0_0 == 23) = true := beq_iff_eq.mpr c23
   have c23b1 : (a0_0 != 23) = false := bne_eq_false_iff_eq.mpr c23
   clear c23
   obtain ⟨y161, hy161⟩ : ∃ y_ : List Int, y_ = (([wrap64 (a1 + 1), t153] : List Int)) := ⟨_, rfl⟩
   replace H : (some y161) = some r := by first | (rw [hy161]; with_reducible exact H) | (have H2_ := (Option.bind_some _ _).symm.trans H; rw [hy161]; with_reducible exact H2_) | (have H2_ := (Option.bind_some _ _).symm.trans H; with_reducible exact H2_) | with_reducible exact H | (rw [hy161]; exact H) | exact H
   have Ny161 := aK hy161
   clear hy161
   obtain rfl := oI H
   go_enter Try.func37, Try.ntmps37
   go_wp2_with (first | ((refine gate_dst (N := 2) rfl ?_); refine box_event ?hg (N := 2) ?hd (cs := #[.int .u8 a0_0, .int .i64 a0_1, .int .i64 a0_2, .int .i64 a0_3, .int .i64 a0_4]) (t := 53) ?hr ?_; (case hd => rfl); (case hg => rfl); (case hr => first | (go_simp; done) | (go_simp; rfl)); intro gb152 hg w24 hbox hb; have BK152 := aK (hbox); have GW152 := aK ((by rw [hg]; exact (below_size (tB0 HB.out)) : w.heap.size ≤ gb152)); have GE152 := GW152; replace HB := aK (below_step (tB0 HB.out) hb); clear hb hbox hg; have hcz25_0 := bc 0 BK152.out; have hcz25_1 := bc 1 BK152.out; have hcz25_2 := bc 2 BK152.out; have hcz25_3 := bc 3 BK152.out; have hcz25_4 := bc 4 BK152.out; have hfz25_0 := blk_frozen BK152.out 0; have hfz25_1 := blk_frozen BK152.out 1; have hfz25_2 := blk_frozen BK152.out 2; have hfz25_3 := blk_frozen BK152.out 3; have hfz25_4 := blk_frozen BK152.out 4) | ((refine gate_callee (f := 26) rfl ?_); refine goesL_ (some 10) rfl rfl Try.func26 (by kernel_rfl) rfl #[.agg #[.int .u8 a0_0, .int .i64 a0_1, .int .i64 a0_2, .int .i64 a0_3, .int .i64 a0_4], .int .i64 a1] rfl tF ?_; (with_reducible refine (isa_Target.calls a0_0 a0_1 a0_2 a0_3 a0_4 a1 t153 t154 _ A3.out).mono ?_); rintro e w26 ⟨rfl, hb⟩; refine ⟨_, rfl, ?_⟩; replace BK152 := aK (blk_below (g := gb152) (tK BK152.out) hb); replace HB := aK (below_step (tB1 HB.out GE152.out) hb); have hcz27_0 := bc 0 BK152.out; have hcz27_1 := bc 1 BK152.out; have hcz27_2 := bc 2 BK152.out; have hcz27_3 := bc 3 BK152.out; have hcz27_4 := bc 4 BK152.out; have hfz27_0 := blk_frozen BK152.out 0; have hfz27_1 := blk_frozen BK152.out 1; have hfz27_2 := blk_frozen BK152.out 2; have hfz27_3 := blk_frozen BK152.out 3; have hfz27_4 := blk_frozen BK152.out 4) | ((refine gate_dst (N := 27) rfl ?_); refine Kd.R_lit (Kd.int .i64) _ 3 ?hg (N := 27) ?hd (xs := ([wrap64 (a1 + 1), t153] : List Int)) (inner := [.int .i64 (wrap64 (a1 + 1)), .int .i64 t153]) (ok := fun _ => True) (okp := fun _ => True) ?hr ?hp (fun _ hk => hk) trivial (Below.refl _ _) (Nat.le_refl _) (by simp) ?_; (case hd => rfl); (case hg => rfl); (case hr => first | (go_simp; done) | (go_simp; rfl)); (case hp => exact (Reps.one (show Kd.M (Kd.int .i64) _ _ _ (wrap64 (a1 + 1)) [.int .i64 (wrap64 (a1 + 1))] from rfl) (Reps.one (show Kd.M (Kd.int .i64) _ _ _ t153 [.int .i64 t153] from rfl) (Reps.none _ _)))); intro v162 w28 ho29 hb hg_ hnew_; clear hg_ hnew_; (first | rw [← Ny161.out] at ho29 | (simp only [Int.reduceToNat] at ho29; rw [← Ny161.out] at ho29)); have HO163 := aK (Kd.R_lower ho29 (below_size (tB1 HB.out GE152.out))); replace BK152 := aK (blk_below (g := gb152) (tK BK152.out) hb); replace HB := aK (below_step (tB1 HB.out GE152.out) hb); clear hb ho29))
   go_ret
   exact ⟨_, by first | rfl | (simp [errW_none, errW_some] <;> rfl) | (simp [*, errW_none, errW_some] <;> rfl), by (with_reducible repeat (first | apply Kd.R_alloc | apply Kd.R_drewN | apply Kd.R_drew)); exact HO163.out, by repeat (first | (with_reducible first | exact HB.out | apply below_alloc | apply pw_below_drewN | apply below_drew1 | refine below_set ?_ GE152.out) | exact HB.out)⟩
def slices_Index_int_int.l0 : Nat → List Int → Int → Int → Int → Option (Int)
 | 0, _, _, _, _ => none
 | k + 1, x0, x1, x7, x8 => if x8 < x7 then (if 0 ≤ x8 then (if x8 < (x0.length : Int) then (if x1 = (rd x0 x8) then (some x8) else (slices_Index_int_int.l0 k x0 x1 x7 (wrap64 (x8 + 1)))) else (none)) else (none)) else (some (-1))
def slices_Index_int_int.f (k : Nat) (l0 : List Int) (a1 : Int) : Option (Int) := slices_Index_int_int.l0 k l0 a1 (l0.length : Int) 0
theorem slices_Index_int_int.mono_l : ∀ k, (∀ y0 y1 y2 y3, LeO (slices_Index_int_int.l0 k y0 y1 y2 y3) (slices_Index_int_int.l0 (k + 1) y0 y1 y2 y3))
 | 0 => fun _ _ _ _ r h => by simp [slices_Index_int_int.l0] at h
 | k + 1 => by
  have ih0 := slices_Index_int_int.mono_l k
  ·intro y0 y1 y2 y3
   unfold slices_Index_int_int.l0
   repeat' first
   | (with_reducible exact ih0 _ _ _ _)
   | (with_reducible exact LeO.refl _)
   | (with_reducible exact LeO.none _)
   | (with_reducible refine LeO.ite ?_ ?_)
   | (with_reducible refine LeO.bind ?_ (fun _ => ?_))
   | exact ih0 _ _ _ _
   | exact LeO.none _
   | refine LeO.ite ?_ ?_
   | refine LeO.bind ?_ (fun _ => ?_)
theorem slices_Index_int_int.mono : ∀ a0 a1 k, LeO (slices_Index_int_int.f k a0 a1) (slices_Index_int_int.f (k + 1) a0 a1) := by
 intro a0 a1 k
 have ih0 := slices_Index_int_int.mono_l k
 unfold slices_Index_int_int.f
 repeat' first
   | (with_reducible exact ih0 _ _ _ _)
   | (with_reducible exact LeO.refl _)
   | (with_reducible exact LeO.none _)
   | (with_reducible refine LeO.ite ?_ ?_)
   | (with_reducible refine LeO.bind ?_ (fun _ => ?_))
   | exact ih0 _ _ _ _
   | exact LeO.none _
   | refine LeO.ite ?_ ?_
   | refine LeO.bind ?_ (fun _ => ?_)
set_option maxHeartbeats 8000000 in
set_option maxRecDepth 100000 in
theorem slices_Index_int_int.calls (k : Nat) (A0 : Option Addr) (c0 : Nat) (l0 : List Int) (a1 : Int) (r : Int) (w : World) (hr0 : Kd.C (Kd.int .i64) w A0 l0.length l0) (hc0 : l0.length ≤ c0) (h : slices_Index_int_int.f k l0 a1 = some r) :
  Calls Try.prog 62 #[.slice A0 l0.length c0, .int .i64 a1] w fun e w' => e = .returned (.int .i64 r) ∧ Drawn0 w w' := by
 have HR0 := aK hr0
 have HC0 := aK hc0
 clear hr0 hc0
 have H : (slices_Index_int_int.l0 k l0 a1 (l0.length : Int) 0) = some r := h
 clear h
 have H' := aK H
 clear H
 go_enter Try.func62, Try.ntmps62
 go_wp2
 go_loopg [8] k (fun kq v8 w' => ∃ (x8_1 : Int), v8 = .int .i64 x8_1 ∧ Aside0 (slices_Index_int_int.l0 kq l0 a1 (l0.length : Int) x8_1 = some r) ∧ Aside0 (kq ≤ k) ∧ Drawn0 w w')
 case atStart => exact ⟨(0), (by first | rfl | (simp; done) | (simp [*]; done)), H', ⟨Nat.le_refl _⟩, by repeat (first | exact Drawn0.refl _ | apply Drawn0.step)⟩
 clear H'
 obtain ⟨x8_1, rfl, HA, HK1, ⟨m1, rfl⟩⟩ := hrel
 cases gk with
 | zero => exact absurd HA.out (by simp [slices_Index_int_int.l0])
 | succ k1 =>
  have H := HA.out
  clear HA
  simp only [slices_Index_int_int.l0] at H
  by_cases c3 : x8_1 < (l0.length : Int)
  rotate_left
  ·rw [if_neg c3] at H
   have c3b0 : decide (x8_1 < (l0.length : Int)) = false := decide_eq_false c3
   clear c3
   obtain rfl := oI H
   go_wp2
   go_ret
   exact ⟨by first | rfl | (simp; done) | (simp [*]; done), by repeat (first | exact Drawn0.refl _ | apply Drawn0.step)⟩
  rw [if_pos c3] at H
  have c3b0 : decide (x8_1 < (l0.length : Int)) = true := decide_eq_true c3
  clear c3
  by_cases c4 : 0 ≤ x8_1
  rotate_left
  ·rw [if_neg c4] at H
   exact absurd H (by simp)
  rw [if_pos c4] at H
  have c4b0 : decide (0 ≤ x8_1) = true := decide_eq_true c4
  clear c4
  by_cases c5 : x8_1 < (l0.length : Int)
  rotate_left
  ·rw [if_neg c5] at H
   exact absurd H (by simp)
  rw [if_pos c5] at H
  have c5b0 : decide (x8_1 < (l0.length : Int)) = true := decide_eq_true c5
  clear c5
  by_cases c6 : a1 = (rd l0 x8_1)
  ·rw [if_pos c6] at H
   have c6b0 : (a1 == (rd l0 x8_1)) = true := beq_iff_eq.mpr c6
   have c6b1 : (a1 != (rd l0 x8_1)) = false := bne_eq_false_iff_eq.mpr c6
   clear c6
   obtain rfl := oI H
   have p167 : 0 ≤ (x8_1 : Int) := tD
   have q167 : x8_1 < (l0.length : Int) := tD
   obtain ⟨ad167, e167, hx167_0⟩ := Kd.at_int HR0.out x8_1 p167 q167
   cases e167
   replace p167 := eq_true p167
   replace q167 := eq_true q167
   go_wp2
   go_ret
   exact ⟨by first | rfl | (simp; done) | (simp [*]; done), by repeat (first | exact Drawn0.refl _ | apply Drawn0.step)⟩
  ·rw [if_neg c6] at H
   have c6b0 : (a1 == (rd l0 x8_1)) = false := beq_eq_false_iff_ne.mpr c6
   have c6b1 : (a1 != (rd l0 x8_1)) = true := bne_iff_ne.mpr c6
   have H' := aK H
   clear H
   have p167 : 0 ≤ (x8_1 : Int) := tD
   have q167 : x8_1 < (l0.length : Int) := tD
   obtain ⟨ad167, e167, hx167_0⟩ := Kd.at_int HR0.out x8_1 p167 q167
   cases e167
   replace p167 := eq_true p167
   replace q167 := eq_true q167
   go_wp2
   go_roundg k1
   case measure => have := HK1.out; omega
   case rel => exact ⟨(wrap64 (x8_1 + 1)), (by first | rfl | (simp; done) | (simp [*]; done)), H', ⟨by have := HK1.out; omega⟩, by repeat (first | exact Drawn0.refl _ | apply Drawn0.step)⟩
def slices_Contains_int_int.f (k : Nat) (l0 : List Int) (a1 : Int) : Option (Bool) := (slices_Index_int_int.f k l0 a1).bind fun t168 => (some (decide (t168 ≥ 0)))
theorem slices_Contains_int_int.mono : ∀ a0 a1 k, LeO (slices_Contains_int_int.f k a0 a1) (slices_Contains_int_int.f (k + 1) a0 a1) := by
 intro a0 a1 k
 unfold slices_Contains_int_int.f
 repeat' first
   | (with_reducible exact slices_Index_int_int.mono _ _ _)
   | (with_reducible exact LeO.refl _)
   | (with_reducible exact LeO.none _)
   | (with_reducible refine LeO.ite ?_ ?_)
   | (with_reducible refine LeO.bind ?_ (fun _ => ?_))
   | exact slices_Index_int_int.mono _ _ _
   | exact LeO.none _
   | refine LeO.ite ?_ ?_
   | refine LeO.bind ?_ (fun _ => ?_)
set_option maxHeartbeats 8000000 in
set_option maxRecDepth 100000 in
theorem slices_Contains_int_int.calls (k : Nat) (A0 : Option Addr) (c0 : Nat) (l0 : List Int) (a1 : Int) (r : Bool) (w : World) (hr0 : Kd.C (Kd.int .i64) w A0 l0.length l0) (hc0 : l0.length ≤ c0) (h : slices_Contains_int_int.f k l0 a1 = some r) :
  Calls Try.prog 39 #[.slice A0 l0.length c0, .int .i64 a1] w fun e w' => e = .returned (.bool r) ∧ Drawn0 w w' := by
 have HR0 := aK hr0
 have HC0 := aK hc0
 clear hr0 hc0
 have H : ((slices_Index_int_int.f k l0 a1).bind fun t168 => (some (decide (t168 ≥ 0)))) = some r := h
 clear h
 replace H := bM H
 obtain ⟨t168, A30, H⟩ := H
 (try dsimp only at H)
 have A3 := aK A30
 clear A30
 obtain rfl := oI H
 go_enter Try.func39, Try.ntmps39
 go_wp2_with (first | ((refine gate_callee (f := 62) rfl ?_); refine goesL_ (some 7) rfl rfl Try.func62 (by kernel_rfl) rfl #[.slice A0 l0.length c0, .int .i64 a1] rfl tF ?_; (with_reducible refine (slices_Index_int_int.calls k _ _ l0 a1 t168 _ ?side1 ?side2 A3.out).mono ?_); (case side1 => exact tC HR0.out); (case side2 => exact HC0.out); rintro e w' ⟨rfl, ⟨nd, rfl⟩⟩; refine ⟨_, rfl, ?_⟩))
 go_ret
 exact ⟨by first | rfl | (simp; done) | (simp [*]; done), by repeat (first | exact Drawn0.refl _ | apply Drawn0.step)⟩
def slices_Equal_int_int.l0 : Nat → List Int → List Int → Int → Int → Option (Bool)
 | 0, _, _, _, _ => none
 | k + 1, x0, x1, x12, x13 => if x13 < x12 then (if 0 ≤ x13 then (if x13 < (x0.length : Int) then (if x13 < (x1.length : Int) then (if (rd x0 x13) = (rd x1 x13) then (slices_Equal_int_int.l0 k x0 x1 x12 (wrap64 (x13 + 1))) else (some false)) else (none)) else (none)) else (none)) else (some true)
def slices_Equal_int_int.f (k : Nat) (l0 : List Int) (l1 : List Int) : Option (Bool) := if (l0.length : Int) = (l1.length : Int) then (slices_Equal_int_int.l0 k l0 l1 (l0.length : Int) 0) else (some false)
theorem slices_Equal_int_int.mono_l : ∀ k, (∀ y0 y1 y2 y3, LeO (slices_Equal_int_int.l0 k y0 y1 y2 y3) (slices_Equal_int_int.l0 (k + 1) y0 y1 y2 y3))
 | 0 => fun _ _ _ _ r h => by simp [slices_Equal_int_int.l0] at h
 | k + 1 => by
  have ih0 := slices_Equal_int_int.mono_l k
  ·intro y0 y1 y2 y3
   unfold slices_Equal_int_int.l0
   repeat' first
   | (with_reducible exact ih0 _ _ _ _)
   | (with_reducible exact LeO.refl _)
   | (with_reducible exact LeO.none _)
   | (with_reducible refine LeO.ite ?_ ?_)
   | (with_reducible refine LeO.bind ?_ (fun _ => ?_))
   | exact ih0 _ _ _ _
   | exact LeO.none _
   | refine LeO.ite ?_ ?_
   | refine LeO.bind ?_ (fun _ => ?_)
theorem slices_Equal_int_int.mono : ∀ a0 a1 k, LeO (slices_Equal_int_int.f k a0 a1) (slices_Equal_int_int.f (k + 1) a0 a1) := by
 intro a0 a1 k
 have ih0 := slices_Equal_int_int.mono_l k
 unfold slices_Equal_int_int.f
 repeat' first
   | (with_reducible exact ih0 _ _ _ _)
   | (with_reducible exact LeO.refl _)
   | (with_reducible exact LeO.none _)
   | (with_reducible refine LeO.ite ?_ ?_)
   | (with_reducible refine LeO.bind ?_ (fun _ => ?_))
   | exact ih0 _ _ _ _
   | exact LeO.none _
   | refine LeO.ite ?_ ?_
   | refine LeO.bind ?_ (fun _ => ?_)
set_option maxHeartbeats 8000000 in
set_option maxRecDepth 100000 in
theorem slices_Equal_int_int.calls (k : Nat) (A0 : Option Addr) (c0 : Nat) (l0 : List Int) (A1 : Option Addr) (c1 : Nat) (l1 : List Int) (r : Bool) (w : World) (hr0 : Kd.C (Kd.int .i64) w A0 l0.length l0) (hc0 : l0.length ≤ c0) (hr1 : Kd.C (Kd.int .i64) w A1 l1.length l1) (hc1 : l1.length ≤ c1) (h : slices_Equal_int_int.f k l0 l1 = some r) :
  Calls Try.prog 52 #[.slice A0 l0.length c0, .slice A1 l1.length c1] w fun e w' => e = .returned (.bool r) ∧ Drawn0 w w' := by
 have HR0 := aK hr0
 have HC0 := aK hc0
 clear hr0 hc0
 have HR1 := aK hr1
 have HC1 := aK hc1
 clear hr1 hc1
 have H : (if (l0.length : Int) = (l1.length : Int) then (slices_Equal_int_int.l0 k l0 l1 (l0.length : Int) 0) else (some false)) = some r := h
 clear h
 by_cases c3 : (l0.length : Int) = (l1.length : Int)
 rotate_left
 ·rw [if_neg c3] at H
  have c3b0 : ((l0.length : Int) == (l1.length : Int)) = false := beq_eq_false_iff_ne.mpr c3
  have c3b1 : ((l0.length : Int) != (l1.length : Int)) = true := bne_iff_ne.mpr c3
  have c3b2 : (l0.length == l1.length) = false := by first | simpa using c3 | (simp at c3 ⊢; omega)
  obtain rfl := oI H
  go_enter Try.func52, Try.ntmps52
  go_wp2
  repeat (go_quiet (fail); try go_wp2)
  go_ret
  exact ⟨by first | rfl | (simp; done) | (simp [*]; done), by repeat (first | exact Drawn0.refl _ | apply Drawn0.step)⟩
 rw [if_pos c3] at H
 have c3b0 : ((l0.length : Int) == (l1.length : Int)) = true := beq_iff_eq.mpr c3
 have c3b1 : ((l0.length : Int) != (l1.length : Int)) = false := bne_eq_false_iff_eq.mpr c3
 have c3b2 : (l0.length == l1.length) = true := by first | simpa using c3 | (simp at c3 ⊢; omega)
 clear c3
 have H' := aK H
 clear H
 go_enter Try.func52, Try.ntmps52
 go_wp2
 repeat (go_quiet (fail); try go_wp2)
 go_loopg [13] k (fun kq v13 w' => ∃ (x13_1 : Int), v13 = .int .i64 x13_1 ∧ Aside0 (slices_Equal_int_int.l0 kq l0 l1 (l0.length : Int) x13_1 = some r) ∧ Aside0 (kq ≤ k) ∧ Drawn0 w w')
 case atStart => exact ⟨(0), (by first | rfl | (simp; done) | (simp [*]; done)), H', ⟨Nat.le_refl _⟩, by repeat (first | exact Drawn0.refl _ | apply Drawn0.step)⟩
 clear H'
 obtain ⟨x13_1, rfl, HA, HK1, ⟨m1, rfl⟩⟩ := hrel
 cases gk with
 | zero => exact absurd HA.out (by simp [slices_Equal_int_int.l0])
 | succ k1 =>
  have H := HA.out
  clear HA
  simp only [slices_Equal_int_int.l0] at H
  by_cases c4 : x13_1 < (l0.length : Int)
  rotate_left
  ·rw [if_neg c4] at H
   have c4b0 : decide (x13_1 < (l0.length : Int)) = false := decide_eq_false c4
   clear c4
   obtain rfl := oI H
   go_wp2
   repeat (go_quiet (fail); try go_wp2)
   go_ret
   exact ⟨by first | rfl | (simp; done) | (simp [*]; done), by repeat (first | exact Drawn0.refl _ | apply Drawn0.step)⟩
  rw [if_pos c4] at H
  have c4b0 : decide (x13_1 < (l0.length : Int)) = true := decide_eq_true c4
  clear c4
  by_cases c5 : 0 ≤ x13_1
  rotate_left
  ·rw [if_neg c5] at H
   exact absurd H (by simp)
  rw [if_pos c5] at H
  have c5b0 : decide (0 ≤ x13_1) = true := decide_eq_true c5
  clear c5
  by_cases c6 : x13_1 < (l0.length : Int)
  rotate_left
  ·rw [if_neg c6] at H
   exact absurd H (by simp)
  rw [if_pos c6] at H
  have c6b0 : decide (x13_1 < (l0.length : Int)) = true := decide_eq_true c6
  clear c6
  by_cases c7 : x13_1 < (l1.length : Int)
  rotate_left
  ·rw [if_neg c7] at H
   exact absurd H (by simp)
  rw [if_pos c7] at H
  have c7b0 : decide (x13_1 < (l1.length : Int)) = true := decide_eq_true c7
  clear c7
  by_cases c8 : (rd l0 x13_1) = (rd l1 x13_1)
  ·rw [if_pos c8] at H
   have c8b0 : ((rd l0 x13_1) == (rd l1 x13_1)) = true := beq_iff_eq.mpr c8
   have c8b1 : ((rd l0 x13_1) != (rd l1 x13_1)) = false := bne_eq_false_iff_eq.mpr c8
   clear c8
   have H' := aK H
   clear H
   have p169 : 0 ≤ (x13_1 : Int) := tD
   have q169 : x13_1 < (l0.length : Int) := tD
   obtain ⟨ad169, e169, hx169_0⟩ := Kd.at_int HR0.out x13_1 p169 q169
   cases e169
   replace p169 := eq_true p169
   replace q169 := eq_true q169
   have p170 : 0 ≤ (x13_1 : Int) := tD
   have q170 : x13_1 < (l1.length : Int) := tD
   obtain ⟨ad170, e170, hx170_0⟩ := Kd.at_int HR1.out x13_1 p170 q170
   cases e170
   replace p170 := eq_true p170
   replace q170 := eq_true q170
   go_wp2
   repeat (go_quiet (fail); try go_wp2)
   go_roundg k1
   case measure => have := HK1.out; omega
   case rel => exact ⟨(wrap64 (x13_1 + 1)), (by first | rfl | (simp; done) | (simp [*]; done)), H', ⟨by have := HK1.out; omega⟩, by repeat (first | exact Drawn0.refl _ | apply Drawn0.step)⟩
  ·rw [if_neg c8] at H
   have c8b0 : ((rd l0 x13_1) == (rd l1 x13_1)) = false := beq_eq_false_iff_ne.mpr c8
   have c8b1 : ((rd l0 x13_1) != (rd l1 x13_1)) = true := bne_iff_ne.mpr c8
   obtain rfl := oI H
   have p169 : 0 ≤ (x13_1 : Int) := tD
   have q169 : x13_1 < (l0.length : Int) := tD
   obtain ⟨ad169, e169, hx169_0⟩ := Kd.at_int HR0.out x13_1 p169 q169
   cases e169
   replace p169 := eq_true p169
   replace q169 := eq_true q169
   have p170 : 0 ≤ (x13_1 : Int) := tD
   have q170 : x13_1 < (l1.length : Int) := tD
   obtain ⟨ad170, e170, hx170_0⟩ := Kd.at_int HR1.out x13_1 p170 q170
   cases e170
   replace p170 := eq_true p170
   replace q170 := eq_true q170
   go_wp2
   repeat (go_quiet (fail); try go_wp2)
   go_ret
   exact ⟨by first | rfl | (simp; done) | (simp [*]; done), by repeat (first | exact Drawn0.refl _ | apply Drawn0.step)⟩
def cfg_Valid_1.f (k : Nat) (l0 : List Int) (l1 : List Int) : Option (Bool) := (slices_Equal_int_int.f k l0 l1).bind fun t171 => (some t171)
theorem cfg_Valid_1.mono : ∀ a0 a1 k, LeO (cfg_Valid_1.f k a0 a1) (cfg_Valid_1.f (k + 1) a0 a1) := by
 intro a0 a1 k
 unfold cfg_Valid_1.f
 repeat' first
   | (with_reducible exact slices_Equal_int_int.mono _ _ _)
   | (with_reducible exact LeO.refl _)
   | (with_reducible exact LeO.none _)
   | (with_reducible refine LeO.ite ?_ ?_)
   | (with_reducible refine LeO.bind ?_ (fun _ => ?_))
   | exact slices_Equal_int_int.mono _ _ _
   | exact LeO.none _
   | refine LeO.ite ?_ ?_
   | refine LeO.bind ?_ (fun _ => ?_)
set_option maxHeartbeats 8000000 in
set_option maxRecDepth 100000 in
theorem cfg_Valid_1.calls (k : Nat) (A0 : Option Addr) (c0 : Nat) (l0 : List Int) (A1 : Option Addr) (c1 : Nat) (l1 : List Int) (r : Bool) (w : World) (hr0 : Kd.C (Kd.int .i64) w A0 l0.length l0) (hc0 : l0.length ≤ c0) (hr1 : Kd.C (Kd.int .i64) w A1 l1.length l1) (hc1 : l1.length ≤ c1) (h : cfg_Valid_1.f k l0 l1 = some r) :
  Calls Try.prog 51 #[.slice A0 l0.length c0, .slice A1 l1.length c1] w fun e w' => e = .returned (.bool r) ∧ Drawn0 w w' := by
 have HR0 := aK hr0
 have HC0 := aK hc0
 clear hr0 hc0
 have HR1 := aK hr1
 have HC1 := aK hc1
 clear hr1 hc1
 have H : ((slices_Equal_int_int.f k l0 l1).bind fun t171 => (some t171)) = some r := h
 clear h
 replace H := bM H
 obtain ⟨t171, A30, H⟩ := H
 (try dsimp only at H)
 have A3 := aK A30
 clear A30
 obtain rfl := oI H
 go_enter Try.func51, Try.ntmps51
 go_wp2_with (first | ((refine gate_callee (f := 52) rfl ?_); refine goesL_ (some 7) rfl rfl Try.func52 (by kernel_rfl) rfl #[.slice A0 l0.length c0, .slice A1 l1.length c1] rfl tF ?_; (with_reducible refine (slices_Equal_int_int.calls k _ _ l0 _ _ l1 t171 _ ?side1 ?side2 ?side3 ?side4 A3.out).mono ?_); (case side1 => exact tC HR0.out); (case side2 => exact HC0.out); (case side3 => exact tC HR1.out); (case side4 => exact HC1.out); rintro e w' ⟨rfl, ⟨nd, rfl⟩⟩; refine ⟨_, rfl, ?_⟩))
 go_ret
 exact ⟨by first | rfl | (simp; done) | (simp [*]; done), by repeat (first | exact Drawn0.refl _ | apply Drawn0.step)⟩
def slices_EqualFunc_int_int_int_int.l0 : Nat → List (List Int) → List (List Int) → Int → Int → Option (Bool)
 | 0, _, _, _, _ => none
 | k + 1, x1, x15, x16, x17 => if x17 < x16 then (if 0 ≤ x17 then (if x17 < (x15.length : Int) then (if x17 < (x1.length : Int) then ((cfg_Valid_1.f k (rd_L11 x15 x17) (rd_L11 x1 x17)).bind fun t174 => (if t174 = true then (slices_EqualFunc_int_int_int_int.l0 k x1 x15 x16 (wrap64 (x17 + 1))) else (some false))) else (none)) else (none)) else (none)) else (some true)
def slices_EqualFunc_int_int_int_int.f (k : Nat) (l0 : List (List Int)) (l1 : List (List Int)) : Option (Bool) := if (l0.length : Int) = (l1.length : Int) then (slices_EqualFunc_int_int_int_int.l0 k l1 l0 (l0.length : Int) 0) else (some false)
theorem slices_EqualFunc_int_int_int_int.mono_l : ∀ k, (∀ y0 y1 y2 y3, LeO (slices_EqualFunc_int_int_int_int.l0 k y0 y1 y2 y3) (slices_EqualFunc_int_int_int_int.l0 (k + 1) y0 y1 y2 y3))
 | 0 => fun _ _ _ _ r h => by simp [slices_EqualFunc_int_int_int_int.l0] at h
 | k + 1 => by
  have ih0 := slices_EqualFunc_int_int_int_int.mono_l k
  ·intro y0 y1 y2 y3
   unfold slices_EqualFunc_int_int_int_int.l0
   repeat' first
   | (with_reducible exact ih0 _ _ _ _)
   | (with_reducible exact cfg_Valid_1.mono _ _ _)
   | (with_reducible exact LeO.refl _)
   | (with_reducible exact LeO.none _)
   | (with_reducible refine LeO.ite ?_ ?_)
   | (with_reducible refine LeO.bind ?_ (fun _ => ?_))
   | exact ih0 _ _ _ _
   | exact cfg_Valid_1.mono _ _ _
   | exact LeO.none _
   | refine LeO.ite ?_ ?_
   | refine LeO.bind ?_ (fun _ => ?_)
theorem slices_EqualFunc_int_int_int_int.mono : ∀ a0 a1 k, LeO (slices_EqualFunc_int_int_int_int.f k a0 a1) (slices_EqualFunc_int_int_int_int.f (k + 1) a0 a1) := by
 intro a0 a1 k
 have ih0 := slices_EqualFunc_int_int_int_int.mono_l k
 unfold slices_EqualFunc_int_int_int_int.f
 repeat' first
   | (with_reducible exact ih0 _ _ _ _)
   | (with_reducible exact cfg_Valid_1.mono _ _ _)
   | (with_reducible exact LeO.refl _)
   | (with_reducible exact LeO.none _)
   | (with_reducible refine LeO.ite ?_ ?_)
   | (with_reducible refine LeO.bind ?_ (fun _ => ?_))
   | exact ih0 _ _ _ _
   | exact cfg_Valid_1.mono _ _ _
   | exact LeO.none _
   | refine LeO.ite ?_ ?_
   | refine LeO.bind ?_ (fun _ => ?_)
theorem slices_EqualFunc_int_int_int_int.gateV_ {P : Program} {ops : Array Oper} {Q : Exit → Act → World → Prop} {rest : List Oper} {o : Oper} {a : Act} {W : World} {m : Tmp} {xs_ : Array Operand} {ts : Array TypeId} (_ho : o.op = .call { callee := .value (.tmp m), args := xs_, argTypes := ts }) (h : wpList P ops Q (o :: rest) a W) : wpList P ops Q (o :: rest) a W := h
theorem slices_EqualFunc_int_int_int_int.goesV_ {P : Program} {ops : Array Oper} {Q : Exit → Act → World → Prop} {rest : List Oper} {oi : Oper} {a : Act} {w : World} (N : Option Tmp) (hd : oi.dst = N) (hg : oi.guard = none) {f : FuncId} {fn : Func} {xs_ : Array Operand} {ts : Array TypeId} (hf : P.funcs[f]? = some fn) (hname : (fn.name == "runtime.NumGoroutine") = false) (hb : fn.body.isSome = true) (m : Operand) (hm : a.eval m = .func (.func f) #[] #[]) (args : Array Value)
  (hop : oi.op = .call { callee := .value m, args := xs_, argTypes := ts }) (hargs : xs_.map a.eval = args)
  (h : Calls P f args w fun e w' => ∃ v, e = .returned v ∧ wpList P ops Q rest (a.put N v) w') : wpList P ops Q (oi :: rest) a w := by
 refine wpList_plain hg fun K hK => ?_
 have he := enters_ hf hname hb args w
 have hrun : (execOp a.eval oi).run P w = .ok (.enter f args) w := by
  unfold execOp
  simp [hop, resolve, Deferred.ofValue, invoke, hm, hargs, he]
 unfold Oper.wp
 rw [hrun, Oper.upon_enter]
 refine h.mono fun e w'' hh => ?_
 obtain ⟨v, rfl, hk⟩ := hh
 subst hd
 exact hK _ _ hk
set_option maxHeartbeats 8000000 in
set_option maxRecDepth 100000 in
theorem slices_EqualFunc_int_int_int_int.calls (k : Nat) (A0 : Option Addr) (c0 : Nat) (l0 : List (List Int)) (A1 : Option Addr) (c1 : Nat) (l1 : List (List Int)) (r : Bool) (w : World) (hr0 : Kd.C (Kd.slice 3 (Kd.int .i64)) w A0 l0.length l0) (hc0 : l0.length ≤ c0) (hr1 : Kd.C (Kd.slice 3 (Kd.int .i64)) w A1 l1.length l1) (hc1 : l1.length ≤ c1) (h : slices_EqualFunc_int_int_int_int.f k l0 l1 = some r) :
  Calls Try.prog 50 #[.slice A0 l0.length c0, .slice A1 l1.length c1, .func (.func 51) #[] #[]] w fun e w' => e = .returned (.bool r) ∧ Drawn0 w w' := by
 have HR0 := aK hr0
 have HC0 := aK hc0
 clear hr0 hc0
 have HR1 := aK hr1
 have HC1 := aK hc1
 clear hr1 hc1
 have H : (if (l0.length : Int) = (l1.length : Int) then (slices_EqualFunc_int_int_int_int.l0 k l1 l0 (l0.length : Int) 0) else (some false)) = some r := h
 clear h
 by_cases c3 : (l0.length : Int) = (l1.length : Int)
 rotate_left
 ·rw [if_neg c3] at H
  have c3b0 : ((l0.length : Int) == (l1.length : Int)) = false := beq_eq_false_iff_ne.mpr c3
  have c3b1 : ((l0.length : Int) != (l1.length : Int)) = true := bne_iff_ne.mpr c3
  have c3b2 : (l0.length == l1.length) = false := by first | simpa using c3 | (simp at c3 ⊢; omega)
  obtain rfl := oI H
  go_enter Try.func50, Try.ntmps50
  go_wp2
  go_ret
  exact ⟨by first | rfl | (simp; done) | (simp [*]; done), by repeat (first | exact Drawn0.refl _ | apply Drawn0.step)⟩
 rw [if_pos c3] at H
 have c3b0 : ((l0.length : Int) == (l1.length : Int)) = true := beq_iff_eq.mpr c3
 have c3b1 : ((l0.length : Int) != (l1.length : Int)) = false := bne_eq_false_iff_eq.mpr c3
 have c3b2 : (l0.length == l1.length) = true := by first | simpa using c3 | (simp at c3 ⊢; omega)
 clear c3
 have H' := aK H
 clear H
 go_enter Try.func50, Try.ntmps50
 go_wp2
 go_loopg [17] k (fun kq v17 w' => ∃ (x17_1 : Int), v17 = .int .i64 x17_1 ∧ Aside0 (slices_EqualFunc_int_int_int_int.l0 kq l1 l0 (l0.length : Int) x17_1 = some r) ∧ Aside0 (kq ≤ k) ∧ Drawn0 w w')
 case atStart => exact ⟨(0), (by first | rfl | (simp; done) | (simp [*]; done)), H', ⟨Nat.le_refl _⟩, by repeat (first | exact Drawn0.refl _ | apply Drawn0.step)⟩
 clear H'
 obtain ⟨x17_1, rfl, HA, HK1, ⟨m1, rfl⟩⟩ := hrel
 cases gk with
 | zero => exact absurd HA.out (by simp [slices_EqualFunc_int_int_int_int.l0])
 | succ k1 =>
  have H := HA.out
  clear HA
  simp only [slices_EqualFunc_int_int_int_int.l0] at H
  by_cases c4 : x17_1 < (l0.length : Int)
  rotate_left
  ·rw [if_neg c4] at H
   have c4b0 : decide (x17_1 < (l0.length : Int)) = false := decide_eq_false c4
   clear c4
   obtain rfl := oI H
   go_wp2
   go_ret
   exact ⟨by first | rfl | (simp; done) | (simp [*]; done), by repeat (first | exact Drawn0.refl _ | apply Drawn0.step)⟩
  rw [if_pos c4] at H
  have c4b0 : decide (x17_1 < (l0.length : Int)) = true := decide_eq_true c4
  clear c4
  by_cases c5 : 0 ≤ x17_1
  rotate_left
  ·rw [if_neg c5] at H
   exact absurd H (by simp)
  rw [if_pos c5] at H
  have c5b0 : decide (0 ≤ x17_1) = true := decide_eq_true c5
  clear c5
  by_cases c6 : x17_1 < (l0.length : Int)
  rotate_left
  ·rw [if_neg c6] at H
   exact absurd H (by simp)
  rw [if_pos c6] at H
  have c6b0 : decide (x17_1 < (l0.length : Int)) = true := decide_eq_true c6
  clear c6
  by_cases c7 : x17_1 < (l1.length : Int)
  rotate_left
  ·rw [if_neg c7] at H
   exact absurd H (by simp)
  rw [if_pos c7] at H
  have c7b0 : decide (x17_1 < (l1.length : Int)) = true := decide_eq_true c7
  clear c7
  replace H := bM H
  obtain ⟨t174, A80, H⟩ := H
  (try dsimp only at H)
  have A8 := aK A80
  clear A80
  by_cases c9 : t174 = true
  ·subst c9
   rw [if_pos rfl] at H
   have H' := aK H
   clear H
   have p172 : 0 ≤ (x17_1 : Int) := tD
   have q172 : x17_1 < (l0.length : Int) := tD
   obtain ⟨ad172, A172_0, c172_0, e172, hx172_0, hl172_0, hi172_0⟩ := at_L11 HR0.out x17_1 p172 q172
   cases e172
   have HR172_0 := aK hi172_0
   have HC172_0 := aK hl172_0
   clear hi172_0 hl172_0
   replace p172 := eq_true p172
   replace q172 := eq_true q172
   have p173 : 0 ≤ (x17_1 : Int) := tD
   have q173 : x17_1 < (l1.length : Int) := tD
   obtain ⟨ad173, A173_0, c173_0, e173, hx173_0, hl173_0, hi173_0⟩ := at_L11 HR1.out x17_1 p173 q173
   cases e173
   have HR173_0 := aK hi173_0
   have HC173_0 := aK hl173_0
   clear hi173_0 hl173_0
   replace p173 := eq_true p173
   replace q173 := eq_true q173
   go_wp2_with (first | ((with_reducible refine slices_EqualFunc_int_int_int_int.gateV_ (m := 26) rfl ?_); refine slices_EqualFunc_int_int_int_int.goesV_ (some 29) rfl rfl Try.func51 (by kernel_rfl) rfl (.tmp 26) rfl #[.slice A172_0 (rd_L11 l0 x17_1).length c172_0, .slice A173_0 (rd_L11 l1 x17_1).length c173_0] rfl tF ?_; (with_reducible refine (cfg_Valid_1.calls k1 _ _ (rd_L11 l0 x17_1) _ _ (rd_L11 l1 x17_1) true _ ?side1 ?side2 ?side3 ?side4 A8.out).mono ?_); (case side1 => exact tC HR172_0.out); (case side2 => exact HC172_0.out); (case side3 => exact tC HR173_0.out); (case side4 => exact HC173_0.out); rintro e w' ⟨rfl, ⟨nd, rfl⟩⟩; refine ⟨_, rfl, ?_⟩))
   go_roundg k1
   case measure => have := HK1.out; omega
   case rel => exact ⟨(wrap64 (x17_1 + 1)), (by first | rfl | (simp; done) | (simp [*]; done)), H', ⟨by have := HK1.out; omega⟩, by repeat (first | exact Drawn0.refl _ | apply Drawn0.step)⟩
  ·replace c9 := Bool.eq_false_iff.mpr c9
   subst c9
   rw [if_neg (show ¬ (false = true) by decide)] at H
   obtain rfl := oI H
   have p172 : 0 ≤ (x17_1 : Int) := tD
   have q172 : x17_1 < (l0.length : Int) := tD
   obtain ⟨ad172, A172_0, c172_0, e172, hx172_0, hl172_0, hi172_0⟩ := at_L11 HR0.out x17_1 p172 q172
   cases e172
   have HR172_0 := aK hi172_0
   have HC172_0 := aK hl172_0
   clear hi172_0 hl172_0
   replace p172 := eq_true p172
   replace q172 := eq_true q172
   have p173 : 0 ≤ (x17_1 : Int) := tD
   have q173 : x17_1 < (l1.length : Int) := tD
   obtain ⟨ad173, A173_0, c173_0, e173, hx173_0, hl173_0, hi173_0⟩ := at_L11 HR1.out x17_1 p173 q173
   cases e173
   have HR173_0 := aK hi173_0
   have HC173_0 := aK hl173_0
   clear hi173_0 hl173_0
   replace p173 := eq_true p173
   replace q173 := eq_true q173
   go_wp2_with (first | ((with_reducible refine slices_EqualFunc_int_int_int_int.gateV_ (m := 26) rfl ?_); refine slices_EqualFunc_int_int_int_int.goesV_ (some 29) rfl rfl Try.func51 (by kernel_rfl) rfl (.tmp 26) rfl #[.slice A172_0 (rd_L11 l0 x17_1).length c172_0, .slice A173_0 (rd_L11 l1 x17_1).length c173_0] rfl tF ?_; (with_reducible refine (cfg_Valid_1.calls k1 _ _ (rd_L11 l0 x17_1) _ _ (rd_L11 l1 x17_1) false _ ?side1 ?side2 ?side3 ?side4 A8.out).mono ?_); (case side1 => exact tC HR172_0.out); (case side2 => exact HC172_0.out); (case side3 => exact tC HR173_0.out); (case side4 => exact HC173_0.out); rintro e w' ⟨rfl, ⟨nd, rfl⟩⟩; refine ⟨_, rfl, ?_⟩))
   go_ret
   exact ⟨by first | rfl | (simp; done) | (simp [*]; done), by repeat (first | exact Drawn0.refl _ | apply Drawn0.step)⟩
end Go.Proofs.Ytihmfdndiicjgaa.C
