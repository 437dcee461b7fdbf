import Derived.Test.YtihmfdndiicjgaaCx0
import Derived.Test.YtihmfdndiicjgaaZm
import Derived.Test.YtihmfdndiicjgaaCx2
import Derived.Test.YtihmfdndiicjgaaCx5
namespace Go.Proofs.Ytihmfdndiicjgaa.C
open Go.RowKit Go.Proofs.YtihmfdndiicjgaaW.PrintWords Go.Proofs.YtihmfdndiicjgaaW.PrintLast Go.Proofs.YtihmfdndiicjgaaW.PrintMore
attribute [local go_sem] max2_int min2_int max_two min_two max_three min_three max_four min_four   -- for this text's walks alone
set_option linter.unusedVariables false
set_option linter.unusedSimpArgs false
def ontimelaw24_image.l0 : Nat → List (S53) → Int → Int → List Int → List (S39) → Int → Int → Option (List Int × (List (S39)) × Int × Int)
 | 0, _, _, _, _, _, _, _ => none
 | k + 1, x13, x14, x15, x195000, x195001, x195002, x195003 => if x15 < x14 then (if 0 ≤ x15 then (if x15 < (x13.length : Int) then ((isa_Encode.f ((rd_T53 x13 x15).f0) ((rd_T53 x13 x15).f1) ((rd_T53 x13 x15).f2) ((rd_T53 x13 x15).f3) ((rd_T53 x13 x15).f4)).bind fun bt197 => (if x195000.length < 35184372088832 then (ontimelaw24_image.l0 k x13 x14 (wrap64 (x15 + 1)) (x195000 ++ [bt197.1]) x195001 x195002 x195003) else (none))) else (none)) else (none)) else (some (x195000, x195001, x195002, x195003))
def ontimelaw24_image.f (k : Nat) (l0 : List (S53)) : Option (List Int × (List (S39)) × Int × Int) := ontimelaw24_image.l0 k l0 (l0.length : Int) 0 ([] : List Int) (([(⟨(⟨#[116, 97]⟩ : ByteArray), 0, (l0.length : Int), 0⟩ : S39)] : List (S39))) 0 0
theorem ontimelaw24_image.mono_l : ∀ k, (∀ y0 y1 y2 y3 y4 y5 y6, LeO (ontimelaw24_image.l0 k y0 y1 y2 y3 y4 y5 y6) (ontimelaw24_image.l0 (k + 1) y0 y1 y2 y3 y4 y5 y6))
 | 0 => fun _ _ _ _ _ _ _ r h => by simp [ontimelaw24_image.l0] at h
 | k + 1 => by
  have ih0 := ontimelaw24_image.mono_l k
  ·intro y0 y1 y2 y3 y4 y5 y6
   unfold ontimelaw24_image.l0
   repeat' first
   | (with_reducible exact ih0 _ _ _ _ _ _ _)
   | (with_reducible exact LeO.refl _)
   | (with_reducible exact LeO.none _)
   | (with_reducible refine LeO.ite ?_ ?_)
   | (with_reducible refine LeO.bind ?_ (fun _ => ?_))
   | exact ih0 _ _ _ _ _ _ _
   | exact LeO.none _
   | refine LeO.ite ?_ ?_
   | refine LeO.bind ?_ (fun _ => ?_)
theorem ontimelaw24_image.mono : ∀ a0 k, LeO (ontimelaw24_image.f k a0) (ontimelaw24_image.f (k + 1) a0) := by
 intro a0 k
 have ih0 := ontimelaw24_image.mono_l k
 unfold ontimelaw24_image.f
 repeat' first
   | (with_reducible exact ih0 _ _ _ _ _ _ _)
   | (with_reducible exact LeO.refl _)
   | (with_reducible exact LeO.none _)
   | (with_reducible refine LeO.ite ?_ ?_)
   | (with_reducible refine LeO.bind ?_ (fun _ => ?_))
   | exact ih0 _ _ _ _ _ _ _
   | exact LeO.none _
   | refine LeO.ite ?_ ?_
   | refine LeO.bind ?_ (fun _ => ?_)
set_option maxHeartbeats 8000000 in
set_option maxRecDepth 100000 in
theorem ontimelaw24_image.calls (k : Nat) (A0 : Option Addr) (c0 : Nat) (l0 : List (S53)) (r1 : List Int) (r2 : List (S39)) (r3 : Int) (r4 : Int) (w : World) (hr0 : Kd.C k53 w A0 l0.length l0) (hc0 : l0.length ≤ c0) (h : ontimelaw24_image.f k l0 = some (r1, r2, r3, r4)) :
  Calls Try.prog 35 #[.slice A0 l0.length c0] w fun e w' => ∃ v0_ v1_ : Value, e = .returned (.agg #[v0_, v1_, .int .i64 r3, .int .i64 r4]) ∧ Kd.R (Kd.int .u32) 56 w' w.heap.size (fun _ => True) v0_ r1 ∧ Kd.R k39 39 w' w.heap.size (fun _ => True) v1_ r2 ∧ Below w.heap.size w w' := by
 have hu25 := Try.underlying25
 have hu39 := Try.underlying39
 have hu53 := Try.underlying53
 have HR0 := aK hr0
 have HC0 := aK hc0
 clear hr0 hc0
 have HB := aK (Below.refl w.heap.size w)
 have H : (ontimelaw24_image.l0 k l0 (l0.length : Int) 0 ([] : List Int) (([(⟨(⟨#[116, 97]⟩ : ByteArray), 0, (l0.length : Int), 0⟩ : S39)] : List (S39))) 0 0) = some (r1, r2, r3, r4) := h
 clear h
 obtain ⟨y191, hy191⟩ : ∃ y_ : List (S39), y_ = (([(⟨(⟨#[116, 97]⟩ : ByteArray), 0, (l0.length : Int), 0⟩ : S39)] : List (S39))) := ⟨_, rfl⟩
 replace H : (ontimelaw24_image.l0 k l0 (l0.length : Int) 0 ([] : List Int) y191 0 0) = some (r1, r2, r3, r4) := by first | (rw [hy191]; with_reducible exact H) | (have H2_ := (Option.bind_some _ _).symm.trans H; rw [hy191]; with_reducible exact H2_) | (have H2_ := (Option.bind_some _ _).symm.trans H; with_reducible exact H2_) | with_reducible exact H | (rw [hy191]; exact H) | exact H
 have Ny191 := aK hy191
 clear hy191
 have H' := aK H
 clear H
 go_enter Try.func35, Try.ntmps35
 go_wp2_with (first | ((refine gate_dst (N := 2) rfl ?_); refine box_event ?hg (N := 2) ?hd (cs := #[.slice none 0 0, .slice none 0 0, .int .i64 0, .int .i64 0]) (t := 25) ?hr ?_; (case hd => rfl); (case hg => rfl); (case hr => first | (go_simp; done) | (go_simp; rfl)); intro gb190 hg w2 hbox hb; have BK190 := aK (hbox); have GW190 := aK ((by rw [hg]; exact (below_size (tB0 HB.out)) : w.heap.size ≤ gb190)); have GE190 := GW190; replace HB := aK (below_step (tB0 HB.out) hb); clear hb hbox hg) | ((refine gate_dst (N := 11) rfl ?_); refine Kd.R_lit k39 _ 39 ?hg (N := 11) ?hd (xs := ([(⟨(⟨#[116, 97]⟩ : ByteArray), 0, (l0.length : Int), 0⟩ : S39)] : List (S39))) (inner := [.string (⟨#[116, 97]⟩ : ByteArray), .int .i64 0, .int .i64 (l0.length : Int), .int .i64 0]) (ok := fun _ => True) (okp := fun _ => True) ?hr ?hp (fun _ hk => hk) trivial (Below.refl _ _) (Nat.le_refl _) (by simp) ?_; (case hd => rfl); (case hg => rfl); (case hr => first | (go_simp; done) | (go_simp; rfl)); (case hp => exact (Reps.c4 (show Kd.M k39 _ _ _ (⟨(⟨#[116, 97]⟩ : ByteArray), 0, (l0.length : Int), 0⟩ : S39) [.string (⟨#[116, 97]⟩ : ByteArray), .int .i64 0, .int .i64 (l0.length : Int), .int .i64 0] from (k39_mkM _ _ _ (⟨(⟨#[116, 97]⟩ : ByteArray), 0, (l0.length : Int), 0⟩ : S39) )) (Reps.none _ _))); intro v192 w3 ho4 hb hg_ hnew_; clear hg_ hnew_; (first | rw [← Ny191.out] at ho4 | (simp only [Int.reduceToNat] at ho4; rw [← Ny191.out] at ho4)); have HO193 := aK (Kd.R_lower ho4 (below_size (tB1 HB.out GE190.out))); replace BK190 := aK (blk_below (g := gb190) (tK BK190.out) hb); replace HB := aK (below_step (tB1 HB.out GE190.out) hb); clear hb ho4; obtain ⟨Ao5, co5, eo5⟩ := Kd.R_slice HO193.out; subst eo5) | ((refine gate_dst (N := 3) rfl ?_); refine box_event ?hg (N := 3) ?hd (cs := #[.slice none 0 0, .slice none 0 0, .int .i64 0, .int .i64 0]) (t := 25) ?hr ?_; (case hd => rfl); (case hg => rfl); (case hr => first | (go_simp; done) | (go_simp; rfl)); intro gb194 hg w6 hbox hb; replace HO193 := aK (Kd.R_below (tR HO193.out) hb); have BK194 := aK (hbox); have GW194 := aK ((by rw [hg]; exact (below_size (tB1 HB.out GE190.out)) : w.heap.size ≤ gb194)); have GE194 := GW194; replace HB := aK (below_step (tB1 HB.out GE190.out) hb); have NB190_194 := aK ((by rw [hg]; exact Nat.ne_of_lt (blk_lt (g := gb190) (o := .cells #[.slice none 0 0, .slice none 0 0, .int .i64 0, .int .i64 0] 25 (0, 0)) (tK BK190.out)) : gb190 ≠ gb194)); have NB194_190 := aK ((by rw [hg]; exact Nat.ne_of_gt (blk_lt (g := gb190) (o := .cells #[.slice none 0 0, .slice none 0 0, .int .i64 0, .int .i64 0] 25 (0, 0)) (tK BK190.out)) : gb194 ≠ gb190)); replace BK190 := aK (blk_below (g := gb190) (tK BK190.out) hb); clear hb hbox hg; have hnb7 := NB194_190.out; have hnc7 := NB190_194.out; have hcz8_0 := bc 0 BK194.out; have hcz8_1 := bc 1 BK194.out; have hcz8_2 := bc 2 BK194.out; have hcz8_3 := bc 3 BK194.out; have hfz8_0 := blk_frozen BK194.out 0; have hfz8_1 := blk_frozen BK194.out 1; have hfz8_2 := blk_frozen BK194.out 2; have hfz8_3 := blk_frozen BK194.out 3))
 go_loopg [15] k (fun kq v15 w' => ∃ (x15_1 : Int) (x195000_1 : List Int) (u195000 : Value), v15 = .int .i64 x15_1 ∧ Aside0 (ontimelaw24_image.l0 kq l0 (l0.length : Int) x15_1 x195000_1 y191 0 0 = some (r1, r2, r3, r4)) ∧ Aside0 (kq ≤ k) ∧ Aside0 (Kd.R (Kd.int .u32) 56 w' w.heap.size (fun _ => True) u195000 x195000_1) ∧ Aside0 (Kd.R k39 39 w' w.heap.size (fun _ => True) (.slice Ao5 y191.length co5) y191) ∧ Aside0 (w'.heap[gb190]? = some (.cells #[(.slice none 0 0), (.slice none 0 0), .int .i64 0, .int .i64 0] 25 (0, 0))) ∧ Aside0 (w'.heap[gb194]? = some (.cells #[u195000, (.slice Ao5 y191.length co5), .int .i64 0, .int .i64 0] 25 (0, 0))) ∧ Aside0 (Below w.heap.size w w'))
 case atStart => exact ⟨(0), (([] : List Int)), (.slice none 0 0), (by first | rfl | (simp; done) | (simp [*]; done)), H', ⟨Nat.le_refl _⟩, ⟨by first | exact Kd.R_nil _ _ _ _ _ | exact Kd.N_nil _ _ _ _ _ | exact Kd.V_nil _ _ _ _ _ | exact Kd.Q_nil _ _ _ _ _ | exact Kd.S_nil _ _ _ _ _⟩, ⟨by (with_reducible repeat (first | apply Kd.R_alloc | apply Kd.R_drewN | apply Kd.R_drew)); exact Kd.R_mono (Kd.R_far (p := ⟨gb194, 3, none⟩) (Kd.R_far (p := ⟨gb194, 2, none⟩) (Kd.R_far (p := ⟨gb194, 1, none⟩) (Kd.R_far (p := ⟨gb194, 0, none⟩) (Kd.R_types HO193.out BK194.out (by decide)) (fun _ hk => hk.2) (.slice none 0 0)) (fun _ hk => hk.2) (.slice Ao5 y191.length co5)) (fun _ hk => hk.2) (.int .i64 0)) (fun _ hk => hk.2) (.int .i64 0)) (fun _ hk => trivial)⟩, ⟨by refine tK ?_; refine blk_far ?_ NB190_194.out _; refine tK ?_; refine blk_far ?_ NB190_194.out _; refine tK ?_; refine blk_far ?_ NB190_194.out _; refine tK ?_; refine blk_far ?_ NB190_194.out _; refine tK ?_; exact BK190.out⟩, ⟨by refine tK ?_; refine blk_put (cs := #[.slice none 0 0, .slice Ao5 y191.length co5, .int .i64 0, .int .i64 0]) ?_ 3 _ rfl; refine tK ?_; refine blk_put (cs := #[.slice none 0 0, .slice Ao5 y191.length co5, .int .i64 0, .int .i64 0]) ?_ 2 _ rfl; refine tK ?_; refine blk_put (cs := #[.slice none 0 0, .slice none 0 0, .int .i64 0, .int .i64 0]) ?_ 1 _ rfl; refine tK ?_; refine blk_put (cs := #[.slice none 0 0, .slice none 0 0, .int .i64 0, .int .i64 0]) ?_ 0 _ rfl; refine tK ?_; exact BK194.out⟩, ⟨tB2 HB.out GE190.out GE194.out⟩⟩
 clear H'
 obtain ⟨x15_1, x195000_1, u195000, rfl, HA, HK1, HO_195000, HO_195001, BK190, BK194, HB⟩ := hrel
 cases gk with
 | zero => exact absurd HA.out (by simp [ontimelaw24_image.l0])
 | succ k1 =>
  have H := HA.out
  clear HA
  simp only [ontimelaw24_image.l0] at H
  by_cases c9 : x15_1 < (l0.length : Int)
  ·rw [if_pos c9] at H
   have c9b0 : decide (x15_1 < (l0.length : Int)) = true := decide_eq_true c9
   clear c9
   by_cases c10 : 0 ≤ x15_1
   rotate_left
   ·rw [if_neg c10] at H
    exact absurd H (by simp)
   rw [if_pos c10] at H
   have c10b0 : decide (0 ≤ x15_1) = true := decide_eq_true c10
   clear c10
   by_cases c11 : x15_1 < (l0.length : Int)
   rotate_left
   ·rw [if_neg c11] at H
    exact absurd H (by simp)
   rw [if_pos c11] at H
   have c11b0 : decide (x15_1 < (l0.length : Int)) = true := decide_eq_true c11
   clear c11
   replace H := bM H
   obtain ⟨⟨t197, t198⟩, A120, H⟩ := H
   (try dsimp only at H)
   have A12 := aK A120
   clear A120
   by_cases c13 : x195000_1.length < 35184372088832
   rotate_left
   ·rw [if_neg c13] at H
    exact absurd H (by simp)
   rw [if_pos c13] at H
   have LMc13 := aK c13
   clear c13
   obtain ⟨y199, hy199⟩ : ∃ y_ : List Int, y_ = (x195000_1 ++ [t197]) := ⟨_, rfl⟩
   replace H : (ontimelaw24_image.l0 k1 l0 (l0.length : Int) (wrap64 (x15_1 + 1)) y199 y191 0 0) = some (r1, r2, r3, r4) := by first | (rw [hy199]; with_reducible exact H) | (have H2_ := (Option.bind_some _ _).symm.trans H; rw [hy199]; with_reducible exact H2_) | (have H2_ := (Option.bind_some _ _).symm.trans H; with_reducible exact H2_) | with_reducible exact H | (rw [hy199]; exact H) | exact H
   have Ny199 := aK hy199
   clear hy199
   have H' := aK H
   clear H
   have p195 : 0 ≤ (x15_1 : Int) := tD
   have q195 : x15_1 < (l0.length : Int) := tD
   obtain ⟨ad195, e195, hx195_0, hx195_1, hx195_2, hx195_3, hx195_4⟩ := at_T53 HR0.out x15_1 p195 q195
   cases e195
   replace hx195_0 := cB HB.out hx195_0
   replace hx195_1 := cB HB.out hx195_1
   replace hx195_2 := cB HB.out hx195_2
   replace hx195_3 := cB HB.out hx195_3
   replace hx195_4 := cB HB.out hx195_4
   replace p195 := eq_true p195
   replace q195 := eq_true q195
   go_wp2_with (first | ((refine gate_dst (N := 5) rfl ?_); refine box_event ?hg (N := 5) ?hd (cs := #[.int .u8 0, .int .i64 0, .int .i64 0, .int .i64 0, .int .i64 0]) (t := 53) ?hr ?_; (case hd => rfl); (case hg => rfl); (case hr => first | (go_simp; done) | (go_simp; rfl)); intro gb196 hg w14 hbox hb; replace HO_195000 := aK (Kd.R_below (tR HO_195000.out) hb); replace HO_195001 := aK (Kd.R_below (tR HO_195001.out) hb); have BK196 := aK (hbox); have GW196 := aK ((by rw [hg]; exact (below_size (tB2 HB.out GE190.out GE194.out)) : w.heap.size ≤ gb196)); have GE196 := GW196; replace HB := aK (below_step (tB2 HB.out GE190.out GE194.out) hb); have NB190_196 := aK ((by rw [hg]; exact Nat.ne_of_lt (blk_lt (g := gb190) (o := .cells #[.slice none 0 0, .slice none 0 0, .int .i64 0, .int .i64 0] 25 (0, 0)) (tK BK190.out)) : gb190 ≠ gb196)); have NB196_190 := aK ((by rw [hg]; exact Nat.ne_of_gt (blk_lt (g := gb190) (o := .cells #[.slice none 0 0, .slice none 0 0, .int .i64 0, .int .i64 0] 25 (0, 0)) (tK BK190.out)) : gb196 ≠ gb190)); replace BK190 := aK (blk_below (g := gb190) (tK BK190.out) hb); have NB194_196 := aK ((by rw [hg]; exact Nat.ne_of_lt (blk_lt (g := gb194) (o := .cells #[u195000, .slice Ao5 y191.length co5, .int .i64 0, .int .i64 0] 25 (0, 0)) (tK BK194.out)) : gb194 ≠ gb196)); have NB196_194 := aK ((by rw [hg]; exact Nat.ne_of_gt (blk_lt (g := gb194) (o := .cells #[u195000, .slice Ao5 y191.length co5, .int .i64 0, .int .i64 0] 25 (0, 0)) (tK BK194.out)) : gb196 ≠ gb194)); replace BK194 := aK (blk_below (g := gb194) (tK BK194.out) hb); clear hb hbox hg; have hnb15 := NB196_190.out; have hnc15 := NB190_196.out; have hnb16 := NB196_194.out; have hnc16 := NB194_196.out; have hcz17_0 := bc 0 BK196.out; have hcz17_1 := bc 1 BK196.out; have hcz17_2 := bc 2 BK196.out; have hcz17_3 := bc 3 BK196.out; have hcz17_4 := bc 4 BK196.out; have hfz17_0 := blk_frozen BK196.out 0; have hfz17_1 := blk_frozen BK196.out 1; have hfz17_2 := blk_frozen BK196.out 2; have hfz17_3 := blk_frozen BK196.out 3; have hfz17_4 := blk_frozen BK196.out 4) | ((refine gate_callee (f := 25) rfl ?_); refine goesL_ (some 21) rfl rfl Try.func25 (by kernel_rfl) rfl #[.agg #[.int .u8 ((rd_T53 l0 x15_1).f0), .int .i64 ((rd_T53 l0 x15_1).f1), .int .i64 ((rd_T53 l0 x15_1).f2), .int .i64 ((rd_T53 l0 x15_1).f3), .int .i64 ((rd_T53 l0 x15_1).f4)]] rfl tF ?_; (with_reducible refine (isa_Encode.calls ((rd_T53 l0 x15_1).f0) ((rd_T53 l0 x15_1).f1) ((rd_T53 l0 x15_1).f2) ((rd_T53 l0 x15_1).f3) ((rd_T53 l0 x15_1).f4) t197 t198 _ A12.out).mono ?_); rintro e w18 ⟨rfl, hb⟩; refine ⟨_, rfl, ?_⟩; replace HO_195000 := aK (Kd.R_below (by (with_reducible repeat (first | apply Kd.R_alloc | apply Kd.R_drewN | apply Kd.R_drew)); exact (Kd.R_mono (Kd.R_far (p := ⟨gb196, 4, none⟩) (Kd.R_far (p := ⟨gb196, 3, none⟩) (Kd.R_far (p := ⟨gb196, 2, none⟩) (Kd.R_far (p := ⟨gb196, 1, none⟩) (Kd.R_far (p := ⟨gb196, 0, none⟩) (Kd.R_types HO_195000.out BK196.out (by decide)) (fun _ hk => hk.2) (.int .u8 ((rd_T53 l0 x15_1).f0))) (fun _ hk => hk.2) (.int .i64 ((rd_T53 l0 x15_1).f1))) (fun _ hk => hk.2) (.int .i64 ((rd_T53 l0 x15_1).f2))) (fun _ hk => hk.2) (.int .i64 ((rd_T53 l0 x15_1).f3))) (fun _ hk => hk.2) (.int .i64 ((rd_T53 l0 x15_1).f4))) (fun _ h_ => h_.1))) hb); replace HO_195001 := aK (Kd.R_below (by (with_reducible repeat (first | apply Kd.R_alloc | apply Kd.R_drewN | apply Kd.R_drew)); exact (Kd.R_mono (Kd.R_far (p := ⟨gb196, 4, none⟩) (Kd.R_far (p := ⟨gb196, 3, none⟩) (Kd.R_far (p := ⟨gb196, 2, none⟩) (Kd.R_far (p := ⟨gb196, 1, none⟩) (Kd.R_far (p := ⟨gb196, 0, none⟩) (Kd.R_types HO_195001.out BK196.out (by decide)) (fun _ hk => hk.2) (.int .u8 ((rd_T53 l0 x15_1).f0))) (fun _ hk => hk.2) (.int .i64 ((rd_T53 l0 x15_1).f1))) (fun _ hk => hk.2) (.int .i64 ((rd_T53 l0 x15_1).f2))) (fun _ hk => hk.2) (.int .i64 ((rd_T53 l0 x15_1).f3))) (fun _ hk => hk.2) (.int .i64 ((rd_T53 l0 x15_1).f4))) (fun _ h_ => h_.1))) hb); replace BK190 := aK (blk_below (g := gb190) (o := .cells #[.slice none 0 0, .slice none 0 0, .int .i64 0, .int .i64 0] 25 (0, 0)) (by refine tK ?_; refine blk_far ?_ NB190_196.out _; refine tK ?_; refine blk_far ?_ NB190_196.out _; refine tK ?_; refine blk_far ?_ NB190_196.out _; refine tK ?_; refine blk_far ?_ NB190_196.out _; refine tK ?_; refine blk_far ?_ NB190_196.out _; refine tK ?_; exact BK190.out) hb); replace BK194 := aK (blk_below (g := gb194) (o := .cells #[u195000, .slice Ao5 y191.length co5, .int .i64 0, .int .i64 0] 25 (0, 0)) (by refine tK ?_; refine blk_far ?_ NB194_196.out _; refine tK ?_; refine blk_far ?_ NB194_196.out _; refine tK ?_; refine blk_far ?_ NB194_196.out _; refine tK ?_; refine blk_far ?_ NB194_196.out _; refine tK ?_; refine blk_far ?_ NB194_196.out _; refine tK ?_; exact BK194.out) hb); replace BK196 := aK (blk_below (g := gb196) (o := .cells #[.int .u8 ((rd_T53 l0 x15_1).f0), .int .i64 ((rd_T53 l0 x15_1).f1), .int .i64 ((rd_T53 l0 x15_1).f2), .int .i64 ((rd_T53 l0 x15_1).f3), .int .i64 ((rd_T53 l0 x15_1).f4)] 53 (0, 0)) (by refine tK ?_; refine blk_put (cs := #[.int .u8 ((rd_T53 l0 x15_1).f0), .int .i64 ((rd_T53 l0 x15_1).f1), .int .i64 ((rd_T53 l0 x15_1).f2), .int .i64 ((rd_T53 l0 x15_1).f3), .int .i64 0]) ?_ 4 _ rfl; refine tK ?_; refine blk_put (cs := #[.int .u8 ((rd_T53 l0 x15_1).f0), .int .i64 ((rd_T53 l0 x15_1).f1), .int .i64 ((rd_T53 l0 x15_1).f2), .int .i64 0, .int .i64 0]) ?_ 3 _ rfl; refine tK ?_; refine blk_put (cs := #[.int .u8 ((rd_T53 l0 x15_1).f0), .int .i64 ((rd_T53 l0 x15_1).f1), .int .i64 0, .int .i64 0, .int .i64 0]) ?_ 2 _ rfl; refine tK ?_; refine blk_put (cs := #[.int .u8 ((rd_T53 l0 x15_1).f0), .int .i64 0, .int .i64 0, .int .i64 0, .int .i64 0]) ?_ 1 _ rfl; refine tK ?_; refine blk_put (cs := #[.int .u8 0, .int .i64 0, .int .i64 0, .int .i64 0, .int .i64 0]) ?_ 0 _ rfl; refine tK ?_; exact BK196.out) hb); replace HB := aK (below_step (tB3 HB.out GE190.out GE194.out GE196.out) hb); have hnb19 := NB194_190.out; have hnc19 := NB190_194.out; have hcz20_0 := bc 0 BK194.out; have hcz20_1 := bc 1 BK194.out; have hcz20_2 := bc 2 BK194.out; have hcz20_3 := bc 3 BK194.out; have hfz20_0 := blk_frozen BK194.out 0; have hfz20_1 := blk_frozen BK194.out 1; have hfz20_2 := blk_frozen BK194.out 2; have hfz20_3 := blk_frozen BK194.out 3) | ((refine gate_builtin (b := .append) (xs := #[.tmp 25, .tmp 27]) rfl ?_); at_builtin; refine Kd.R_append (Kd.int .u32) (w0 := w) w.heap.size rfl (.tmp 25) (.tmp 27) 22 56 (.int .u32 0) 4 rfl Try.underlying22 info56 rfl (by decide) (by omega) u195000 x195000_1 t197 [.int .u32 t197] (fun _ => True) (fun _ => False) rfl rfl ?aP (fun _ hk => hk.elim) ?aF ?aO ?aB ?aS ?aL ?_; (case aP => exact rfl); (case aB => exact (tB3 HB.out GE190.out GE194.out GE196.out)); (case aF => exact (fun _ _ => trivial)); (case aO => exact (tR HO_195000.out)); (case aS => exact (below_size (tB3 HB.out GE190.out GE194.out GE196.out))); (case aL => have := LMc13.out; omega); intro v200 w21 ho hb hg hat; rw [← Ny199.out] at ho; replace HO_195001 := aK (Kd.R_over' (tR HO_195001.out) (Kd.R_typed (tR HO_195000.out)) (by decide) hg); replace BK190 := aK (blk_grown (g := gb190) (o := .cells #[.slice none 0 0, .slice none 0 0, .int .i64 0, .int .i64 0] 25 (0, 0)) (tK BK190.out) hg (Kd.R_ne HO_195000.out BK190.out (by decide))); replace BK194 := aK (blk_grown (g := gb194) (o := .cells #[u195000, .slice Ao5 y191.length co5, .int .i64 0, .int .i64 0] 25 (0, 0)) (tK BK194.out) hg (Kd.R_ne HO_195000.out BK194.out (by decide))); replace BK196 := aK (blk_grown (g := gb196) (o := .cells #[.int .u8 ((rd_T53 l0 x15_1).f0), .int .i64 ((rd_T53 l0 x15_1).f1), .int .i64 ((rd_T53 l0 x15_1).f2), .int .i64 ((rd_T53 l0 x15_1).f3), .int .i64 ((rd_T53 l0 x15_1).f4)] 53 (0, 0)) (tK BK196.out) hg (Kd.R_ne HO_195000.out BK196.out (by decide))); replace HB := aK (hb); have HO201 := aK (ho); clear HO_195000; clear ho hb hg hat; obtain ⟨Ao22, co22, eo22⟩ := Kd.R_slice HO201.out; subst eo22; have hcz23_0 := bc 0 BK194.out; have hcz23_1 := bc 1 BK194.out; have hcz23_2 := bc 2 BK194.out; have hcz23_3 := bc 3 BK194.out; have hfz23_0 := blk_frozen BK194.out 0; have hfz23_1 := blk_frozen BK194.out 1; have hfz23_2 := blk_frozen BK194.out 2; have hfz23_3 := blk_frozen BK194.out 3))
   go_roundg k1
   case measure => have := HK1.out; omega
   case rel => exact ⟨(wrap64 (x15_1 + 1)), (y199), (.slice Ao22 y199.length co22), (by first | rfl | (simp; done) | (simp [*]; done)), H', ⟨by have := HK1.out; omega⟩, ⟨by (with_reducible repeat (first | apply Kd.R_alloc | apply Kd.R_drewN | apply Kd.R_drew)); exact Kd.R_mono (Kd.R_far (p := ⟨gb194, 0, none⟩) (Kd.R_types HO201.out BK194.out (by decide)) (fun _ hk => hk.2) (.slice Ao22 y199.length co22)) (fun _ hk => trivial)⟩, ⟨by (with_reducible repeat (first | apply Kd.R_alloc | apply Kd.R_drewN | apply Kd.R_drew)); exact Kd.R_mono (Kd.R_far (p := ⟨gb194, 0, none⟩) (Kd.R_types HO_195001.out BK194.out (by decide)) (fun _ hk => hk.2) (.slice Ao22 y199.length co22)) (fun _ hk => trivial)⟩, ⟨by refine tK ?_; refine blk_far ?_ NB190_194.out _; refine tK ?_; exact BK190.out⟩, ⟨by refine tK ?_; refine blk_put (cs := #[u195000, .slice Ao5 y191.length co5, .int .i64 0, .int .i64 0]) ?_ 0 _ rfl; refine tK ?_; exact BK194.out⟩, ⟨tB3 HB.out GE190.out GE194.out GE196.out⟩⟩
  ·rw [if_neg c9] at H
   have c9b0 : decide (x15_1 < (l0.length : Int)) = false := decide_eq_false c9
   clear c9
   simp only [Option.some.injEq, Prod.mk.injEq] at H
   obtain ⟨rfl, rfl, rfl, rfl⟩ := H
   have hnb24 := NB194_190.out
   have hnc24 := NB190_194.out
   have hcz25_0 := bc 0 BK194.out
   have hcz25_1 := bc 1 BK194.out
   have hcz25_2 := bc 2 BK194.out
   have hcz25_3 := bc 3 BK194.out
   have hfz25_0 := blk_frozen BK194.out 0
   have hfz25_1 := blk_frozen BK194.out 1
   have hfz25_2 := blk_frozen BK194.out 2
   have hfz25_3 := blk_frozen BK194.out 3
   obtain ⟨Ao26, co26, eo26⟩ := Kd.R_slice HO_195000.out
   subst eo26
   have hcz27_0 := bc 0 BK190.out
   have hcz27_1 := bc 1 BK190.out
   have hcz27_2 := bc 2 BK190.out
   have hcz27_3 := bc 3 BK190.out
   have hfz27_0 := blk_frozen BK190.out 0
   have hfz27_1 := blk_frozen BK190.out 1
   have hfz27_2 := blk_frozen BK190.out 2
   have hfz27_3 := blk_frozen BK190.out 3
   go_wp2
   refine bodyPost_ret (results_cell_row rfl _ _ gb190 25 #[.slice Ao26 x195000_1.length co26, .slice Ao5 y191.length co5, .int .i64 0, .int .i64 0] (0, 0) _ rfl (by refine tK ?_; refine blk_put (cs := #[.slice Ao26 x195000_1.length co26, .slice Ao5 y191.length co5, .int .i64 0, .int .i64 0]) ?_ 3 _ rfl; refine tK ?_; refine blk_put (cs := #[.slice Ao26 x195000_1.length co26, .slice Ao5 y191.length co5, .int .i64 0, .int .i64 0]) ?_ 2 _ rfl; refine tK ?_; refine blk_put (cs := #[.slice Ao26 x195000_1.length co26, .slice none 0 0, .int .i64 0, .int .i64 0]) ?_ 1 _ rfl; refine tK ?_; refine blk_put (cs := #[.slice none 0 0, .slice none 0 0, .int .i64 0, .int .i64 0]) ?_ 0 _ rfl; refine tK ?_; exact BK190.out) Try.underlying25 rfl (by kernel_rfl)) rfl ?_
   exact ⟨_, _, by first | rfl | (simp [errW_none, errW_some] <;> rfl) | (simp [*, errW_none, errW_some] <;> rfl), by (with_reducible repeat (first | apply Kd.R_alloc | apply Kd.R_drewN | apply Kd.R_drew)); exact Kd.R_mono (Kd.R_far (p := ⟨gb190, 3, none⟩) (Kd.R_far (p := ⟨gb190, 2, none⟩) (Kd.R_far (p := ⟨gb190, 1, none⟩) (Kd.R_far (p := ⟨gb190, 0, none⟩) (Kd.R_types HO_195000.out BK190.out (by decide)) (fun _ hk => hk.2) (.slice Ao26 x195000_1.length co26)) (fun _ hk => hk.2) (.slice Ao5 y191.length co5)) (fun _ hk => hk.2) (.int .i64 0)) (fun _ hk => hk.2) (.int .i64 0)) (fun _ hk => trivial), by (with_reducible repeat (first | apply Kd.R_alloc | apply Kd.R_drewN | apply Kd.R_drew)); exact Kd.R_mono (Kd.R_far (p := ⟨gb190, 3, none⟩) (Kd.R_far (p := ⟨gb190, 2, none⟩) (Kd.R_far (p := ⟨gb190, 1, none⟩) (Kd.R_far (p := ⟨gb190, 0, none⟩) (Kd.R_types HO_195001.out BK190.out (by decide)) (fun _ hk => hk.2) (.slice Ao26 x195000_1.length co26)) (fun _ hk => hk.2) (.slice Ao5 y191.length co5)) (fun _ hk => hk.2) (.int .i64 0)) (fun _ hk => hk.2) (.int .i64 0)) (fun _ hk => trivial), by repeat (first | (with_reducible first | exact HB.out | apply below_alloc | apply pw_below_drewN | apply below_drew1 | refine below_set ?_ GE190.out | refine below_set ?_ GE194.out) | exact HB.out)⟩
def ontimelaw24_awake.f (k : Nat)  : Option (Bool) := (ontimelaw24_image.f k (([(⟨22, 2, 0, 0, 1⟩ : S53), (⟨15, 3, 3, 0, 1⟩ : S53), (⟨1, 0, 0, 0, 0⟩ : S53)] : List (S53)))).bind fun bt205 => ((cfg_Build.f k bt205.1 bt205.2.1 bt205.2.2.1 bt205.2.2.2 0).bind fun bt213 => (if bt213.2.2.2 = 0 then (if bt213.2.2.1 = (-1) then (if (bt213.1.length : Int) = 3 then (if 0 < (bt213.1.length : Int) then (if (((rd_T51 bt213.1 0).f2).length : Int) = 2 then (if 0 < (((rd_T51 bt213.1 0).f2).length : Int) then (if (rd ((rd_T51 bt213.1 0).f2) 0) = 1 then (if 1 < (((rd_T51 bt213.1 0).f2).length : Int) then (if (rd ((rd_T51 bt213.1 0).f2) 1) = 2 then (if (bt213.2.1.length : Int) = 3 then (if 2 < (bt213.2.1.length : Int) then (if ((rd_L11 bt213.2.1 2).length : Int) = 2 then ((cfg_Valid.f k bt213.1 bt213.2.1).bind fun t228 => (some t228)) else (some false)) else (none)) else (some false)) else (some false)) else (none)) else (some false)) else (none)) else (some false)) else (none)) else (some false)) else (some false)) else (some false)))
theorem ontimelaw24_awake.mono : ∀ k, LeO (ontimelaw24_awake.f k ) (ontimelaw24_awake.f (k + 1) ) := by
 intro  k
 unfold ontimelaw24_awake.f
 repeat' first
   | (with_reducible exact cfg_Build.mono _ _ _ _ _ _)
   | (with_reducible exact cfg_Valid.mono _ _ _)
   | (with_reducible exact ontimelaw24_image.mono _ _)
   | (with_reducible exact LeO.refl _)
   | (with_reducible exact LeO.none _)
   | (with_reducible refine LeO.ite ?_ ?_)
   | (with_reducible refine LeO.bind ?_ (fun _ => ?_))
   | exact cfg_Build.mono _ _ _ _ _ _
   | exact cfg_Valid.mono _ _ _
   | exact ontimelaw24_image.mono _ _
   | exact LeO.none _
   | refine LeO.ite ?_ ?_
   | refine LeO.bind ?_ (fun _ => ?_)
set_option maxHeartbeats 8000000 in
set_option maxRecDepth 100000 in
theorem ontimelaw24_awake.calls0 (k : Nat)  (r : Bool) (w : World) (h : ontimelaw24_awake.f k  = some r) (hrt : r = true) :
  Calls Try.prog 10 #[] w fun e w' => e = .returned (.bool r) ∧ Below w.heap.size w w' := by
 have HRT := aK hrt
 clear hrt
 have hu53 := Try.underlying53
 have hu31 := Try.underlying31
 have HB := aK (Below.refl w.heap.size w)
 have H : ((ontimelaw24_image.f k (([(⟨22, 2, 0, 0, 1⟩ : S53), (⟨15, 3, 3, 0, 1⟩ : S53), (⟨1, 0, 0, 0, 0⟩ : S53)] : List (S53)))).bind fun bt205 => ((cfg_Build.f k bt205.1 bt205.2.1 bt205.2.2.1 bt205.2.2.2 0).bind fun bt213 => (if bt213.2.2.2 = 0 then (if bt213.2.2.1 = (-1) then (if (bt213.1.length : Int) = 3 then (if 0 < (bt213.1.length : Int) then (if (((rd_T51 bt213.1 0).f2).length : Int) = 2 then (if 0 < (((rd_T51 bt213.1 0).f2).length : Int) then (if (rd ((rd_T51 bt213.1 0).f2) 0) = 1 then (if 1 < (((rd_T51 bt213.1 0).f2).length : Int) then (if (rd ((rd_T51 bt213.1 0).f2) 1) = 2 then (if (bt213.2.1.length : Int) = 3 then (if 2 < (bt213.2.1.length : Int) then (if ((rd_L11 bt213.2.1 2).length : Int) = 2 then ((cfg_Valid.f k bt213.1 bt213.2.1).bind fun t228 => (some t228)) else (some false)) else (none)) else (some false)) else (some false)) else (none)) else (some false)) else (none)) else (some false)) else (none)) else (some false)) else (some false)) else (some false)))) = some r := h
 clear h
 obtain ⟨y202, hy202⟩ : ∃ y_ : List (S53), y_ = (([(⟨22, 2, 0, 0, 1⟩ : S53), (⟨15, 3, 3, 0, 1⟩ : S53), (⟨1, 0, 0, 0, 0⟩ : S53)] : List (S53))) := ⟨_, rfl⟩
 replace H : ((ontimelaw24_image.f k y202).bind fun bt205 => ((cfg_Build.f k bt205.1 bt205.2.1 bt205.2.2.1 bt205.2.2.2 0).bind fun bt213 => (if bt213.2.2.2 = 0 then (if bt213.2.2.1 = (-1) then (if (bt213.1.length : Int) = 3 then (if 0 < (bt213.1.length : Int) then (if (((rd_T51 bt213.1 0).f2).length : Int) = 2 then (if 0 < (((rd_T51 bt213.1 0).f2).length : Int) then (if (rd ((rd_T51 bt213.1 0).f2) 0) = 1 then (if 1 < (((rd_T51 bt213.1 0).f2).length : Int) then (if (rd ((rd_T51 bt213.1 0).f2) 1) = 2 then (if (bt213.2.1.length : Int) = 3 then (if 2 < (bt213.2.1.length : Int) then (if ((rd_L11 bt213.2.1 2).length : Int) = 2 then ((cfg_Valid.f k bt213.1 bt213.2.1).bind fun t228 => (some t228)) else (some false)) else (none)) else (some false)) else (some false)) else (none)) else (some false)) else (none)) else (some false)) else (none)) else (some false)) else (some false)) else (some false)))) = some r := by first | (rw [hy202]; with_reducible exact H) | (have H2_ := (Option.bind_some _ _).symm.trans H; rw [hy202]; with_reducible exact H2_) | (have H2_ := (Option.bind_some _ _).symm.trans H; with_reducible exact H2_) | with_reducible exact H | (rw [hy202]; exact H) | exact H
 have Ny202 := aK hy202
 clear hy202
 replace H := bM H
 obtain ⟨⟨t205, t208, t211, t212⟩, A10, H⟩ := H
 (try dsimp only at H)
 have A1 := aK A10
 clear A10
 replace H := bM H
 obtain ⟨⟨t213, t216, t219, t220⟩, A20, H⟩ := H
 (try dsimp only at H)
 have A2 := aK A20
 clear A20
 by_cases c3 : t220 = 0
 rotate_left
 ·rw [if_neg c3] at H
  exact absurd ((oI H).trans HRT.out) (by decide)
 rw [if_pos c3] at H
 have c3b0 : (t220 == 0) = true := beq_iff_eq.mpr c3
 have c3b1 : (t220 != 0) = false := bne_eq_false_iff_eq.mpr c3
 clear c3
 by_cases c4 : t219 = (-1)
 rotate_left
 ·rw [if_neg c4] at H
  exact absurd ((oI H).trans HRT.out) (by decide)
 rw [if_pos c4] at H
 have c4b0 : (t219 == (-1)) = true := beq_iff_eq.mpr c4
 have c4b1 : (t219 != (-1)) = false := bne_eq_false_iff_eq.mpr c4
 clear c4
 by_cases c5 : (t213.length : Int) = 3
 rotate_left
 ·rw [if_neg c5] at H
  exact absurd ((oI H).trans HRT.out) (by decide)
 rw [if_pos c5] at H
 have c5b0 : ((t213.length : Int) == 3) = true := beq_iff_eq.mpr c5
 have c5b1 : ((t213.length : Int) != 3) = false := bne_eq_false_iff_eq.mpr c5
 clear c5
 by_cases c6 : 0 < (t213.length : Int)
 rotate_left
 ·rw [if_neg c6] at H
  exact absurd H (by simp)
 rw [if_pos c6] at H
 have c6b0 : decide (0 < (t213.length : Int)) = true := decide_eq_true c6
 have c6b1 : decide (0 < t213.length) = true := decide_eq_true (by omega)
 clear c6
 by_cases c7 : (((rd_T51 t213 0).f2).length : Int) = 2
 rotate_left
 ·rw [if_neg c7] at H
  exact absurd ((oI H).trans HRT.out) (by decide)
 rw [if_pos c7] at H
 have c7b0 : ((((rd_T51 t213 0).f2).length : Int) == 2) = true := beq_iff_eq.mpr c7
 have c7b1 : ((((rd_T51 t213 0).f2).length : Int) != 2) = false := bne_eq_false_iff_eq.mpr c7
 clear c7
 by_cases c8 : 0 < (((rd_T51 t213 0).f2).length : Int)
 rotate_left
 ·rw [if_neg c8] at H
  exact absurd H (by simp)
 rw [if_pos c8] at H
 have c8b0 : decide (0 < (((rd_T51 t213 0).f2).length : Int)) = true := decide_eq_true c8
 have c8b1 : decide (0 < ((rd_T51 t213 0).f2).length) = true := decide_eq_true (by omega)
 clear c8
 by_cases c9 : (rd ((rd_T51 t213 0).f2) 0) = 1
 rotate_left
 ·rw [if_neg c9] at H
  exact absurd ((oI H).trans HRT.out) (by decide)
 rw [if_pos c9] at H
 have c9b0 : ((rd ((rd_T51 t213 0).f2) 0) == 1) = true := beq_iff_eq.mpr c9
 have c9b1 : ((rd ((rd_T51 t213 0).f2) 0) != 1) = false := bne_eq_false_iff_eq.mpr c9
 clear c9
 by_cases c10 : 1 < (((rd_T51 t213 0).f2).length : Int)
 rotate_left
 ·rw [if_neg c10] at H
  exact absurd H (by simp)
 rw [if_pos c10] at H
 have c10b0 : decide (1 < (((rd_T51 t213 0).f2).length : Int)) = true := decide_eq_true c10
 have c10b1 : decide (1 < ((rd_T51 t213 0).f2).length) = true := decide_eq_true (by omega)
 clear c10
 by_cases c11 : (rd ((rd_T51 t213 0).f2) 1) = 2
 rotate_left
 ·rw [if_neg c11] at H
  exact absurd ((oI H).trans HRT.out) (by decide)
 rw [if_pos c11] at H
 have c11b0 : ((rd ((rd_T51 t213 0).f2) 1) == 2) = true := beq_iff_eq.mpr c11
 have c11b1 : ((rd ((rd_T51 t213 0).f2) 1) != 2) = false := bne_eq_false_iff_eq.mpr c11
 clear c11
 by_cases c12 : (t216.length : Int) = 3
 rotate_left
 ·rw [if_neg c12] at H
  exact absurd ((oI H).trans HRT.out) (by decide)
 rw [if_pos c12] at H
 have c12b0 : ((t216.length : Int) == 3) = true := beq_iff_eq.mpr c12
 have c12b1 : ((t216.length : Int) != 3) = false := bne_eq_false_iff_eq.mpr c12
 clear c12
 by_cases c13 : 2 < (t216.length : Int)
 rotate_left
 ·rw [if_neg c13] at H
  exact absurd H (by simp)
 rw [if_pos c13] at H
 have c13b0 : decide (2 < (t216.length : Int)) = true := decide_eq_true c13
 have c13b1 : decide (2 < t216.length) = true := decide_eq_true (by omega)
 clear c13
 by_cases c14 : ((rd_L11 t216 2).length : Int) = 2
 rotate_left
 ·rw [if_neg c14] at H
  exact absurd ((oI H).trans HRT.out) (by decide)
 rw [if_pos c14] at H
 have c14b0 : (((rd_L11 t216 2).length : Int) == 2) = true := beq_iff_eq.mpr c14
 have c14b1 : (((rd_L11 t216 2).length : Int) != 2) = false := bne_eq_false_iff_eq.mpr c14
 clear c14
 replace H := bM H
 obtain ⟨t228, A150, H⟩ := H
 (try dsimp only at H)
 have A15 := aK A150
 clear A150
 obtain rfl := oI H
 go_enter Try.func10, Try.ntmps10
 go_wp2_with (first | ((refine gate_dst (N := 8) rfl ?_); (try (refine gate_guard (by rfl) ?_; dsimp only)); refine Kd.R_lit k53 _ 53 ?hg (N := 8) ?hd (xs := ([(⟨22, 2, 0, 0, 1⟩ : S53), (⟨15, 3, 3, 0, 1⟩ : S53), (⟨1, 0, 0, 0, 0⟩ : S53)] : List (S53))) (inner := [.int .u8 22, .int .i64 2, .int .i64 0, .int .i64 0, .int .i64 1, .int .u8 15, .int .i64 3, .int .i64 3, .int .i64 0, .int .i64 1, .int .u8 1, .int .i64 0, .int .i64 0, .int .i64 0, .int .i64 0]) (ok := fun _ => True) (okp := fun _ => True) ?hr ?hp (fun _ hk => hk) trivial (Below.refl _ _) (Nat.le_refl _) (by simp) ?_; (case hd => rfl); (case hg => rfl); (case hr => first | (go_simp; done) | (go_simp; rfl)); (case hp => exact (Reps.c5 (show Kd.M k53 _ _ _ (⟨22, 2, 0, 0, 1⟩ : S53) [.int .u8 22, .int .i64 2, .int .i64 0, .int .i64 0, .int .i64 1] from (k53_mkM _ _ _ (⟨22, 2, 0, 0, 1⟩ : S53) )) (Reps.c5 (show Kd.M k53 _ _ _ (⟨15, 3, 3, 0, 1⟩ : S53) [.int .u8 15, .int .i64 3, .int .i64 3, .int .i64 0, .int .i64 1] from (k53_mkM _ _ _ (⟨15, 3, 3, 0, 1⟩ : S53) )) (Reps.c5 (show Kd.M k53 _ _ _ (⟨1, 0, 0, 0, 0⟩ : S53) [.int .u8 1, .int .i64 0, .int .i64 0, .int .i64 0, .int .i64 0] from (k53_mkM _ _ _ (⟨1, 0, 0, 0, 0⟩ : S53) )) (Reps.none _ _))))); intro v203 w16 ho17 hb hg_ hnew_; clear hg_ hnew_; (first | rw [← Ny202.out] at ho17 | (simp only [Int.reduceToNat] at ho17; rw [← Ny202.out] at ho17)); have HO204 := aK (Kd.R_lower ho17 (below_size (tB0 HB.out))); replace HB := aK (below_step (tB0 HB.out) hb); clear hb ho17; obtain ⟨Ao18, co18, eo18⟩ := Kd.R_slice HO204.out; subst eo18) | ((refine gate_callee (f := 35) rfl ?_); refine goesL_ (some 9) rfl rfl Try.func35 (by kernel_rfl) rfl #[.slice Ao18 y202.length co18] rfl tF ?_; (with_reducible refine (ontimelaw24_image.calls k _ _ y202 t205 t208 t211 t212 _ ?side1 ?side2 A1.out).mono ?_); (case side1 => exact tC (Kd.R_reads' HO204.out).2.2); (case side2 => exact (Kd.R_reads' HO204.out).2.1); rintro e w19 ⟨v206, v209, rfl, ho0, ho1, hb⟩; refine ⟨_, rfl, ?_⟩; replace HO204 := aK (Kd.R_below (tR HO204.out) hb); have HO207 := aK (Kd.R_lower ho0 (below_size (tB0 HB.out))); have HO210 := aK (Kd.R_lower ho1 (below_size (tB0 HB.out))); replace HB := aK (below_step (tB0 HB.out) hb); obtain ⟨Ao20, co20, eo20⟩ := Kd.R_slice HO207.out; subst eo20; obtain ⟨Ao21, co21, eo21⟩ := Kd.R_slice HO210.out; subst eo21) | ((refine gate_callee (f := 12) rfl ?_); refine goesL_ (some 10) rfl rfl Try.func12 (by kernel_rfl) rfl #[.agg #[.slice Ao20 t205.length co20, .slice Ao21 t208.length co21, .int .i64 t211, .int .i64 t212], .int .i64 0] rfl tF ?_; (with_reducible refine (cfg_Build.calls k _ _ t205 _ _ t208 t211 t212 0 t213 t216 t219 t220 _ ?side1 ?side2 ?side3 ?side4 A2.out).mono ?_); (case side1 => exact tC (Kd.R_reads' HO207.out).2.2); (case side2 => exact (Kd.R_reads' HO207.out).2.1); (case side3 => exact tC (Kd.R_reads' HO210.out).2.2); (case side4 => exact (Kd.R_reads' HO210.out).2.1); rintro e w22 ⟨v214, v217, rfl, ho0, ho1, hb⟩; refine ⟨_, rfl, ?_⟩; replace HO204 := aK (Kd.R_below (tR HO204.out) hb); replace HO207 := aK (Kd.R_below (tR HO207.out) hb); replace HO210 := aK (Kd.R_below (tR HO210.out) hb); have HO215 := aK (Kd.S_lower ho0 (below_size (tB0 HB.out))); have HO218 := aK (Kd.S_lower ho1 (below_size (tB0 HB.out))); replace HB := aK (below_step (tB0 HB.out) hb)) | ((refine gate_dst (N := 1) rfl ?_); (try (refine gate_guard (by rfl) ?_; dsimp only)); refine box_event ?hg (N := 1) ?hd (cs := #[.slice none 0 0, .slice none 0 0]) (t := 31) ?hr ?_; (case hd => rfl); (case hg => rfl); (case hr => first | (go_simp; done) | (go_simp; rfl)); intro gb221 hg w23 hbox hb; replace HO204 := aK (Kd.R_below (tR HO204.out) hb); replace HO207 := aK (Kd.R_below (tR HO207.out) hb); replace HO210 := aK (Kd.R_below (tR HO210.out) hb); replace HO215 := aK (Kd.S_below (tS HO215.out) hb); replace HO218 := aK (Kd.S_below (tS HO218.out) hb); have BK221 := aK (hbox); have GW221 := aK ((by rw [hg]; exact (below_size (tB0 HB.out)) : w.heap.size ≤ gb221)); have GE221 := GW221; replace HB := aK (below_step (tB0 HB.out) hb); clear hb hbox hg; obtain ⟨Ao24, co24, eo24⟩ := Kd.S_slice HO215.out; subst eo24; have hcz25_0 := bc 0 BK221.out; have hcz25_1 := bc 1 BK221.out; have hfz25_0 := blk_frozen BK221.out 0; have hfz25_1 := blk_frozen BK221.out 1; obtain ⟨Ao26, co26, eo26⟩ := Kd.S_slice HO218.out; subst eo26) | ((refine gate_store (t := 31) (p := 1) rfl ?_); refine store_event (t := 31) (p := 1) (v := ?vo_w27) (w1 := ((w23.setCell ⟨gb221, 0, none⟩ (.slice Ao24 t213.length co24)).setCell ⟨gb221, 1, none⟩ (.slice Ao26 t216.length co26))) ?hg ?ho ?hn ?hr ?_; (case ho => rfl); (case hg => rfl); (case hn => rfl); (case hr => first | (go_simp; done) | (go_simp; rfl)); intro w27 hw; replace HO204 : Aside0 (Kd.R k53 53 w27 w.heap.size (fun _ => True) (.slice Ao18 y202.length co18) y202) := ⟨(by rw [hw]; exact (by (with_reducible repeat (first | apply Kd.R_alloc | apply Kd.R_drewN | apply Kd.R_drew)); exact Kd.R_mono (Kd.R_far (p := ⟨gb221, 1, none⟩) (Kd.R_far (p := ⟨gb221, 0, none⟩) (Kd.R_types HO204.out BK221.out (by decide)) (fun _ hk => hk.2) (.slice Ao24 t213.length co24)) (fun _ hk => hk.2) (.slice Ao26 t216.length co26)) (fun _ hk => trivial)))⟩; replace HO207 : Aside0 (Kd.R (Kd.int .u32) 56 w27 w.heap.size (fun _ => True) (.slice Ao20 t205.length co20) t205) := ⟨(by rw [hw]; exact (by (with_reducible repeat (first | apply Kd.R_alloc | apply Kd.R_drewN | apply Kd.R_drew)); exact Kd.R_mono (Kd.R_far (p := ⟨gb221, 1, none⟩) (Kd.R_far (p := ⟨gb221, 0, none⟩) (Kd.R_types HO207.out BK221.out (by decide)) (fun _ hk => hk.2) (.slice Ao24 t213.length co24)) (fun _ hk => hk.2) (.slice Ao26 t216.length co26)) (fun _ hk => trivial)))⟩; replace HO210 : Aside0 (Kd.R k39 39 w27 w.heap.size (fun _ => True) (.slice Ao21 t208.length co21) t208) := ⟨(by rw [hw]; exact (by (with_reducible repeat (first | apply Kd.R_alloc | apply Kd.R_drewN | apply Kd.R_drew)); exact Kd.R_mono (Kd.R_far (p := ⟨gb221, 1, none⟩) (Kd.R_far (p := ⟨gb221, 0, none⟩) (Kd.R_types HO210.out BK221.out (by decide)) (fun _ hk => hk.2) (.slice Ao24 t213.length co24)) (fun _ hk => hk.2) (.slice Ao26 t216.length co26)) (fun _ hk => trivial)))⟩; replace HO215 : Aside0 (Kd.S k51 51 w27 w.heap.size (fun _ => True) (.slice Ao24 t213.length co24) t213) := ⟨(by rw [hw]; exact (by (with_reducible repeat (first | apply Kd.S_alloc | apply Kd.S_drewN | apply Kd.S_drew)); exact Kd.S_mono (Kd.S_far (p := ⟨gb221, 1, none⟩) (Kd.S_far (p := ⟨gb221, 0, none⟩) (Kd.S_types HO215.out BK221.out (by decide)) (fun _ hk => hk.2) (.slice Ao24 t213.length co24)) (fun _ hk => hk.2) (.slice Ao26 t216.length co26)) (fun _ hk => trivial)))⟩; replace HO218 : Aside0 (Kd.S (Kd.slice 3 (Kd.int .i64)) 49 w27 w.heap.size (fun _ => True) (.slice Ao26 t216.length co26) t216) := ⟨(by rw [hw]; exact (by (with_reducible repeat (first | apply Kd.S_alloc | apply Kd.S_drewN | apply Kd.S_drew)); exact Kd.S_mono (Kd.S_far (p := ⟨gb221, 1, none⟩) (Kd.S_far (p := ⟨gb221, 0, none⟩) (Kd.S_types HO218.out BK221.out (by decide)) (fun _ hk => hk.2) (.slice Ao24 t213.length co24)) (fun _ hk => hk.2) (.slice Ao26 t216.length co26)) (fun _ hk => trivial)))⟩; replace BK221 : Aside0 (w27.heap[gb221]? = some (.cells #[.slice Ao24 t213.length co24, .slice Ao26 t216.length co26] 31 (0, 0))) := ⟨(by rw [hw]; exact (by refine tK ?_; refine blk_put (cs := #[.slice Ao24 t213.length co24, .slice none 0 0]) ?_ 1 _ rfl; refine tK ?_; refine blk_put (cs := #[.slice none 0 0, .slice none 0 0]) ?_ 0 _ rfl; refine tK ?_; exact BK221.out))⟩; replace HB : Aside0 (Below w.heap.size w w27) := ⟨(by rw [hw]; exact (tB1 HB.out GE221.out))⟩; clear hw; have hcz28_0 := bc 0 BK221.out; have hcz28_1 := bc 1 BK221.out; have hfz28_0 := blk_frozen BK221.out 0; have hfz28_1 := blk_frozen BK221.out 1; have p222 : 0 ≤ (0 : Int) := (by omega); have q222 : 0 < (t213.length : Int) := tD; obtain ⟨ad222, A222_2, c222_2, e222, hx222_0, hx222_1, hx222_2, hl222_2, hi222_2⟩ := at_T51 (Kd.S_reads' HO215.out).2.2 0 p222 q222; cases e222; obtain ⟨ce222, hce222, hMe222, hcc222⟩ := Kd.S_get HO215.out z51 0 p222 (by first | exact q222 | exact tD | (have e_ := (Kd.S_reads' HO215.out).1; omega)); obtain ⟨ve222_2, rfl, ge222_2⟩ := k51_openM hMe222; have hv222_2 := hcc222 2 _ rfl; rw [add_field _ _ 2 (by omega)] at hv222_2; replace hv222_2 := oI (hv222_2.symm.trans hx222_2); rw [hv222_2] at ge222_2; have HL222_2 := aK (show Kd.R (Kd.int .i64) 3 _ _ _ _ ((rd_T51 t213 0).f2) from ge222_2); clear hv222_2 ge222_2; clear hcc222 hce222; have qi222 : (0 < t213.length) = True := eq_true (by omega); (try rw [show ((0 : Int)).toNat = 0 from rfl] at hx222_0); (try rw [show 0 * 3 = 0 from rfl] at hx222_0); (try rw [Addr.add_zero'] at hx222_0); (try rw [show ((0 : Int)).toNat = 0 from rfl] at hx222_1); (try rw [show 0 * 3 = 0 from rfl] at hx222_1); (try rw [Addr.add_zero'] at hx222_1); (try rw [show ((0 : Int)).toNat = 0 from rfl] at hx222_2); (try rw [show 0 * 3 = 0 from rfl] at hx222_2); (try rw [Addr.add_zero'] at hx222_2); have HR222_2 := aK hi222_2; have HC222_2 := aK hl222_2; clear hi222_2 hl222_2; replace p222 := eq_true p222; replace q222 := eq_true q222; have p223 : 0 ≤ (0 : Int) := (by omega); have q223 : 0 < (t213.length : Int) := tD; obtain ⟨ad223, A223_2, c223_2, e223, hx223_0, hx223_1, hx223_2, hl223_2, hi223_2⟩ := at_T51 (Kd.S_reads' HO215.out).2.2 0 p223 q223; obtain rfl : ad222 = ad223 := (by injection e223); obtain ⟨ce223, hce223, hMe223, hcc223⟩ := Kd.S_get HO215.out z51 0 p223 (by first | exact q223 | exact tD | (have e_ := (Kd.S_reads' HO215.out).1; omega)); obtain ⟨ve223_2, rfl, ge223_2⟩ := k51_openM hMe223; have hv223_2 := hcc223 2 _ rfl; rw [add_field _ _ 2 (by omega)] at hv223_2; replace hv223_2 := oI (hv223_2.symm.trans hx223_2); rw [hv223_2] at ge223_2; have HL223_2 := aK (show Kd.R (Kd.int .i64) 3 _ _ _ _ ((rd_T51 t213 0).f2) from ge223_2); clear hv223_2 ge223_2; clear hcc223 hce223; have qi223 : (0 < t213.length) = True := eq_true (by omega); (try rw [show ((0 : Int)).toNat = 0 from rfl] at hx223_0); (try rw [show 0 * 3 = 0 from rfl] at hx223_0); (try rw [Addr.add_zero'] at hx223_0); (try rw [show ((0 : Int)).toNat = 0 from rfl] at hx223_1); (try rw [show 0 * 3 = 0 from rfl] at hx223_1); (try rw [Addr.add_zero'] at hx223_1); (try rw [show ((0 : Int)).toNat = 0 from rfl] at hx223_2); (try rw [show 0 * 3 = 0 from rfl] at hx223_2); (try rw [Addr.add_zero'] at hx223_2); have HR223_2 := aK hi223_2; have HC223_2 := aK hl223_2; clear hi223_2 hl223_2; replace p223 := eq_true p223; replace q223 := eq_true q223; have ea_ := oI (hx222_2.symm.trans hx223_2); injection ea_ with ea_ en_ ec_; subst ea_; subst ec_; clear en_; have p224 : 0 ≤ (0 : Int) := (by omega); have q224 : 0 < (((rd_T51 t213 0).f2).length : Int) := tD; obtain ⟨ad224, e224, hx224_0⟩ := Kd.at_int (by repeat (first | (with_reducible exact HR223_2.out) | (with_reducible refine Kd.C_alloc ?_ _) | (with_reducible refine Kd.C_drewN ?_ _) | (with_reducible refine Kd.C_drew ?_) | exact HR223_2.out)) 0 p224 q224; cases e224; have qi224 : (0 < ((rd_T51 t213 0).f2).length) = True := eq_true (by omega); (try rw [show ((0 : Int)).toNat = 0 from rfl] at hx224_0); (try rw [Addr.add_zero'] at hx224_0); replace p224 := eq_true p224; replace q224 := eq_true q224; have p225 : 0 ≤ (0 : Int) := (by omega); have q225 : 0 < (t213.length : Int) := tD; obtain ⟨ad225, A225_2, c225_2, e225, hx225_0, hx225_1, hx225_2, hl225_2, hi225_2⟩ := at_T51 (Kd.S_reads' HO215.out).2.2 0 p225 q225; obtain rfl : ad222 = ad225 := (by injection e225); obtain ⟨ce225, hce225, hMe225, hcc225⟩ := Kd.S_get HO215.out z51 0 p225 (by first | exact q225 | exact tD | (have e_ := (Kd.S_reads' HO215.out).1; omega)); obtain ⟨ve225_2, rfl, ge225_2⟩ := k51_openM hMe225; have hv225_2 := hcc225 2 _ rfl; rw [add_field _ _ 2 (by omega)] at hv225_2; replace hv225_2 := oI (hv225_2.symm.trans hx225_2); rw [hv225_2] at ge225_2; have HL225_2 := aK (show Kd.R (Kd.int .i64) 3 _ _ _ _ ((rd_T51 t213 0).f2) from ge225_2); clear hv225_2 ge225_2; clear hcc225 hce225; have qi225 : (0 < t213.length) = True := eq_true (by omega); (try rw [show ((0 : Int)).toNat = 0 from rfl] at hx225_0); (try rw [show 0 * 3 = 0 from rfl] at hx225_0); (try rw [Addr.add_zero'] at hx225_0); (try rw [show ((0 : Int)).toNat = 0 from rfl] at hx225_1); (try rw [show 0 * 3 = 0 from rfl] at hx225_1); (try rw [Addr.add_zero'] at hx225_1); (try rw [show ((0 : Int)).toNat = 0 from rfl] at hx225_2); (try rw [show 0 * 3 = 0 from rfl] at hx225_2); (try rw [Addr.add_zero'] at hx225_2); have HR225_2 := aK hi225_2; have HC225_2 := aK hl225_2; clear hi225_2 hl225_2; replace p225 := eq_true p225; replace q225 := eq_true q225; have ea_ := oI (hx222_2.symm.trans hx225_2); injection ea_ with ea_ en_ ec_; subst ea_; subst ec_; clear en_; have p226 : 0 ≤ (1 : Int) := (by omega); have q226 : 1 < (((rd_T51 t213 0).f2).length : Int) := tD; obtain ⟨ad226, e226, hx226_0⟩ := Kd.at_int (by repeat (first | (with_reducible exact HR225_2.out) | (with_reducible refine Kd.C_alloc ?_ _) | (with_reducible refine Kd.C_drewN ?_ _) | (with_reducible refine Kd.C_drew ?_) | exact HR225_2.out)) 1 p226 q226; cases e226; (try simp only [show (1 : Int).toNat = 1 from rfl, Nat.reduceMul, Nat.reduceEqDiff, Go.Addr.add, ↓reduceIte] at hx226_0); have qi226 : (1 < ((rd_T51 t213 0).f2).length) = True := eq_true (by omega); (try rw [show ((1 : Int)).toNat = 1 from rfl] at hx226_0); replace p226 := eq_true p226; replace q226 := eq_true q226; have p227 : 0 ≤ (2 : Int) := (by omega); have q227 : 2 < (t216.length : Int) := tD; obtain ⟨ad227, A227_0, c227_0, e227, hx227_0, hl227_0, hi227_0⟩ := at_L11 (Kd.S_reads' HO218.out).2.2 2 p227 q227; cases e227; obtain ⟨ce227, hce227, hMe227, hcc227⟩ := Kd.S_get HO218.out [] 2 p227 (by first | exact q227 | exact tD | (have e_ := (Kd.S_reads' HO218.out).1; omega)); obtain ⟨ve227_0, rfl, ge227_0⟩ := hMe227; have hv227_0 := hcc227 0 _ rfl; rw [Nat.add_zero, show ((Kd.slice 3 (Kd.int .i64))).sz = 1 from rfl, Nat.mul_one] at hv227_0; replace hv227_0 := oI (hv227_0.symm.trans hx227_0); rw [hv227_0] at ge227_0; have HL227_0 := aK (show Kd.R (Kd.int .i64) 3 _ _ _ _ (rd_L11 t216 2) from ge227_0); clear hv227_0 ge227_0; clear hcc227 hce227; (try simp only [show (2 : Int).toNat = 2 from rfl, Nat.reduceMul, Nat.reduceEqDiff, Go.Addr.add, ↓reduceIte] at hx227_0); have qi227 : (2 < t216.length) = True := eq_true (by omega); (try rw [show ((2 : Int)).toNat = 2 from rfl] at hx227_0); have HR227_0 := aK hi227_0; have HC227_0 := aK hl227_0; clear hi227_0 hl227_0; replace p227 := eq_true p227; replace q227 := eq_true q227) | (go_at_call 19; (with_reducible refine (cfg_Valid.calls k _ _ t213 _ _ t216 t228 _ ?side1 ?side2 ?side3 ?side4 A15.out HRT.out).mono ?_); (case side1 => exact tC (Kd.S_reads' HO215.out).2.2); (case side2 => exact (Kd.S_reads' HO215.out).2.1); (case side3 => exact tC (Kd.S_reads' HO218.out).2.2); (case side4 => exact (Kd.S_reads' HO218.out).2.1); rintro e w29 ⟨rfl, hb⟩; replace HO204 := aK (Kd.R_below (tR HO204.out) hb); replace HO207 := aK (Kd.R_below (tR HO207.out) hb); replace HO210 := aK (Kd.R_below (tR HO210.out) hb); replace HO215 := aK (Kd.S_below (tS HO215.out) hb); replace HO218 := aK (Kd.S_below (tS HO218.out) hb); replace HL222_2 := aK (Kd.R_below (tR HL222_2.out) hb); replace HL223_2 := aK (Kd.R_below (tR HL223_2.out) hb); replace HL225_2 := aK (Kd.R_below (tR HL225_2.out) hb); replace HL227_0 := aK (Kd.R_below (tR HL227_0.out) hb); replace BK221 := aK (blk_below (g := gb221) (tK BK221.out) hb); replace HR222_2 := aK (Kd.C_below (by repeat (first | (with_reducible exact HR222_2.out) | (with_reducible refine Kd.C_alloc ?_ _) | (with_reducible refine Kd.C_drewN ?_ _) | (with_reducible refine Kd.C_drew ?_) | exact HR222_2.out)) hb); replace HR223_2 := aK (Kd.C_below (by repeat (first | (with_reducible exact HR223_2.out) | (with_reducible refine Kd.C_alloc ?_ _) | (with_reducible refine Kd.C_drewN ?_ _) | (with_reducible refine Kd.C_drew ?_) | exact HR223_2.out)) hb); replace HR225_2 := aK (Kd.C_below (by repeat (first | (with_reducible exact HR225_2.out) | (with_reducible refine Kd.C_alloc ?_ _) | (with_reducible refine Kd.C_drewN ?_ _) | (with_reducible refine Kd.C_drew ?_) | exact HR225_2.out)) hb); replace HR227_0 := aK (Kd.C_below (by repeat (first | (with_reducible exact HR227_0.out) | (with_reducible refine Kd.C_alloc ?_ _) | (with_reducible refine Kd.C_drewN ?_ _) | (with_reducible refine Kd.C_drew ?_) | exact HR227_0.out)) hb); replace HB := aK (below_step (tB1 HB.out GE221.out) hb)))
 go_ret
 exact ⟨by first | rfl | (simp [errW_none, errW_some] <;> rfl) | (simp [*, errW_none, errW_some] <;> rfl), by repeat (first | (with_reducible first | exact HB.out | apply below_alloc | apply pw_below_drewN | apply below_drew1 | refine below_set ?_ GE221.out) | exact HB.out)⟩
theorem ontimelaw24_awake.only {k : Nat} {r : Bool} (h : ontimelaw24_awake.f k = some r) : r = true := by
 have h60 : ontimelaw24_awake.f 60 = some true := by kernel_rfl
 have m : ∀ j n, LeO (ontimelaw24_awake.f n) (ontimelaw24_awake.f (n + j)) := by
  intro j
  induction j with
  | zero => intro n; exact LeO.refl _
  | succ j ih => intro n; exact (ih n).trans (ontimelaw24_awake.mono (n + j))
 have a := m 60 k r h
 have b := m k 60 true h60
 rw [Nat.add_comm] at b
 exact oI (a.symm.trans b)
theorem ontimelaw24_awake.calls (k : Nat) (r : Bool) (w : World) (h : ontimelaw24_awake.f k  = some r) :
  Calls Try.prog 10 #[] w fun e w' => e = .returned (.bool r) ∧ Below w.heap.size w w' := ontimelaw24_awake.calls0 k r w h (ontimelaw24_awake.only h)
def ontimelaw24_Great.f (l0_0 : List Int) (l0_1 : List (S39)) (a0_2 : Int) (a0_3 : Int) : Option (Int) := if (l0_0.length : Int) > 300 then (some 1) else (if (l0_1.length : Int) > 4 then (some 1) else (some 0))
set_option maxHeartbeats 8000000 in
set_option maxRecDepth 100000 in
theorem ontimelaw24_Great.calls (A0_0 : Option Addr) (c0_0 : Nat) (l0_0 : List Int) (A0_1 : Option Addr) (c0_1 : Nat) (l0_1 : List (S39)) (a0_2 : Int) (a0_3 : Int) (r : Int) (w : World) (hr0_0 : Kd.C (Kd.int .u32) w A0_0 l0_0.length l0_0) (hc0_0 : l0_0.length ≤ c0_0) (hr0_1 : Kd.C k39 w A0_1 l0_1.length l0_1) (hc0_1 : l0_1.length ≤ c0_1) (h : ontimelaw24_Great.f l0_0 l0_1 a0_2 a0_3 = some r) :
  Calls Try.prog 11 #[.agg #[.slice A0_0 l0_0.length c0_0, .slice A0_1 l0_1.length c0_1, .int .i64 a0_2, .int .i64 a0_3]] w fun e w' => e = .returned (.int .i64 r) ∧ Below w.heap.size w w' := by
 have hu25 := Try.underlying25
 have HR0_0 := aK hr0_0
 have HC0_0 := aK hc0_0
 clear hr0_0 hc0_0
 have HR0_1 := aK hr0_1
 have HC0_1 := aK hc0_1
 clear hr0_1 hc0_1
 have HB := aK (Below.refl w.heap.size w)
 have H : (if (l0_0.length : Int) > 300 then (some 1) else (if (l0_1.length : Int) > 4 then (some 1) else (some 0))) = some r := h
 clear h
 by_cases c2 : (l0_0.length : Int) > 300
 ·rw [if_pos c2] at H
  have c2b0 : decide (300 < (l0_0.length : Int)) = true := decide_eq_true c2
  have c2b1 : decide (300 < l0_0.length) = true := decide_eq_true (by omega)
  clear c2
  obtain rfl := oI H
  go_enter Try.func11, Try.ntmps11
  go_wp2_with (first | ((refine gate_dst (N := 1) rfl ?_); (try (refine gate_guard (by rfl) ?_; dsimp only)); refine box_event ?hg (N := 1) ?hd (cs := #[.slice A0_0 l0_0.length c0_0, .slice A0_1 l0_1.length c0_1, .int .i64 a0_2, .int .i64 a0_3]) (t := 25) ?hr ?_; (case hd => rfl); (case hg => rfl); (case hr => first | (go_simp; done) | (go_simp; rfl)); intro gb229 hg w3 hbox hb; have BK229 := aK (hbox); have GW229 := aK ((by rw [hg]; exact (below_size (tB0 HB.out)) : w.heap.size ≤ gb229)); have GE229 := GW229; replace HB := aK (below_step (tB0 HB.out) hb); clear hb hbox hg; have hcz4_0 := bc 0 BK229.out; have hcz4_1 := bc 1 BK229.out; have hcz4_2 := bc 2 BK229.out; have hcz4_3 := bc 3 BK229.out; have hfz4_0 := blk_frozen BK229.out 0; have hfz4_1 := blk_frozen BK229.out 1; have hfz4_2 := blk_frozen BK229.out 2; have hfz4_3 := blk_frozen BK229.out 3))
  go_ret
  exact ⟨by first | rfl | (simp [errW_none, errW_some] <;> rfl) | (simp [*, errW_none, errW_some] <;> rfl), by repeat (first | (with_reducible first | exact HB.out | apply below_alloc | apply pw_below_drewN | apply below_drew1 | refine below_set ?_ GE229.out) | exact HB.out)⟩
 rw [if_neg c2] at H
 have c2b0 : decide (300 < (l0_0.length : Int)) = false := decide_eq_false c2
 have c2b1 : decide (300 < l0_0.length) = false := decide_eq_false (by omega)
 clear c2
 by_cases c5 : (l0_1.length : Int) > 4
 ·rw [if_pos c5] at H
  have c5b0 : decide (4 < (l0_1.length : Int)) = true := decide_eq_true c5
  have c5b1 : decide (4 < l0_1.length) = true := decide_eq_true (by omega)
  clear c5
  obtain rfl := oI H
  go_enter Try.func11, Try.ntmps11
  go_wp2_with (first | ((refine gate_dst (N := 1) rfl ?_); (try (refine gate_guard (by rfl) ?_; dsimp only)); refine box_event ?hg (N := 1) ?hd (cs := #[.slice A0_0 l0_0.length c0_0, .slice A0_1 l0_1.length c0_1, .int .i64 a0_2, .int .i64 a0_3]) (t := 25) ?hr ?_; (case hd => rfl); (case hg => rfl); (case hr => first | (go_simp; done) | (go_simp; rfl)); intro gb229 hg w6 hbox hb; have BK229 := aK (hbox); have GW229 := aK ((by rw [hg]; exact (below_size (tB0 HB.out)) : w.heap.size ≤ gb229)); have GE229 := GW229; replace HB := aK (below_step (tB0 HB.out) hb); clear hb hbox hg; have hcz7_0 := bc 0 BK229.out; have hcz7_1 := bc 1 BK229.out; have hcz7_2 := bc 2 BK229.out; have hcz7_3 := bc 3 BK229.out; have hfz7_0 := blk_frozen BK229.out 0; have hfz7_1 := blk_frozen BK229.out 1; have hfz7_2 := blk_frozen BK229.out 2; have hfz7_3 := blk_frozen BK229.out 3))
  go_ret
  exact ⟨by first | rfl | (simp [errW_none, errW_some] <;> rfl) | (simp [*, errW_none, errW_some] <;> rfl), by repeat (first | (with_reducible first | exact HB.out | apply below_alloc | apply pw_below_drewN | apply below_drew1 | refine below_set ?_ GE229.out) | exact HB.out)⟩
 ·rw [if_neg c5] at H
  have c5b0 : decide (4 < (l0_1.length : Int)) = false := decide_eq_false c5
  have c5b1 : decide (4 < l0_1.length) = false := decide_eq_false (by omega)
  clear c5
  obtain rfl := oI H
  go_enter Try.func11, Try.ntmps11
  go_wp2_with (first | ((refine gate_dst (N := 1) rfl ?_); (try (refine gate_guard (by rfl) ?_; dsimp only)); refine box_event ?hg (N := 1) ?hd (cs := #[.slice A0_0 l0_0.length c0_0, .slice A0_1 l0_1.length c0_1, .int .i64 a0_2, .int .i64 a0_3]) (t := 25) ?hr ?_; (case hd => rfl); (case hg => rfl); (case hr => first | (go_simp; done) | (go_simp; rfl)); intro gb229 hg w8 hbox hb; have BK229 := aK (hbox); have GW229 := aK ((by rw [hg]; exact (below_size (tB0 HB.out)) : w.heap.size ≤ gb229)); have GE229 := GW229; replace HB := aK (below_step (tB0 HB.out) hb); clear hb hbox hg; have hcz9_0 := bc 0 BK229.out; have hcz9_1 := bc 1 BK229.out; have hcz9_2 := bc 2 BK229.out; have hcz9_3 := bc 3 BK229.out; have hfz9_0 := blk_frozen BK229.out 0; have hfz9_1 := blk_frozen BK229.out 1; have hfz9_2 := blk_frozen BK229.out 2; have hfz9_3 := blk_frozen BK229.out 3))
  go_ret
  exact ⟨by first | rfl | (simp [errW_none, errW_some] <;> rfl) | (simp [*, errW_none, errW_some] <;> rfl), by repeat (first | (with_reducible first | exact HB.out | apply below_alloc | apply pw_below_drewN | apply below_drew1 | refine below_set ?_ GE229.out) | exact HB.out)⟩
end Go.Proofs.Ytihmfdndiicjgaa.C
