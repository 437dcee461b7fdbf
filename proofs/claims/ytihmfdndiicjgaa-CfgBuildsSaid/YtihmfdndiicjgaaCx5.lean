import Derived.Test.YtihmfdndiicjgaaCx0
import Derived.Test.YtihmfdndiicjgaaCx4
namespace Go.Proofs.Ytihmfdndiicjgaa.C
open Go.RowKit Go.Proofs.YtihmfdndiicjgaaW.PrintWords Go.Proofs.YtihmfdndiicjgaaW.PrintLast Go.Proofs.YtihmfdndiicjgaaW.PrintMore
attribute [local go_sem] max2_int min2_int max_two min_two max_three min_three max_four min_four   -- for this text's walks alone
set_option linter.unusedVariables false
set_option linter.unusedSimpArgs false
mutual
def cfg_Valid.j0 : Nat → Int → Bool → List (S51) → List (List Int) → Option (Bool)
 | 0, _, _, _, _ => none
 | k + 1, x3, x21, x176000, x176001 => if x21 = true then (some false) else (if 0 ≤ x3 then (if (x3 : Int).toNat ≤ 11728124029610 then (cfg_Valid.l0 k x3 (List.replicate (x3 : Int).toNat []) 0 x176000 (x176000.length : Int) 0 x176000 x176001) else (none)) else (none))
def cfg_Valid.l0 : Nat → Int → List (List Int) → Int → List (S51) → Int → Int → List (S51) → List (List Int) → Option (Bool)
 | 0, _, _, _, _, _, _, _, _ => none
 | k + 1, x3, x4, x5, x25, x26, x27, x176000, x176001 => if x27 < x26 then (if 0 ≤ x27 then (if x27 < (x25.length : Int) then (if ((rd_T51 x25 x27).f0) < x5 then (cfg_Valid.j2 k x3 x4 x27 x25 x26 x27 true x176000 x176001 ((rd_T51 x25 x27).f0) ((rd_T51 x25 x27).f1) ((rd_T51 x25 x27).f2)) else (if ((rd_T51 x25 x27).f1) ≤ ((rd_T51 x25 x27).f0) then (cfg_Valid.j2 k x3 x4 x27 x25 x26 x27 true x176000 x176001 ((rd_T51 x25 x27).f0) ((rd_T51 x25 x27).f1) ((rd_T51 x25 x27).f2)) else (if (((rd_T51 x25 x27).f2).length : Int) > 2 then (cfg_Valid.j2 k x3 x4 x27 x25 x26 x27 true x176000 x176001 ((rd_T51 x25 x27).f0) ((rd_T51 x25 x27).f1) ((rd_T51 x25 x27).f2)) else (if (((rd_T51 x25 x27).f2).length : Int) = 2 then (if 0 < (((rd_T51 x25 x27).f2).length : Int) then (if 1 < (((rd_T51 x25 x27).f2).length : Int) then (cfg_Valid.j2 k x3 x4 x27 x25 x26 x27 ((rd ((rd_T51 x25 x27).f2) 0) == (rd ((rd_T51 x25 x27).f2) 1)) x176000 x176001 ((rd_T51 x25 x27).f0) ((rd_T51 x25 x27).f1) ((rd_T51 x25 x27).f2)) else (none)) else (none)) else (cfg_Valid.j2 k x3 x4 x27 x25 x26 x27 false x176000 x176001 ((rd_T51 x25 x27).f0) ((rd_T51 x25 x27).f1) ((rd_T51 x25 x27).f2)))))) else (none)) else (none)) else ((slices_EqualFunc_int_int_int_int.f k x4 x176001).bind fun t179 => (some t179))
def cfg_Valid.j2 : Nat → Int → List (List Int) → Int → List (S51) → Int → Int → Bool → List (S51) → List (List Int) → Int → Int → List Int → Option (Bool)
 | 0, _, _, _, _, _, _, _, _, _, _, _, _ => none
 | k + 1, x3, x4, x6, x25, x26, x27, x65, x176000, x176001, x182000, x182001, x182002 => if x65 = true then (some false) else (cfg_Valid.l1 k x3 x4 x182001 x6 x25 x26 x27 x182002 (x182002.length : Int) 0 x176000 x176001)
def cfg_Valid.l1 : Nat → Int → List (List Int) → Int → Int → List (S51) → Int → Int → List Int → Int → Int → List (S51) → List (List Int) → Option (Bool)
 | 0, _, _, _, _, _, _, _, _, _, _, _, _ => none
 | k + 1, x3, x4, x5, x6, x25, x26, x27, x69, x70, x71, x176000, x176001 => if x71 < x70 then (if 0 ≤ x71 then (if x71 < (x69.length : Int) then (if (rd x69 x71) < 0 then (some false) else (if (rd x69 x71) ≥ x3 then (some false) else (if 0 ≤ (rd x69 x71) then (if (rd x69 x71) < (x4.length : Int) then (if (rd_L11 x4 (rd x69 x71)).length < 17592186044416 then (cfg_Valid.l1 k x3 (x4.set ((rd x69 x71) : Int).toNat ((rd_L11 x4 (rd x69 x71)) ++ [x6])) x5 x6 x25 x26 x27 x69 x70 (wrap64 (x71 + 1)) x176000 x176001) else (none)) else (none)) else (none)))) else (none)) else (none)) else (cfg_Valid.l0 k x3 x4 x5 x25 x26 (wrap64 (x27 + 1)) x176000 x176001)
end
def cfg_Valid.f (k : Nat) (l0_0 : List (S51)) (l0_1 : List (List Int)) : Option (Bool) := if (l0_0.length : Int) = 0 then (cfg_Valid.j0 k (l0_0.length : Int) true l0_0 l0_1) else (cfg_Valid.j0 k (l0_0.length : Int) ((l0_1.length : Int) != (l0_0.length : Int)) l0_0 l0_1)
theorem cfg_Valid.mono_l : ∀ k, (∀ y0 y1 y2 y3, LeO (cfg_Valid.j0 k y0 y1 y2 y3) (cfg_Valid.j0 (k + 1) y0 y1 y2 y3)) ∧ (∀ y0 y1 y2 y3 y4 y5 y6 y7, LeO (cfg_Valid.l0 k y0 y1 y2 y3 y4 y5 y6 y7) (cfg_Valid.l0 (k + 1) y0 y1 y2 y3 y4 y5 y6 y7)) ∧ (∀ y0 y1 y2 y3 y4 y5 y6 y7 y8 y9 y10 y11, LeO (cfg_Valid.j2 k y0 y1 y2 y3 y4 y5 y6 y7 y8 y9 y10 y11) (cfg_Valid.j2 (k + 1) y0 y1 y2 y3 y4 y5 y6 y7 y8 y9 y10 y11)) ∧ (∀ y0 y1 y2 y3 y4 y5 y6 y7 y8 y9 y10 y11, LeO (cfg_Valid.l1 k y0 y1 y2 y3 y4 y5 y6 y7 y8 y9 y10 y11) (cfg_Valid.l1 (k + 1) y0 y1 y2 y3 y4 y5 y6 y7 y8 y9 y10 y11))
 | 0 => ⟨fun _ _ _ _ r h => by simp [cfg_Valid.j0] at h, fun _ _ _ _ _ _ _ _ r h => by simp [cfg_Valid.l0] at h, fun _ _ _ _ _ _ _ _ _ _ _ _ r h => by simp [cfg_Valid.j2] at h, fun _ _ _ _ _ _ _ _ _ _ _ _ r h => by simp [cfg_Valid.l1] at h⟩
 | k + 1 => by
  obtain ⟨ih0, ih1, ih2, ih3⟩ := cfg_Valid.mono_l k
  refine ⟨?_, ?_, ?_, ?_⟩
  all_goals intros
  all_goals (first | unfold cfg_Valid.j0 | unfold cfg_Valid.l0 | unfold cfg_Valid.j2 | unfold cfg_Valid.l1)
  all_goals repeat' first
  | (with_reducible exact ih0 _ _ _ _)
  | (with_reducible exact ih1 _ _ _ _ _ _ _ _)
  | (with_reducible exact ih2 _ _ _ _ _ _ _ _ _ _ _ _)
  | (with_reducible exact ih3 _ _ _ _ _ _ _ _ _ _ _ _)
  | (with_reducible exact slices_EqualFunc_int_int_int_int.mono _ _ _)
  | (with_reducible exact LeO.refl _)
  | (with_reducible exact LeO.none _)
  | (with_reducible refine LeO.ite ?_ ?_)
  | (with_reducible refine LeO.bind ?_ (fun _ => ?_))
  | exact ih0 _ _ _ _
  | exact ih1 _ _ _ _ _ _ _ _
  | exact ih2 _ _ _ _ _ _ _ _ _ _ _ _
  | exact ih3 _ _ _ _ _ _ _ _ _ _ _ _
  | exact slices_EqualFunc_int_int_int_int.mono _ _ _
  | exact LeO.none _
  | refine LeO.ite ?_ ?_
  | refine LeO.bind ?_ (fun _ => ?_)
theorem cfg_Valid.mono : ∀ a0 a1 k, LeO (cfg_Valid.f k a0 a1) (cfg_Valid.f (k + 1) a0 a1) := by
 intro a0 a1 k
 obtain ⟨ih0, ih1, ih2, ih3⟩ := cfg_Valid.mono_l k
 unfold cfg_Valid.f
 repeat' first
   | (with_reducible exact ih0 _ _ _ _)
   | (with_reducible exact ih1 _ _ _ _ _ _ _ _)
   | (with_reducible exact ih2 _ _ _ _ _ _ _ _ _ _ _ _)
   | (with_reducible exact ih3 _ _ _ _ _ _ _ _ _ _ _ _)
   | (with_reducible exact slices_EqualFunc_int_int_int_int.mono _ _ _)
   | (with_reducible exact LeO.refl _)
   | (with_reducible exact LeO.none _)
   | (with_reducible refine LeO.ite ?_ ?_)
   | (with_reducible refine LeO.bind ?_ (fun _ => ?_))
   | exact ih0 _ _ _ _
   | exact ih1 _ _ _ _ _ _ _ _
   | exact ih2 _ _ _ _ _ _ _ _ _ _ _ _
   | exact ih3 _ _ _ _ _ _ _ _ _ _ _ _
   | exact slices_EqualFunc_int_int_int_int.mono _ _ _
   | exact LeO.none _
   | refine LeO.ite ?_ ?_
   | refine LeO.bind ?_ (fun _ => ?_)
set_option maxHeartbeats 8000000 in
set_option maxRecDepth 100000 in
theorem cfg_Valid.calls (k : Nat) (A0_0 : Option Addr) (c0_0 : Nat) (l0_0 : List (S51)) (A0_1 : Option Addr) (c0_1 : Nat) (l0_1 : List (List Int)) (r : Bool) (w : World) (hr0_0 : Kd.C k51 w A0_0 l0_0.length l0_0) (hc0_0 : l0_0.length ≤ c0_0) (hr0_1 : Kd.C (Kd.slice 3 (Kd.int .i64)) w A0_1 l0_1.length l0_1) (hc0_1 : l0_1.length ≤ c0_1) (h : cfg_Valid.f k l0_0 l0_1 = some r) (hrt : r = true) :
  Calls Try.prog 19 #[.agg #[.slice A0_0 l0_0.length c0_0, .slice A0_1 l0_1.length c0_1]] w fun e w' => e = .returned (.bool r) ∧ Below w.heap.size w w' := by
 have HRT := aK hrt
 clear hrt
 have hu31 := Try.underlying31
 have hu51 := Try.underlying51
 have HR0_0 := aK hr0_0
 have HC0_0 := aK hc0_0
 clear hr0_0 hc0_0
 have HR0_1 := aK hr0_1
 have HC0_1 := aK hc0_1
 clear hr0_1 hc0_1
 have HB := aK (Below.refl w.heap.size w)
 have H : (if (l0_0.length : Int) = 0 then (cfg_Valid.j0 k (l0_0.length : Int) true l0_0 l0_1) else (cfg_Valid.j0 k (l0_0.length : Int) ((l0_1.length : Int) != (l0_0.length : Int)) l0_0 l0_1)) = some r := h
 clear h
 have HC2 := aK H
 clear H
 go_enter Try.func19, Try.ntmps19
 go_upto_region 2 with (first | ((refine gate_dst (N := 1) rfl ?_); (try (refine gate_guard (by rfl) ?_; dsimp only)); refine box_event ?hg (N := 1) ?hd (cs := #[.slice A0_0 l0_0.length c0_0, .slice A0_1 l0_1.length c0_1]) (t := 31) ?hr ?_; (case hd => rfl); (case hg => rfl); (case hr => first | (go_simp; done) | (go_simp; rfl)); intro gb175 hg w3 hbox hb; have BK175 := aK (hbox); have GW175 := aK ((by rw [hg]; exact (below_size (tB0 HB.out)) : w.heap.size ≤ gb175)); have GE175 := GW175; replace HB := aK (below_step (tB0 HB.out) hb); clear hb hbox hg; have hcz4_0 := bc 0 BK175.out; have hcz4_1 := bc 1 BK175.out; have hfz4_0 := blk_frozen BK175.out 0; have hfz4_1 := blk_frozen BK175.out 1))
 repeat (go_quiet (first | ((refine gate_dst (N := 1) rfl ?_); (try (refine gate_guard (by rfl) ?_; dsimp only)); refine box_event ?hg (N := 1) ?hd (cs := #[.slice A0_0 l0_0.length c0_0, .slice A0_1 l0_1.length c0_1]) (t := 31) ?hr ?_; (case hd => rfl); (case hg => rfl); (case hr => first | (go_simp; done) | (go_simp; rfl)); intro gb175 hg w3 hbox hb; have BK175 := aK (hbox); have GW175 := aK ((by rw [hg]; exact (below_size (tB0 HB.out)) : w.heap.size ≤ gb175)); have GE175 := GW175; replace HB := aK (below_step (tB0 HB.out) hb); clear hb hbox hg; have hcz4_0 := bc 0 BK175.out; have hcz4_1 := bc 1 BK175.out; have hfz4_0 := blk_frozen BK175.out 0; have hfz4_1 := blk_frozen BK175.out 1)); go_upto_region 2 with (first | ((refine gate_dst (N := 1) rfl ?_); (try (refine gate_guard (by rfl) ?_; dsimp only)); refine box_event ?hg (N := 1) ?hd (cs := #[.slice A0_0 l0_0.length c0_0, .slice A0_1 l0_1.length c0_1]) (t := 31) ?hr ?_; (case hd => rfl); (case hg => rfl); (case hr => first | (go_simp; done) | (go_simp; rfl)); intro gb175 hg w3 hbox hb; have BK175 := aK (hbox); have GW175 := aK ((by rw [hg]; exact (below_size (tB0 HB.out)) : w.heap.size ≤ gb175)); have GE175 := GW175; replace HB := aK (below_step (tB0 HB.out) hb); clear hb hbox hg; have hcz4_0 := bc 0 BK175.out; have hcz4_1 := bc 1 BK175.out; have hfz4_0 := blk_frozen BK175.out 0; have hfz4_1 := blk_frozen BK175.out 1)))
 (try simp only [Act.put, pA, pB, pC])
 go_cut [21] (fun v21 wc => ∃ (kq : Nat) (x21_1 : Bool), v21 = .bool x21_1 ∧ Aside0 (cfg_Valid.j0 kq (l0_0.length : Int) x21_1 l0_0 l0_1 = some r) ∧ Aside0 (kq ≤ k) ∧ Aside0 (wc.heap[gb175]? = some (.cells #[(.slice A0_0 l0_0.length c0_0), (.slice A0_1 l0_1.length c0_1)] 31 (0, 0))) ∧ Aside0 (Below w.heap.size w wc))
 case first =>
  have H := HC2.out
  clear HC2
  by_cases c5 : (l0_0.length : Int) = 0
  ·rw [if_pos c5] at H
   have c5b0 : ((l0_0.length : Int) == 0) = true := beq_iff_eq.mpr c5
   have c5b1 : ((l0_0.length : Int) != 0) = false := bne_eq_false_iff_eq.mpr c5
   clear c5
   (first | rw [c5b0] | (simp only [i64_w, i32_w]; rw [c5b0]) | skip)
   have H' := aK H
   clear H
   go_wp2
   repeat (go_quiet (fail); try go_wp2)
   go_meet
   case rel => exact ⟨_, (true), (by first | rfl | (simp; done) | (simp [*]; done)), H', ⟨by first | omega | exact Nat.le_refl _⟩, ⟨tK BK175.out⟩, ⟨tB1 HB.out GE175.out⟩⟩
  rw [if_neg c5] at H
  have c5b0 : ((l0_0.length : Int) == 0) = false := beq_eq_false_iff_ne.mpr c5
  have c5b1 : ((l0_0.length : Int) != 0) = true := bne_iff_ne.mpr c5
  have c5b2 : ¬ (l0_0 = []) := fun h_ => c5 (by rw [h_]; rfl)
  (first | rw [c5b0] | (simp only [i64_w, i32_w]; rw [c5b0]) | skip)
  have H' := aK H
  clear H
  have hcz6_0 := bc 0 BK175.out
  have hcz6_1 := bc 1 BK175.out
  have hfz6_0 := blk_frozen BK175.out 0
  have hfz6_1 := blk_frozen BK175.out 1
  go_wp2
  repeat (go_quiet (fail); try go_wp2)
  go_meet
  case rel => exact ⟨_, (((l0_1.length : Int) != (l0_0.length : Int))), (by first | rfl | (simp; done) | (simp [*]; done)), H', ⟨by first | omega | exact Nat.le_refl _⟩, ⟨tK BK175.out⟩, ⟨tB1 HB.out GE175.out⟩⟩
 as_aux_lemma =>
 clear HC2
 obtain ⟨kq, x21_1, rfl, HA, HJ1, BK175, HB⟩ := hcut
 cases kq with
 | zero => exact absurd HA.out (by simp [cfg_Valid.j0])
 | succ kj1 =>
  have H := HA.out
  clear HA
  simp only [cfg_Valid.j0] at H
  by_cases c7 : x21_1 = true
  ·subst c7
   have H1 : (some false) = some r := by rw [if_pos rfl] at H; exact H
   exact absurd ((oI H1).trans HRT.out) (by decide)
  replace c7 := Bool.eq_false_iff.mpr c7
  subst c7
  rw [if_neg (show ¬ (false = true) by decide)] at H
  by_cases c8 : 0 ≤ (l0_0.length : Int)
  rotate_left
  ·rw [if_neg c8] at H
   exact absurd H (by simp)
  as_aux_lemma =>
  rw [if_pos c8] at H
  have c8b0 := eq_true c8
  have c8b1 : decide (0 ≤ (l0_0.length : Int)) = true := decide_eq_true c8
  clear c8
  by_cases c9 : ((l0_0.length : Int) : Int).toNat ≤ 11728124029610
  rotate_left
  ·rw [if_neg c9] at H
   exact absurd H (by simp)
  as_aux_lemma =>
  rw [if_pos c9] at H
  have c9b0 := eq_true c9
  have c9b1 : decide (((l0_0.length : Int) : Int).toNat ≤ 11728124029610) = true := decide_eq_true c9
  clear c9
  obtain ⟨y176, hy176⟩ : ∃ y_ : List (List Int), y_ = (List.replicate ((l0_0.length : Int) : Int).toNat []) := ⟨_, rfl⟩
  replace H : (cfg_Valid.l0 kj1 (l0_0.length : Int) y176 0 l0_0 (l0_0.length : Int) 0 l0_0 l0_1) = some r := by first | (rw [hy176]; with_reducible exact H) | (have H2_ := (Option.bind_some _ _).symm.trans H; rw [hy176]; with_reducible exact H2_) | (have H2_ := (Option.bind_some _ _).symm.trans H; with_reducible exact H2_) | with_reducible exact H | (rw [hy176]; exact H) | exact H
  have Ny176 := aK hy176
  clear hy176
  have H' := aK H
  clear H
  go_wp2_with (first | ((refine gate_dst (N := 23) rfl ?_); (try (refine gate_guard (by rfl) ?_; dsimp only)); refine Kd.S_make (Kd.slice 3 (Kd.int .i64)) _ 49 rfl (N := 23) rfl 29 _ _ rfl (l0_0.length : Int) rfl rfl Try.underlying29 (.slice none 0 0) 24 info49 rfl (by decide) (by omega) [] (ok := fun _ => True) (okp := fun _ => True) ⟨_, rfl, Kd.R_nil _ _ _ _ _⟩ (fun _ hk => hk) trivial (tD) (Nat.le_trans (Nat.mul_le_mul_right _ (tD : (l0_0.length : Int).toNat ≤ 11728124029610)) (by omega)) (Below.refl _ _) (Nat.le_refl _) ?_; intro v177 w10 ho11 hb hg_ hnew_; clear hg_ hnew_; (first | rw [← Ny176.out] at ho11 | (simp only [Int.reduceToNat] at ho11; rw [← Ny176.out] at ho11)); have HO178 := aK (Kd.S_lower ho11 (below_size (tB1 HB.out GE175.out))); replace BK175 := aK (blk_below (g := gb175) (tK BK175.out) hb); replace HB := aK (below_step (tB1 HB.out GE175.out) hb); clear hb ho11; have hcz12_0 := bc 0 BK175.out; have hcz12_1 := bc 1 BK175.out; have hfz12_0 := blk_frozen BK175.out 0; have hfz12_1 := blk_frozen BK175.out 1))
  repeat (go_quiet (first | ((refine gate_dst (N := 23) rfl ?_); (try (refine gate_guard (by rfl) ?_; dsimp only)); refine Kd.S_make (Kd.slice 3 (Kd.int .i64)) _ 49 rfl (N := 23) rfl 29 _ _ rfl (l0_0.length : Int) rfl rfl Try.underlying29 (.slice none 0 0) 24 info49 rfl (by decide) (by omega) [] (ok := fun _ => True) (okp := fun _ => True) ⟨_, rfl, Kd.R_nil _ _ _ _ _⟩ (fun _ hk => hk) trivial (tD) (Nat.le_trans (Nat.mul_le_mul_right _ (tD : (l0_0.length : Int).toNat ≤ 11728124029610)) (by omega)) (Below.refl _ _) (Nat.le_refl _) ?_; intro v177 w10 ho11 hb hg_ hnew_; clear hg_ hnew_; (first | rw [← Ny176.out] at ho11 | (simp only [Int.reduceToNat] at ho11; rw [← Ny176.out] at ho11)); have HO178 := aK (Kd.S_lower ho11 (below_size (tB1 HB.out GE175.out))); replace BK175 := aK (blk_below (g := gb175) (tK BK175.out) hb); replace HB := aK (below_step (tB1 HB.out GE175.out) hb); clear hb ho11; have hcz12_0 := bc 0 BK175.out; have hcz12_1 := bc 1 BK175.out; have hfz12_0 := blk_frozen BK175.out 0; have hfz12_1 := blk_frozen BK175.out 1)); try go_wp2_with (first | ((refine gate_dst (N := 23) rfl ?_); (try (refine gate_guard (by rfl) ?_; dsimp only)); refine Kd.S_make (Kd.slice 3 (Kd.int .i64)) _ 49 rfl (N := 23) rfl 29 _ _ rfl (l0_0.length : Int) rfl rfl Try.underlying29 (.slice none 0 0) 24 info49 rfl (by decide) (by omega) [] (ok := fun _ => True) (okp := fun _ => True) ⟨_, rfl, Kd.R_nil _ _ _ _ _⟩ (fun _ hk => hk) trivial (tD) (Nat.le_trans (Nat.mul_le_mul_right _ (tD : (l0_0.length : Int).toNat ≤ 11728124029610)) (by omega)) (Below.refl _ _) (Nat.le_refl _) ?_; intro v177 w10 ho11 hb hg_ hnew_; clear hg_ hnew_; (first | rw [← Ny176.out] at ho11 | (simp only [Int.reduceToNat] at ho11; rw [← Ny176.out] at ho11)); have HO178 := aK (Kd.S_lower ho11 (below_size (tB1 HB.out GE175.out))); replace BK175 := aK (blk_below (g := gb175) (tK BK175.out) hb); replace HB := aK (below_step (tB1 HB.out GE175.out) hb); clear hb ho11; have hcz12_0 := bc 0 BK175.out; have hcz12_1 := bc 1 BK175.out; have hfz12_0 := blk_frozen BK175.out 0; have hfz12_1 := blk_frozen BK175.out 1)))
  go_loopg [5, 27] kj1 (fun kq v5 v27 w' => ∃ (x4_2 : List (List Int)) (x5_2 : Int) (x27_2 : Int), v5 = .int .i64 x5_2 ∧ v27 = .int .i64 x27_2 ∧ Aside0 (cfg_Valid.l0 kq (l0_0.length : Int) x4_2 x5_2 l0_0 (l0_0.length : Int) x27_2 l0_0 l0_1 = some r) ∧ Aside0 (kq ≤ kj1) ∧ Aside0 (Kd.S (Kd.slice 3 (Kd.int .i64)) 49 w' w.heap.size (fun _ => True) v177 x4_2) ∧ Aside0 (w'.heap[gb175]? = some (.cells #[(.slice A0_0 l0_0.length c0_0), (.slice A0_1 l0_1.length c0_1)] 31 (0, 0))) ∧ Aside0 (Below w.heap.size w w'))
  case atStart => exact ⟨(y176), (0), (0), (by first | rfl | (simp; done) | (simp [*]; done)), (by first | rfl | (simp; done) | (simp [*]; done)), H', ⟨Nat.le_refl _⟩, ⟨tS HO178.out⟩, ⟨tK BK175.out⟩, ⟨tB1 HB.out GE175.out⟩⟩
  as_aux_lemma =>
  clear H'
  obtain ⟨x4_2, x5_2, x27_2, rfl, rfl, HA, HK2, HO_4, BK175, HB⟩ := hrel
  cases gk with
  | zero => exact absurd HA.out (by simp [cfg_Valid.l0])
  | succ k2 =>
   have H := HA.out
   clear HA
   simp only [cfg_Valid.l0] at H
   by_cases c13 : x27_2 < (l0_0.length : Int)
   ·as_aux_lemma =>
    rw [if_pos c13] at H
    have c13b0 : decide (x27_2 < (l0_0.length : Int)) = true := decide_eq_true c13
    clear c13
    by_cases c14 : 0 ≤ x27_2
    rotate_left
    ·rw [if_neg c14] at H
     exact absurd H (by simp)
    as_aux_lemma =>
    rw [if_pos c14] at H
    have c14b0 : decide (0 ≤ x27_2) = true := decide_eq_true c14
    clear c14
    by_cases c15 : x27_2 < (l0_0.length : Int)
    rotate_left
    ·rw [if_neg c15] at H
     exact absurd H (by simp)
    as_aux_lemma =>
    rw [if_pos c15] at H
    have c15b0 : decide (x27_2 < (l0_0.length : Int)) = true := decide_eq_true c15
    clear c15
    have HC16 := aK H
    clear H
    have p180 : 0 ≤ (x27_2 : Int) := tD
    have q180 : x27_2 < (l0_0.length : Int) := tD
    obtain ⟨ad180, A180_2, c180_2, e180, hx180_0, hx180_1, hx180_2, hl180_2, hi180_2⟩ := at_T51 HR0_0.out x27_2 p180 q180
    cases e180
    replace hx180_0 := cB HB.out hx180_0
    replace hx180_1 := cB HB.out hx180_1
    replace hx180_2 := cB HB.out hx180_2
    have HR180_2 := aK hi180_2
    have HC180_2 := aK hl180_2
    clear hi180_2 hl180_2
    replace p180 := eq_true p180
    replace q180 := eq_true q180
    go_upto_region 9 with (first | ((refine gate_dst (N := 7) rfl ?_); (try (refine gate_guard (by rfl) ?_; dsimp only)); refine box_event ?hg (N := 7) ?hd (cs := #[.int .i64 0, .int .i64 0, .slice none 0 0]) (t := 51) ?hr ?_; (case hd => rfl); (case hg => rfl); (case hr => first | (go_simp; done) | (go_simp; rfl)); intro gb181 hg w17 hbox hb; replace HO_4 := aK (Kd.S_below (tS HO_4.out) hb); have BK181 := aK (hbox); have GW181 := aK ((by rw [hg]; exact (below_size (tB1 HB.out GE175.out)) : w.heap.size ≤ gb181)); have GE181 := GW181; replace HB := aK (below_step (tB1 HB.out GE175.out) hb); have NB175_181 := aK ((by rw [hg]; exact Nat.ne_of_lt (blk_lt (g := gb175) (o := .cells #[.slice (some ad180) l0_0.length c0_0, .slice A0_1 l0_1.length c0_1] 31 (0, 0)) (tK BK175.out)) : gb175 ≠ gb181)); have NB181_175 := aK ((by rw [hg]; exact Nat.ne_of_gt (blk_lt (g := gb175) (o := .cells #[.slice (some ad180) l0_0.length c0_0, .slice A0_1 l0_1.length c0_1] 31 (0, 0)) (tK BK175.out)) : gb181 ≠ gb175)); replace BK175 := aK (blk_below (g := gb175) (tK BK175.out) hb); clear hb hbox hg; have hnb18 := NB181_175.out; have hnc18 := NB175_181.out; have hcz19_0 := bc 0 BK181.out; have hcz19_1 := bc 1 BK181.out; have hcz19_2 := bc 2 BK181.out; have hfz19_0 := blk_frozen BK181.out 0; have hfz19_1 := blk_frozen BK181.out 1; have hfz19_2 := blk_frozen BK181.out 2))
    repeat (go_quiet (first | ((refine gate_dst (N := 7) rfl ?_); (try (refine gate_guard (by rfl) ?_; dsimp only)); refine box_event ?hg (N := 7) ?hd (cs := #[.int .i64 0, .int .i64 0, .slice none 0 0]) (t := 51) ?hr ?_; (case hd => rfl); (case hg => rfl); (case hr => first | (go_simp; done) | (go_simp; rfl)); intro gb181 hg w17 hbox hb; replace HO_4 := aK (Kd.S_below (tS HO_4.out) hb); have BK181 := aK (hbox); have GW181 := aK ((by rw [hg]; exact (below_size (tB1 HB.out GE175.out)) : w.heap.size ≤ gb181)); have GE181 := GW181; replace HB := aK (below_step (tB1 HB.out GE175.out) hb); have NB175_181 := aK ((by rw [hg]; exact Nat.ne_of_lt (blk_lt (g := gb175) (o := .cells #[.slice (some ad180) l0_0.length c0_0, .slice A0_1 l0_1.length c0_1] 31 (0, 0)) (tK BK175.out)) : gb175 ≠ gb181)); have NB181_175 := aK ((by rw [hg]; exact Nat.ne_of_gt (blk_lt (g := gb175) (o := .cells #[.slice (some ad180) l0_0.length c0_0, .slice A0_1 l0_1.length c0_1] 31 (0, 0)) (tK BK175.out)) : gb181 ≠ gb175)); replace BK175 := aK (blk_below (g := gb175) (tK BK175.out) hb); clear hb hbox hg; have hnb18 := NB181_175.out; have hnc18 := NB175_181.out; have hcz19_0 := bc 0 BK181.out; have hcz19_1 := bc 1 BK181.out; have hcz19_2 := bc 2 BK181.out; have hfz19_0 := blk_frozen BK181.out 0; have hfz19_1 := blk_frozen BK181.out 1; have hfz19_2 := blk_frozen BK181.out 2)); go_upto_region 9 with (first | ((refine gate_dst (N := 7) rfl ?_); (try (refine gate_guard (by rfl) ?_; dsimp only)); refine box_event ?hg (N := 7) ?hd (cs := #[.int .i64 0, .int .i64 0, .slice none 0 0]) (t := 51) ?hr ?_; (case hd => rfl); (case hg => rfl); (case hr => first | (go_simp; done) | (go_simp; rfl)); intro gb181 hg w17 hbox hb; replace HO_4 := aK (Kd.S_below (tS HO_4.out) hb); have BK181 := aK (hbox); have GW181 := aK ((by rw [hg]; exact (below_size (tB1 HB.out GE175.out)) : w.heap.size ≤ gb181)); have GE181 := GW181; replace HB := aK (below_step (tB1 HB.out GE175.out) hb); have NB175_181 := aK ((by rw [hg]; exact Nat.ne_of_lt (blk_lt (g := gb175) (o := .cells #[.slice (some ad180) l0_0.length c0_0, .slice A0_1 l0_1.length c0_1] 31 (0, 0)) (tK BK175.out)) : gb175 ≠ gb181)); have NB181_175 := aK ((by rw [hg]; exact Nat.ne_of_gt (blk_lt (g := gb175) (o := .cells #[.slice (some ad180) l0_0.length c0_0, .slice A0_1 l0_1.length c0_1] 31 (0, 0)) (tK BK175.out)) : gb181 ≠ gb175)); replace BK175 := aK (blk_below (g := gb175) (tK BK175.out) hb); clear hb hbox hg; have hnb18 := NB181_175.out; have hnc18 := NB175_181.out; have hcz19_0 := bc 0 BK181.out; have hcz19_1 := bc 1 BK181.out; have hcz19_2 := bc 2 BK181.out; have hfz19_0 := blk_frozen BK181.out 0; have hfz19_1 := blk_frozen BK181.out 1; have hfz19_2 := blk_frozen BK181.out 2)))
    (try simp only [Act.put, pA, pB, pC])
    go_cut [65] (fun v65 wc => ∃ (kq : Nat) (x65_15 : Bool), v65 = .bool x65_15 ∧ Aside0 (cfg_Valid.j2 kq (l0_0.length : Int) x4_2 x27_2 l0_0 (l0_0.length : Int) x27_2 x65_15 l0_0 l0_1 ((rd_T51 l0_0 x27_2).f0) ((rd_T51 l0_0 x27_2).f1) ((rd_T51 l0_0 x27_2).f2) = some r) ∧ Aside0 (kq ≤ k2) ∧ Aside0 (Kd.S (Kd.slice 3 (Kd.int .i64)) 49 wc w.heap.size (fun _ => True) v177 x4_2) ∧ Aside0 (wc.heap[gb175]? = some (.cells #[(.slice (some ad180) l0_0.length c0_0), (.slice A0_1 l0_1.length c0_1)] 31 (0, 0))) ∧ Aside0 (wc.heap[gb181]? = some (.cells #[.int .i64 ((rd_T51 l0_0 x27_2).f0), .int .i64 ((rd_T51 l0_0 x27_2).f1), (.slice A180_2 ((rd_T51 l0_0 x27_2).f2).length c180_2)] 51 (0, 0))) ∧ Aside0 (Below w.heap.size w wc))
    case first =>
     have H := HC16.out
     clear HC16
     by_cases c20 : ((rd_T51 l0_0 x27_2).f0) < x5_2
     ·rw [if_pos c20] at H
      have c20b0 : decide (((rd_T51 l0_0 x27_2).f0) < x5_2) = true := decide_eq_true c20
      clear c20
      (first | rw [c20b0] | (simp only [i64_w, i32_w]; rw [c20b0]) | skip)
      have H' := aK H
      clear H
      have hnb21 := NB181_175.out
      have hnc21 := NB175_181.out
      have hcz22_0 := bc 0 BK181.out
      have hcz22_1 := bc 1 BK181.out
      have hcz22_2 := bc 2 BK181.out
      have hfz22_0 := blk_frozen BK181.out 0
      have hfz22_1 := blk_frozen BK181.out 1
      have hfz22_2 := blk_frozen BK181.out 2
      go_wp2
      repeat (go_quiet (fail); try go_wp2)
      go_meet
      case rel => exact ⟨_, (true), (by first | rfl | (simp; done) | (simp [*]; done)), H', ⟨by have := HJ1.out; have := HK2.out; first | omega | exact Nat.le_refl _⟩, ⟨by (with_reducible repeat (first | apply Kd.S_alloc | apply Kd.S_drewN | apply Kd.S_drew)); exact Kd.S_mono (Kd.S_far (p := ⟨gb181, 2, none⟩) (Kd.S_far (p := ⟨gb181, 1, none⟩) (Kd.S_far (p := ⟨gb181, 0, none⟩) (Kd.S_types HO_4.out BK181.out (by decide)) (fun _ hk => hk.2) (.int .i64 ((rd_T51 l0_0 x27_2).f0))) (fun _ hk => hk.2) (.int .i64 ((rd_T51 l0_0 x27_2).f1))) (fun _ hk => hk.2) (.slice A180_2 ((rd_T51 l0_0 x27_2).f2).length c180_2)) (fun _ hk => trivial)⟩, ⟨by refine tK ?_; refine blk_far ?_ NB175_181.out _; refine tK ?_; refine blk_far ?_ NB175_181.out _; refine tK ?_; refine blk_far ?_ NB175_181.out _; refine tK ?_; exact BK175.out⟩, ⟨by refine tK ?_; refine blk_put (cs := #[.int .i64 ((rd_T51 l0_0 x27_2).f0), .int .i64 ((rd_T51 l0_0 x27_2).f1), .slice none 0 0]) ?_ 2 _ rfl; refine tK ?_; refine blk_put (cs := #[.int .i64 ((rd_T51 l0_0 x27_2).f0), .int .i64 0, .slice none 0 0]) ?_ 1 _ rfl; refine tK ?_; refine blk_put (cs := #[.int .i64 0, .int .i64 0, .slice none 0 0]) ?_ 0 _ rfl; refine tK ?_; exact BK181.out⟩, ⟨tB2 HB.out GE175.out GE181.out⟩⟩
     ·as_aux_lemma =>
      rw [if_neg c20] at H
      have c20b0 : decide (((rd_T51 l0_0 x27_2).f0) < x5_2) = false := decide_eq_false c20
      clear c20
      (first | rw [c20b0] | (simp only [i64_w, i32_w]; rw [c20b0]) | skip)
      by_cases c23 : ((rd_T51 l0_0 x27_2).f1) ≤ ((rd_T51 l0_0 x27_2).f0)
      ·rw [if_pos c23] at H
       have c23b0 : decide (((rd_T51 l0_0 x27_2).f1) ≤ ((rd_T51 l0_0 x27_2).f0)) = true := decide_eq_true c23
       clear c23
       have H' := aK H
       clear H
       have hnb24 := NB181_175.out
       have hnc24 := NB175_181.out
       have hcz25_0 := bc 0 BK181.out
       have hcz25_1 := bc 1 BK181.out
       have hcz25_2 := bc 2 BK181.out
       have hfz25_0 := blk_frozen BK181.out 0
       have hfz25_1 := blk_frozen BK181.out 1
       have hfz25_2 := blk_frozen BK181.out 2
       go_wp2
       repeat (go_quiet (fail); try go_wp2)
       go_meet
       case rel => exact ⟨_, (true), (by first | rfl | (simp; done) | (simp [*]; done)), H', ⟨by have := HJ1.out; have := HK2.out; first | omega | exact Nat.le_refl _⟩, ⟨by (with_reducible repeat (first | apply Kd.S_alloc | apply Kd.S_drewN | apply Kd.S_drew)); exact Kd.S_mono (Kd.S_far (p := ⟨gb181, 2, none⟩) (Kd.S_far (p := ⟨gb181, 1, none⟩) (Kd.S_far (p := ⟨gb181, 0, none⟩) (Kd.S_types HO_4.out BK181.out (by decide)) (fun _ hk => hk.2) (.int .i64 ((rd_T51 l0_0 x27_2).f0))) (fun _ hk => hk.2) (.int .i64 ((rd_T51 l0_0 x27_2).f1))) (fun _ hk => hk.2) (.slice A180_2 ((rd_T51 l0_0 x27_2).f2).length c180_2)) (fun _ hk => trivial)⟩, ⟨by refine tK ?_; refine blk_far ?_ NB175_181.out _; refine tK ?_; refine blk_far ?_ NB175_181.out _; refine tK ?_; refine blk_far ?_ NB175_181.out _; refine tK ?_; exact BK175.out⟩, ⟨by refine tK ?_; refine blk_put (cs := #[.int .i64 ((rd_T51 l0_0 x27_2).f0), .int .i64 ((rd_T51 l0_0 x27_2).f1), .slice none 0 0]) ?_ 2 _ rfl; refine tK ?_; refine blk_put (cs := #[.int .i64 ((rd_T51 l0_0 x27_2).f0), .int .i64 0, .slice none 0 0]) ?_ 1 _ rfl; refine tK ?_; refine blk_put (cs := #[.int .i64 0, .int .i64 0, .slice none 0 0]) ?_ 0 _ rfl; refine tK ?_; exact BK181.out⟩, ⟨tB2 HB.out GE175.out GE181.out⟩⟩
      ·as_aux_lemma =>
       rw [if_neg c23] at H
       have c23b0 : decide (((rd_T51 l0_0 x27_2).f1) ≤ ((rd_T51 l0_0 x27_2).f0)) = false := decide_eq_false c23
       clear c23
       by_cases c26 : (((rd_T51 l0_0 x27_2).f2).length : Int) > 2
       ·rw [if_pos c26] at H
        have c26b0 : decide (2 < (((rd_T51 l0_0 x27_2).f2).length : Int)) = true := decide_eq_true c26
        have c26b1 : decide (2 < ((rd_T51 l0_0 x27_2).f2).length) = true := decide_eq_true (by omega)
        clear c26
        have H' := aK H
        clear H
        have hnb27 := NB181_175.out
        have hnc27 := NB175_181.out
        have hcz28_0 := bc 0 BK181.out
        have hcz28_1 := bc 1 BK181.out
        have hcz28_2 := bc 2 BK181.out
        have hfz28_0 := blk_frozen BK181.out 0
        have hfz28_1 := blk_frozen BK181.out 1
        have hfz28_2 := blk_frozen BK181.out 2
        go_wp2
        repeat (go_quiet (fail); try go_wp2)
        go_meet
        case rel => exact ⟨_, (true), (by first | rfl | (simp; done) | (simp [*]; done)), H', ⟨by have := HJ1.out; have := HK2.out; first | omega | exact Nat.le_refl _⟩, ⟨by (with_reducible repeat (first | apply Kd.S_alloc | apply Kd.S_drewN | apply Kd.S_drew)); exact Kd.S_mono (Kd.S_far (p := ⟨gb181, 2, none⟩) (Kd.S_far (p := ⟨gb181, 1, none⟩) (Kd.S_far (p := ⟨gb181, 0, none⟩) (Kd.S_types HO_4.out BK181.out (by decide)) (fun _ hk => hk.2) (.int .i64 ((rd_T51 l0_0 x27_2).f0))) (fun _ hk => hk.2) (.int .i64 ((rd_T51 l0_0 x27_2).f1))) (fun _ hk => hk.2) (.slice A180_2 ((rd_T51 l0_0 x27_2).f2).length c180_2)) (fun _ hk => trivial)⟩, ⟨by refine tK ?_; refine blk_far ?_ NB175_181.out _; refine tK ?_; refine blk_far ?_ NB175_181.out _; refine tK ?_; refine blk_far ?_ NB175_181.out _; refine tK ?_; exact BK175.out⟩, ⟨by refine tK ?_; refine blk_put (cs := #[.int .i64 ((rd_T51 l0_0 x27_2).f0), .int .i64 ((rd_T51 l0_0 x27_2).f1), .slice none 0 0]) ?_ 2 _ rfl; refine tK ?_; refine blk_put (cs := #[.int .i64 ((rd_T51 l0_0 x27_2).f0), .int .i64 0, .slice none 0 0]) ?_ 1 _ rfl; refine tK ?_; refine blk_put (cs := #[.int .i64 0, .int .i64 0, .slice none 0 0]) ?_ 0 _ rfl; refine tK ?_; exact BK181.out⟩, ⟨tB2 HB.out GE175.out GE181.out⟩⟩
       ·as_aux_lemma =>
        rw [if_neg c26] at H
        have c26b0 : decide (2 < (((rd_T51 l0_0 x27_2).f2).length : Int)) = false := decide_eq_false c26
        have c26b1 : decide (2 < ((rd_T51 l0_0 x27_2).f2).length) = false := decide_eq_false (by omega)
        clear c26
        by_cases c29 : (((rd_T51 l0_0 x27_2).f2).length : Int) = 2
        ·as_aux_lemma =>
         rw [if_pos c29] at H
         have c29b0 : ((((rd_T51 l0_0 x27_2).f2).length : Int) == 2) = true := beq_iff_eq.mpr c29
         have c29b1 : ((((rd_T51 l0_0 x27_2).f2).length : Int) != 2) = false := bne_eq_false_iff_eq.mpr c29
         clear c29
         by_cases c30 : 0 < (((rd_T51 l0_0 x27_2).f2).length : Int)
         rotate_left
         ·rw [if_neg c30] at H
          exact absurd H (by simp)
         as_aux_lemma =>
         rw [if_pos c30] at H
         have c30b0 : decide (0 < (((rd_T51 l0_0 x27_2).f2).length : Int)) = true := decide_eq_true c30
         have c30b1 : decide (0 < ((rd_T51 l0_0 x27_2).f2).length) = true := decide_eq_true (by omega)
         clear c30
         by_cases c31 : 1 < (((rd_T51 l0_0 x27_2).f2).length : Int)
         rotate_left
         ·rw [if_neg c31] at H
          exact absurd H (by simp)
         as_aux_lemma =>
         rw [if_pos c31] at H
         have c31b0 : decide (1 < (((rd_T51 l0_0 x27_2).f2).length : Int)) = true := decide_eq_true c31
         have c31b1 : decide (1 < ((rd_T51 l0_0 x27_2).f2).length) = true := decide_eq_true (by omega)
         clear c31
         have H' := aK H
         clear H
         have hnb32 := NB181_175.out
         have hnc32 := NB175_181.out
         have hcz33_0 := bc 0 BK181.out
         have hcz33_1 := bc 1 BK181.out
         have hcz33_2 := bc 2 BK181.out
         have hfz33_0 := blk_frozen BK181.out 0
         have hfz33_1 := blk_frozen BK181.out 1
         have hfz33_2 := blk_frozen BK181.out 2
         have p182 : 0 ≤ (0 : Int) := (by omega)
         have q182 : 0 < (((rd_T51 l0_0 x27_2).f2).length : Int) := tD
         obtain ⟨ad182, e182, hx182_0⟩ := Kd.at_int HR180_2.out 0 p182 q182
         cases e182
         have qi182 : (0 < ((rd_T51 l0_0 x27_2).f2).length) = True := eq_true (by omega)
         (try rw [show ((0 : Int)).toNat = 0 from rfl] at hx182_0)
         (try rw [Addr.add_zero'] at hx182_0)
         have hn182_0 : ad182.block ≠ gb181 := Nat.ne_of_lt (fL hx182_0 GW181.out)
         have hn182_1 : ad182.block ≠ gb181 := Nat.ne_of_lt (fL hx182_0 GW181.out)
         have hn182_2 : ad182.block ≠ gb181 := Nat.ne_of_lt (fL hx182_0 GW181.out)
         replace hx182_0 := cB HB.out hx182_0
         replace hx182_0 := (cell_far (p := ⟨gb181, 0, none⟩) (by first | (rw [add_block]; exact hn182_0) | (show (Addr.add _ _).block ≠ _; rw [add_block]; exact hn182_0) | exact hn182_0) (.int .i64 ((rd_T51 l0_0 x27_2).f0))).trans hx182_0
         replace hx182_0 := (cell_far (p := ⟨gb181, 1, none⟩) (by first | (rw [add_block]; exact hn182_1) | (show (Addr.add _ _).block ≠ _; rw [add_block]; exact hn182_1) | exact hn182_1) (.int .i64 ((rd_T51 l0_0 x27_2).f1))).trans hx182_0
         replace hx182_0 := (cell_far (p := ⟨gb181, 2, none⟩) (by first | (rw [add_block]; exact hn182_2) | (show (Addr.add _ _).block ≠ _; rw [add_block]; exact hn182_2) | exact hn182_2) (.slice (some ad182) ((rd_T51 l0_0 x27_2).f2).length c180_2)).trans hx182_0
         (try have hy182_0 := fun (n_ : Nat) => (show (((((w17.drewN n_).setCell ⟨gb181, 0, none⟩ (.int .i64 ((rd_T51 l0_0 x27_2).f0))).setCell ⟨gb181, 1, none⟩ (.int .i64 ((rd_T51 l0_0 x27_2).f1))).setCell ⟨gb181, 2, none⟩ (.slice (some ad182) ((rd_T51 l0_0 x27_2).f2).length c180_2))).cell? _ = some _ from hx182_0))
         clear hn182_0 hn182_1 hn182_2
         replace p182 := eq_true p182
         replace q182 := eq_true q182
         have p183 : 0 ≤ (1 : Int) := (by omega)
         have q183 : 1 < (((rd_T51 l0_0 x27_2).f2).length : Int) := tD
         obtain ⟨ad183, e183, hx183_0⟩ := Kd.at_int HR180_2.out 1 p183 q183
         obtain rfl : ad182 = ad183 := (by injection e183)
         (try simp only [show (1 : Int).toNat = 1 from rfl, Nat.reduceMul, Nat.reduceEqDiff, Go.Addr.add, ↓reduceIte] at hx183_0)
         have qi183 : (1 < ((rd_T51 l0_0 x27_2).f2).length) = True := eq_true (by omega)
         (try rw [show ((1 : Int)).toNat = 1 from rfl] at hx183_0)
         have hn183_0 : ad182.block ≠ gb181 := Nat.ne_of_lt (fL hx183_0 GW181.out)
         have hn183_1 : ad182.block ≠ gb181 := Nat.ne_of_lt (fL hx183_0 GW181.out)
         have hn183_2 : ad182.block ≠ gb181 := Nat.ne_of_lt (fL hx183_0 GW181.out)
         replace hx183_0 := cB HB.out hx183_0
         replace hx183_0 := (cell_far (p := ⟨gb181, 0, none⟩) (by first | (rw [add_block]; exact hn183_0) | (show (Addr.add _ _).block ≠ _; rw [add_block]; exact hn183_0) | exact hn183_0) (.int .i64 ((rd_T51 l0_0 x27_2).f0))).trans hx183_0
         replace hx183_0 := (cell_far (p := ⟨gb181, 1, none⟩) (by first | (rw [add_block]; exact hn183_1) | (show (Addr.add _ _).block ≠ _; rw [add_block]; exact hn183_1) | exact hn183_1) (.int .i64 ((rd_T51 l0_0 x27_2).f1))).trans hx183_0
         replace hx183_0 := (cell_far (p := ⟨gb181, 2, none⟩) (by first | (rw [add_block]; exact hn183_2) | (show (Addr.add _ _).block ≠ _; rw [add_block]; exact hn183_2) | exact hn183_2) (.slice (some ad182) ((rd_T51 l0_0 x27_2).f2).length c180_2)).trans hx183_0
         (try have hy183_0 := fun (n_ : Nat) => (show (((((w17.drewN n_).setCell ⟨gb181, 0, none⟩ (.int .i64 ((rd_T51 l0_0 x27_2).f0))).setCell ⟨gb181, 1, none⟩ (.int .i64 ((rd_T51 l0_0 x27_2).f1))).setCell ⟨gb181, 2, none⟩ (.slice (some ad182) ((rd_T51 l0_0 x27_2).f2).length c180_2))).cell? _ = some _ from hx183_0))
         clear hn183_0 hn183_1 hn183_2
         replace p183 := eq_true p183
         replace q183 := eq_true q183
         go_wp2
         repeat (go_quiet (fail); try go_wp2)
         go_meet
         case rel => exact ⟨_, (((rd ((rd_T51 l0_0 x27_2).f2) 0) == (rd ((rd_T51 l0_0 x27_2).f2) 1))), (by first | rfl | (simp; done) | (simp [*]; done)), H', ⟨by have := HJ1.out; have := HK2.out; first | omega | exact Nat.le_refl _⟩, ⟨by (with_reducible repeat (first | apply Kd.S_alloc | apply Kd.S_drewN | apply Kd.S_drew)); exact Kd.S_mono (Kd.S_far (p := ⟨gb181, 2, none⟩) (Kd.S_far (p := ⟨gb181, 1, none⟩) (Kd.S_far (p := ⟨gb181, 0, none⟩) (Kd.S_types HO_4.out BK181.out (by decide)) (fun _ hk => hk.2) (.int .i64 ((rd_T51 l0_0 x27_2).f0))) (fun _ hk => hk.2) (.int .i64 ((rd_T51 l0_0 x27_2).f1))) (fun _ hk => hk.2) (.slice (some ad182) ((rd_T51 l0_0 x27_2).f2).length c180_2)) (fun _ hk => trivial)⟩, ⟨by refine tK ?_; refine blk_far ?_ NB175_181.out _; refine tK ?_; refine blk_far ?_ NB175_181.out _; refine tK ?_; refine blk_far ?_ NB175_181.out _; refine tK ?_; exact BK175.out⟩, ⟨by refine tK ?_; refine blk_put (cs := #[.int .i64 ((rd_T51 l0_0 x27_2).f0), .int .i64 ((rd_T51 l0_0 x27_2).f1), .slice none 0 0]) ?_ 2 _ rfl; refine tK ?_; refine blk_put (cs := #[.int .i64 ((rd_T51 l0_0 x27_2).f0), .int .i64 0, .slice none 0 0]) ?_ 1 _ rfl; refine tK ?_; refine blk_put (cs := #[.int .i64 0, .int .i64 0, .slice none 0 0]) ?_ 0 _ rfl; refine tK ?_; exact BK181.out⟩, ⟨tB2 HB.out GE175.out GE181.out⟩⟩
        ·rw [if_neg c29] at H
         have c29b0 : ((((rd_T51 l0_0 x27_2).f2).length : Int) == 2) = false := beq_eq_false_iff_ne.mpr c29
         have c29b1 : ((((rd_T51 l0_0 x27_2).f2).length : Int) != 2) = true := bne_iff_ne.mpr c29
         have H' := aK H
         clear H
         have hnb34 := NB181_175.out
         have hnc34 := NB175_181.out
         have hcz35_0 := bc 0 BK181.out
         have hcz35_1 := bc 1 BK181.out
         have hcz35_2 := bc 2 BK181.out
         have hfz35_0 := blk_frozen BK181.out 0
         have hfz35_1 := blk_frozen BK181.out 1
         have hfz35_2 := blk_frozen BK181.out 2
         go_wp2
         repeat (go_quiet (fail); try go_wp2)
         go_meet
         case rel => exact ⟨_, (false), (by first | rfl | (simp; done) | (simp [*]; done)), H', ⟨by have := HJ1.out; have := HK2.out; first | omega | exact Nat.le_refl _⟩, ⟨by (with_reducible repeat (first | apply Kd.S_alloc | apply Kd.S_drewN | apply Kd.S_drew)); exact Kd.S_mono (Kd.S_far (p := ⟨gb181, 2, none⟩) (Kd.S_far (p := ⟨gb181, 1, none⟩) (Kd.S_far (p := ⟨gb181, 0, none⟩) (Kd.S_types HO_4.out BK181.out (by decide)) (fun _ hk => hk.2) (.int .i64 ((rd_T51 l0_0 x27_2).f0))) (fun _ hk => hk.2) (.int .i64 ((rd_T51 l0_0 x27_2).f1))) (fun _ hk => hk.2) (.slice A180_2 ((rd_T51 l0_0 x27_2).f2).length c180_2)) (fun _ hk => trivial)⟩, ⟨by refine tK ?_; refine blk_far ?_ NB175_181.out _; refine tK ?_; refine blk_far ?_ NB175_181.out _; refine tK ?_; refine blk_far ?_ NB175_181.out _; refine tK ?_; exact BK175.out⟩, ⟨by refine tK ?_; refine blk_put (cs := #[.int .i64 ((rd_T51 l0_0 x27_2).f0), .int .i64 ((rd_T51 l0_0 x27_2).f1), .slice none 0 0]) ?_ 2 _ rfl; refine tK ?_; refine blk_put (cs := #[.int .i64 ((rd_T51 l0_0 x27_2).f0), .int .i64 0, .slice none 0 0]) ?_ 1 _ rfl; refine tK ?_; refine blk_put (cs := #[.int .i64 0, .int .i64 0, .slice none 0 0]) ?_ 0 _ rfl; refine tK ?_; exact BK181.out⟩, ⟨tB2 HB.out GE175.out GE181.out⟩⟩
    as_aux_lemma =>
    clear HC16
    obtain ⟨kq, x65_15, rfl, HA, HJ15, HO_4, BK175, BK181, HB⟩ := hcut
    cases kq with
    | zero => exact absurd HA.out (by simp [cfg_Valid.j2])
    | succ kj15 =>
     have H := HA.out
     clear HA
     simp only [cfg_Valid.j2] at H
     by_cases c36 : x65_15 = true
     ·subst c36
      have H1 : (some false) = some r := by rw [if_pos rfl] at H; exact H
      exact absurd ((oI H1).trans HRT.out) (by decide)
     replace c36 := Bool.eq_false_iff.mpr c36
     subst c36
     rw [if_neg (show ¬ (false = true) by decide)] at H
     have H' := aK H
     clear H
     have hnb37 := NB181_175.out
     have hnc37 := NB175_181.out
     have hcz38_0 := bc 0 BK181.out
     have hcz38_1 := bc 1 BK181.out
     have hcz38_2 := bc 2 BK181.out
     have hfz38_0 := blk_frozen BK181.out 0
     have hfz38_1 := blk_frozen BK181.out 1
     have hfz38_2 := blk_frozen BK181.out 2
     go_wp2
     repeat (go_quiet (fail); try go_wp2)
     go_loopg [71] kj15 (fun kq v71 w' => ∃ (x4_4 : List (List Int)) (x71_4 : Int), v71 = .int .i64 x71_4 ∧ Aside0 (cfg_Valid.l1 kq (l0_0.length : Int) x4_4 ((rd_T51 l0_0 x27_2).f1) x27_2 l0_0 (l0_0.length : Int) x27_2 ((rd_T51 l0_0 x27_2).f2) (((rd_T51 l0_0 x27_2).f2).length : Int) x71_4 l0_0 l0_1 = some r) ∧ Aside0 (kq ≤ kj15) ∧ Aside0 (Kd.S (Kd.slice 3 (Kd.int .i64)) 49 w' w.heap.size (fun _ => True) v177 x4_4) ∧ Aside0 (w'.heap[gb175]? = some (.cells #[(.slice (some ad180) l0_0.length c0_0), (.slice A0_1 l0_1.length c0_1)] 31 (0, 0))) ∧ Aside0 (w'.heap[gb181]? = some (.cells #[.int .i64 ((rd_T51 l0_0 x27_2).f0), .int .i64 ((rd_T51 l0_0 x27_2).f1), (.slice A180_2 ((rd_T51 l0_0 x27_2).f2).length c180_2)] 51 (0, 0))) ∧ Aside0 (Below w.heap.size w w'))
     case atStart => exact ⟨(x4_2), (0), (by first | rfl | (simp; done) | (simp [*]; done)), H', ⟨Nat.le_refl _⟩, ⟨tS HO_4.out⟩, ⟨tK BK175.out⟩, ⟨tK BK181.out⟩, ⟨tB2 HB.out GE175.out GE181.out⟩⟩
     as_aux_lemma =>
     clear H'
     obtain ⟨x4_4, x71_4, rfl, HA, HK4, HO_4, BK175, BK181, HB⟩ := hrel
     cases gk with
     | zero => exact absurd HA.out (by simp [cfg_Valid.l1])
     | succ k4 =>
      have H := HA.out
      clear HA
      simp only [cfg_Valid.l1] at H
      by_cases c39 : x71_4 < (((rd_T51 l0_0 x27_2).f2).length : Int)
      rotate_left
      ·rw [if_neg c39] at H
       have c39b0 : decide (x71_4 < (((rd_T51 l0_0 x27_2).f2).length : Int)) = false := decide_eq_false c39
       clear c39
       have H' := aK H
       clear H
       go_wp2
       repeat (go_quiet (fail); try go_wp2)
       go_roundg k4
       case measure => have := HJ1.out; have := HK2.out; have := HJ15.out; have := HK4.out; omega
       case rel => exact ⟨(x4_4), (((rd_T51 l0_0 x27_2).f1)), (wrap64 (x27_2 + 1)), (by first | rfl | (simp; done) | (simp [*]; done)), (by first | rfl | (simp; done) | (simp [*]; done)), H', ⟨by have := HJ1.out; have := HK2.out; have := HJ15.out; have := HK4.out; omega⟩, ⟨tS HO_4.out⟩, ⟨tK BK175.out⟩, ⟨tB2 HB.out GE175.out GE181.out⟩⟩
      as_aux_lemma =>
      rw [if_pos c39] at H
      have c39b0 : decide (x71_4 < (((rd_T51 l0_0 x27_2).f2).length : Int)) = true := decide_eq_true c39
      clear c39
      by_cases c40 : 0 ≤ x71_4
      rotate_left
      ·rw [if_neg c40] at H
       exact absurd H (by simp)
      as_aux_lemma =>
      rw [if_pos c40] at H
      have c40b0 : decide (0 ≤ x71_4) = true := decide_eq_true c40
      clear c40
      by_cases c41 : x71_4 < (((rd_T51 l0_0 x27_2).f2).length : Int)
      rotate_left
      ·rw [if_neg c41] at H
       exact absurd H (by simp)
      as_aux_lemma =>
      rw [if_pos c41] at H
      have c41b0 : decide (x71_4 < (((rd_T51 l0_0 x27_2).f2).length : Int)) = true := decide_eq_true c41
      clear c41
      by_cases c42 : (rd ((rd_T51 l0_0 x27_2).f2) x71_4) < 0
      ·rw [if_pos c42] at H
       have c42b0 : decide ((rd ((rd_T51 l0_0 x27_2).f2) x71_4) < 0) = true := decide_eq_true c42
       clear c42
       obtain rfl := oI H
       have p184 : 0 ≤ (x71_4 : Int) := tD
       have q184 : x71_4 < (((rd_T51 l0_0 x27_2).f2).length : Int) := tD
       obtain ⟨ad184, e184, hx184_0⟩ := Kd.at_int HR180_2.out x71_4 p184 q184
       cases e184
       replace hx184_0 := cB HB.out hx184_0
       replace p184 := eq_true p184
       replace q184 := eq_true q184
       go_wp2
       repeat (go_quiet (fail); try go_wp2)
       go_ret
       exact ⟨by first | rfl | (simp [errW_none, errW_some] <;> rfl) | (simp [*, errW_none, errW_some] <;> rfl), by repeat (first | (with_reducible first | exact HB.out | apply below_alloc | apply pw_below_drewN | apply below_drew1 | refine below_set ?_ GE175.out | refine below_set ?_ GE181.out) | exact HB.out)⟩
      ·as_aux_lemma =>
       rw [if_neg c42] at H
       have c42b0 : decide ((rd ((rd_T51 l0_0 x27_2).f2) x71_4) < 0) = false := decide_eq_false c42
       clear c42
       by_cases c43 : (rd ((rd_T51 l0_0 x27_2).f2) x71_4) ≥ (l0_0.length : Int)
       ·rw [if_pos c43] at H
        have c43b0 : decide ((l0_0.length : Int) ≤ (rd ((rd_T51 l0_0 x27_2).f2) x71_4)) = true := decide_eq_true c43
        clear c43
        obtain rfl := oI H
        have p184 : 0 ≤ (x71_4 : Int) := tD
        have q184 : x71_4 < (((rd_T51 l0_0 x27_2).f2).length : Int) := tD
        obtain ⟨ad184, e184, hx184_0⟩ := Kd.at_int HR180_2.out x71_4 p184 q184
        cases e184
        replace hx184_0 := cB HB.out hx184_0
        replace p184 := eq_true p184
        replace q184 := eq_true q184
        go_wp2
        repeat (go_quiet (fail); try go_wp2)
        go_ret
        exact ⟨by first | rfl | (simp [errW_none, errW_some] <;> rfl) | (simp [*, errW_none, errW_some] <;> rfl), by repeat (first | (with_reducible first | exact HB.out | apply below_alloc | apply pw_below_drewN | apply below_drew1 | refine below_set ?_ GE175.out | refine below_set ?_ GE181.out) | exact HB.out)⟩
       ·as_aux_lemma =>
        rw [if_neg c43] at H
        have c43b0 : decide ((l0_0.length : Int) ≤ (rd ((rd_T51 l0_0 x27_2).f2) x71_4)) = false := decide_eq_false c43
        clear c43
        by_cases c44 : 0 ≤ (rd ((rd_T51 l0_0 x27_2).f2) x71_4)
        rotate_left
        ·rw [if_neg c44] at H
         exact absurd H (by simp)
        as_aux_lemma =>
        rw [if_pos c44] at H
        have c44b0 : decide (0 ≤ (rd ((rd_T51 l0_0 x27_2).f2) x71_4)) = true := decide_eq_true c44
        clear c44
        by_cases c45 : (rd ((rd_T51 l0_0 x27_2).f2) x71_4) < (x4_4.length : Int)
        rotate_left
        ·rw [if_neg c45] at H
         exact absurd H (by simp)
        as_aux_lemma =>
        rw [if_pos c45] at H
        have c45b0 : decide ((rd ((rd_T51 l0_0 x27_2).f2) x71_4) < (x4_4.length : Int)) = true := decide_eq_true c45
        clear c45
        by_cases c46 : (rd_L11 x4_4 (rd ((rd_T51 l0_0 x27_2).f2) x71_4)).length < 17592186044416
        rotate_left
        ·rw [if_neg c46] at H
         exact absurd H (by simp)
        as_aux_lemma =>
        rw [if_pos c46] at H
        have LMc46 := aK c46
        clear c46
        obtain ⟨y186, hy186⟩ : ∃ y_ : List Int, y_ = ((rd_L11 x4_4 (rd ((rd_T51 l0_0 x27_2).f2) x71_4)) ++ [x27_2]) := ⟨_, rfl⟩
        replace H : (cfg_Valid.l1 k4 (l0_0.length : Int) (x4_4.set ((rd ((rd_T51 l0_0 x27_2).f2) x71_4) : Int).toNat y186) ((rd_T51 l0_0 x27_2).f1) x27_2 l0_0 (l0_0.length : Int) x27_2 ((rd_T51 l0_0 x27_2).f2) (((rd_T51 l0_0 x27_2).f2).length : Int) (wrap64 (x71_4 + 1)) l0_0 l0_1) = some r := by first | (rw [hy186]; with_reducible exact H) | (have H2_ := (Option.bind_some _ _).symm.trans H; rw [hy186]; with_reducible exact H2_) | (have H2_ := (Option.bind_some _ _).symm.trans H; with_reducible exact H2_) | with_reducible exact H | (rw [hy186]; exact H) | exact H
        have Ny186 := aK hy186
        clear hy186
        obtain ⟨y189, hy189⟩ : ∃ y_ : List (List Int), y_ = (x4_4.set ((rd ((rd_T51 l0_0 x27_2).f2) x71_4) : Int).toNat y186) := ⟨_, rfl⟩
        replace H : (cfg_Valid.l1 k4 (l0_0.length : Int) y189 ((rd_T51 l0_0 x27_2).f1) x27_2 l0_0 (l0_0.length : Int) x27_2 ((rd_T51 l0_0 x27_2).f2) (((rd_T51 l0_0 x27_2).f2).length : Int) (wrap64 (x71_4 + 1)) l0_0 l0_1) = some r := by first | (rw [hy189]; with_reducible exact H) | (have H2_ := (Option.bind_some _ _).symm.trans H; rw [hy189]; with_reducible exact H2_) | (have H2_ := (Option.bind_some _ _).symm.trans H; with_reducible exact H2_) | with_reducible exact H | (rw [hy189]; exact H) | exact H
        have Ny189 := aK hy189
        clear hy189
        have H' := aK H
        clear H
        have p184 : 0 ≤ (x71_4 : Int) := tD
        have q184 : x71_4 < (((rd_T51 l0_0 x27_2).f2).length : Int) := tD
        obtain ⟨ad184, e184, hx184_0⟩ := Kd.at_int HR180_2.out x71_4 p184 q184
        cases e184
        replace hx184_0 := cB HB.out hx184_0
        replace p184 := eq_true p184
        replace q184 := eq_true q184
        obtain ⟨Ao48, co48, eo48⟩ := Kd.S_slice HO_4.out
        subst eo48
        have p185 : 0 ≤ ((rd ((rd_T51 l0_0 x27_2).f2) x71_4) : Int) := tD
        have q185 : (rd ((rd_T51 l0_0 x27_2).f2) x71_4) < (x4_4.length : Int) := tD
        obtain ⟨ad185, A185_0, c185_0, e185, hx185_0, hl185_0, hi185_0⟩ := at_L11 (Kd.S_reads' HO_4.out).2.2 (rd ((rd_T51 l0_0 x27_2).f2) x71_4) p185 q185
        cases e185
        obtain ⟨ce185, hce185, hMe185, hcc185⟩ := Kd.S_get HO_4.out [] (rd ((rd_T51 l0_0 x27_2).f2) x71_4) p185 (by first | exact q185 | exact tD | (have e_ := (Kd.S_reads' HO_4.out).1; omega))
        obtain ⟨ve185_0, rfl, ge185_0⟩ := hMe185
        have hv185_0 := hcc185 0 _ rfl
        rw [Nat.add_zero, show ((Kd.slice 3 (Kd.int .i64))).sz = 1 from rfl, Nat.mul_one] at hv185_0
        replace hv185_0 := oI (hv185_0.symm.trans hx185_0)
        rw [hv185_0] at ge185_0
        have HL185_0 := aK (show Kd.R (Kd.int .i64) 3 _ _ _ _ (rd_L11 x4_4 (rd ((rd_T51 l0_0 x27_2).f2) x71_4)) from ge185_0)
        clear hv185_0 ge185_0
        have HX185_0 := aK hx185_0
        clear hcc185 hce185
        have HR185_0 := aK hi185_0
        have HC185_0 := aK hl185_0
        clear hi185_0 hl185_0
        replace p185 := eq_true p185
        replace q185 := eq_true q185
        obtain ⟨go49, co49, eo49, gb49, gl49, cl49, HG49⟩ := Kd.S_form HO_4.out (by have h_ : ((rd ((rd_T51 l0_0 x27_2).f2) x71_4) : Int) < ((x4_4.length : Int) : Int) := tD; have h2_ : 0 ≤ ((rd ((rd_T51 l0_0 x27_2).f2) x71_4) : Int) := (tD); omega)
        (first | cases eo49 | (injection eo49 with ea_ en_ ec_; (first | subst ea_ | (injection ea_ with ea_; subst ea_)); subst ec_; clear en_))
        have GB49 := aK gb49
        have GG49 := aK HG49
        clear gb49 gl49 HG49
        (first | simp only [add_plain] at hx185_0 | skip)
        obtain ⟨oki49, ce49, hcl49, hM49, hcc49, _, _, hH49⟩ := Kd.S_elem HO_4.out [] ((rd ((rd_T51 l0_0 x27_2).f2) x71_4) : Int) (tD) (by have h_ : ((rd ((rd_T51 l0_0 x27_2).f2) x71_4) : Int) < ((x4_4.length : Int) : Int) := tD; first | exact h_ | (have e_ := (Kd.S_reads' HO_4.out).1; omega) | simpa using h_)
        obtain ⟨ve49_0, rfl, ge49_0⟩ := hM49
        have hv49 := hcc49 0 _ rfl
        have hX49 := HX185_0.out
        (try simp only [add_plain] at hX49)
        (try simp only [Nat.add_zero] at hv49)
        (try rw [show ((Kd.slice 3 (Kd.int .i64))).sz = 1 from rfl, Nat.mul_one] at hv49)
        replace hv49 := oI (hv49.symm.trans hX49)
        subst hv49
        clear hX49 hcc49 hcl49
        have UU49 := aK (show Kd.R (Kd.int .i64) 3 _ w.heap.size oki49 (.slice A185_0 (rd_L11 x4_4 (rd ((rd_T51 l0_0 x27_2).f2) x71_4)).length c185_0) (rd_L11 x4_4 (rd ((rd_T51 l0_0 x27_2).f2) x71_4)) from ge49_0)
        have HH49 := aK hH49
        have HN49 := aK (Kd.S_reads' HO_4.out).1
        clear hH49 ge49_0
        go_wp2_with (first | ((refine gate_builtin (b := .append) (xs := #[.tmp 87, .tmp 89]) rfl ?_); (try (refine gate_guard (by rfl) ?_; dsimp only)); at_builtin; refine Kd.R_append (Kd.int .i64) (w0 := w) w.heap.size rfl (.tmp 87) (.tmp 89) 49 3 (.int .i64 0) 8 rfl Try.underlying49 info3 rfl (by decide) (by omega) (.slice A185_0 (rd_L11 x4_4 (rd ((rd_T51 l0_0 x27_2).f2) x71_4)).length c185_0) (rd_L11 x4_4 (rd ((rd_T51 l0_0 x27_2).f2) x71_4)) x27_2 [.int .i64 x27_2] (fun k_ => oki49 k_ ∨ ((fun _ => True)) k_ ∧ wr.heap.size ≤ k_) (fun _ => False) rfl rfl ?aP (fun _ hk => hk.elim) ?aF ?aO ?aB ?aS ?aL ?_; (case aP => exact rfl); (case aB => exact (tB2 HB.out GE175.out GE181.out)); (case aF => exact (fun k_ hk => .inr ⟨trivial, hk⟩)); (case aO => exact (by (with_reducible repeat (first | apply Kd.R_alloc | apply Kd.R_drewN | apply Kd.R_drew)); exact Kd.R_mono UU49.out (fun _ hk => .inl hk))); (case aS => exact (below_size (tB2 HB.out GE175.out GE181.out))); (case aL => have := LMc46.out; omega); intro v187 w50 ho hb hg hat; rw [← Ny186.out] at ho; replace BK175 := aK (blk_grown (g := gb175) (o := .cells #[.slice (some ad180) l0_0.length c0_0, .slice A0_1 l0_1.length c0_1] 31 (0, 0)) (tK BK175.out) hg (Kd.R_ne HL185_0.out BK175.out (by decide))); replace BK181 := aK (blk_grown (g := gb181) (o := .cells #[.int .i64 ((rd_T51 l0_0 x27_2).f0), .int .i64 ((rd_T51 l0_0 x27_2).f1), .slice (some ad184) ((rd_T51 l0_0 x27_2).f2).length c180_2] 51 (0, 0)) (tK BK181.out) hg (Kd.R_ne HL185_0.out BK181.out (by decide))); replace HB := aK (hb); replace HH49 := aK (Kd.H_grown (Kd.H_widen (by repeat (first | exact HH49.out | refine Kd.H_alloc ?_ _ | refine Kd.H_drewN ?_ _ | refine Kd.H_drew ?_))) hg (fun k_ e_ => .inl (UU49.out.1 k_ e_))); have HO188 := aK (ho); clear HO_4 UU49 HL185_0; clear ho hb hg hat; have p47 : 0 ≤ ((rd ((rd_T51 l0_0 x27_2).f2) x71_4) : Int) := tD; have q47 : ((rd ((rd_T51 l0_0 x27_2).f2) x71_4) : Int) < ((x4_4.length : Int) : Int) := tD; replace p47 := eq_true p47; replace q47 := eq_true q47; obtain ⟨Ao53, co53, eo53⟩ := Kd.R_slice HO188.out; subst eo53; obtain ⟨_, _, hraw51, _, _, hcc51, _⟩ := Kd.H_raw HH49.out (tD) (by have h_ : ((rd ((rd_T51 l0_0 x27_2).f2) x71_4) : Int) < ((x4_4.length : Int) : Int) := tD; first | exact h_ | (have e_ := (HN49.out); omega) | simpa using h_); obtain ⟨_, hfr51⟩ := Kd.H_at HH49.out (tD) (by have h_ : ((rd ((rd_T51 l0_0 x27_2).f2) x71_4) : Int) < ((x4_4.length : Int) : Int) := tD; first | exact h_ | (have e_ := (HN49.out); omega) | simpa using h_); have hx51_0 := hcc51 0 _ rfl; have hf51_0 := hfr51 0; (try simp only [Nat.add_zero] at hx51_0 hf51_0); (try rw [show ((Kd.slice 3 (Kd.int .i64))).sz = 1 from rfl, Nat.mul_one] at hx51_0); (try rw [show ((Kd.slice 3 (Kd.int .i64))).sz = 1 from rfl, Nat.mul_one] at hf51_0); have HP51 := Kd.S_seg0 HH49.out (tD) (by have h_ : ((rd ((rd_T51 l0_0 x27_2).f2) x71_4) : Int) < ((x4_4.length : Int) : Int) := tD; first | exact h_ | (have e_ := (HN49.out); omega) | simpa using h_) (seg := [.slice Ao53 y186.length co53]) (j := 0) (show 1 ≤ 1 from by decide) (x' := y186) (Kd.M_row HO188.out) (fun _ hk => hk); (try simp only [show ((Kd.slice 3 (Kd.int .i64))).sz = 1 from rfl, Nat.mul_one, Nat.add_zero] at HP51); clear hcc51 hfr51) | ((refine gate_store (t := 49) (p := 91) rfl ?_); (try (rw [drewN_self w50]; generalize hq_ : World.drewN w50 _ = w50; replace HO_4 := aK (Kd.S_at hq_ HO_4.out); replace BK175 := aK (blk_at hq_ BK175.out); replace BK181 := aK (blk_at hq_ BK181.out); replace HB := aK (below_at hq_ HB.out); clear hq_; (try (obtain ⟨Ao53, co53, eo53⟩ := Kd.R_slice HO188.out)); (try (subst eo53)); (try (obtain ⟨_, _, hraw51, _, _, hcc51, _⟩ := Kd.H_raw HH49.out (tD) (by have h_ : ((rd ((rd_T51 l0_0 x27_2).f2) x71_4) : Int) < ((x4_4.length : Int) : Int) := tD; first | exact h_ | (have e_ := (HN49.out); omega) | simpa using h_))); (try (obtain ⟨_, hfr51⟩ := Kd.H_at HH49.out (tD) (by have h_ : ((rd ((rd_T51 l0_0 x27_2).f2) x71_4) : Int) < ((x4_4.length : Int) : Int) := tD; first | exact h_ | (have e_ := (HN49.out); omega) | simpa using h_))); (try (have hx51_0 := hcc51 0 _ rfl)); (try (have hf51_0 := hfr51 0)); (try (try simp only [Nat.add_zero] at hx51_0 hf51_0)); (try (try rw [show ((Kd.slice 3 (Kd.int .i64))).sz = 1 from rfl, Nat.mul_one] at hx51_0)); (try (try rw [show ((Kd.slice 3 (Kd.int .i64))).sz = 1 from rfl, Nat.mul_one] at hf51_0)); (try (have HP51 := Kd.S_seg0 HH49.out (tD) (by have h_ : ((rd ((rd_T51 l0_0 x27_2).f2) x71_4) : Int) < ((x4_4.length : Int) : Int) := tD; first | exact h_ | (have e_ := (HN49.out); omega) | simpa using h_) (seg := [.slice Ao53 y186.length co53]) (j := 0) (show 1 ≤ 1 from by decide) (x' := y186) (Kd.M_row HO188.out) (fun _ hk => hk))); (try (try simp only [show ((Kd.slice 3 (Kd.int .i64))).sz = 1 from rfl, Nat.mul_one, Nat.add_zero] at HP51)); (try (clear hcc51 hfr51)))); refine store_event (t := 49) (p := 91) (v := ?vo_w52) (w1 := (w50.setCell ⟨go49, ((rd ((rd_T51 l0_0 x27_2).f2) x71_4) : Int).toNat, none⟩ (.slice Ao53 y186.length co53))) ?hg ?ho ?hn ?hr ?_; (case ho => rfl); (case hg => rfl); (case hn => rfl); (case hr => first | (go_simp; done) | (go_simp; rfl)); intro w52 hw; have hg : w50.grownBy w52 (some go49) := (by rw [hw]; exact HP51.2); have hp_ : Kd.S (Kd.slice 3 (Kd.int .i64)) 49 w52 w.heap.size (fun _ => True) (.slice (some ⟨go49, 0, none⟩) x4_4.length co48) y189 := (by rw [hw, Ny189.out]; exact HP51.1); clear HP51; replace BK175 := aK (blk_grown (g := gb175) (o := .cells #[.slice (some ad180) l0_0.length c0_0, .slice A0_1 l0_1.length c0_1] 31 (0, 0)) (tK BK175.out) hg (Kd.R_ne hraw51 BK175.out (by decide))); replace BK181 := aK (blk_grown (g := gb181) (o := .cells #[.int .i64 ((rd_T51 l0_0 x27_2).f0), .int .i64 ((rd_T51 l0_0 x27_2).f1), .slice (some ad184) ((rd_T51 l0_0 x27_2).f2).length c180_2] 51 (0, 0)) (tK BK181.out) hg (Kd.R_ne hraw51 BK181.out (by decide))); replace HB := aK ((by rw [hw]; exact below_set HB.out GB49.out : Below w.heap.size w w52)); have HO_4 := aK (hp_); clear HO188 HH49; clear hg hw hp_ hraw51))
        repeat (go_quiet (first | ((refine gate_builtin (b := .append) (xs := #[.tmp 87, .tmp 89]) rfl ?_); (try (refine gate_guard (by rfl) ?_; dsimp only)); at_builtin; refine Kd.R_append (Kd.int .i64) (w0 := w) w.heap.size rfl (.tmp 87) (.tmp 89) 49 3 (.int .i64 0) 8 rfl Try.underlying49 info3 rfl (by decide) (by omega) (.slice A185_0 (rd_L11 x4_4 (rd ((rd_T51 l0_0 x27_2).f2) x71_4)).length c185_0) (rd_L11 x4_4 (rd ((rd_T51 l0_0 x27_2).f2) x71_4)) x27_2 [.int .i64 x27_2] (fun k_ => oki49 k_ ∨ ((fun _ => True)) k_ ∧ wr.heap.size ≤ k_) (fun _ => False) rfl rfl ?aP (fun _ hk => hk.elim) ?aF ?aO ?aB ?aS ?aL ?_; (case aP => exact rfl); (case aB => exact (tB2 HB.out GE175.out GE181.out)); (case aF => exact (fun k_ hk => .inr ⟨trivial, hk⟩)); (case aO => exact (by (with_reducible repeat (first | apply Kd.R_alloc | apply Kd.R_drewN | apply Kd.R_drew)); exact Kd.R_mono UU49.out (fun _ hk => .inl hk))); (case aS => exact (below_size (tB2 HB.out GE175.out GE181.out))); (case aL => have := LMc46.out; omega); intro v187 w50 ho hb hg hat; rw [← Ny186.out] at ho; replace BK175 := aK (blk_grown (g := gb175) (o := .cells #[.slice (some ad180) l0_0.length c0_0, .slice A0_1 l0_1.length c0_1] 31 (0, 0)) (tK BK175.out) hg (Kd.R_ne HL185_0.out BK175.out (by decide))); replace BK181 := aK (blk_grown (g := gb181) (o := .cells #[.int .i64 ((rd_T51 l0_0 x27_2).f0), .int .i64 ((rd_T51 l0_0 x27_2).f1), .slice (some ad184) ((rd_T51 l0_0 x27_2).f2).length c180_2] 51 (0, 0)) (tK BK181.out) hg (Kd.R_ne HL185_0.out BK181.out (by decide))); replace HB := aK (hb); replace HH49 := aK (Kd.H_grown (Kd.H_widen (by repeat (first | exact HH49.out | refine Kd.H_alloc ?_ _ | refine Kd.H_drewN ?_ _ | refine Kd.H_drew ?_))) hg (fun k_ e_ => .inl (UU49.out.1 k_ e_))); have HO188 := aK (ho); clear HO_4 UU49 HL185_0; clear ho hb hg hat; have p47 : 0 ≤ ((rd ((rd_T51 l0_0 x27_2).f2) x71_4) : Int) := tD; have q47 : ((rd ((rd_T51 l0_0 x27_2).f2) x71_4) : Int) < ((x4_4.length : Int) : Int) := tD; replace p47 := eq_true p47; replace q47 := eq_true q47; obtain ⟨Ao53, co53, eo53⟩ := Kd.R_slice HO188.out; subst eo53; obtain ⟨_, _, hraw51, _, _, hcc51, _⟩ := Kd.H_raw HH49.out (tD) (by have h_ : ((rd ((rd_T51 l0_0 x27_2).f2) x71_4) : Int) < ((x4_4.length : Int) : Int) := tD; first | exact h_ | (have e_ := (HN49.out); omega) | simpa using h_); obtain ⟨_, hfr51⟩ := Kd.H_at HH49.out (tD) (by have h_ : ((rd ((rd_T51 l0_0 x27_2).f2) x71_4) : Int) < ((x4_4.length : Int) : Int) := tD; first | exact h_ | (have e_ := (HN49.out); omega) | simpa using h_); have hx51_0 := hcc51 0 _ rfl; have hf51_0 := hfr51 0; (try simp only [Nat.add_zero] at hx51_0 hf51_0); (try rw [show ((Kd.slice 3 (Kd.int .i64))).sz = 1 from rfl, Nat.mul_one] at hx51_0); (try rw [show ((Kd.slice 3 (Kd.int .i64))).sz = 1 from rfl, Nat.mul_one] at hf51_0); have HP51 := Kd.S_seg0 HH49.out (tD) (by have h_ : ((rd ((rd_T51 l0_0 x27_2).f2) x71_4) : Int) < ((x4_4.length : Int) : Int) := tD; first | exact h_ | (have e_ := (HN49.out); omega) | simpa using h_) (seg := [.slice Ao53 y186.length co53]) (j := 0) (show 1 ≤ 1 from by decide) (x' := y186) (Kd.M_row HO188.out) (fun _ hk => hk); (try simp only [show ((Kd.slice 3 (Kd.int .i64))).sz = 1 from rfl, Nat.mul_one, Nat.add_zero] at HP51); clear hcc51 hfr51) | ((refine gate_store (t := 49) (p := 91) rfl ?_); (try (rw [drewN_self w50]; generalize hq_ : World.drewN w50 _ = w50; replace HO_4 := aK (Kd.S_at hq_ HO_4.out); replace BK175 := aK (blk_at hq_ BK175.out); replace BK181 := aK (blk_at hq_ BK181.out); replace HB := aK (below_at hq_ HB.out); clear hq_; (try (obtain ⟨Ao53, co53, eo53⟩ := Kd.R_slice HO188.out)); (try (subst eo53)); (try (obtain ⟨_, _, hraw51, _, _, hcc51, _⟩ := Kd.H_raw HH49.out (tD) (by have h_ : ((rd ((rd_T51 l0_0 x27_2).f2) x71_4) : Int) < ((x4_4.length : Int) : Int) := tD; first | exact h_ | (have e_ := (HN49.out); omega) | simpa using h_))); (try (obtain ⟨_, hfr51⟩ := Kd.H_at HH49.out (tD) (by have h_ : ((rd ((rd_T51 l0_0 x27_2).f2) x71_4) : Int) < ((x4_4.length : Int) : Int) := tD; first | exact h_ | (have e_ := (HN49.out); omega) | simpa using h_))); (try (have hx51_0 := hcc51 0 _ rfl)); (try (have hf51_0 := hfr51 0)); (try (try simp only [Nat.add_zero] at hx51_0 hf51_0)); (try (try rw [show ((Kd.slice 3 (Kd.int .i64))).sz = 1 from rfl, Nat.mul_one] at hx51_0)); (try (try rw [show ((Kd.slice 3 (Kd.int .i64))).sz = 1 from rfl, Nat.mul_one] at hf51_0)); (try (have HP51 := Kd.S_seg0 HH49.out (tD) (by have h_ : ((rd ((rd_T51 l0_0 x27_2).f2) x71_4) : Int) < ((x4_4.length : Int) : Int) := tD; first | exact h_ | (have e_ := (HN49.out); omega) | simpa using h_) (seg := [.slice Ao53 y186.length co53]) (j := 0) (show 1 ≤ 1 from by decide) (x' := y186) (Kd.M_row HO188.out) (fun _ hk => hk))); (try (try simp only [show ((Kd.slice 3 (Kd.int .i64))).sz = 1 from rfl, Nat.mul_one, Nat.add_zero] at HP51)); (try (clear hcc51 hfr51)))); refine store_event (t := 49) (p := 91) (v := ?vo_w52) (w1 := (w50.setCell ⟨go49, ((rd ((rd_T51 l0_0 x27_2).f2) x71_4) : Int).toNat, none⟩ (.slice Ao53 y186.length co53))) ?hg ?ho ?hn ?hr ?_; (case ho => rfl); (case hg => rfl); (case hn => rfl); (case hr => first | (go_simp; done) | (go_simp; rfl)); intro w52 hw; have hg : w50.grownBy w52 (some go49) := (by rw [hw]; exact HP51.2); have hp_ : Kd.S (Kd.slice 3 (Kd.int .i64)) 49 w52 w.heap.size (fun _ => True) (.slice (some ⟨go49, 0, none⟩) x4_4.length co48) y189 := (by rw [hw, Ny189.out]; exact HP51.1); clear HP51; replace BK175 := aK (blk_grown (g := gb175) (o := .cells #[.slice (some ad180) l0_0.length c0_0, .slice A0_1 l0_1.length c0_1] 31 (0, 0)) (tK BK175.out) hg (Kd.R_ne hraw51 BK175.out (by decide))); replace BK181 := aK (blk_grown (g := gb181) (o := .cells #[.int .i64 ((rd_T51 l0_0 x27_2).f0), .int .i64 ((rd_T51 l0_0 x27_2).f1), .slice (some ad184) ((rd_T51 l0_0 x27_2).f2).length c180_2] 51 (0, 0)) (tK BK181.out) hg (Kd.R_ne hraw51 BK181.out (by decide))); replace HB := aK ((by rw [hw]; exact below_set HB.out GB49.out : Below w.heap.size w w52)); have HO_4 := aK (hp_); clear HO188 HH49; clear hg hw hp_ hraw51)); try go_wp2_with (first | ((refine gate_builtin (b := .append) (xs := #[.tmp 87, .tmp 89]) rfl ?_); (try (refine gate_guard (by rfl) ?_; dsimp only)); at_builtin; refine Kd.R_append (Kd.int .i64) (w0 := w) w.heap.size rfl (.tmp 87) (.tmp 89) 49 3 (.int .i64 0) 8 rfl Try.underlying49 info3 rfl (by decide) (by omega) (.slice A185_0 (rd_L11 x4_4 (rd ((rd_T51 l0_0 x27_2).f2) x71_4)).length c185_0) (rd_L11 x4_4 (rd ((rd_T51 l0_0 x27_2).f2) x71_4)) x27_2 [.int .i64 x27_2] (fun k_ => oki49 k_ ∨ ((fun _ => True)) k_ ∧ wr.heap.size ≤ k_) (fun _ => False) rfl rfl ?aP (fun _ hk => hk.elim) ?aF ?aO ?aB ?aS ?aL ?_; (case aP => exact rfl); (case aB => exact (tB2 HB.out GE175.out GE181.out)); (case aF => exact (fun k_ hk => .inr ⟨trivial, hk⟩)); (case aO => exact (by (with_reducible repeat (first | apply Kd.R_alloc | apply Kd.R_drewN | apply Kd.R_drew)); exact Kd.R_mono UU49.out (fun _ hk => .inl hk))); (case aS => exact (below_size (tB2 HB.out GE175.out GE181.out))); (case aL => have := LMc46.out; omega); intro v187 w50 ho hb hg hat; rw [← Ny186.out] at ho; replace BK175 := aK (blk_grown (g := gb175) (o := .cells #[.slice (some ad180) l0_0.length c0_0, .slice A0_1 l0_1.length c0_1] 31 (0, 0)) (tK BK175.out) hg (Kd.R_ne HL185_0.out BK175.out (by decide))); replace BK181 := aK (blk_grown (g := gb181) (o := .cells #[.int .i64 ((rd_T51 l0_0 x27_2).f0), .int .i64 ((rd_T51 l0_0 x27_2).f1), .slice (some ad184) ((rd_T51 l0_0 x27_2).f2).length c180_2] 51 (0, 0)) (tK BK181.out) hg (Kd.R_ne HL185_0.out BK181.out (by decide))); replace HB := aK (hb); replace HH49 := aK (Kd.H_grown (Kd.H_widen (by repeat (first | exact HH49.out | refine Kd.H_alloc ?_ _ | refine Kd.H_drewN ?_ _ | refine Kd.H_drew ?_))) hg (fun k_ e_ => .inl (UU49.out.1 k_ e_))); have HO188 := aK (ho); clear HO_4 UU49 HL185_0; clear ho hb hg hat; have p47 : 0 ≤ ((rd ((rd_T51 l0_0 x27_2).f2) x71_4) : Int) := tD; have q47 : ((rd ((rd_T51 l0_0 x27_2).f2) x71_4) : Int) < ((x4_4.length : Int) : Int) := tD; replace p47 := eq_true p47; replace q47 := eq_true q47; obtain ⟨Ao53, co53, eo53⟩ := Kd.R_slice HO188.out; subst eo53; obtain ⟨_, _, hraw51, _, _, hcc51, _⟩ := Kd.H_raw HH49.out (tD) (by have h_ : ((rd ((rd_T51 l0_0 x27_2).f2) x71_4) : Int) < ((x4_4.length : Int) : Int) := tD; first | exact h_ | (have e_ := (HN49.out); omega) | simpa using h_); obtain ⟨_, hfr51⟩ := Kd.H_at HH49.out (tD) (by have h_ : ((rd ((rd_T51 l0_0 x27_2).f2) x71_4) : Int) < ((x4_4.length : Int) : Int) := tD; first | exact h_ | (have e_ := (HN49.out); omega) | simpa using h_); have hx51_0 := hcc51 0 _ rfl; have hf51_0 := hfr51 0; (try simp only [Nat.add_zero] at hx51_0 hf51_0); (try rw [show ((Kd.slice 3 (Kd.int .i64))).sz = 1 from rfl, Nat.mul_one] at hx51_0); (try rw [show ((Kd.slice 3 (Kd.int .i64))).sz = 1 from rfl, Nat.mul_one] at hf51_0); have HP51 := Kd.S_seg0 HH49.out (tD) (by have h_ : ((rd ((rd_T51 l0_0 x27_2).f2) x71_4) : Int) < ((x4_4.length : Int) : Int) := tD; first | exact h_ | (have e_ := (HN49.out); omega) | simpa using h_) (seg := [.slice Ao53 y186.length co53]) (j := 0) (show 1 ≤ 1 from by decide) (x' := y186) (Kd.M_row HO188.out) (fun _ hk => hk); (try simp only [show ((Kd.slice 3 (Kd.int .i64))).sz = 1 from rfl, Nat.mul_one, Nat.add_zero] at HP51); clear hcc51 hfr51) | ((refine gate_store (t := 49) (p := 91) rfl ?_); (try (rw [drewN_self w50]; generalize hq_ : World.drewN w50 _ = w50; replace HO_4 := aK (Kd.S_at hq_ HO_4.out); replace BK175 := aK (blk_at hq_ BK175.out); replace BK181 := aK (blk_at hq_ BK181.out); replace HB := aK (below_at hq_ HB.out); clear hq_; (try (obtain ⟨Ao53, co53, eo53⟩ := Kd.R_slice HO188.out)); (try (subst eo53)); (try (obtain ⟨_, _, hraw51, _, _, hcc51, _⟩ := Kd.H_raw HH49.out (tD) (by have h_ : ((rd ((rd_T51 l0_0 x27_2).f2) x71_4) : Int) < ((x4_4.length : Int) : Int) := tD; first | exact h_ | (have e_ := (HN49.out); omega) | simpa using h_))); (try (obtain ⟨_, hfr51⟩ := Kd.H_at HH49.out (tD) (by have h_ : ((rd ((rd_T51 l0_0 x27_2).f2) x71_4) : Int) < ((x4_4.length : Int) : Int) := tD; first | exact h_ | (have e_ := (HN49.out); omega) | simpa using h_))); (try (have hx51_0 := hcc51 0 _ rfl)); (try (have hf51_0 := hfr51 0)); (try (try simp only [Nat.add_zero] at hx51_0 hf51_0)); (try (try rw [show ((Kd.slice 3 (Kd.int .i64))).sz = 1 from rfl, Nat.mul_one] at hx51_0)); (try (try rw [show ((Kd.slice 3 (Kd.int .i64))).sz = 1 from rfl, Nat.mul_one] at hf51_0)); (try (have HP51 := Kd.S_seg0 HH49.out (tD) (by have h_ : ((rd ((rd_T51 l0_0 x27_2).f2) x71_4) : Int) < ((x4_4.length : Int) : Int) := tD; first | exact h_ | (have e_ := (HN49.out); omega) | simpa using h_) (seg := [.slice Ao53 y186.length co53]) (j := 0) (show 1 ≤ 1 from by decide) (x' := y186) (Kd.M_row HO188.out) (fun _ hk => hk))); (try (try simp only [show ((Kd.slice 3 (Kd.int .i64))).sz = 1 from rfl, Nat.mul_one, Nat.add_zero] at HP51)); (try (clear hcc51 hfr51)))); refine store_event (t := 49) (p := 91) (v := ?vo_w52) (w1 := (w50.setCell ⟨go49, ((rd ((rd_T51 l0_0 x27_2).f2) x71_4) : Int).toNat, none⟩ (.slice Ao53 y186.length co53))) ?hg ?ho ?hn ?hr ?_; (case ho => rfl); (case hg => rfl); (case hn => rfl); (case hr => first | (go_simp; done) | (go_simp; rfl)); intro w52 hw; have hg : w50.grownBy w52 (some go49) := (by rw [hw]; exact HP51.2); have hp_ : Kd.S (Kd.slice 3 (Kd.int .i64)) 49 w52 w.heap.size (fun _ => True) (.slice (some ⟨go49, 0, none⟩) x4_4.length co48) y189 := (by rw [hw, Ny189.out]; exact HP51.1); clear HP51; replace BK175 := aK (blk_grown (g := gb175) (o := .cells #[.slice (some ad180) l0_0.length c0_0, .slice A0_1 l0_1.length c0_1] 31 (0, 0)) (tK BK175.out) hg (Kd.R_ne hraw51 BK175.out (by decide))); replace BK181 := aK (blk_grown (g := gb181) (o := .cells #[.int .i64 ((rd_T51 l0_0 x27_2).f0), .int .i64 ((rd_T51 l0_0 x27_2).f1), .slice (some ad184) ((rd_T51 l0_0 x27_2).f2).length c180_2] 51 (0, 0)) (tK BK181.out) hg (Kd.R_ne hraw51 BK181.out (by decide))); replace HB := aK ((by rw [hw]; exact below_set HB.out GB49.out : Below w.heap.size w w52)); have HO_4 := aK (hp_); clear HO188 HH49; clear hg hw hp_ hraw51)))
        go_roundg k4
        case measure => have := HJ1.out; have := HK2.out; have := HJ15.out; have := HK4.out; omega
        case rel => exact ⟨(y189), (wrap64 (x71_4 + 1)), (by first | rfl | (simp; done) | (simp [*]; done)), H', ⟨by have := HJ1.out; have := HK2.out; have := HJ15.out; have := HK4.out; omega⟩, ⟨tS HO_4.out⟩, ⟨tK BK175.out⟩, ⟨tK BK181.out⟩, ⟨tB2 HB.out GE175.out GE181.out⟩⟩
   ·rw [if_neg c13] at H
    have c13b0 : decide (x27_2 < (l0_0.length : Int)) = false := decide_eq_false c13
    clear c13
    replace H := bM H
    obtain ⟨t179, A540, H⟩ := H
    (try dsimp only at H)
    have A54 := aK A540
    clear A540
    obtain rfl := oI H
    have hcz55_0 := bc 0 BK175.out
    have hcz55_1 := bc 1 BK175.out
    have hfz55_0 := blk_frozen BK175.out 0
    have hfz55_1 := blk_frozen BK175.out 1
    obtain ⟨Ao56, co56, eo56⟩ := Kd.S_slice HO_4.out
    subst eo56
    go_wp2_with (first | (go_at_call 50; (with_reducible refine (slices_EqualFunc_int_int_int_int.calls k2 _ _ x4_2 _ _ l0_1 t179 _ ?side1 ?side2 ?side3 ?side4 A54.out).mono ?_); (case side1 => exact tC (Kd.S_reads' HO_4.out).2.2); (case side2 => exact (Kd.S_reads' HO_4.out).2.1); (case side3 => exact tC (Kd.C_below HR0_1.out HB.out)); (case side4 => exact HC0_1.out); rintro e w' ⟨rfl, ⟨nd, rfl⟩⟩; (try first | exact ⟨rfl, _, World.drewN_drewN _ _ _⟩ | exact ⟨rfl, _, Eq.trans (World.drewN_drewN _ _ _) (congrArg (World.drewN _) (Nat.add_assoc _ _ _))⟩)))
    repeat (go_quiet (first | (go_at_call 50; (with_reducible refine (slices_EqualFunc_int_int_int_int.calls k2 _ _ x4_2 _ _ l0_1 t179 _ ?side1 ?side2 ?side3 ?side4 A54.out).mono ?_); (case side1 => exact tC (Kd.S_reads' HO_4.out).2.2); (case side2 => exact (Kd.S_reads' HO_4.out).2.1); (case side3 => exact tC (Kd.C_below HR0_1.out HB.out)); (case side4 => exact HC0_1.out); rintro e w' ⟨rfl, ⟨nd, rfl⟩⟩; (try first | exact ⟨rfl, _, World.drewN_drewN _ _ _⟩ | exact ⟨rfl, _, Eq.trans (World.drewN_drewN _ _ _) (congrArg (World.drewN _) (Nat.add_assoc _ _ _))⟩))); try go_wp2_with (first | (go_at_call 50; (with_reducible refine (slices_EqualFunc_int_int_int_int.calls k2 _ _ x4_2 _ _ l0_1 t179 _ ?side1 ?side2 ?side3 ?side4 A54.out).mono ?_); (case side1 => exact tC (Kd.S_reads' HO_4.out).2.2); (case side2 => exact (Kd.S_reads' HO_4.out).2.1); (case side3 => exact tC (Kd.C_below HR0_1.out HB.out)); (case side4 => exact HC0_1.out); rintro e w' ⟨rfl, ⟨nd, rfl⟩⟩; (try first | exact ⟨rfl, _, World.drewN_drewN _ _ _⟩ | exact ⟨rfl, _, Eq.trans (World.drewN_drewN _ _ _) (congrArg (World.drewN _) (Nat.add_assoc _ _ _))⟩))))
    go_ret
    exact ⟨by first | rfl | (simp [errW_none, errW_some] <;> rfl) | (simp [*, errW_none, errW_some] <;> rfl), by repeat (first | (with_reducible first | exact HB.out | apply below_alloc | apply pw_below_drewN | apply below_drew1 | refine below_set ?_ GE175.out) | exact HB.out)⟩
end Go.Proofs.Ytihmfdndiicjgaa.C
