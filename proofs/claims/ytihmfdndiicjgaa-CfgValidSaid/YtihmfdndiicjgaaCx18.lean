-- Written by xprint.py (wip/tools) out of the translation and of this project's hand texts. Not trusted: Lean checks it.
import Derived.Test.YtihmfdndiicjgaaCx0
import Derived.Test.YtihmfdndiicjgaaCx5
import Derived.Test.YtihmfdndiicjgaaCx6
import Derived.Test.YtihmfdndiicjgaaCx16
import Derived.Test.YtihmfdndiicjgaaCx17
namespace Go.Proofs.Ytihmfdndiicjgaa.C
open Go.RowKit Go.Proofs.YtihmfdndiicjgaaW.PrintWords Go.Proofs.YtihmfdndiicjgaaW.PrintLast Go.Proofs.YtihmfdndiicjgaaW.PrintMore
attribute [local go_sem] max2_int min2_int max_two min_two max_three min_three max_four min_four   -- for this text's walks alone
set_option linter.unusedVariables false
set_option linter.unusedSimpArgs false
/-! ### ontimelaw24_blocks: function 21 -/
def ontimelaw24_blocks.l0 : Nat → List (S104) → List (S51) → Int → Int → Option ((List (S104)))
 | 0, _, _, _, _ => none
 | k + 1, x3, x7, x8, x9 => if x9 < x8 then (if 0 ≤ x9 then (if x9 < (x7.length : Int) then (if x3.length < 3518437208883 then (ontimelaw24_blocks.l0 k (x3 ++ [(⟨(rd_T51 x7 x9).f0, (rd_T51 x7 x9).f1, (rd_T51 x7 x9).f2⟩ : S104)]) x7 x8 (wrap64 (x9 + 1))) else (none)) else (none)) else (none)) else (some x3)
def ontimelaw24_blocks.f (k : Nat) (l0_0 : List (S51)) (l0_1 : List (List Int)) : Option ((List (S104))) := ontimelaw24_blocks.l0 k ([] : List (S104)) l0_0 (l0_0.length : Int) 0
theorem ontimelaw24_blocks.mono_l : ∀ k, (∀ y0 y1 y2 y3, LeO (ontimelaw24_blocks.l0 k y0 y1 y2 y3) (ontimelaw24_blocks.l0 (k + 1) y0 y1 y2 y3))
 | 0 => fun _ _ _ _ r h => by simp [ontimelaw24_blocks.l0] at h
 | k + 1 => by
  have ih0 := ontimelaw24_blocks.mono_l k
  ·intro y0 y1 y2 y3
   unfold ontimelaw24_blocks.l0
   repeat' first
   | (with_reducible exact ih0 _ _ _ _)
   | (with_reducible exact LeO.refl _)
   | (with_reducible exact LeO.none _)
   | (with_reducible refine LeO.ite ?_ ?_)
   | (with_reducible refine LeO.bind ?_ (fun _ => ?_))
   | exact ih0 _ _ _ _
   | exact LeO.none _
   | refine LeO.ite ?_ ?_
   | refine LeO.bind ?_ (fun _ => ?_)
theorem ontimelaw24_blocks.mono : ∀ a0 a1 k, LeO (ontimelaw24_blocks.f k a0 a1) (ontimelaw24_blocks.f (k + 1) a0 a1) := by
 intro a0 a1 k
 have ih0 := ontimelaw24_blocks.mono_l k
 unfold ontimelaw24_blocks.f
 repeat' first
   | (with_reducible exact ih0 _ _ _ _)
   | (with_reducible exact LeO.refl _)
   | (with_reducible exact LeO.none _)
   | (with_reducible refine LeO.ite ?_ ?_)
   | (with_reducible refine LeO.bind ?_ (fun _ => ?_))
   | exact ih0 _ _ _ _
   | exact LeO.none _
   | refine LeO.ite ?_ ?_
   | refine LeO.bind ?_ (fun _ => ?_)
set_option maxHeartbeats 8000000 in
set_option maxRecDepth 100000 in
theorem ontimelaw24_blocks.calls (k : Nat) (P0_0_ : Nat → Prop) (A0_0 : Option Addr) (c0_0 : Nat) (l0_0 : List (S51)) (A0_1 : Option Addr) (c0_1 : Nat) (l0_1 : List (List Int)) (r : List (S104)) (w : World) (hs0_0 : Kd.V k51 51 w w.heap.size (fun k_ => P0_0_ k_) (.slice A0_0 l0_0.length c0_0) l0_0) (hr0_1 : Kd.C (Kd.slice 3 (Kd.int .i64)) w A0_1 l0_1.length l0_1) (hc0_1 : l0_1.length ≤ c0_1) (h : ontimelaw24_blocks.f k l0_0 l0_1 = some r) :
  Calls Try.prog 21 #[.agg #[.slice A0_0 l0_0.length c0_0, .slice A0_1 l0_1.length c0_1]] w fun e w' => ∃ v0_ : Value, e = .returned (v0_) ∧ Kd.N k104 104 w' w.heap.size (fun k_ => (P0_0_ k_ ∨ w.heap.size ≤ k_)) v0_ r ∧ Below w.heap.size w w' := by
 have hu31 := Try.underlying31
 have hu51 := Try.underlying51
 have hu104 := Try.underlying104
 have HO0_0 := Aside0.mk (show Kd.V k51 51 w w.heap.size (fun k_ => (P0_0_ k_ ∨ w.heap.size ≤ k_)) (.slice A0_0 l0_0.length c0_0) l0_0 from Kd.V_mono hs0_0 (fun k_ hk => .inl hk))
 have HR0_1 := Aside0.mk hr0_1
 have HC0_1 := Aside0.mk hc0_1
 clear hr0_1 hc0_1
 have HB := Aside0.mk (Below.refl w.heap.size w)
 have H : (ontimelaw24_blocks.l0 k ([] : List (S104)) l0_0 (l0_0.length : Int) 0) = some r := h
 clear h
 have H' := Aside0.mk H
 clear H
 go_enter Try.func21, Try.ntmps21
 go_wp2_with (first | ((with_reducible refine gate_dst (N := 1) rfl ?_); refine box_event ?hg (N := 1) ?hd (cs := #[.slice A0_0 l0_0.length c0_0, .slice A0_1 l0_1.length c0_1]) (t := 31) ?hr ?_; (case hd => rfl); (case hg => rfl); (case hr => first | (go_simp; done) | (go_simp; rfl)); intro gb437 hg w2 hbox hb; have n0_ := Aside0.mk (Kd.V_below (Kd.V_elderB (by (with_reducible repeat (first | apply Kd.V_alloc | apply Kd.V_drewN | apply Kd.V_drew)); exact HO0_0.out) gb437 (Nat.le_of_eq hg.symm)) hb); have n1_ := Aside0.mk (below_step (tB0 HB.out) hb); have n2_ := Aside0.mk (hbox); have n3_ := Aside0.mk ((by rw [hg]; exact (below_size (tB0 HB.out)) : w.heap.size ≤ gb437)); have n4_ := Aside0.mk ((by rw [hg]; exact (below_size (tB0 HB.out)) : w.heap.size ≤ gb437)); clear HO0_0; clear HB; have HO0_0 := n0_; have HB := n1_; have BK437 := n2_; have GW437 := n3_; have GE437 := n4_; clear n0_ n1_ n2_ n3_ n4_; clear hb hbox hg; have hcz3_0 : w2.cell? ⟨gb437, 0, none⟩ = some (.slice A0_0 l0_0.length c0_0) := (blk_cell BK437.out 0).trans rfl; have hcz3_1 : w2.cell? ⟨gb437, 1, none⟩ = some (.slice A0_1 l0_1.length c0_1) := (blk_cell BK437.out 1).trans rfl; have hfz3_0 := blk_frozen BK437.out 0; have hfz3_1 := blk_frozen BK437.out 1))
 go_loopg [3, 9] k (fun kq v3 v9 w' => ∃ (x3_1 : List (S104)) (x9_1 : Int), v9 = .int .i64 x9_1 ∧ Aside0 (ontimelaw24_blocks.l0 kq x3_1 l0_0 (l0_0.length : Int) x9_1 = some r) ∧ Aside0 (kq ≤ k) ∧ Aside0 (Kd.N k104 104 w' w.heap.size (fun k_ => (P0_0_ k_ ∨ w.heap.size ≤ k_) ∧ k_ ≠ gb437) v3 x3_1) ∧ Aside0 (Kd.V k51 51 w' w.heap.size (fun k_ => (P0_0_ k_ ∨ w.heap.size ≤ k_) ∧ some k_ ≠ (v3 : Value).ownBlock ∧ k_ ≠ gb437) (.slice A0_0 l0_0.length c0_0) l0_0) ∧ Aside0 (Kd.V k51 51 w' w.heap.size (fun k_ => (P0_0_ k_ ∨ w.heap.size ≤ k_) ∧ some k_ ≠ (v3 : Value).ownBlock ∧ k_ ≠ gb437) (.slice A0_0 l0_0.length c0_0) l0_0) ∧ Aside0 (w'.heap[gb437]? = some (.cells #[(.slice A0_0 l0_0.length c0_0), (.slice A0_1 l0_1.length c0_1)] 31 (0, 0))) ∧ Aside0 (Below w.heap.size w w'))
 case atStart => exact ⟨(([] : List (S104))), (0), (by first | rfl | (simp; done) | (simp [*]; done)), H', ⟨Nat.le_refl _⟩, ⟨by first | exact Kd.S_nil _ _ _ _ _ | exact Kd.N_nil _ _ _ _ _ | exact Kd.V_nil _ _ _ _ _ | exact Kd.Q_nil _ _ _ _ _ | exact Kd.R_nil _ _ _ _ _⟩, ⟨by (with_reducible repeat (first | apply Kd.V_alloc | apply Kd.V_drewN | apply Kd.V_drew)); exact Kd.V_mono HO0_0.out (fun _ hk => ⟨hk.1, ⟨(by simp [Value.ownBlock]), hk.2⟩⟩)⟩, ⟨by (with_reducible repeat (first | apply Kd.V_alloc | apply Kd.V_drewN | apply Kd.V_drew)); exact Kd.V_mono HO0_0.out (fun _ hk => ⟨hk.1, ⟨(by simp [Value.ownBlock]), hk.2⟩⟩)⟩, ⟨tK BK437.out⟩, ⟨tB1 HB.out GE437.out⟩⟩
 case round =>
  clear H'
  (try clear c2);(try clear p2);(try clear hcz3_0);(try clear hcz3_1);(try clear hfz3_0);(try clear hfz3_1)
  obtain ⟨x3_1, x9_1, rfl, HA, HK1, HO_3, HO_7, HO_438000, BK437, HB⟩ := hrel
  cases gk with
  | zero => exact absurd HA.out (by simp [ontimelaw24_blocks.l0])
  | succ k1 =>
   have H := HA.out
   clear HA
   simp only [ontimelaw24_blocks.l0] at H
   by_cases c4 : x9_1 < (l0_0.length : Int)
   ·rw [if_pos c4] at H
    have c4b0 : decide (x9_1 < (l0_0.length : Int)) = true := decide_eq_true c4
    clear c4
    by_cases c5 : 0 ≤ x9_1
    ·rw [if_pos c5] at H
     have c5b0 : decide (0 ≤ x9_1) = true := decide_eq_true c5
     clear c5
     by_cases c6 : x9_1 < (l0_0.length : Int)
     ·rw [if_pos c6] at H
      have c6b0 : decide (x9_1 < (l0_0.length : Int)) = true := decide_eq_true c6
      clear c6
      by_cases c7 : x3_1.length < 3518437208883
      ·rw [if_pos c7] at H
       have LMc7 := Aside0.mk c7
       clear c7
       obtain ⟨y440, hy440⟩ : ∃ y_ : List (S104), y_ = (x3_1 ++ [(⟨(rd_T51 l0_0 x9_1).f0, (rd_T51 l0_0 x9_1).f1, (rd_T51 l0_0 x9_1).f2⟩ : S104)]) := ⟨_, rfl⟩
       replace H : (ontimelaw24_blocks.l0 k1 y440 l0_0 (l0_0.length : Int) (wrap64 (x9_1 + 1))) = some r := by first | (rw [hy440]; with_reducible exact H) | (have H2_ := (Option.bind_some _ _).symm.trans H; rw [hy440]; with_reducible exact H2_) | (have H2_ := (Option.bind_some _ _).symm.trans H; with_reducible exact H2_) | with_reducible exact H | (rw [hy440]; exact H) | exact H
       have Ny440 := Aside0.mk hy440
       clear hy440
       have H' := Aside0.mk H
       clear H
       have p438 : 0 ≤ (x9_1 : Int) := tD
       have q438 : x9_1 < (l0_0.length : Int) := tD
       obtain ⟨ad438, A438_2, c438_2, e438, hx438_0, hx438_1, hx438_2, hl438_2, hi438_2⟩ := at_T51 (Kd.V_reads' HO_7.out).2.2 x9_1 p438 q438
       cases e438
       obtain ⟨ce438, hce438, hMe438, hcc438⟩ := Kd.V_get HO_7.out z51 x9_1 p438 (by first | exact q438 | exact tD | (have e_ := (Kd.V_reads' HO_7.out).1; omega))
       obtain ⟨ua438_2, uc438_2, rfl, ul438_2, ge438_2⟩ := k51_openF hMe438
       have hv438_2 := hcc438 2 _ rfl
       rw [add_field _ _ 2 (by omega)] at hv438_2
       replace hv438_2 := Option.some.inj (hv438_2.symm.trans hx438_2)
       injection hv438_2 with hva_ hvn_ hvc_
       rw [hva_] at ge438_2
       rw [hvc_] at ul438_2
       have HL438_2 := Aside0.mk (show Kd.V (Kd.int .i64) 3 _ w.heap.size _ _ ((rd_T51 l0_0 x9_1).f2) from Kd.V_mk ul438_2 ge438_2)
       clear hva_ hvn_ hvc_ ge438_2 ul438_2 hcc438 hce438
       have HR438_2 := Aside0.mk hi438_2
       have HC438_2 := Aside0.mk hl438_2
       clear hi438_2 hl438_2
       replace p438 := eq_true p438
       replace q438 := eq_true q438
       go_wp2_with (first | ((with_reducible refine gate_dst (N := 5) rfl ?_); refine box_event ?hg (N := 5) ?hd (cs := #[.int .i64 0, .int .i64 0, .slice none 0 0]) (t := 51) ?hr ?_; (case hd => rfl); (case hg => rfl); (case hr => first | (go_simp; done) | (go_simp; rfl)); intro gb439 hg w8 hbox hb; have n0_ := Aside0.mk (Kd.N_below (Kd.N_elderB (by (with_reducible repeat (first | apply Kd.N_alloc | apply Kd.N_drewN | apply Kd.N_drew)); exact HO_3.out) gb439 (Nat.le_of_eq hg.symm)) hb); have n1_ := Aside0.mk (Kd.V_below (Kd.V_elderB (by (with_reducible repeat (first | apply Kd.V_alloc | apply Kd.V_drewN | apply Kd.V_drew)); exact HO_7.out) gb439 (Nat.le_of_eq hg.symm)) hb); have n2_ := Aside0.mk (Kd.V_below (Kd.V_elderB (by (with_reducible repeat (first | apply Kd.V_alloc | apply Kd.V_drewN | apply Kd.V_drew)); exact HO_438000.out) gb439 (Nat.le_of_eq hg.symm)) hb); have n3_ := Aside0.mk (Kd.V_below (Kd.V_elderB (by (with_reducible repeat (first | apply Kd.V_alloc | apply Kd.V_drewN | apply Kd.V_drew)); exact HL438_2.out) gb439 (Nat.le_of_eq hg.symm)) hb); have n4_ := Aside0.mk (blk_below (g := gb437) (o := .cells #[.slice (some ad438) l0_0.length c0_0, .slice A0_1 l0_1.length c0_1] 31 (0, 0)) (tK BK437.out) hb); have n5_ := Aside0.mk (Kd.C_below (by repeat (first | (with_reducible exact HR438_2.out) | (with_reducible refine Kd.C_alloc ?_ _) | (with_reducible refine Kd.C_drewN ?_ _) | (with_reducible refine Kd.C_drew ?_) | exact HR438_2.out)) hb); have n6_ := Aside0.mk (below_step (tB1 HB.out GE437.out) hb); have n7_ := Aside0.mk (hbox); have n8_ := Aside0.mk ((by rw [hg]; exact (below_size (tB1 HB.out GE437.out)) : w.heap.size ≤ gb439)); have n9_ := Aside0.mk ((by rw [hg]; exact (below_size (tB1 HB.out GE437.out)) : w.heap.size ≤ gb439)); have n10_ := Aside0.mk ((by rw [hg]; exact Nat.ne_of_lt (blk_lt (g := gb437) (o := .cells #[.slice (some ad438) l0_0.length c0_0, .slice A0_1 l0_1.length c0_1] 31 (0, 0)) (tK BK437.out)) : gb437 ≠ gb439)); have n11_ := Aside0.mk ((by rw [hg]; exact Nat.ne_of_gt (blk_lt (g := gb437) (o := .cells #[.slice (some ad438) l0_0.length c0_0, .slice A0_1 l0_1.length c0_1] 31 (0, 0)) (tK BK437.out)) : gb439 ≠ gb437)); clear HO_3; clear HO_7; clear HO_438000; clear HL438_2; clear BK437; clear HR438_2; clear HB; have HO_3 := n0_; have HO_7 := n1_; have HO_438000 := n2_; have HL438_2 := n3_; have BK437 := n4_; have HR438_2 := n5_; have HB := n6_; have BK439 := n7_; have GW439 := n8_; have GE439 := n9_; have NB437_439 := n10_; have NB439_437 := n11_; clear n0_ n1_ n2_ n3_ n4_ n5_ n6_ n7_ n8_ n9_ n10_ n11_; clear hb hbox hg; have hnb9 := NB439_437.out; have hnc9 := NB437_439.out; have hcz10_0 : w8.cell? ⟨gb439, 0, none⟩ = some (.int .i64 0) := (blk_cell BK439.out 0).trans rfl; have hcz10_1 : w8.cell? ⟨gb439, 1, none⟩ = some (.int .i64 0) := (blk_cell BK439.out 1).trans rfl; have hcz10_2 : w8.cell? ⟨gb439, 2, none⟩ = some (.slice none 0 0) := (blk_cell BK439.out 2).trans rfl; have hfz10_0 := blk_frozen BK439.out 0; have hfz10_1 := blk_frozen BK439.out 1; have hfz10_2 := blk_frozen BK439.out 2) | ((with_reducible refine gate_store (t := 51) (p := 5) rfl ?_); refine store_event (t := 51) (p := 5) (v := ?vo_w11) (w1 := (((w8.setCell ⟨gb439, 0, none⟩ (.int .i64 ((rd_T51 l0_0 x9_1).f0))).setCell ⟨gb439, 1, none⟩ (.int .i64 ((rd_T51 l0_0 x9_1).f1))).setCell ⟨gb439, 2, none⟩ (.slice A438_2 ((rd_T51 l0_0 x9_1).f2).length c438_2))) ?hg ?ho ?hn ?hr ?_; (case ho => rfl); (case hg => rfl); (case hn => rfl); (case hr => first | (go_simp; done) | (go_simp; rfl)); intro w11 hw; have n0_ : Aside0 (Kd.N k104 104 w11 w.heap.size (fun k_ => (P0_0_ k_ ∨ w.heap.size ≤ k_) ∧ k_ ≠ gb437 ∧ k_ ≠ gb439) u3 x3_1) := ⟨(by rw [hw]; exact (by (with_reducible repeat (first | apply Kd.N_alloc | apply Kd.N_drewN | apply Kd.N_drew)); exact Kd.N_mono (Kd.N_far (p := ⟨gb439, 2, none⟩) (Kd.N_far (p := ⟨gb439, 1, none⟩) (Kd.N_far (p := ⟨gb439, 0, none⟩) (Kd.N_mono HO_3.out (fun k_ hk => (⟨hk, hk.2⟩ : _ ∧ k_ ≠ gb439))) (fun _ hk => hk.2) (.int .i64 ((rd_T51 l0_0 x9_1).f0))) (fun _ hk => hk.2) (.int .i64 ((rd_T51 l0_0 x9_1).f1))) (fun _ hk => hk.2) (.slice A438_2 ((rd_T51 l0_0 x9_1).f2).length c438_2)) (fun _ hk => ⟨hk.1.1.1, ⟨hk.1.1.2, hk.1.2⟩⟩)))⟩; have n1_ : Aside0 (Kd.V k51 51 w11 w.heap.size (fun k_ => (P0_0_ k_ ∨ w.heap.size ≤ k_) ∧ some k_ ≠ (u3 : Value).ownBlock ∧ k_ ≠ gb437 ∧ k_ ≠ gb439) (.slice (some ad438) l0_0.length c0_0) l0_0) := ⟨(by rw [hw]; exact (by (with_reducible repeat (first | apply Kd.V_alloc | apply Kd.V_drewN | apply Kd.V_drew)); exact Kd.V_mono (Kd.V_far (p := ⟨gb439, 2, none⟩) (Kd.V_far (p := ⟨gb439, 1, none⟩) (Kd.V_far (p := ⟨gb439, 0, none⟩) (Kd.V_mono HO_7.out (fun k_ hk => (⟨hk, hk.2⟩ : _ ∧ k_ ≠ gb439))) (fun _ hk => hk.2) (.int .i64 ((rd_T51 l0_0 x9_1).f0))) (fun _ hk => hk.2) (.int .i64 ((rd_T51 l0_0 x9_1).f1))) (fun _ hk => hk.2) (.slice A438_2 ((rd_T51 l0_0 x9_1).f2).length c438_2)) (fun _ hk => ⟨hk.1.1.1, ⟨hk.1.1.2.1, ⟨hk.1.1.2.2, hk.1.2⟩⟩⟩)))⟩; have n2_ : Aside0 (Kd.V k51 51 w11 w.heap.size (fun k_ => (P0_0_ k_ ∨ w.heap.size ≤ k_) ∧ some k_ ≠ (u3 : Value).ownBlock ∧ k_ ≠ gb437 ∧ k_ ≠ gb439) (.slice (some ad438) l0_0.length c0_0) l0_0) := ⟨(by rw [hw]; exact (by (with_reducible repeat (first | apply Kd.V_alloc | apply Kd.V_drewN | apply Kd.V_drew)); exact Kd.V_mono (Kd.V_far (p := ⟨gb439, 2, none⟩) (Kd.V_far (p := ⟨gb439, 1, none⟩) (Kd.V_far (p := ⟨gb439, 0, none⟩) (Kd.V_mono HO_438000.out (fun k_ hk => (⟨hk, hk.2⟩ : _ ∧ k_ ≠ gb439))) (fun _ hk => hk.2) (.int .i64 ((rd_T51 l0_0 x9_1).f0))) (fun _ hk => hk.2) (.int .i64 ((rd_T51 l0_0 x9_1).f1))) (fun _ hk => hk.2) (.slice A438_2 ((rd_T51 l0_0 x9_1).f2).length c438_2)) (fun _ hk => ⟨hk.1.1.1, ⟨hk.1.1.2.1, ⟨hk.1.1.2.2, hk.1.2⟩⟩⟩)))⟩; have n3_ : Aside0 (Kd.V (Kd.int .i64) 3 w11 w.heap.size (fun k_ => (P0_0_ k_ ∨ w.heap.size ≤ k_) ∧ some k_ ≠ (u3 : Value).ownBlock ∧ k_ ≠ gb437 ∧ k_ ≠ gb439) (.slice A438_2 ((rd_T51 l0_0 x9_1).f2).length c438_2) ((rd_T51 l0_0 x9_1).f2)) := ⟨(by rw [hw]; exact (by (with_reducible repeat (first | apply Kd.V_alloc | apply Kd.V_drewN | apply Kd.V_drew)); exact Kd.V_mono (Kd.V_far (p := ⟨gb439, 2, none⟩) (Kd.V_far (p := ⟨gb439, 1, none⟩) (Kd.V_far (p := ⟨gb439, 0, none⟩) (Kd.V_mono HL438_2.out (fun k_ hk => (⟨hk, hk.2⟩ : _ ∧ k_ ≠ gb439))) (fun _ hk => hk.2) (.int .i64 ((rd_T51 l0_0 x9_1).f0))) (fun _ hk => hk.2) (.int .i64 ((rd_T51 l0_0 x9_1).f1))) (fun _ hk => hk.2) (.slice A438_2 ((rd_T51 l0_0 x9_1).f2).length c438_2)) (fun _ hk => ⟨hk.1.1.1, ⟨hk.1.1.2.1, ⟨hk.1.1.2.2, hk.1.2⟩⟩⟩)))⟩; have n4_ : Aside0 (w11.heap[gb437]? = some (.cells #[.slice (some ad438) l0_0.length c0_0, .slice A0_1 l0_1.length c0_1] 31 (0, 0))) := ⟨(by rw [hw]; exact (by (with_reducible repeat (first | refine blk_drewN ?_ _ | refine blk_drew ?_ | refine blk_alloc ?_ _)); refine blk_far ?_ NB437_439.out _; (with_reducible repeat (first | refine blk_drewN ?_ _ | refine blk_drew ?_ | refine blk_alloc ?_ _)); refine blk_far ?_ NB437_439.out _; (with_reducible repeat (first | refine blk_drewN ?_ _ | refine blk_drew ?_ | refine blk_alloc ?_ _)); refine blk_far ?_ NB437_439.out _; (with_reducible repeat (first | refine blk_drewN ?_ _ | refine blk_drew ?_ | refine blk_alloc ?_ _)); exact BK437.out))⟩; have n5_ : Aside0 (w11.heap[gb439]? = some (.cells #[.int .i64 ((rd_T51 l0_0 x9_1).f0), .int .i64 ((rd_T51 l0_0 x9_1).f1), .slice A438_2 ((rd_T51 l0_0 x9_1).f2).length c438_2] 51 (0, 0))) := ⟨(by rw [hw]; exact (by (with_reducible repeat (first | refine blk_drewN ?_ _ | refine blk_drew ?_ | refine blk_alloc ?_ _)); refine blk_put (cs := #[.int .i64 ((rd_T51 l0_0 x9_1).f0), .int .i64 ((rd_T51 l0_0 x9_1).f1), .slice none 0 0]) ?_ 2 _ rfl; (with_reducible repeat (first | refine blk_drewN ?_ _ | refine blk_drew ?_ | refine blk_alloc ?_ _)); refine blk_put (cs := #[.int .i64 ((rd_T51 l0_0 x9_1).f0), .int .i64 0, .slice none 0 0]) ?_ 1 _ rfl; (with_reducible repeat (first | refine blk_drewN ?_ _ | refine blk_drew ?_ | refine blk_alloc ?_ _)); refine blk_put (cs := #[.int .i64 0, .int .i64 0, .slice none 0 0]) ?_ 0 _ rfl; (with_reducible repeat (first | refine blk_drewN ?_ _ | refine blk_drew ?_ | refine blk_alloc ?_ _)); exact BK439.out))⟩; have n6_ : Aside0 (Below w.heap.size w w11) := ⟨(by rw [hw]; exact (tB2 HB.out GE437.out GE439.out))⟩; clear hw; clear HO_3; clear HO_7; clear HO_438000; clear HL438_2; clear BK437; clear BK439; clear HB; have HO_3 := n0_; have HO_7 := n1_; have HO_438000 := n2_; have HL438_2 := n3_; have BK437 := n4_; have BK439 := n5_; have HB := n6_; clear n0_ n1_ n2_ n3_ n4_ n5_ n6_; have hcz12_0 : w11.cell? ⟨gb439, 0, none⟩ = some (.int .i64 ((rd_T51 l0_0 x9_1).f0)) := (blk_cell BK439.out 0).trans rfl; have hcz12_1 : w11.cell? ⟨gb439, 1, none⟩ = some (.int .i64 ((rd_T51 l0_0 x9_1).f1)) := (blk_cell BK439.out 1).trans rfl; have hcz12_2 : w11.cell? ⟨gb439, 2, none⟩ = some (.slice A438_2 ((rd_T51 l0_0 x9_1).f2).length c438_2) := (blk_cell BK439.out 2).trans rfl; have hfz12_0 := blk_frozen BK439.out 0; have hfz12_1 := blk_frozen BK439.out 1; have hfz12_2 := blk_frozen BK439.out 2) | ((with_reducible refine gate_builtin (b := .append) (xs := #[.tmp 13, .tmp 21]) rfl ?_); at_builtin; refine Kd.N_append k104 (w0 := w) w.heap.size rfl (.tmp 13) (.tmp 21) 42 104 (.agg #[(.int .i64 0), (.int .i64 0), (.slice none 0 0)]) 40 rfl Try.underlying42 info104 rfl (by decide) (by omega) u3 x3_1 (⟨(rd_T51 l0_0 x9_1).f0, (rd_T51 l0_0 x9_1).f1, (rd_T51 l0_0 x9_1).f2⟩ : S104) [.int .i64 ((rd_T51 l0_0 x9_1).f0), .int .i64 ((rd_T51 l0_0 x9_1).f1), .slice A438_2 ((rd_T51 l0_0 x9_1).f2).length c438_2] (fun k_ => (P0_0_ k_ ∨ w.heap.size ≤ k_) ∧ k_ ≠ gb437 ∧ k_ ≠ gb439) (fun k_ => ((fun k_ => (P0_0_ k_ ∨ w.heap.size ≤ k_) ∧ k_ ≠ gb437 ∧ k_ ≠ gb439)) k_ ∧ some k_ ≠ (u3 : Value).ownBlock) rfl rfl ?aP (fun _ hk => hk) ?aF ?aO ?aB ?aS ?aL ?_; (case aP => exact (k104_mkF _ _ (⟨(rd_T51 l0_0 x9_1).f0, (rd_T51 l0_0 x9_1).f1, (rd_T51 l0_0 x9_1).f2⟩ : S104) (Kd.V_reads' (Kd.V_mono (ok' := (fun k_ => ((fun k_ => (P0_0_ k_ ∨ w.heap.size ≤ k_) ∧ k_ ≠ gb437 ∧ k_ ≠ gb439)) k_ ∧ some k_ ≠ (u3 : Value).ownBlock)) (HL438_2.out) (fun k_ hk => ⟨⟨hk.1, ⟨hk.2.2.1, hk.2.2.2⟩⟩, hk.2.1⟩))).2.1 (Kd.V_F (Kd.V_mono (ok' := (fun k_ => ((fun k_ => (P0_0_ k_ ∨ w.heap.size ≤ k_) ∧ k_ ≠ gb437 ∧ k_ ≠ gb439)) k_ ∧ some k_ ≠ (u3 : Value).ownBlock)) (HL438_2.out) (fun k_ hk => ⟨⟨hk.1, ⟨hk.2.2.1, hk.2.2.2⟩⟩, hk.2.1⟩))))); (case aB => exact (tB2 HB.out GE437.out GE439.out)); (case aF => exact (fun k_ hk => ⟨(.inr (Nat.le_trans (below_size (tB2 HB.out GE437.out GE439.out)) hk)), Kd.freshB (g := gb437) (o := .cells #[.slice (some ad438) l0_0.length c0_0, .slice A0_1 l0_1.length c0_1] 31 (0, 0)) (tK BK437.out) k_ hk, Kd.freshB (g := gb439) (o := .cells #[.int .i64 ((rd_T51 l0_0 x9_1).f0), .int .i64 ((rd_T51 l0_0 x9_1).f1), .slice A438_2 ((rd_T51 l0_0 x9_1).f2).length c438_2] 51 (0, 0)) (tK BK439.out) k_ hk⟩)); (case aO => exact (by (with_reducible repeat (first | apply Kd.N_alloc | apply Kd.N_drewN | apply Kd.N_drew)); exact HO_3.out)); (case aS => exact (below_size (tB2 HB.out GE437.out GE439.out))); (case aL => have := LMc7.out; omega); intro v441 w13 ho hb hg hat; rw [← Ny440.out] at ho; have n0_ := Aside0.mk (Kd.V_afterv (ok := (fun k_ => (P0_0_ k_ ∨ w.heap.size ≤ k_) ∧ k_ ≠ gb437 ∧ k_ ≠ gb439)) (by (with_reducible repeat (first | apply Kd.V_alloc | apply Kd.V_drewN | apply Kd.V_drew)); exact Kd.V_mono HO_7.out (fun _ hk => ⟨⟨hk.1, ⟨hk.2.2.1, hk.2.2.2⟩⟩, hk.2.1⟩)) hg hat); have n1_ := Aside0.mk (Kd.V_afterv (ok := (fun k_ => (P0_0_ k_ ∨ w.heap.size ≤ k_) ∧ k_ ≠ gb437 ∧ k_ ≠ gb439)) (by (with_reducible repeat (first | apply Kd.V_alloc | apply Kd.V_drewN | apply Kd.V_drew)); exact Kd.V_mono HO_438000.out (fun _ hk => ⟨⟨hk.1, ⟨hk.2.2.1, hk.2.2.2⟩⟩, hk.2.1⟩)) hg hat); have n2_ := Aside0.mk (blk_grown (g := gb437) (o := .cells #[.slice (some ad438) l0_0.length c0_0, .slice A0_1 l0_1.length c0_1] 31 (0, 0)) (tK BK437.out) hg (Kd.N_ne HO_3.out BK437.out (by decide))); have n3_ := Aside0.mk (Kd.V_afterv (ok := (fun k_ => (P0_0_ k_ ∨ w.heap.size ≤ k_) ∧ k_ ≠ gb437 ∧ k_ ≠ gb439)) (by (with_reducible repeat (first | apply Kd.V_alloc | apply Kd.V_drewN | apply Kd.V_drew)); exact Kd.V_mono HL438_2.out (fun _ hk => ⟨⟨hk.1, ⟨hk.2.2.1, hk.2.2.2⟩⟩, hk.2.1⟩)) hg hat); have n4_ := Aside0.mk (blk_grown (g := gb439) (o := .cells #[.int .i64 ((rd_T51 l0_0 x9_1).f0), .int .i64 ((rd_T51 l0_0 x9_1).f1), .slice A438_2 ((rd_T51 l0_0 x9_1).f2).length c438_2] 51 (0, 0)) (tK BK439.out) hg (Kd.N_ne HO_3.out BK439.out (by decide))); have n5_ := Aside0.mk (hb); have n6_ := Aside0.mk (ho); clear HO_7; clear HO_438000; clear BK437; clear HL438_2; clear BK439; clear HB; clear HO_3; have HO_7 := n0_; have HO_438000 := n1_; have BK437 := n2_; have HL438_2 := n3_; have BK439 := n4_; have HB := n5_; have HO442 := n6_; clear n0_ n1_ n2_ n3_ n4_ n5_ n6_; clear ho hb hg hat))
       go_roundg k1
       case measure => have := HK1.out; omega
       case rel => exact ⟨(y440), (wrap64 (x9_1 + 1)), (by first | rfl | (simp; done) | (simp [*]; done)), H', ⟨by have := HK1.out; omega⟩, ⟨by (with_reducible repeat (first | apply Kd.N_alloc | apply Kd.N_drewN | apply Kd.N_drew)); exact Kd.N_mono HO442.out (fun _ hk => ⟨hk.1, hk.2.1⟩)⟩, ⟨by (with_reducible repeat (first | apply Kd.V_alloc | apply Kd.V_drewN | apply Kd.V_drew)); exact Kd.V_mono HO_7.out (fun _ hk => ⟨hk.1.1, ⟨hk.2, hk.1.2.1⟩⟩)⟩, ⟨by (with_reducible repeat (first | apply Kd.V_alloc | apply Kd.V_drewN | apply Kd.V_drew)); exact Kd.V_mono HO_438000.out (fun _ hk => ⟨hk.1.1, ⟨hk.2, hk.1.2.1⟩⟩)⟩, ⟨tK BK437.out⟩, ⟨tB2 HB.out GE437.out GE439.out⟩⟩
      ·rw [if_neg c7] at H
       exact absurd H (by simp)
     ·rw [if_neg c6] at H
      exact absurd H (by simp)
    ·rw [if_neg c5] at H
     exact absurd H (by simp)
   ·rw [if_neg c4] at H
    have c4b0 : decide (x9_1 < (l0_0.length : Int)) = false := decide_eq_false c4
    clear c4
    obtain rfl := Option.some.inj H
    go_wp2
    go_ret
    exact ⟨_, by first | rfl | (simp [errW_none, errW_some] <;> rfl) | (simp [*, errW_none, errW_some] <;> rfl), by (with_reducible repeat (first | apply Kd.N_alloc | apply Kd.N_drewN | apply Kd.N_drew)); exact Kd.N_mono HO_3.out (fun _ hk => hk.1), by repeat (first | (with_reducible first | exact HB.out | apply below_alloc | apply pw_below_drewN | apply below_drew1 | refine below_set ?_ GE437.out) | exact HB.out)⟩
/-! ### ontimelaw24_CfgValid: function 4 -/
def ontimelaw24_CfgValid.f (k : Nat) (l0_0 : List (S51)) (l0_1 : List (List Int)) : Option (Bool) := (ontimelaw24_awake.f k).bind fun t444 => (if t444 = true then ((ontimelaw24_wide.f k l0_0 l0_1).bind fun t445 => (if t445 = true then (some true) else ((cfg_Valid.f k l0_0 l0_1).bind fun t446 => ((ontimelaw24_blocks.f k l0_0 l0_1).bind fun t447 => ((ontimeref24_Valid.f k t447 l0_1).bind fun t450 => (some (t446 == t450))))))) else (some false))
theorem ontimelaw24_CfgValid.mono : ∀ a0 a1 k, LeO (ontimelaw24_CfgValid.f k a0 a1) (ontimelaw24_CfgValid.f (k + 1) a0 a1) := by
 intro a0 a1 k
 unfold ontimelaw24_CfgValid.f
 repeat' first
   | (with_reducible exact cfg_Valid.mono _ _ _)
   | (with_reducible exact ontimelaw24_awake.mono _)
   | (with_reducible exact ontimelaw24_blocks.mono _ _ _)
   | (with_reducible exact ontimelaw24_wide.mono _ _ _)
   | (with_reducible exact ontimeref24_Valid.mono _ _ _)
   | (with_reducible exact LeO.refl _)
   | (with_reducible exact LeO.none _)
   | (with_reducible refine LeO.ite ?_ ?_)
   | (with_reducible refine LeO.bind ?_ (fun _ => ?_))
   | exact cfg_Valid.mono _ _ _
   | exact ontimelaw24_awake.mono _
   | exact ontimelaw24_blocks.mono _ _ _
   | exact ontimelaw24_wide.mono _ _ _
   | exact ontimeref24_Valid.mono _ _ _
   | exact LeO.none _
   | refine LeO.ite ?_ ?_
   | refine LeO.bind ?_ (fun _ => ?_)
def ontimelaw24_CfgValid.T3 : Bool × List (List Nat × List Nat) := (true, [([], []), ([0], [0]), ([1, 1], [1]), ([2], [2]), ([3, 2, 2], [2, 3]), ([2], [2]), ([5, 4, 2], [2, 5]), ([2], [2]), ([7, 2], [2, 7]), ([6, 8, 6, 2], [2, 6, 8]), ([4, 9, 2], [2, 4, 9]), ([2, 10], [2, 10]), ([11, 9, 0, 1, 2, 3, 4, 5, 6, 7, 8, 9, 10, 11], [11])])
def ontimelaw24_CfgValid.B3 : List Nat := [0, 1, 3, 7, 15, 7, 63, 7, 135, 511, 1023, 2047, 4095]
theorem ontimelaw24_CfgValid.tab3 : rtab .any (opsOf Try.f4 3) = ontimelaw24_CfgValid.T3 := by kernel_rfl
theorem ontimelaw24_CfgValid.bits3 : waitsOk ontimelaw24_CfgValid.T3.2 ontimelaw24_CfgValid.B3 = true := by kernel_rfl
set_option maxHeartbeats 8000000 in
set_option maxRecDepth 100000 in
theorem ontimelaw24_CfgValid.calls (k : Nat) (A0_0 : Option Addr) (c0_0 : Nat) (l0_0 : List (S51)) (A0_1 : Option Addr) (c0_1 : Nat) (l0_1 : List (List Int)) (r : Bool) (w : World) (hr0_0 : Kd.C k51 w A0_0 l0_0.length l0_0) (hc0_0 : l0_0.length ≤ c0_0) (hr0_1 : Kd.C (Kd.slice 3 (Kd.int .i64)) w A0_1 l0_1.length l0_1) (hc0_1 : l0_1.length ≤ c0_1) (h : ontimelaw24_CfgValid.f k l0_0 l0_1 = some r) :
  Calls Try.prog 4 #[.agg #[.slice A0_0 l0_0.length c0_0, .slice A0_1 l0_1.length c0_1]] w fun e w' => e = .returned (.bool r) ∧ Below w.heap.size w w' := by
 have hu31 := Try.underlying31
 have HR0_0 := Aside0.mk hr0_0
 have HC0_0 := Aside0.mk hc0_0
 clear hr0_0 hc0_0
 have HR0_1 := Aside0.mk hr0_1
 have HC0_1 := Aside0.mk hc0_1
 clear hr0_1 hc0_1
 have HB := Aside0.mk (Below.refl w.heap.size w)
 have H : ((ontimelaw24_awake.f k).bind fun t444 => (if t444 = true then ((ontimelaw24_wide.f k l0_0 l0_1).bind fun t445 => (if t445 = true then (some true) else ((cfg_Valid.f k l0_0 l0_1).bind fun t446 => ((ontimelaw24_blocks.f k l0_0 l0_1).bind fun t447 => ((ontimeref24_Valid.f k t447 l0_1).bind fun t450 => (some (t446 == t450))))))) else (some false))) = some r := h
 clear h
 replace H := Option.bind_eq_some_iff.mp H
 obtain ⟨t444, A20, H⟩ := H
 replace H : (if t444 = true then ((ontimelaw24_wide.f k l0_0 l0_1).bind fun t445 => (if t445 = true then (some true) else ((cfg_Valid.f k l0_0 l0_1).bind fun t446 => ((ontimelaw24_blocks.f k l0_0 l0_1).bind fun t447 => ((ontimeref24_Valid.f k t447 l0_1).bind fun t450 => (some (t446 == t450))))))) else (some false)) = some r := H
 have A2 := Aside0.mk A20
 clear A20
 by_cases c3 : t444 = true
 ·subst c3
  have H1 : ((ontimelaw24_wide.f k l0_0 l0_1).bind fun t445 => (if t445 = true then (some true) else ((cfg_Valid.f k l0_0 l0_1).bind fun t446 => ((ontimelaw24_blocks.f k l0_0 l0_1).bind fun t447 => ((ontimeref24_Valid.f k t447 l0_1).bind fun t450 => (some (t446 == t450))))))) = some r := by rw [if_pos rfl] at H; exact H
  clear H
  have H := H1
  clear H1
  replace H := Option.bind_eq_some_iff.mp H
  obtain ⟨t445, A40, H⟩ := H
  replace H : (if t445 = true then (some true) else ((cfg_Valid.f k l0_0 l0_1).bind fun t446 => ((ontimelaw24_blocks.f k l0_0 l0_1).bind fun t447 => ((ontimeref24_Valid.f k t447 l0_1).bind fun t450 => (some (t446 == t450)))))) = some r := H
  have A4 := Aside0.mk A40
  clear A40
  by_cases c5 : t445 = true
  ·subst c5
   have H1 : (some true) = some r := by rw [if_pos rfl] at H; exact H
   clear H
   have H := H1
   clear H1
   obtain rfl := Option.some.inj H
   go_enter Try.func4, Try.ntmps4
   try go_wp2_with (first | ((with_reducible refine gate_dst (N := 1) rfl ?_); refine box_event ?hg (N := 1) ?hd (cs := #[.slice A0_0 l0_0.length c0_0, .slice A0_1 l0_1.length c0_1]) (t := 31) ?hr ?_; (case hd => rfl); (case hg => rfl); (case hr => first | (go_simp; done) | (go_simp; rfl)); intro gb443 hg w6 hbox hb; have n0_ := Aside0.mk (below_step (tB0 HB.out) hb); have n1_ := Aside0.mk (hbox); have n2_ := Aside0.mk ((by rw [hg]; exact (below_size (tB0 HB.out)) : w.heap.size ≤ gb443)); have n3_ := Aside0.mk ((by rw [hg]; exact (below_size (tB0 HB.out)) : w.heap.size ≤ gb443)); clear HB; have HB := n0_; have BK443 := n1_; have GW443 := n2_; have GE443 := n3_; clear n0_ n1_ n2_ n3_; clear hb hbox hg) | ((with_reducible refine gate_callee (f := 10) rfl ?_); refine goesL_ (some 3) rfl rfl Try.func10 (by kernel_rfl) rfl #[] rfl tF ?_; (with_reducible refine (ontimelaw24_awake.calls k  true _ A2.out).mono ?_); rintro e w7 ⟨rfl, hb⟩; refine ⟨_, rfl, ?_⟩; have n0_ := Aside0.mk (blk_below (g := gb443) (o := .cells #[.slice A0_0 l0_0.length c0_0, .slice A0_1 l0_1.length c0_1] 31 (0, 0)) (tK BK443.out) hb); have n1_ := Aside0.mk (below_step (tB1 HB.out GE443.out) hb); clear BK443; clear HB; have BK443 := n0_; have HB := n1_; clear n0_ n1_; (try clear hb); (try clear hb2); (try clear hk); (try clear hi)))
   have n0_ := Aside0.mk (blk_drew BK443.out)
   have n1_ := Aside0.mk (below_drew1 HB.out)
   clear BK443 HB
   have BK443 := n0_
   have HB := n1_
   clear n0_ n1_
   refine start_ (n := 13) (S := fun w' => w'.cell? ⟨gb443, 0, none⟩ = some (.slice A0_0 l0_0.length c0_0) ∧ w'.cell? ⟨gb443, 1, none⟩ = some (.slice A0_1 l0_1.length c0_1)) (ds := []) #[false, false, false, false, false, false, false, false, false, false, false, false, false] (by kernel_rfl) rfl rfl ⟨(blk_cell BK443.out 0).trans rfl, (blk_cell BK443.out 1).trans rfl⟩ (fun hHeld => ?_); refine with_tabW ontimelaw24_CfgValid.tab3 ontimelaw24_CfgValid.bits3 (fun HT_ HW_ => ?_)
   generalize w7.drew = w8 at BK443 HB hHeld ⊢
   refine take_ (i := 0) (N := some 5) (v := ?_) (a' := ?_) #[true, false, false, false, false, false, false, false, false, false, false, false, false] rfl rfl (take_ofW HT_.out HW_.out (by kernel_rfl)) (fun _ _ _ h => h) (Or.inl ⟨by rfl, ?_⟩) hHeld ?_ ?_
   rotate_left
   ·rintro w' ⟨s0, s1⟩
    go_simp
    with_reducible rfl
   rotate_left
   ·simp only [Act.put, List.setIfInBounds_toArray, List.set_cons_zero, List.set_cons_succ, i64_w, i32_w]
    rfl
   refine one_ (i := 1) (N := some 6) #[true, true, false, false, false, false, false, false, false, false, false, false, false] rfl rfl (one_of HT_.out (by kernel_rfl)) (by decide) (fun K hK => ?_)
   refine goes_ Try.func18 (by kernel_rfl) rfl #[.agg #[.slice A0_0 l0_0.length c0_0, .slice A0_1 l0_1.length c0_1]] (by rfl) rfl rfl tF ?_
   with_reducible refine (ontimelaw24_wide.calls k _ _ l0_0 _ _ l0_1 true _ ?side1 ?side2 ?side3 ?side4 A4.out).mono ?_
   (case side1 => exact tC (Kd.C_below HR0_0.out HB.out))
   (case side2 => exact HC0_0.out)
   (case side3 => exact tC (Kd.C_below HR0_1.out HB.out))
   (case side4 => exact HC0_1.out)
   rintro e w9 ⟨rfl, hb⟩
   refine ⟨_, rfl, ?_⟩
   have n0_ := Aside0.mk (blk_below (g := gb443) (o := .cells #[.slice A0_0 l0_0.length c0_0, .slice A0_1 l0_1.length c0_1] 31 (0, 0)) (tK BK443.out) hb)
   have n1_ := Aside0.mk (below_step (tB1 HB.out GE443.out) hb)
   clear BK443 HB
   have BK443 := n0_
   have HB := n1_
   clear n0_ n1_
   (try clear hb)
   (try clear hb2)
   (try clear hk)
   (try clear hi)
   refine hK.out _ _ ⟨(blk_cell BK443.out 0).trans rfl, (blk_cell BK443.out 1).trans rfl⟩ (fun hHeld => ?_)
   clear hK K
   refine norm_ (a' := ?_) ?_ ?_
   rotate_left
   ·show Act.put _ (some 6) _ = _
    simp only [Act.put, List.setIfInBounds_toArray, List.set_cons_zero, List.set_cons_succ, i64_w, i32_w]
    rfl
   refine pure_ (i := 2) (N := some 7) (v := ?_) (a' := ?_) #[true, true, true, false, false, false, false, false, false, false, false, false, false] rfl rfl (any_of HT_.out (by kernel_rfl)) (fun _ _ _ h => h) (Or.inl ⟨by rfl, ?_⟩) ?_ ?_
   rotate_left
   ·intro w'
    go_simp
    with_reducible rfl
   rotate_left
   ·simp only [Act.put, List.setIfInBounds_toArray, List.set_cons_zero, List.set_cons_succ, i64_w, i32_w]
    rfl
   refine pure_ (i := 3) (N := some 8) (v := undef) (a' := ?_) #[true, true, true, true, false, false, false, false, false, false, false, false, false] rfl rfl (any_of HT_.out (by kernel_rfl)) (fun _ _ _ h => h) (Or.inr ⟨by rfl, rfl⟩) ?_ ?_
   rotate_left
   ·simp only [Act.put, List.setIfInBounds_toArray, List.set_cons_zero, List.set_cons_succ, i64_w, i32_w]
    rfl
   refine pure_ (i := 4) (N := some 9) (v := undef) (a' := ?_) #[true, true, true, true, true, false, false, false, false, false, false, false, false] rfl rfl (any_of HT_.out (by kernel_rfl)) (fun _ _ _ h => h) (Or.inr ⟨by rfl, rfl⟩) ?_ ?_
   rotate_left
   ·simp only [Act.put, List.setIfInBounds_toArray, List.set_cons_zero, List.set_cons_succ, i64_w, i32_w]
    rfl
   refine pure_ (i := 5) (N := some 10) (v := undef) (a' := ?_) #[true, true, true, true, true, true, false, false, false, false, false, false, false] rfl rfl (any_of HT_.out (by kernel_rfl)) (fun _ _ _ h => h) (Or.inr ⟨by rfl, rfl⟩) ?_ ?_
   rotate_left
   ·simp only [Act.put, List.setIfInBounds_toArray, List.set_cons_zero, List.set_cons_succ, i64_w, i32_w]
    rfl
   refine pure_ (i := 6) (N := some 11) (v := undef) (a' := ?_) #[true, true, true, true, true, true, true, false, false, false, false, false, false] rfl rfl (any_of HT_.out (by kernel_rfl)) (fun _ _ _ h => h) (Or.inr ⟨by rfl, rfl⟩) ?_ ?_
   rotate_left
   ·simp only [Act.put, List.setIfInBounds_toArray, List.set_cons_zero, List.set_cons_succ, i64_w, i32_w]
    rfl
   refine pure_ (i := 7) (N := some 12) (v := undef) (a' := ?_) #[true, true, true, true, true, true, true, true, false, false, false, false, false] rfl rfl (any_of HT_.out (by kernel_rfl)) (fun _ _ _ h => h) (Or.inr ⟨by rfl, rfl⟩) ?_ ?_
   rotate_left
   ·simp only [Act.put, List.setIfInBounds_toArray, List.set_cons_zero, List.set_cons_succ, i64_w, i32_w]
    rfl
   refine pure_ (i := 8) (N := some 13) (v := undef) (a' := ?_) #[true, true, true, true, true, true, true, true, true, false, false, false, false] rfl rfl (any_of HT_.out (by kernel_rfl)) (fun _ _ _ h => h) (Or.inr ⟨by rfl, rfl⟩) ?_ ?_
   rotate_left
   ·simp only [Act.put, List.setIfInBounds_toArray, List.set_cons_zero, List.set_cons_succ, i64_w, i32_w]
    rfl
   refine pure_ (i := 9) (N := some 14) (v := undef) (a' := ?_) #[true, true, true, true, true, true, true, true, true, true, false, false, false] rfl rfl (any_of HT_.out (by kernel_rfl)) (fun _ _ _ h => h) (Or.inr ⟨by rfl, rfl⟩) ?_ ?_
   rotate_left
   ·simp only [Act.put, List.setIfInBounds_toArray, List.set_cons_zero, List.set_cons_succ, i64_w, i32_w]
    rfl
   refine pure_ (i := 10) (N := some 15) (v := undef) (a' := ?_) #[true, true, true, true, true, true, true, true, true, true, true, false, false] rfl rfl (any_of HT_.out (by kernel_rfl)) (fun _ _ _ h => h) (Or.inr ⟨by rfl, rfl⟩) ?_ ?_
   rotate_left
   ·simp only [Act.put, List.setIfInBounds_toArray, List.set_cons_zero, List.set_cons_succ, i64_w, i32_w]
    rfl
   refine pure_ (i := 11) (N := some 16) (v := ?_) (a' := ?_) #[true, true, true, true, true, true, true, true, true, true, true, true, false] rfl rfl (any_of HT_.out (by kernel_rfl)) (fun _ _ _ h => h) (Or.inl ⟨by rfl, ?_⟩) ?_ ?_
   rotate_left
   ·intro w'
    go_simp
    with_reducible rfl
   rotate_left
   ·simp only [Act.put, List.setIfInBounds_toArray, List.set_cons_zero, List.set_cons_succ, i64_w, i32_w]
    rfl
   refine pure_ (i := 12) (N := some 2) (v := ?_) (a' := ?_) #[true, true, true, true, true, true, true, true, true, true, true, true, true] rfl rfl (any_of HT_.out (by kernel_rfl)) (fun _ _ _ h => h) (Or.inl ⟨by rfl, ?_⟩) ?_ ?_
   rotate_left
   ·intro w'
    go_simp
    with_reducible rfl
   rotate_left
   ·simp only [Act.put, List.setIfInBounds_toArray, List.set_cons_zero, List.set_cons_succ, i64_w, i32_w]
    rfl
   refine done_ (done_of HT_.out (by kernel_rfl)) ?_
   try go_wp2
   go_ret
   exact ⟨by first | rfl | (simp [errW_none, errW_some] <;> rfl) | (simp [*, errW_none, errW_some] <;> rfl), by repeat (first | (with_reducible first | exact HB.out | apply below_alloc | apply pw_below_drewN | apply below_drew1 | refine below_set ?_ GE443.out) | exact HB.out)⟩
  ·replace c5 := Bool.eq_false_iff.mpr c5
   subst c5
   have H1 : ((cfg_Valid.f k l0_0 l0_1).bind fun t446 => ((ontimelaw24_blocks.f k l0_0 l0_1).bind fun t447 => ((ontimeref24_Valid.f k t447 l0_1).bind fun t450 => (some (t446 == t450))))) = some r := by rw [if_neg (show ¬ (false = true) by decide)] at H; exact H
   clear H
   have H := H1
   clear H1
   replace H := Option.bind_eq_some_iff.mp H
   obtain ⟨t446, A100, H⟩ := H
   replace H : ((ontimelaw24_blocks.f k l0_0 l0_1).bind fun t447 => ((ontimeref24_Valid.f k t447 l0_1).bind fun t450 => (some (t446 == t450)))) = some r := H
   have A10 := Aside0.mk A100
   clear A100
   replace H := Option.bind_eq_some_iff.mp H
   obtain ⟨t447, A110, H⟩ := H
   replace H : ((ontimeref24_Valid.f k t447 l0_1).bind fun t450 => (some (t446 == t450))) = some r := H
   have A11 := Aside0.mk A110
   clear A110
   replace H := Option.bind_eq_some_iff.mp H
   obtain ⟨t450, A120, H⟩ := H
   replace H : (some (t446 == t450)) = some r := H
   have A12 := Aside0.mk A120
   clear A120
   obtain rfl := Option.some.inj H
   go_enter Try.func4, Try.ntmps4
   try go_wp2_with (first | ((with_reducible refine gate_dst (N := 1) rfl ?_); refine box_event ?hg (N := 1) ?hd (cs := #[.slice A0_0 l0_0.length c0_0, .slice A0_1 l0_1.length c0_1]) (t := 31) ?hr ?_; (case hd => rfl); (case hg => rfl); (case hr => first | (go_simp; done) | (go_simp; rfl)); intro gb443 hg w13 hbox hb; have n0_ := Aside0.mk (below_step (tB0 HB.out) hb); have n1_ := Aside0.mk (hbox); have n2_ := Aside0.mk ((by rw [hg]; exact (below_size (tB0 HB.out)) : w.heap.size ≤ gb443)); have n3_ := Aside0.mk ((by rw [hg]; exact (below_size (tB0 HB.out)) : w.heap.size ≤ gb443)); clear HB; have HB := n0_; have BK443 := n1_; have GW443 := n2_; have GE443 := n3_; clear n0_ n1_ n2_ n3_; clear hb hbox hg) | ((with_reducible refine gate_callee (f := 10) rfl ?_); refine goesL_ (some 3) rfl rfl Try.func10 (by kernel_rfl) rfl #[] rfl tF ?_; (with_reducible refine (ontimelaw24_awake.calls k  true _ A2.out).mono ?_); rintro e w14 ⟨rfl, hb⟩; refine ⟨_, rfl, ?_⟩; have n0_ := Aside0.mk (blk_below (g := gb443) (o := .cells #[.slice A0_0 l0_0.length c0_0, .slice A0_1 l0_1.length c0_1] 31 (0, 0)) (tK BK443.out) hb); have n1_ := Aside0.mk (below_step (tB1 HB.out GE443.out) hb); clear BK443; clear HB; have BK443 := n0_; have HB := n1_; clear n0_ n1_; (try clear hb); (try clear hb2); (try clear hk); (try clear hi)))
   have n0_ := Aside0.mk (blk_drew BK443.out)
   have n1_ := Aside0.mk (below_drew1 HB.out)
   clear BK443 HB
   have BK443 := n0_
   have HB := n1_
   clear n0_ n1_
   refine start_ (n := 13) (S := fun w' => w'.cell? ⟨gb443, 0, none⟩ = some (.slice A0_0 l0_0.length c0_0) ∧ w'.cell? ⟨gb443, 1, none⟩ = some (.slice A0_1 l0_1.length c0_1)) (ds := []) #[false, false, false, false, false, false, false, false, false, false, false, false, false] (by kernel_rfl) rfl rfl ⟨(blk_cell BK443.out 0).trans rfl, (blk_cell BK443.out 1).trans rfl⟩ (fun hHeld => ?_); refine with_tabW ontimelaw24_CfgValid.tab3 ontimelaw24_CfgValid.bits3 (fun HT_ HW_ => ?_)
   generalize w14.drew = w15 at BK443 HB hHeld ⊢
   refine take_ (i := 0) (N := some 5) (v := ?_) (a' := ?_) #[true, false, false, false, false, false, false, false, false, false, false, false, false] rfl rfl (take_ofW HT_.out HW_.out (by kernel_rfl)) (fun _ _ _ h => h) (Or.inl ⟨by rfl, ?_⟩) hHeld ?_ ?_
   rotate_left
   ·rintro w' ⟨s0, s1⟩
    go_simp
    with_reducible rfl
   rotate_left
   ·simp only [Act.put, List.setIfInBounds_toArray, List.set_cons_zero, List.set_cons_succ, i64_w, i32_w]
    rfl
   refine one_ (i := 1) (N := some 6) #[true, true, false, false, false, false, false, false, false, false, false, false, false] rfl rfl (one_of HT_.out (by kernel_rfl)) (by decide) (fun K hK => ?_)
   refine goes_ Try.func18 (by kernel_rfl) rfl #[.agg #[.slice A0_0 l0_0.length c0_0, .slice A0_1 l0_1.length c0_1]] (by rfl) rfl rfl tF ?_
   with_reducible refine (ontimelaw24_wide.calls k _ _ l0_0 _ _ l0_1 false _ ?side1 ?side2 ?side3 ?side4 A4.out).mono ?_
   (case side1 => exact tC (Kd.C_below HR0_0.out HB.out))
   (case side2 => exact HC0_0.out)
   (case side3 => exact tC (Kd.C_below HR0_1.out HB.out))
   (case side4 => exact HC0_1.out)
   rintro e w16 ⟨rfl, hb⟩
   refine ⟨_, rfl, ?_⟩
   have n0_ := Aside0.mk (blk_below (g := gb443) (o := .cells #[.slice A0_0 l0_0.length c0_0, .slice A0_1 l0_1.length c0_1] 31 (0, 0)) (tK BK443.out) hb)
   have n1_ := Aside0.mk (below_step (tB1 HB.out GE443.out) hb)
   clear BK443 HB
   have BK443 := n0_
   have HB := n1_
   clear n0_ n1_
   (try clear hb)
   (try clear hb2)
   (try clear hk)
   (try clear hi)
   refine hK.out _ _ ⟨(blk_cell BK443.out 0).trans rfl, (blk_cell BK443.out 1).trans rfl⟩ (fun hHeld => ?_)
   clear hK K
   refine norm_ (a' := ?_) ?_ ?_
   rotate_left
   ·show Act.put _ (some 6) _ = _
    simp only [Act.put, List.setIfInBounds_toArray, List.set_cons_zero, List.set_cons_succ, i64_w, i32_w]
    rfl
   refine pure_ (i := 2) (N := some 7) (v := ?_) (a' := ?_) #[true, true, true, false, false, false, false, false, false, false, false, false, false] rfl rfl (any_of HT_.out (by kernel_rfl)) (fun _ _ _ h => h) (Or.inl ⟨by rfl, ?_⟩) ?_ ?_
   rotate_left
   ·intro w'
    go_simp
    with_reducible rfl
   rotate_left
   ·simp only [Act.put, List.setIfInBounds_toArray, List.set_cons_zero, List.set_cons_succ, i64_w, i32_w]
    rfl
   refine pure_ (i := 7) (N := some 12) (v := ?_) (a' := ?_) #[true, true, true, false, false, false, false, true, false, false, false, false, false] rfl rfl (any_of HT_.out (by kernel_rfl)) (fun _ _ _ h => h) (Or.inl ⟨by rfl, ?_⟩) ?_ ?_
   rotate_left
   ·intro w'
    go_simp
    with_reducible rfl
   rotate_left
   ·simp only [Act.put, List.setIfInBounds_toArray, List.set_cons_zero, List.set_cons_succ, i64_w, i32_w]
    rfl
   refine take_ (i := 3) (N := some 8) (v := ?_) (a' := ?_) #[true, true, true, true, false, false, false, true, false, false, false, false, false] rfl rfl (take_ofW HT_.out HW_.out (by kernel_rfl)) (fun _ _ _ h => h) (Or.inl ⟨by rfl, ?_⟩) hHeld ?_ ?_
   rotate_left
   ·rintro w' ⟨s0, s1⟩
    go_simp
    with_reducible rfl
   rotate_left
   ·simp only [Act.put, List.setIfInBounds_toArray, List.set_cons_zero, List.set_cons_succ, i64_w, i32_w]
    rfl
   refine take_ (i := 5) (N := some 10) (v := ?_) (a' := ?_) #[true, true, true, true, false, true, false, true, false, false, false, false, false] rfl rfl (take_ofW HT_.out HW_.out (by kernel_rfl)) (fun _ _ _ h => h) (Or.inl ⟨by rfl, ?_⟩) hHeld ?_ ?_
   rotate_left
   ·rintro w' ⟨s0, s1⟩
    go_simp
    with_reducible rfl
   rotate_left
   ·simp only [Act.put, List.setIfInBounds_toArray, List.set_cons_zero, List.set_cons_succ, i64_w, i32_w]
    rfl
   refine take_ (i := 8) (N := some 13) (v := ?_) (a' := ?_) #[true, true, true, true, false, true, false, true, true, false, false, false, false] rfl rfl (take_ofW HT_.out HW_.out (by kernel_rfl)) (fun _ _ _ h => h) (Or.inl ⟨by rfl, ?_⟩) hHeld ?_ ?_
   rotate_left
   ·rintro w' ⟨s0, s1⟩
    go_simp
    with_reducible rfl
   rotate_left
   ·simp only [Act.put, List.setIfInBounds_toArray, List.set_cons_zero, List.set_cons_succ, i64_w, i32_w]
    rfl
   refine one_ (i := 4) (N := some 9) #[true, true, true, true, true, true, false, true, true, false, false, false, false] rfl rfl (one_of HT_.out (by kernel_rfl)) (by decide) (fun K hK => ?_)
   refine goes_ Try.func19 (by kernel_rfl) rfl #[.agg #[.slice A0_0 l0_0.length c0_0, .slice A0_1 l0_1.length c0_1]] (by rfl) rfl rfl tF ?_
   with_reducible refine (cfg_Valid.calls k _ _ l0_0 _ _ l0_1 t446 _ ?side1 ?side2 ?side3 ?side4 A10.out).mono ?_
   (case side1 => exact tC (Kd.C_below HR0_0.out HB.out))
   (case side2 => exact HC0_0.out)
   (case side3 => exact tC (Kd.C_below HR0_1.out HB.out))
   (case side4 => exact HC0_1.out)
   rintro e w17 ⟨rfl, hb⟩
   refine ⟨_, rfl, ?_⟩
   have n0_ := Aside0.mk (blk_below (g := gb443) (o := .cells #[.slice A0_0 l0_0.length c0_0, .slice A0_1 l0_1.length c0_1] 31 (0, 0)) (tK BK443.out) hb)
   have n1_ := Aside0.mk (below_step (tB1 HB.out GE443.out) hb)
   clear BK443 HB
   have BK443 := n0_
   have HB := n1_
   clear n0_ n1_
   (try clear hb)
   (try clear hb2)
   (try clear hk)
   (try clear hi)
   refine hK.out _ _ ⟨(blk_cell BK443.out 0).trans rfl, (blk_cell BK443.out 1).trans rfl⟩ (fun hHeld => ?_)
   clear hK K
   refine norm_ (a' := ?_) ?_ ?_
   rotate_left
   ·show Act.put _ (some 9) _ = _
    simp only [Act.put, List.setIfInBounds_toArray, List.set_cons_zero, List.set_cons_succ, i64_w, i32_w]
    rfl
   refine one_ (i := 6) (N := some 11) #[true, true, true, true, true, true, true, true, true, false, false, false, false] rfl rfl (one_of HT_.out (by kernel_rfl)) (by decide) (fun K hK => ?_)
   refine goes_ Try.func21 (by kernel_rfl) rfl #[.agg #[.slice A0_0 l0_0.length c0_0, .slice A0_1 l0_1.length c0_1]] (by rfl) rfl rfl tF ?_
   with_reducible refine (ontimelaw24_blocks.calls k (fun k_ => k_ < w.heap.size) _ _ l0_0 _ _ l0_1 t447 _ ?side1 ?side2 ?side3 A11.out).mono ?_
   (case side1 => exact Kd.V_mk HC0_0.out (Kd.F_below (Kd.C_F k51_heap HR0_0.out) (tB1 HB.out GE443.out)))
   (case side2 => exact tC (Kd.C_below HR0_1.out HB.out))
   (case side3 => exact HC0_1.out)
   rintro e w18 ⟨v448, rfl, ho0, hb⟩
   refine ⟨_, rfl, ?_⟩
   have n0_ := Aside0.mk (Kd.N_lower (Kd.N_mono (ok' := fun k_ => k_ ≠ gb443) ho0 (fun k_ hk_ => Or.elim hk_ (fun hs_ => fun e_ => Nat.not_le.2 hs_ (by rw [e_]; exact GW443.out)) (fun hn_ => (Kd.freshB (g := gb443) (o := .cells #[.slice A0_0 l0_0.length c0_0, .slice A0_1 l0_1.length c0_1] 31 (0, 0)) (tK BK443.out) k_ hn_)))) (below_size (tB1 HB.out GE443.out)))
   have n1_ := Aside0.mk (blk_below (g := gb443) (o := .cells #[.slice A0_0 l0_0.length c0_0, .slice A0_1 l0_1.length c0_1] 31 (0, 0)) (tK BK443.out) hb)
   have n2_ := Aside0.mk (below_step (tB1 HB.out GE443.out) hb)
   clear BK443 HB
   have HO449 := n0_
   have BK443 := n1_
   have HB := n2_
   clear n0_ n1_ n2_
   (try clear hb)
   (try clear hb2)
   (try clear hk)
   (try clear hi)
   (try clear ho0)
   obtain ⟨Ao19, co19, eo19⟩ := Kd.N_slice HO449.out
   (first | subst eo19 | (injection eo19 with f1_ f2_ f3_; have f4_ := f1_.symm; have f5_ := f3_.symm; clear f1_ f2_ f3_; subst f4_; subst f5_))
   refine hK.out _ _ ⟨(blk_cell BK443.out 0).trans rfl, (blk_cell BK443.out 1).trans rfl⟩ (fun hHeld => ?_)
   clear hK K
   refine norm_ (a' := ?_) ?_ ?_
   rotate_left
   ·show Act.put _ (some 11) _ = _
    simp only [Act.put, List.setIfInBounds_toArray, List.set_cons_zero, List.set_cons_succ, i64_w, i32_w]
    rfl
   refine one_ (i := 9) (N := some 14) #[true, true, true, true, true, true, true, true, true, true, false, false, false] rfl rfl (one_of HT_.out (by kernel_rfl)) (by decide) (fun K hK => ?_)
   refine goes_ Try.func20 (by kernel_rfl) rfl #[.slice Ao19 t447.length co19, .slice A0_1 l0_1.length c0_1] (by rfl) rfl rfl tF ?_
   with_reducible refine (ontimeref24_Valid.calls k _ _ t447 _ _ l0_1 t450 _ ?side1 ?side2 ?side3 ?side4 A12.out).mono ?_
   (case side1 => exact tC (Kd.N_reads' HO449.out).2.2)
   (case side2 => exact (Kd.N_reads' HO449.out).2.1)
   (case side3 => exact tC (Kd.C_below HR0_1.out HB.out))
   (case side4 => exact HC0_1.out)
   rintro e w20 ⟨rfl, hb⟩
   refine ⟨_, rfl, ?_⟩
   have n0_ := Aside0.mk (Kd.N_below (by (with_reducible repeat (first | apply Kd.N_alloc | apply Kd.N_drewN | apply Kd.N_drew)); exact HO449.out) hb)
   have n1_ := Aside0.mk (blk_below (g := gb443) (o := .cells #[.slice A0_0 l0_0.length c0_0, .slice A0_1 l0_1.length c0_1] 31 (0, 0)) (tK BK443.out) hb)
   have n2_ := Aside0.mk (below_step (tB1 HB.out GE443.out) hb)
   clear HO449 BK443 HB
   have HO449 := n0_
   have BK443 := n1_
   have HB := n2_
   clear n0_ n1_ n2_
   (try clear hb)
   (try clear hb2)
   (try clear hk)
   (try clear hi)
   refine hK.out _ _ ⟨(blk_cell BK443.out 0).trans rfl, (blk_cell BK443.out 1).trans rfl⟩ (fun hHeld => ?_)
   clear hK K
   refine norm_ (a' := ?_) ?_ ?_
   rotate_left
   ·show Act.put _ (some 14) _ = _
    simp only [Act.put, List.setIfInBounds_toArray, List.set_cons_zero, List.set_cons_succ, i64_w, i32_w]
    rfl
   refine pure_ (i := 10) (N := some 15) (v := ?_) (a' := ?_) #[true, true, true, true, true, true, true, true, true, true, true, false, false] rfl rfl (any_of HT_.out (by kernel_rfl)) (fun _ _ _ h => h) (Or.inl ⟨by rfl, ?_⟩) ?_ ?_
   rotate_left
   ·intro w'
    go_simp
    with_reducible rfl
   rotate_left
   ·simp only [Act.put, List.setIfInBounds_toArray, List.set_cons_zero, List.set_cons_succ, i64_w, i32_w]
    rfl
   refine pure_ (i := 11) (N := some 16) (v := ?_) (a' := ?_) #[true, true, true, true, true, true, true, true, true, true, true, true, false] rfl rfl (any_of HT_.out (by kernel_rfl)) (fun _ _ _ h => h) (Or.inl ⟨by rfl, ?_⟩) ?_ ?_
   rotate_left
   ·intro w'
    go_simp
    with_reducible rfl
   rotate_left
   ·simp only [Act.put, List.setIfInBounds_toArray, List.set_cons_zero, List.set_cons_succ, i64_w, i32_w]
    rfl
   refine pure_ (i := 12) (N := some 2) (v := ?_) (a' := ?_) #[true, true, true, true, true, true, true, true, true, true, true, true, true] rfl rfl (any_of HT_.out (by kernel_rfl)) (fun _ _ _ h => h) (Or.inl ⟨by rfl, ?_⟩) ?_ ?_
   rotate_left
   ·intro w'
    go_simp
    with_reducible rfl
   rotate_left
   ·simp only [Act.put, List.setIfInBounds_toArray, List.set_cons_zero, List.set_cons_succ, i64_w, i32_w]
    rfl
   refine done_ (done_of HT_.out (by kernel_rfl)) ?_
   try go_wp2
   go_ret
   exact ⟨by first | rfl | (simp [errW_none, errW_some] <;> rfl) | (simp [*, errW_none, errW_some] <;> rfl), by repeat (first | (with_reducible first | exact HB.out | apply below_alloc | apply pw_below_drewN | apply below_drew1 | refine below_set ?_ GE443.out) | exact HB.out)⟩
 ·replace c3 := Bool.eq_false_iff.mpr c3
  subst c3
  have H1 : (some false) = some r := by rw [if_neg (show ¬ (false = true) by decide)] at H; exact H
  clear H
  have H := H1
  clear H1
  obtain rfl := Option.some.inj H
  go_enter Try.func4, Try.ntmps4
  go_wp2_with (first | ((with_reducible refine gate_dst (N := 1) rfl ?_); refine box_event ?hg (N := 1) ?hd (cs := #[.slice A0_0 l0_0.length c0_0, .slice A0_1 l0_1.length c0_1]) (t := 31) ?hr ?_; (case hd => rfl); (case hg => rfl); (case hr => first | (go_simp; done) | (go_simp; rfl)); intro gb443 hg w21 hbox hb; have n0_ := Aside0.mk (below_step (tB0 HB.out) hb); have n1_ := Aside0.mk (hbox); have n2_ := Aside0.mk ((by rw [hg]; exact (below_size (tB0 HB.out)) : w.heap.size ≤ gb443)); have n3_ := Aside0.mk ((by rw [hg]; exact (below_size (tB0 HB.out)) : w.heap.size ≤ gb443)); clear HB; have HB := n0_; have BK443 := n1_; have GW443 := n2_; have GE443 := n3_; clear n0_ n1_ n2_ n3_; clear hb hbox hg) | ((with_reducible refine gate_callee (f := 10) rfl ?_); refine goesL_ (some 3) rfl rfl Try.func10 (by kernel_rfl) rfl #[] rfl tF ?_; (with_reducible refine (ontimelaw24_awake.calls k  false _ A2.out).mono ?_); rintro e w22 ⟨rfl, hb⟩; refine ⟨_, rfl, ?_⟩; have n0_ := Aside0.mk (blk_below (g := gb443) (o := .cells #[.slice A0_0 l0_0.length c0_0, .slice A0_1 l0_1.length c0_1] 31 (0, 0)) (tK BK443.out) hb); have n1_ := Aside0.mk (below_step (tB1 HB.out GE443.out) hb); clear BK443; clear HB; have BK443 := n0_; have HB := n1_; clear n0_ n1_; (try clear hb); (try clear hb2); (try clear hk); (try clear hi)))
  go_ret
  exact ⟨by first | rfl | (simp [errW_none, errW_some] <;> rfl) | (simp [*, errW_none, errW_some] <;> rfl), by repeat (first | (with_reducible first | exact HB.out | apply below_alloc | apply pw_below_drewN | apply below_drew1 | refine below_set ?_ GE443.out) | exact HB.out)⟩
end Go.Proofs.Ytihmfdndiicjgaa.C
