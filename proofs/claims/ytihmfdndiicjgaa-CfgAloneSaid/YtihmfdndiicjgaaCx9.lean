-- Written by xprint.py (wip/tools) out of the translation and of this project's hand texts. Not trusted: Lean checks it.
import Derived.Test.YtihmfdndiicjgaaCx0
namespace Go.Proofs.Ytihmfdndiicjgaa.C
open Go.RowKit Go.Proofs.YtihmfdndiicjgaaW.PrintWords Go.Proofs.YtihmfdndiicjgaaW.PrintLast Go.Proofs.YtihmfdndiicjgaaW.PrintMore
attribute [local go_sem] max2_int min2_int max_two min_two max_three min_three max_four min_four   -- for this text's walks alone
set_option linter.unusedVariables false
set_option linter.unusedSimpArgs false
/-! ### ontimelaw24_blocks: function 21 -/
def ontimelaw24_blocks.l0 : Nat → List (S104) → List (S51) → Int → Int → Option ((List (S104)))
 | 0, _, _, _, _ => none
 | k + 1, x3, x7, x8, x9 => if x9 < x8 then (if 0 ≤ x9 then (if x9 < (x7.length : Int) then (if x3.length < 3518437208883 then (ontimelaw24_blocks.l0 k (x3 ++ [(⟨(rd_T51 x7 x9).f0, (rd_T51 x7 x9).f1, (rd_T51 x7 x9).f2⟩ : S104)]) x7 x8 (wrap64 (x9 + 1))) else (none)) else (none)) else (none)) else (some x3)
def ontimelaw24_blocks.f (k : Nat) (l0_0 : List (S51)) (l0_1 : List (List Int)) : Option ((List (S104))) := ontimelaw24_blocks.l0 k ([] : List (S104)) l0_0 (l0_0.length : Int) 0
theorem ontimelaw24_blocks.mono_l : ∀ k, (∀ y0 y1 y2 y3, LeO (ontimelaw24_blocks.l0 k y0 y1 y2 y3) (ontimelaw24_blocks.l0 (k + 1) y0 y1 y2 y3))
 | 0 => fun _ _ _ _ r h => by simp [ontimelaw24_blocks.l0] at h
 | k + 1 => by
  have ih0 := ontimelaw24_blocks.mono_l k
  ·intro y0 y1 y2 y3
   unfold ontimelaw24_blocks.l0
   repeat' first
   | (with_reducible exact ih0 _ _ _ _)
   | (with_reducible exact LeO.refl _)
   | (with_reducible exact LeO.none _)
   | (with_reducible refine LeO.ite ?_ ?_)
   | (with_reducible refine LeO.bind ?_ (fun _ => ?_))
   | exact ih0 _ _ _ _
   | exact LeO.none _
   | refine LeO.ite ?_ ?_
   | refine LeO.bind ?_ (fun _ => ?_)
theorem ontimelaw24_blocks.mono : ∀ a0 a1 k, LeO (ontimelaw24_blocks.f k a0 a1) (ontimelaw24_blocks.f (k + 1) a0 a1) := by
 intro a0 a1 k
 have ih0 := ontimelaw24_blocks.mono_l k
 unfold ontimelaw24_blocks.f
 repeat' first
   | (with_reducible exact ih0 _ _ _ _)
   | (with_reducible exact LeO.refl _)
   | (with_reducible exact LeO.none _)
   | (with_reducible refine LeO.ite ?_ ?_)
   | (with_reducible refine LeO.bind ?_ (fun _ => ?_))
   | exact ih0 _ _ _ _
   | exact LeO.none _
   | refine LeO.ite ?_ ?_
   | refine LeO.bind ?_ (fun _ => ?_)
set_option maxHeartbeats 8000000 in
set_option maxRecDepth 100000 in
theorem ontimelaw24_blocks.calls (k : Nat) (P0_0_ : Nat → Prop) (A0_0 : Option Addr) (c0_0 : Nat) (l0_0 : List (S51)) (A0_1 : Option Addr) (c0_1 : Nat) (l0_1 : List (List Int)) (r : List (S104)) (w : World) (hs0_0 : Kd.V k51 51 w w.heap.size (fun k_ => P0_0_ k_) (.slice A0_0 l0_0.length c0_0) l0_0) (hr0_1 : Kd.C (Kd.slice 3 (Kd.int .i64)) w A0_1 l0_1.length l0_1) (hc0_1 : l0_1.length ≤ c0_1) (h : ontimelaw24_blocks.f k l0_0 l0_1 = some r) :
  Calls Try.prog 21 #[.agg #[.slice A0_0 l0_0.length c0_0, .slice A0_1 l0_1.length c0_1]] w fun e w' => ∃ v0_ : Value, e = .returned (v0_) ∧ Kd.N k104 104 w' w.heap.size (fun k_ => (P0_0_ k_ ∨ w.heap.size ≤ k_)) v0_ r ∧ Below w.heap.size w w' := by
 have hu31 := Try.underlying31
 have hu51 := Try.underlying51
 have hu104 := Try.underlying104
 have HO0_0 := Aside0.mk (show Kd.V k51 51 w w.heap.size (fun k_ => (P0_0_ k_ ∨ w.heap.size ≤ k_)) (.slice A0_0 l0_0.length c0_0) l0_0 from Kd.V_mono hs0_0 (fun k_ hk => .inl hk))
 have HR0_1 := Aside0.mk hr0_1
 have HC0_1 := Aside0.mk hc0_1
 clear hr0_1 hc0_1
 have HB := Aside0.mk (Below.refl w.heap.size w)
 have H : (ontimelaw24_blocks.l0 k ([] : List (S104)) l0_0 (l0_0.length : Int) 0) = some r := h
 clear h
 have H' := Aside0.mk H
 clear H
 go_enter Try.func21, Try.ntmps21
 go_wp2_with (first | ((with_reducible refine gate_dst (N := 1) rfl ?_); refine box_event ?hg (N := 1) ?hd (cs := #[.slice A0_0 l0_0.length c0_0, .slice A0_1 l0_1.length c0_1]) (t := 31) ?hr ?_; (case hd => rfl); (case hg => rfl); (case hr => first | (go_simp; done) | (go_simp; rfl)); intro gb258 hg w2 hbox hb; have n0_ := Aside0.mk (Kd.V_below (Kd.V_elderB (by (with_reducible repeat (first | apply Kd.V_alloc | apply Kd.V_drewN | apply Kd.V_drew)); exact HO0_0.out) gb258 (Nat.le_of_eq hg.symm)) hb); have n1_ := Aside0.mk (below_step (tB0 HB.out) hb); have n2_ := Aside0.mk (hbox); have n3_ := Aside0.mk ((by rw [hg]; exact (below_size (tB0 HB.out)) : w.heap.size ≤ gb258)); have n4_ := Aside0.mk ((by rw [hg]; exact (below_size (tB0 HB.out)) : w.heap.size ≤ gb258)); clear HO0_0; clear HB; have HO0_0 := n0_; have HB := n1_; have BK258 := n2_; have GW258 := n3_; have GE258 := n4_; clear n0_ n1_ n2_ n3_ n4_; clear hb hbox hg; have hcz3_0 : w2.cell? ⟨gb258, 0, none⟩ = some (.slice A0_0 l0_0.length c0_0) := (blk_cell BK258.out 0).trans rfl; have hcz3_1 : w2.cell? ⟨gb258, 1, none⟩ = some (.slice A0_1 l0_1.length c0_1) := (blk_cell BK258.out 1).trans rfl; have hfz3_0 := blk_frozen BK258.out 0; have hfz3_1 := blk_frozen BK258.out 1))
 go_loopg [3, 9] k (fun kq v3 v9 w' => ∃ (x3_1 : List (S104)) (x9_1 : Int), v9 = .int .i64 x9_1 ∧ Aside0 (ontimelaw24_blocks.l0 kq x3_1 l0_0 (l0_0.length : Int) x9_1 = some r) ∧ Aside0 (kq ≤ k) ∧ Aside0 (Kd.N k104 104 w' w.heap.size (fun k_ => (P0_0_ k_ ∨ w.heap.size ≤ k_) ∧ k_ ≠ gb258) v3 x3_1) ∧ Aside0 (Kd.V k51 51 w' w.heap.size (fun k_ => (P0_0_ k_ ∨ w.heap.size ≤ k_) ∧ some k_ ≠ (v3 : Value).ownBlock ∧ k_ ≠ gb258) (.slice A0_0 l0_0.length c0_0) l0_0) ∧ Aside0 (Kd.V k51 51 w' w.heap.size (fun k_ => (P0_0_ k_ ∨ w.heap.size ≤ k_) ∧ some k_ ≠ (v3 : Value).ownBlock ∧ k_ ≠ gb258) (.slice A0_0 l0_0.length c0_0) l0_0) ∧ Aside0 (w'.heap[gb258]? = some (.cells #[(.slice A0_0 l0_0.length c0_0), (.slice A0_1 l0_1.length c0_1)] 31 (0, 0))) ∧ Aside0 (Below w.heap.size w w'))
 case atStart => exact ⟨(([] : List (S104))), (0), (by first | rfl | (simp; done) | (simp [*]; done)), H', ⟨Nat.le_refl _⟩, ⟨by first | exact Kd.S_nil _ _ _ _ _ | exact Kd.N_nil _ _ _ _ _ | exact Kd.V_nil _ _ _ _ _ | exact Kd.Q_nil _ _ _ _ _ | exact Kd.R_nil _ _ _ _ _⟩, ⟨by (with_reducible repeat (first | apply Kd.V_alloc | apply Kd.V_drewN | apply Kd.V_drew)); exact Kd.V_mono HO0_0.out (fun _ hk => ⟨hk.1, ⟨(by simp [Value.ownBlock]), hk.2⟩⟩)⟩, ⟨by (with_reducible repeat (first | apply Kd.V_alloc | apply Kd.V_drewN | apply Kd.V_drew)); exact Kd.V_mono HO0_0.out (fun _ hk => ⟨hk.1, ⟨(by simp [Value.ownBlock]), hk.2⟩⟩)⟩, ⟨tK BK258.out⟩, ⟨tB1 HB.out GE258.out⟩⟩
 case round =>
  clear H'
  (try clear c2);(try clear p2);(try clear hcz3_0);(try clear hcz3_1);(try clear hfz3_0);(try clear hfz3_1)
  obtain ⟨x3_1, x9_1, rfl, HA, HK1, HO_3, HO_7, HO_259000, BK258, HB⟩ := hrel
  cases gk with
  | zero => exact absurd HA.out (by simp [ontimelaw24_blocks.l0])
  | succ k1 =>
   have H := HA.out
   clear HA
   simp only [ontimelaw24_blocks.l0] at H
   by_cases c4 : x9_1 < (l0_0.length : Int)
   rotate_left
   ·rw [if_neg c4] at H
    have c4b0 : decide (x9_1 < (l0_0.length : Int)) = false := decide_eq_false c4
    clear c4
    obtain rfl := Option.some.inj H
    go_wp2
    go_ret
    exact ⟨_, by first | rfl | (simp [errW_none, errW_some] <;> rfl) | (simp [*, errW_none, errW_some] <;> rfl), by (with_reducible repeat (first | apply Kd.N_alloc | apply Kd.N_drewN | apply Kd.N_drew)); exact Kd.N_mono HO_3.out (fun _ hk => hk.1), by repeat (first | (with_reducible first | exact HB.out | apply below_alloc | apply pw_below_drewN | apply below_drew1 | refine below_set ?_ GE258.out) | exact HB.out)⟩
   rw [if_pos c4] at H
   have c4b0 : decide (x9_1 < (l0_0.length : Int)) = true := decide_eq_true c4
   clear c4
   by_cases c5 : 0 ≤ x9_1
   rotate_left
   ·rw [if_neg c5] at H
    exact absurd H (by simp)
   rw [if_pos c5] at H
   have c5b0 : decide (0 ≤ x9_1) = true := decide_eq_true c5
   clear c5
   by_cases c6 : x9_1 < (l0_0.length : Int)
   rotate_left
   ·rw [if_neg c6] at H
    exact absurd H (by simp)
   rw [if_pos c6] at H
   have c6b0 : decide (x9_1 < (l0_0.length : Int)) = true := decide_eq_true c6
   clear c6
   by_cases c7 : x3_1.length < 3518437208883
   rotate_left
   ·rw [if_neg c7] at H
    exact absurd H (by simp)
   rw [if_pos c7] at H
   have LMc7 := Aside0.mk c7
   clear c7
   obtain ⟨y261, hy261⟩ : ∃ y_ : List (S104), y_ = (x3_1 ++ [(⟨(rd_T51 l0_0 x9_1).f0, (rd_T51 l0_0 x9_1).f1, (rd_T51 l0_0 x9_1).f2⟩ : S104)]) := ⟨_, rfl⟩
   replace H : (ontimelaw24_blocks.l0 k1 y261 l0_0 (l0_0.length : Int) (wrap64 (x9_1 + 1))) = some r := by first | (rw [hy261]; with_reducible exact H) | (have H2_ := (Option.bind_some _ _).symm.trans H; rw [hy261]; with_reducible exact H2_) | (have H2_ := (Option.bind_some _ _).symm.trans H; with_reducible exact H2_) | with_reducible exact H | (rw [hy261]; exact H) | exact H
   have Ny261 := Aside0.mk hy261
   clear hy261
   have H' := Aside0.mk H
   clear H
   have p259 : 0 ≤ (x9_1 : Int) := tD
   have q259 : x9_1 < (l0_0.length : Int) := tD
   obtain ⟨ad259, A259_2, c259_2, e259, hx259_0, hx259_1, hx259_2, hl259_2, hi259_2⟩ := at_T51 (Kd.V_reads' HO_7.out).2.2 x9_1 p259 q259
   cases e259
   obtain ⟨ce259, hce259, hMe259, hcc259⟩ := Kd.V_get HO_7.out z51 x9_1 p259 (by first | exact q259 | exact tD | (have e_ := (Kd.V_reads' HO_7.out).1; omega))
   obtain ⟨ua259_2, uc259_2, rfl, ul259_2, ge259_2⟩ := k51_openF hMe259
   have hv259_2 := hcc259 2 _ rfl
   rw [add_field _ _ 2 (by omega)] at hv259_2
   replace hv259_2 := Option.some.inj (hv259_2.symm.trans hx259_2)
   injection hv259_2 with hva_ hvn_ hvc_
   rw [hva_] at ge259_2
   rw [hvc_] at ul259_2
   have HL259_2 := Aside0.mk (show Kd.V (Kd.int .i64) 3 _ w.heap.size _ _ ((rd_T51 l0_0 x9_1).f2) from Kd.V_mk ul259_2 ge259_2)
   clear hva_ hvn_ hvc_ ge259_2 ul259_2 hcc259 hce259
   have HR259_2 := Aside0.mk hi259_2
   have HC259_2 := Aside0.mk hl259_2
   clear hi259_2 hl259_2
   replace p259 := eq_true p259
   replace q259 := eq_true q259
   go_wp2_with (first | ((with_reducible refine gate_dst (N := 5) rfl ?_); refine box_event ?hg (N := 5) ?hd (cs := #[.int .i64 0, .int .i64 0, .slice none 0 0]) (t := 51) ?hr ?_; (case hd => rfl); (case hg => rfl); (case hr => first | (go_simp; done) | (go_simp; rfl)); intro gb260 hg w8 hbox hb; have n0_ := Aside0.mk (Kd.N_below (Kd.N_elderB (by (with_reducible repeat (first | apply Kd.N_alloc | apply Kd.N_drewN | apply Kd.N_drew)); exact HO_3.out) gb260 (Nat.le_of_eq hg.symm)) hb); have n1_ := Aside0.mk (Kd.V_below (Kd.V_elderB (by (with_reducible repeat (first | apply Kd.V_alloc | apply Kd.V_drewN | apply Kd.V_drew)); exact HO_7.out) gb260 (Nat.le_of_eq hg.symm)) hb); have n2_ := Aside0.mk (Kd.V_below (Kd.V_elderB (by (with_reducible repeat (first | apply Kd.V_alloc | apply Kd.V_drewN | apply Kd.V_drew)); exact HO_259000.out) gb260 (Nat.le_of_eq hg.symm)) hb); have n3_ := Aside0.mk (Kd.V_below (Kd.V_elderB (by (with_reducible repeat (first | apply Kd.V_alloc | apply Kd.V_drewN | apply Kd.V_drew)); exact HL259_2.out) gb260 (Nat.le_of_eq hg.symm)) hb); have n4_ := Aside0.mk (blk_below (g := gb258) (o := .cells #[.slice (some ad259) l0_0.length c0_0, .slice A0_1 l0_1.length c0_1] 31 (0, 0)) (tK BK258.out) hb); have n5_ := Aside0.mk (Kd.C_below (by repeat (first | (with_reducible exact HR259_2.out) | (with_reducible refine Kd.C_alloc ?_ _) | (with_reducible refine Kd.C_drewN ?_ _) | (with_reducible refine Kd.C_drew ?_) | exact HR259_2.out)) hb); have n6_ := Aside0.mk (below_step (tB1 HB.out GE258.out) hb); have n7_ := Aside0.mk (hbox); have n8_ := Aside0.mk ((by rw [hg]; exact (below_size (tB1 HB.out GE258.out)) : w.heap.size ≤ gb260)); have n9_ := Aside0.mk ((by rw [hg]; exact (below_size (tB1 HB.out GE258.out)) : w.heap.size ≤ gb260)); have n10_ := Aside0.mk ((by rw [hg]; exact Nat.ne_of_lt (blk_lt (g := gb258) (o := .cells #[.slice (some ad259) l0_0.length c0_0, .slice A0_1 l0_1.length c0_1] 31 (0, 0)) (tK BK258.out)) : gb258 ≠ gb260)); have n11_ := Aside0.mk ((by rw [hg]; exact Nat.ne_of_gt (blk_lt (g := gb258) (o := .cells #[.slice (some ad259) l0_0.length c0_0, .slice A0_1 l0_1.length c0_1] 31 (0, 0)) (tK BK258.out)) : gb260 ≠ gb258)); clear HO_3; clear HO_7; clear HO_259000; clear HL259_2; clear BK258; clear HR259_2; clear HB; have HO_3 := n0_; have HO_7 := n1_; have HO_259000 := n2_; have HL259_2 := n3_; have BK258 := n4_; have HR259_2 := n5_; have HB := n6_; have BK260 := n7_; have GW260 := n8_; have GE260 := n9_; have NB258_260 := n10_; have NB260_258 := n11_; clear n0_ n1_ n2_ n3_ n4_ n5_ n6_ n7_ n8_ n9_ n10_ n11_; clear hb hbox hg; have hnb9 := NB260_258.out; have hnc9 := NB258_260.out; have hcz10_0 : w8.cell? ⟨gb260, 0, none⟩ = some (.int .i64 0) := (blk_cell BK260.out 0).trans rfl; have hcz10_1 : w8.cell? ⟨gb260, 1, none⟩ = some (.int .i64 0) := (blk_cell BK260.out 1).trans rfl; have hcz10_2 : w8.cell? ⟨gb260, 2, none⟩ = some (.slice none 0 0) := (blk_cell BK260.out 2).trans rfl; have hfz10_0 := blk_frozen BK260.out 0; have hfz10_1 := blk_frozen BK260.out 1; have hfz10_2 := blk_frozen BK260.out 2) | ((with_reducible refine gate_store (t := 51) (p := 5) rfl ?_); refine store_event (t := 51) (p := 5) (v := ?vo_w11) (w1 := (((w8.setCell ⟨gb260, 0, none⟩ (.int .i64 ((rd_T51 l0_0 x9_1).f0))).setCell ⟨gb260, 1, none⟩ (.int .i64 ((rd_T51 l0_0 x9_1).f1))).setCell ⟨gb260, 2, none⟩ (.slice A259_2 ((rd_T51 l0_0 x9_1).f2).length c259_2))) ?hg ?ho ?hn ?hr ?_; (case ho => rfl); (case hg => rfl); (case hn => rfl); (case hr => first | (go_simp; done) | (go_simp; rfl)); intro w11 hw; have n0_ : Aside0 (Kd.N k104 104 w11 w.heap.size (fun k_ => (P0_0_ k_ ∨ w.heap.size ≤ k_) ∧ k_ ≠ gb258 ∧ k_ ≠ gb260) u3 x3_1) := ⟨(by rw [hw]; exact (by (with_reducible repeat (first | apply Kd.N_alloc | apply Kd.N_drewN | apply Kd.N_drew)); exact Kd.N_mono (Kd.N_far (p := ⟨gb260, 2, none⟩) (Kd.N_far (p := ⟨gb260, 1, none⟩) (Kd.N_far (p := ⟨gb260, 0, none⟩) (Kd.N_mono HO_3.out (fun k_ hk => (⟨hk, hk.2⟩ : _ ∧ k_ ≠ gb260))) (fun _ hk => hk.2) (.int .i64 ((rd_T51 l0_0 x9_1).f0))) (fun _ hk => hk.2) (.int .i64 ((rd_T51 l0_0 x9_1).f1))) (fun _ hk => hk.2) (.slice A259_2 ((rd_T51 l0_0 x9_1).f2).length c259_2)) (fun _ hk => ⟨hk.1.1.1, ⟨hk.1.1.2, hk.1.2⟩⟩)))⟩; have n1_ : Aside0 (Kd.V k51 51 w11 w.heap.size (fun k_ => (P0_0_ k_ ∨ w.heap.size ≤ k_) ∧ some k_ ≠ (u3 : Value).ownBlock ∧ k_ ≠ gb258 ∧ k_ ≠ gb260) (.slice (some ad259) l0_0.length c0_0) l0_0) := ⟨(by rw [hw]; exact (by (with_reducible repeat (first | apply Kd.V_alloc | apply Kd.V_drewN | apply Kd.V_drew)); exact Kd.V_mono (Kd.V_far (p := ⟨gb260, 2, none⟩) (Kd.V_far (p := ⟨gb260, 1, none⟩) (Kd.V_far (p := ⟨gb260, 0, none⟩) (Kd.V_mono HO_7.out (fun k_ hk => (⟨hk, hk.2⟩ : _ ∧ k_ ≠ gb260))) (fun _ hk => hk.2) (.int .i64 ((rd_T51 l0_0 x9_1).f0))) (fun _ hk => hk.2) (.int .i64 ((rd_T51 l0_0 x9_1).f1))) (fun _ hk => hk.2) (.slice A259_2 ((rd_T51 l0_0 x9_1).f2).length c259_2)) (fun _ hk => ⟨hk.1.1.1, ⟨hk.1.1.2.1, ⟨hk.1.1.2.2, hk.1.2⟩⟩⟩)))⟩; have n2_ : Aside0 (Kd.V k51 51 w11 w.heap.size (fun k_ => (P0_0_ k_ ∨ w.heap.size ≤ k_) ∧ some k_ ≠ (u3 : Value).ownBlock ∧ k_ ≠ gb258 ∧ k_ ≠ gb260) (.slice (some ad259) l0_0.length c0_0) l0_0) := ⟨(by rw [hw]; exact (by (with_reducible repeat (first | apply Kd.V_alloc | apply Kd.V_drewN | apply Kd.V_drew)); exact Kd.V_mono (Kd.V_far (p := ⟨gb260, 2, none⟩) (Kd.V_far (p := ⟨gb260, 1, none⟩) (Kd.V_far (p := ⟨gb260, 0, none⟩) (Kd.V_mono HO_259000.out (fun k_ hk => (⟨hk, hk.2⟩ : _ ∧ k_ ≠ gb260))) (fun _ hk => hk.2) (.int .i64 ((rd_T51 l0_0 x9_1).f0))) (fun _ hk => hk.2) (.int .i64 ((rd_T51 l0_0 x9_1).f1))) (fun _ hk => hk.2) (.slice A259_2 ((rd_T51 l0_0 x9_1).f2).length c259_2)) (fun _ hk => ⟨hk.1.1.1, ⟨hk.1.1.2.1, ⟨hk.1.1.2.2, hk.1.2⟩⟩⟩)))⟩; have n3_ : Aside0 (Kd.V (Kd.int .i64) 3 w11 w.heap.size (fun k_ => (P0_0_ k_ ∨ w.heap.size ≤ k_) ∧ some k_ ≠ (u3 : Value).ownBlock ∧ k_ ≠ gb258 ∧ k_ ≠ gb260) (.slice A259_2 ((rd_T51 l0_0 x9_1).f2).length c259_2) ((rd_T51 l0_0 x9_1).f2)) := ⟨(by rw [hw]; exact (by (with_reducible repeat (first | apply Kd.V_alloc | apply Kd.V_drewN | apply Kd.V_drew)); exact Kd.V_mono (Kd.V_far (p := ⟨gb260, 2, none⟩) (Kd.V_far (p := ⟨gb260, 1, none⟩) (Kd.V_far (p := ⟨gb260, 0, none⟩) (Kd.V_mono HL259_2.out (fun k_ hk => (⟨hk, hk.2⟩ : _ ∧ k_ ≠ gb260))) (fun _ hk => hk.2) (.int .i64 ((rd_T51 l0_0 x9_1).f0))) (fun _ hk => hk.2) (.int .i64 ((rd_T51 l0_0 x9_1).f1))) (fun _ hk => hk.2) (.slice A259_2 ((rd_T51 l0_0 x9_1).f2).length c259_2)) (fun _ hk => ⟨hk.1.1.1, ⟨hk.1.1.2.1, ⟨hk.1.1.2.2, hk.1.2⟩⟩⟩)))⟩; have n4_ : Aside0 (w11.heap[gb258]? = some (.cells #[.slice (some ad259) l0_0.length c0_0, .slice A0_1 l0_1.length c0_1] 31 (0, 0))) := ⟨(by rw [hw]; exact (by (with_reducible repeat (first | refine blk_drewN ?_ _ | refine blk_drew ?_ | refine blk_alloc ?_ _)); refine blk_far ?_ NB258_260.out _; (with_reducible repeat (first | refine blk_drewN ?_ _ | refine blk_drew ?_ | refine blk_alloc ?_ _)); refine blk_far ?_ NB258_260.out _; (with_reducible repeat (first | refine blk_drewN ?_ _ | refine blk_drew ?_ | refine blk_alloc ?_ _)); refine blk_far ?_ NB258_260.out _; (with_reducible repeat (first | refine blk_drewN ?_ _ | refine blk_drew ?_ | refine blk_alloc ?_ _)); exact BK258.out))⟩; have n5_ : Aside0 (w11.heap[gb260]? = some (.cells #[.int .i64 ((rd_T51 l0_0 x9_1).f0), .int .i64 ((rd_T51 l0_0 x9_1).f1), .slice A259_2 ((rd_T51 l0_0 x9_1).f2).length c259_2] 51 (0, 0))) := ⟨(by rw [hw]; exact (by (with_reducible repeat (first | refine blk_drewN ?_ _ | refine blk_drew ?_ | refine blk_alloc ?_ _)); refine blk_put (cs := #[.int .i64 ((rd_T51 l0_0 x9_1).f0), .int .i64 ((rd_T51 l0_0 x9_1).f1), .slice none 0 0]) ?_ 2 _ rfl; (with_reducible repeat (first | refine blk_drewN ?_ _ | refine blk_drew ?_ | refine blk_alloc ?_ _)); refine blk_put (cs := #[.int .i64 ((rd_T51 l0_0 x9_1).f0), .int .i64 0, .slice none 0 0]) ?_ 1 _ rfl; (with_reducible repeat (first | refine blk_drewN ?_ _ | refine blk_drew ?_ | refine blk_alloc ?_ _)); refine blk_put (cs := #[.int .i64 0, .int .i64 0, .slice none 0 0]) ?_ 0 _ rfl; (with_reducible repeat (first | refine blk_drewN ?_ _ | refine blk_drew ?_ | refine blk_alloc ?_ _)); exact BK260.out))⟩; have n6_ : Aside0 (Below w.heap.size w w11) := ⟨(by rw [hw]; exact (tB2 HB.out GE258.out GE260.out))⟩; clear hw; clear HO_3; clear HO_7; clear HO_259000; clear HL259_2; clear BK258; clear BK260; clear HB; have HO_3 := n0_; have HO_7 := n1_; have HO_259000 := n2_; have HL259_2 := n3_; have BK258 := n4_; have BK260 := n5_; have HB := n6_; clear n0_ n1_ n2_ n3_ n4_ n5_ n6_; have hcz12_0 : w11.cell? ⟨gb260, 0, none⟩ = some (.int .i64 ((rd_T51 l0_0 x9_1).f0)) := (blk_cell BK260.out 0).trans rfl; have hcz12_1 : w11.cell? ⟨gb260, 1, none⟩ = some (.int .i64 ((rd_T51 l0_0 x9_1).f1)) := (blk_cell BK260.out 1).trans rfl; have hcz12_2 : w11.cell? ⟨gb260, 2, none⟩ = some (.slice A259_2 ((rd_T51 l0_0 x9_1).f2).length c259_2) := (blk_cell BK260.out 2).trans rfl; have hfz12_0 := blk_frozen BK260.out 0; have hfz12_1 := blk_frozen BK260.out 1; have hfz12_2 := blk_frozen BK260.out 2) | ((with_reducible refine gate_builtin (b := .append) (xs := #[.tmp 13, .tmp 21]) rfl ?_); at_builtin; refine Kd.N_append k104 (w0 := w) w.heap.size rfl (.tmp 13) (.tmp 21) 42 104 (.agg #[(.int .i64 0), (.int .i64 0), (.slice none 0 0)]) 40 rfl Try.underlying42 info104 rfl (by decide) (by omega) u3 x3_1 (⟨(rd_T51 l0_0 x9_1).f0, (rd_T51 l0_0 x9_1).f1, (rd_T51 l0_0 x9_1).f2⟩ : S104) [.int .i64 ((rd_T51 l0_0 x9_1).f0), .int .i64 ((rd_T51 l0_0 x9_1).f1), .slice A259_2 ((rd_T51 l0_0 x9_1).f2).length c259_2] (fun k_ => (P0_0_ k_ ∨ w.heap.size ≤ k_) ∧ k_ ≠ gb258 ∧ k_ ≠ gb260) (fun k_ => ((fun k_ => (P0_0_ k_ ∨ w.heap.size ≤ k_) ∧ k_ ≠ gb258 ∧ k_ ≠ gb260)) k_ ∧ some k_ ≠ (u3 : Value).ownBlock) rfl rfl ?aP (fun _ hk => hk) ?aF ?aO ?aB ?aS ?aL ?_; (case aP => exact (k104_mkF _ _ (⟨(rd_T51 l0_0 x9_1).f0, (rd_T51 l0_0 x9_1).f1, (rd_T51 l0_0 x9_1).f2⟩ : S104) (Kd.V_reads' (Kd.V_mono (ok' := (fun k_ => ((fun k_ => (P0_0_ k_ ∨ w.heap.size ≤ k_) ∧ k_ ≠ gb258 ∧ k_ ≠ gb260)) k_ ∧ some k_ ≠ (u3 : Value).ownBlock)) (HL259_2.out) (fun k_ hk => ⟨⟨hk.1, ⟨hk.2.2.1, hk.2.2.2⟩⟩, hk.2.1⟩))).2.1 (Kd.V_F (Kd.V_mono (ok' := (fun k_ => ((fun k_ => (P0_0_ k_ ∨ w.heap.size ≤ k_) ∧ k_ ≠ gb258 ∧ k_ ≠ gb260)) k_ ∧ some k_ ≠ (u3 : Value).ownBlock)) (HL259_2.out) (fun k_ hk => ⟨⟨hk.1, ⟨hk.2.2.1, hk.2.2.2⟩⟩, hk.2.1⟩))))); (case aB => exact (tB2 HB.out GE258.out GE260.out)); (case aF => exact (fun k_ hk => ⟨(.inr (Nat.le_trans (below_size (tB2 HB.out GE258.out GE260.out)) hk)), Kd.freshB (g := gb258) (o := .cells #[.slice (some ad259) l0_0.length c0_0, .slice A0_1 l0_1.length c0_1] 31 (0, 0)) (tK BK258.out) k_ hk, Kd.freshB (g := gb260) (o := .cells #[.int .i64 ((rd_T51 l0_0 x9_1).f0), .int .i64 ((rd_T51 l0_0 x9_1).f1), .slice A259_2 ((rd_T51 l0_0 x9_1).f2).length c259_2] 51 (0, 0)) (tK BK260.out) k_ hk⟩)); (case aO => exact (by (with_reducible repeat (first | apply Kd.N_alloc | apply Kd.N_drewN | apply Kd.N_drew)); exact HO_3.out)); (case aS => exact (below_size (tB2 HB.out GE258.out GE260.out))); (case aL => have := LMc7.out; omega); intro v262 w13 ho hb hg hat; rw [← Ny261.out] at ho; have n0_ := Aside0.mk (Kd.V_afterv (ok := (fun k_ => (P0_0_ k_ ∨ w.heap.size ≤ k_) ∧ k_ ≠ gb258 ∧ k_ ≠ gb260)) (by (with_reducible repeat (first | apply Kd.V_alloc | apply Kd.V_drewN | apply Kd.V_drew)); exact Kd.V_mono HO_7.out (fun _ hk => ⟨⟨hk.1, ⟨hk.2.2.1, hk.2.2.2⟩⟩, hk.2.1⟩)) hg hat); have n1_ := Aside0.mk (Kd.V_afterv (ok := (fun k_ => (P0_0_ k_ ∨ w.heap.size ≤ k_) ∧ k_ ≠ gb258 ∧ k_ ≠ gb260)) (by (with_reducible repeat (first | apply Kd.V_alloc | apply Kd.V_drewN | apply Kd.V_drew)); exact Kd.V_mono HO_259000.out (fun _ hk => ⟨⟨hk.1, ⟨hk.2.2.1, hk.2.2.2⟩⟩, hk.2.1⟩)) hg hat); have n2_ := Aside0.mk (blk_grown (g := gb258) (o := .cells #[.slice (some ad259) l0_0.length c0_0, .slice A0_1 l0_1.length c0_1] 31 (0, 0)) (tK BK258.out) hg (Kd.N_ne HO_3.out BK258.out (by decide))); have n3_ := Aside0.mk (Kd.V_afterv (ok := (fun k_ => (P0_0_ k_ ∨ w.heap.size ≤ k_) ∧ k_ ≠ gb258 ∧ k_ ≠ gb260)) (by (with_reducible repeat (first | apply Kd.V_alloc | apply Kd.V_drewN | apply Kd.V_drew)); exact Kd.V_mono HL259_2.out (fun _ hk => ⟨⟨hk.1, ⟨hk.2.2.1, hk.2.2.2⟩⟩, hk.2.1⟩)) hg hat); have n4_ := Aside0.mk (blk_grown (g := gb260) (o := .cells #[.int .i64 ((rd_T51 l0_0 x9_1).f0), .int .i64 ((rd_T51 l0_0 x9_1).f1), .slice A259_2 ((rd_T51 l0_0 x9_1).f2).length c259_2] 51 (0, 0)) (tK BK260.out) hg (Kd.N_ne HO_3.out BK260.out (by decide))); have n5_ := Aside0.mk (hb); have n6_ := Aside0.mk (ho); clear HO_7; clear HO_259000; clear BK258; clear HL259_2; clear BK260; clear HB; clear HO_3; have HO_7 := n0_; have HO_259000 := n1_; have BK258 := n2_; have HL259_2 := n3_; have BK260 := n4_; have HB := n5_; have HO263 := n6_; clear n0_ n1_ n2_ n3_ n4_ n5_ n6_; clear ho hb hg hat))
   go_roundg k1
   case measure => have := HK1.out; omega
   case rel => exact ⟨(y261), (wrap64 (x9_1 + 1)), (by first | rfl | (simp; done) | (simp [*]; done)), H', ⟨by have := HK1.out; omega⟩, ⟨by (with_reducible repeat (first | apply Kd.N_alloc | apply Kd.N_drewN | apply Kd.N_drew)); exact Kd.N_mono HO263.out (fun _ hk => ⟨hk.1, hk.2.1⟩)⟩, ⟨by (with_reducible repeat (first | apply Kd.V_alloc | apply Kd.V_drewN | apply Kd.V_drew)); exact Kd.V_mono HO_7.out (fun _ hk => ⟨hk.1.1, ⟨hk.2, hk.1.2.1⟩⟩)⟩, ⟨by (with_reducible repeat (first | apply Kd.V_alloc | apply Kd.V_drewN | apply Kd.V_drew)); exact Kd.V_mono HO_259000.out (fun _ hk => ⟨hk.1.1, ⟨hk.2, hk.1.2.1⟩⟩)⟩, ⟨tK BK258.out⟩, ⟨tB2 HB.out GE258.out GE260.out⟩⟩
end Go.Proofs.Ytihmfdndiicjgaa.C
