import Derived.Test.YtihmfdndiicjgaaZn
import Derived.Outline
import Derived.RegionTactic
namespace Go.Proofs.Ytihmfdndiicjgaa.C
open Go.RowKit Go.Proofs.YtihmfdndiicjgaaW.PrintWords Go.Proofs.YtihmfdndiicjgaaW.PrintLast Go.Proofs.YtihmfdndiicjgaaW.PrintMore Go.Proofs.HMap Go.Proofs.HLaws
attribute [local go_sem] max2_int min2_int max_two min_two max_three min_three max_four min_four   -- for this text's walks alone
set_option linter.unusedVariables false
set_option linter.unusedSimpArgs false
structure HeldP_ (P : Prop) : Prop where
 out : P
theorem cutP_ {P G : Prop} (h : HeldP_ P → G) (p : P) : G := h ⟨p⟩
theorem cfg_Build.info51 : (Try.prog.info? 51).map (fun i => (i.zero, i.size, i.bytes)) = some (some (.agg #[(.int .i64 0), (.int .i64 0), (.slice none 0 0)]), 3, 40) := by kernel_rfl
theorem succ_wf_rd {a b c d e pc : Int} {ss : List Int} (h : cfg_successors.f a b c d e pc = some ss) (i : Int) (h0 : 0 ≤ i) (h1 : i < ss.length) : (Lit.int .i64 (rd ss i)).wf = true := by
 refine cfg_explore.succ_wf a b c d e pc ss h _ ?_
 unfold rd
 rw [List.getD_eq_getElem?_getD, List.getElem?_eq_getElem (by omega)]
 exact List.getElem_mem _
theorem num_eq {bl bl2 : List S51} {x t : Int} (hf : numOf bl = numOf bl2) (h : xb_num.f bl x = some t) : numOf bl2 x = t := by
 rw [← hf]; exact oI h
theorem numOf_set' (l : List S51) (i : Int) (h0 : 0 ≤ i) (h1 : i < l.length) (b : S51) (hb : b.f0 = (rd_T51 l i).f0) : numOf (l.set i.toNat b) = numOf l := by
 refine numOf_set l i.toNat b (fun c hc => ?_)
 rw [hb]
 unfold rd_T51
 rw [List.getD_eq_getElem?_getD, hc]
 rfl
theorem NumObj.snoc {b : Nat} {om : Obj} {m : Nat} {l : List S51} {x : Int} (h : NumObj b om m (fun z => if z = x then (l.length : Int) else numOf l z)) : NumObj b om m (numOf (l ++ [(⟨x, 0, ([] : List Int)⟩ : S51)])) := by
 have e : numOf (l ++ [(⟨x, 0, ([] : List Int)⟩ : S51)]) = fun z => if z = x then (l.length : Int) else numOf l z := by
  funext z; rw [numOf_snoc]
 rw [e]; exact h
mutual
def cfg_Build.j0 : Nat → Int → Bool → List Int → List (S39) → Int → Int → Option ((List (S51)) × (List (List Int)) × Int × Int)
 | 0, _, _, _, _, _, _ => none
 | k + 1, x1, x30, x170000, x170001, x170002, x170003 => if x30 = true then (some (([] : List (S51)), ([] : List (List Int)), (-1), 2)) else (if 0 ≤ x1 then (if x1 < (x170001.length : Int) then ((xb_explored.f k x170000 ((rd_T39 x170001 x1).f1) ((rd_T39 x170001 x1).f2)).bind fun t173 => (cfg_Build.l0 k ((rd_T39 x170001 x1).f1) ((rd_T39 x170001 x1).f1) ((rd_T39 x170001 x1).f2) x170000 ([] : List (S51)))) else (none)) else (none))
def cfg_Build.l0 : Nat → Int → Int → Int → List Int → List (S51) → Option ((List (S51)) × (List (List Int)) × Int × Int)
 | 0, _, _, _, _, _ => none
 | k + 1, x10, x500, x501, x502, x175000 => if x10 < x501 then ((xb_reach.f k x502 x500 x501 x10).bind fun t175 => (if t175 = true then ((xb_at.f x502 x10).bind fun bt176 => ((cfg_successors.f bt176.1 bt176.2.1 bt176.2.2.1 bt176.2.2.2.1 bt176.2.2.2.2 x10).bind fun t181 => (cfg_Build.l1 k x10 t181 (t181.length : Int) 0 x500 x501 x502 x175000))) else (cfg_Build.l0 k (wrap64 (x10 + 1)) x500 x501 x502 x175000))) else (if 0 ≤ (x175000.length : Int) then (if ((x175000.length : Int) : Int).toNat ≤ 11728124029610 then (cfg_Build.l2 k (x175000.length : Int) 0 x502 x175000 (List.replicate ((x175000.length : Int) : Int).toNat [])) else (none)) else (none))
def cfg_Build.l1 : Nat → Int → List Int → Int → Int → Int → Int → List Int → List (S51) → Option ((List (S51)) × (List (List Int)) × Int × Int)
 | 0, _, _, _, _, _, _, _, _ => none
 | k + 1, x10, x71, x72, x73, x500, x501, x502, x175000 => if x73 < x72 then (if 0 ≤ x73 then (if x73 < (x71.length : Int) then (if (rd x71 x73) < x500 then (some (([] : List (S51)), ([] : List (List Int)), x10, 10)) else (if (rd x71 x73) ≥ x501 then (some (([] : List (S51)), ([] : List (List Int)), x10, 10)) else (cfg_Build.l1 k x10 x71 x72 (wrap64 (x73 + 1)) x500 x501 x502 x175000))) else (none)) else (none)) else ((xb_lead.f k x502 x500 x501 x10).bind fun t185 => (if t185 = true then (if x175000.length < 3518437208883 then ((some (x175000 ++ [(⟨x10, 0, ([] : List Int)⟩ : S51)] : List (S51))).bind fun y186 => (if 0 ≤ (wrap64 ((y186.length : Int) - 1)) then (if (wrap64 ((y186.length : Int) - 1)) < (y186.length : Int) then (cfg_Build.l0 k (wrap64 (x10 + 1)) x500 x501 x502 (y186.set ((wrap64 ((y186.length : Int) - 1)) : Int).toNat (⟨(rd_T51 y186 (wrap64 ((y186.length : Int) - 1))).f0, wrap64 (x10 + 1), (rd_T51 y186 (wrap64 ((y186.length : Int) - 1))).f2⟩ : S51))) else (none)) else (none))) else (none)) else (if 0 ≤ (wrap64 ((x175000.length : Int) - 1)) then (if (wrap64 ((x175000.length : Int) - 1)) < (x175000.length : Int) then (cfg_Build.l0 k (wrap64 (x10 + 1)) x500 x501 x502 (x175000.set ((wrap64 ((x175000.length : Int) - 1)) : Int).toNat (⟨(rd_T51 x175000 (wrap64 ((x175000.length : Int) - 1))).f0, wrap64 (x10 + 1), (rd_T51 x175000 (wrap64 ((x175000.length : Int) - 1))).f2⟩ : S51))) else (none)) else (none))))
def cfg_Build.l2 : Nat → Int → Int → List Int → List (S51) → List (List Int) → Option ((List (S51)) × (List (List Int)) × Int × Int)
 | 0, _, _, _, _, _ => none
 | k + 1, x131, x132, x502, x175000, x175001 => if x132 < x131 then (if 0 ≤ x132 then (if x132 < (x175000.length : Int) then ((xb_at.f x502 (wrap64 (((rd_T51 x175000 x132).f1) - 1))).bind fun bt195 => ((cfg_successors.f bt195.1 bt195.2.1 bt195.2.2.1 bt195.2.2.2.1 bt195.2.2.2.2 (wrap64 (((rd_T51 x175000 x132).f1) - 1))).bind fun t200 => (cfg_Build.l3 k x132 x131 x132 t200 (t200.length : Int) 0 x502 x175000 x175001))) else (none)) else (none)) else (some (x175000, x175001, (-1), 0))
def cfg_Build.l3 : Nat → Int → Int → Int → List Int → Int → Int → List Int → List (S51) → List (List Int) → Option ((List (S51)) × (List (List Int)) × Int × Int)
 | 0, _, _, _, _, _, _, _, _, _ => none
 | k + 1, x13, x131, x132, x146, x147, x148, x502, x175000, x175001 => if x148 < x147 then (if 0 ≤ x148 then (if x148 < (x146.length : Int) then ((xb_num.f x175000 (rd x146 x148)).bind fun t204 => (if 0 ≤ x13 then (if x13 < (x175000.length : Int) then ((slices_Contains_int_int.f k ((rd_T51 x175000 x13).f2) t204).bind fun t206 => (if t206 = true then (cfg_Build.l3 k x13 x131 x132 x146 x147 (wrap64 (x148 + 1)) x502 x175000 x175001) else (if ((rd_T51 x175000 x13).f2).length < 17592186044416 then (if 0 ≤ t204 then (if t204 < (x175001.length : Int) then (if (rd_LL x175001 t204).length < 17592186044416 then (cfg_Build.l3 k x13 x131 x132 x146 x147 (wrap64 (x148 + 1)) x502 (x175000.set (x13 : Int).toNat (⟨(rd_T51 x175000 x13).f0, (rd_T51 x175000 x13).f1, (((rd_T51 x175000 x13).f2) ++ [t204])⟩ : S51)) (x175001.set (t204 : Int).toNat ((rd_LL x175001 t204) ++ [x13]))) else (none)) else (none)) else (none)) else (none)))) else (none)) else (none))) else (none)) else (none)) else (cfg_Build.l2 k x131 (wrap64 (x132 + 1)) x502 x175000 x175001)
end
def cfg_Build.f (k : Nat) (l0_0 : List Int) (l0_1 : List (S39)) (a0_2 : Int) (a0_3 : Int) (a1 : Int) : Option ((List (S51)) × (List (List Int)) × Int × Int) := (linker_Check.f k l0_0 l0_1 a0_2 a0_3).bind fun t171 => (if t171 = 0 then (if a1 < 0 then (cfg_Build.j0 k a1 true l0_0 l0_1 a0_2 a0_3) else (cfg_Build.j0 k a1 (decide (a1 ≥ (l0_1.length : Int))) l0_0 l0_1 a0_2 a0_3)) else (some (([] : List (S51)), ([] : List (List Int)), (-1), 3)))
theorem cfg_Build.mono_l : ∀ k, (∀ y0 y1 y2 y3 y4 y5, LeO (cfg_Build.j0 k y0 y1 y2 y3 y4 y5) (cfg_Build.j0 (k + 1) y0 y1 y2 y3 y4 y5)) ∧ (∀ y0 y1 y2 y3 y4, LeO (cfg_Build.l0 k y0 y1 y2 y3 y4) (cfg_Build.l0 (k + 1) y0 y1 y2 y3 y4)) ∧ (∀ y0 y1 y2 y3 y4 y5 y6 y7, LeO (cfg_Build.l1 k y0 y1 y2 y3 y4 y5 y6 y7) (cfg_Build.l1 (k + 1) y0 y1 y2 y3 y4 y5 y6 y7)) ∧ (∀ y0 y1 y2 y3 y4, LeO (cfg_Build.l2 k y0 y1 y2 y3 y4) (cfg_Build.l2 (k + 1) y0 y1 y2 y3 y4)) ∧ (∀ y0 y1 y2 y3 y4 y5 y6 y7 y8, LeO (cfg_Build.l3 k y0 y1 y2 y3 y4 y5 y6 y7 y8) (cfg_Build.l3 (k + 1) y0 y1 y2 y3 y4 y5 y6 y7 y8))
 | 0 => ⟨fun _ _ _ _ _ _ r h => by simp [cfg_Build.j0] at h, fun _ _ _ _ _ r h => by simp [cfg_Build.l0] at h, fun _ _ _ _ _ _ _ _ r h => by simp [cfg_Build.l1] at h, fun _ _ _ _ _ r h => by simp [cfg_Build.l2] at h, fun _ _ _ _ _ _ _ _ _ r h => by simp [cfg_Build.l3] at h⟩
 | k + 1 => by
  obtain ⟨ih0, ih1, ih2, ih3, ih4⟩ := cfg_Build.mono_l k
  refine ⟨?_, ?_, ?_, ?_, ?_⟩
  all_goals intros
  all_goals (first | unfold cfg_Build.j0 | unfold cfg_Build.l0 | unfold cfg_Build.l1 | unfold cfg_Build.l2 | unfold cfg_Build.l3)
  all_goals repeat' first
  | (with_reducible exact ih0 _ _ _ _ _ _)
  | (with_reducible exact ih1 _ _ _ _ _)
  | (with_reducible exact ih2 _ _ _ _ _ _ _ _)
  | (with_reducible exact ih3 _ _ _ _ _)
  | (with_reducible exact ih4 _ _ _ _ _ _ _ _ _)
  | (with_reducible exact linker_Check.mono _ _ _ _ _)
  | (with_reducible exact slices_Contains_int_int.mono _ _ _)
  | (with_reducible exact xb_explored.mono _ _ _ _)
  | (with_reducible exact xb_lead.mono _ _ _ _ _)
  | (with_reducible exact xb_reach.mono _ _ _ _ _)
  | (with_reducible exact LeO.refl _)
  | (with_reducible exact LeO.none _)
  | (with_reducible refine LeO.ite ?_ ?_)
  | (with_reducible refine LeO.bind ?_ (fun _ => ?_))
  | exact ih0 _ _ _ _ _ _
  | exact ih1 _ _ _ _ _
  | exact ih2 _ _ _ _ _ _ _ _
  | exact ih3 _ _ _ _ _
  | exact ih4 _ _ _ _ _ _ _ _ _
  | exact linker_Check.mono _ _ _ _ _
  | exact slices_Contains_int_int.mono _ _ _
  | exact xb_explored.mono _ _ _ _
  | exact xb_lead.mono _ _ _ _ _
  | exact xb_reach.mono _ _ _ _ _
  | exact LeO.none _
  | refine LeO.ite ?_ ?_
  | refine LeO.bind ?_ (fun _ => ?_)
theorem cfg_Build.mono : ∀ a0 a1 a2 a3 a4 k, LeO (cfg_Build.f k a0 a1 a2 a3 a4) (cfg_Build.f (k + 1) a0 a1 a2 a3 a4) := by
 intro a0 a1 a2 a3 a4 k
 obtain ⟨ih0, ih1, ih2, ih3, ih4⟩ := cfg_Build.mono_l k
 unfold cfg_Build.f
 repeat' first
   | (with_reducible exact ih0 _ _ _ _ _ _)
   | (with_reducible exact ih1 _ _ _ _ _)
   | (with_reducible exact ih2 _ _ _ _ _ _ _ _)
   | (with_reducible exact ih3 _ _ _ _ _)
   | (with_reducible exact ih4 _ _ _ _ _ _ _ _ _)
   | (with_reducible exact linker_Check.mono _ _ _ _ _)
   | (with_reducible exact slices_Contains_int_int.mono _ _ _)
   | (with_reducible exact xb_explored.mono _ _ _ _)
   | (with_reducible exact xb_lead.mono _ _ _ _ _)
   | (with_reducible exact xb_reach.mono _ _ _ _ _)
   | (with_reducible exact LeO.refl _)
   | (with_reducible exact LeO.none _)
   | (with_reducible refine LeO.ite ?_ ?_)
   | (with_reducible refine LeO.bind ?_ (fun _ => ?_))
   | exact ih0 _ _ _ _ _ _
   | exact ih1 _ _ _ _ _
   | exact ih2 _ _ _ _ _ _ _ _
   | exact ih3 _ _ _ _ _
   | exact ih4 _ _ _ _ _ _ _ _ _
   | exact linker_Check.mono _ _ _ _ _
   | exact slices_Contains_int_int.mono _ _ _
   | exact xb_explored.mono _ _ _ _
   | exact xb_lead.mono _ _ _ _ _
   | exact xb_reach.mono _ _ _ _ _
   | exact LeO.none _
   | refine LeO.ite ?_ ?_
   | refine LeO.bind ?_ (fun _ => ?_)
def cfg_Build.T33 : Bool × List (List Nat × List Nat) := (true, [([], []), ([0], [0]), ([], []), ([], []), ([3], [3]), ([], []), ([4, 5], [4, 5]), ([6], [6]), ([7], [7]), ([], []), ([9], [9]), ([8, 10], [8, 10]), ([1, 2, 0, 1, 2, 3, 4, 5, 6, 7, 8, 9, 10, 11], [1, 2]), ([12, 0, 1, 2, 3, 4, 5, 6, 7, 8, 9, 10, 11], [12]), ([13, 11, 11, 0, 1, 2, 3, 4, 5, 6, 7, 8, 9, 10, 11], [11, 13])])
def cfg_Build.B33 : List Nat := [0, 1, 0, 0, 8, 0, 56, 120, 248, 0, 512, 2040, 4095, 8191, 16383]
theorem cfg_Build.tab33 : rtab .any (opsOf Try.f12 33) = cfg_Build.T33 := by kernel_rfl
theorem cfg_Build.bits33 : waitsOk cfg_Build.T33.2 cfg_Build.B33 = true := by kernel_rfl
def cfg_Build.T34 : Bool × List (List Nat × List Nat) := (true, [([], []), ([0], [0]), ([], []), ([], []), ([3], [3]), ([], []), ([4, 5], [4, 5]), ([6], [6]), ([], []), ([8], [8]), ([7, 9], [7, 9]), ([1, 2, 0, 1, 2, 3, 4, 5, 6, 7, 8, 9, 10], [1, 2]), ([11, 10, 10, 0, 1, 2, 3, 4, 5, 6, 7, 8, 9, 10], [10, 11])])
def cfg_Build.B34 : List Nat := [0, 1, 0, 0, 8, 0, 56, 120, 0, 256, 1016, 2047, 4095]
theorem cfg_Build.tab34 : rtab .any (opsOf Try.f12 34) = cfg_Build.T34 := by kernel_rfl
theorem cfg_Build.bits34 : waitsOk cfg_Build.T34.2 cfg_Build.B34 = true := by kernel_rfl
set_option maxHeartbeats 8000000 in
set_option maxRecDepth 100000 in
theorem cfg_Build.calls (k : Nat) (A0_0 : Option Addr) (c0_0 : Nat) (l0_0 : List Int) (A0_1 : Option Addr) (c0_1 : Nat) (l0_1 : List (S39)) (a0_2 : Int) (a0_3 : Int) (a1 : Int) (r1 : List (S51)) (r2 : List (List Int)) (r3 : Int) (r4 : Int) (w : World) (hr0_0 : Kd.C (Kd.int .u32) w A0_0 l0_0.length l0_0) (hc0_0 : l0_0.length ≤ c0_0) (hr0_1 : Kd.C k39 w A0_1 l0_1.length l0_1) (hc0_1 : l0_1.length ≤ c0_1) (h : cfg_Build.f k l0_0 l0_1 a0_2 a0_3 a1 = some (r1, r2, r3, r4)) :
  Calls Try.prog 12 #[.agg #[.slice A0_0 l0_0.length c0_0, .slice A0_1 l0_1.length c0_1, .int .i64 a0_2, .int .i64 a0_3], .int .i64 a1] w fun e w' => ∃ v0_ v1_ : Value, e = .returned (.tuple #[.agg #[v0_, v1_], .int .i64 r3, .int .i64 r4]) ∧ Kd.S k51 51 w' w.heap.size (fun _ => True) v0_ r1 ∧ Kd.S (Kd.slice 3 (Kd.int .i64)) 49 w' w.heap.size (fun _ => True) v1_ r2 ∧ Below w.heap.size w w' := by
 have hu25 := Try.underlying25
 have hu31 := Try.underlying31
 have hu39 := Try.underlying39
 have hu51 := Try.underlying51
 have HR0_0 := aK hr0_0
 have HC0_0 := aK hc0_0
 clear hr0_0 hc0_0
 have HR0_1 := aK hr0_1
 have HC0_1 := aK hc0_1
 clear hr0_1 hc0_1
 have HB := aK (Below.refl w.heap.size w)
 have H : ((linker_Check.f k l0_0 l0_1 a0_2 a0_3).bind fun t171 => (if t171 = 0 then (if a1 < 0 then (cfg_Build.j0 k a1 true l0_0 l0_1 a0_2 a0_3) else (cfg_Build.j0 k a1 (decide (a1 ≥ (l0_1.length : Int))) l0_0 l0_1 a0_2 a0_3)) else (some (([] : List (S51)), ([] : List (List Int)), (-1), 3)))) = some (r1, r2, r3, r4) := h
 clear h
 replace H := bM H
 obtain ⟨t171, A30, H⟩ := H
 (try dsimp only at H)
 have A3 := aK A30
 clear A30
 by_cases c4 : t171 = 0
 rotate_left
 ·rw [if_neg c4] at H
  have c4b0 : (t171 == 0) = false := beq_eq_false_iff_ne.mpr c4
  have c4b1 : (t171 != 0) = true := bne_iff_ne.mpr c4
  simp only [Option.some.injEq, Prod.mk.injEq] at H
  obtain ⟨rfl, rfl, rfl, rfl⟩ := H
  go_enter Try.func12, Try.ntmps12
  go_wp2_with (first | ((refine gate_dst (N := 2) rfl ?_); (try (refine gate_guard (by rfl) ?_; dsimp only)); refine box_event ?hg (N := 2) ?hd (cs := #[.slice A0_0 l0_0.length c0_0, .slice A0_1 l0_1.length c0_1, .int .i64 a0_2, .int .i64 a0_3]) (t := 25) ?hr ?_; (case hd => rfl); (case hg => rfl); (case hr => first | (go_simp; done) | (go_simp; rfl)); intro gb169 hg w135 hbox hb; have BK169 := aK (hbox); have GW169 := aK ((by rw [hg]; exact (below_size (tB0 HB.out)) : w.heap.size ≤ gb169)); have GE169 := GW169; replace HB := aK (below_step (tB0 HB.out) hb); clear hb hbox hg) | ((refine gate_dst (N := 4) rfl ?_); (try (refine gate_guard (by rfl) ?_; dsimp only)); refine box_event ?hg (N := 4) ?hd (cs := #[.slice none 0 0, .slice none 0 0]) (t := 31) ?hr ?_; (case hd => rfl); (case hg => rfl); (case hr => first | (go_simp; done) | (go_simp; rfl)); intro gb170 hg w136 hbox hb; have BK170 := aK (hbox); have GW170 := aK ((by rw [hg]; exact (below_size (tB1 HB.out GE169.out)) : w.heap.size ≤ gb170)); have GE170 := GW170; replace HB := aK (below_step (tB1 HB.out GE169.out) hb); have NB169_170 := aK ((by rw [hg]; exact Nat.ne_of_lt (blk_lt (g := gb169) (o := .cells #[.slice A0_0 l0_0.length c0_0, .slice A0_1 l0_1.length c0_1, .int .i64 a0_2, .int .i64 a0_3] 25 (0, 0)) (tK BK169.out)) : gb169 ≠ gb170)); have NB170_169 := aK ((by rw [hg]; exact Nat.ne_of_gt (blk_lt (g := gb169) (o := .cells #[.slice A0_0 l0_0.length c0_0, .slice A0_1 l0_1.length c0_1, .int .i64 a0_2, .int .i64 a0_3] 25 (0, 0)) (tK BK169.out)) : gb170 ≠ gb169)); replace BK169 := aK (blk_below (g := gb169) (tK BK169.out) hb); clear hb hbox hg; have hnb137 := NB169_170.out; have hnc137 := NB170_169.out; have hcz138_0 := bc 0 BK169.out; have hcz138_1 := bc 1 BK169.out; have hcz138_2 := bc 2 BK169.out; have hcz138_3 := bc 3 BK169.out; have hfz138_0 := blk_frozen BK169.out 0; have hfz138_1 := blk_frozen BK169.out 1; have hfz138_2 := blk_frozen BK169.out 2; have hfz138_3 := blk_frozen BK169.out 3) | ((refine gate_callee (f := 13) rfl ?_); refine goesL_ (some 19) rfl rfl Try.func13 (by kernel_rfl) rfl #[.agg #[.slice A0_0 l0_0.length c0_0, .slice A0_1 l0_1.length c0_1, .int .i64 a0_2, .int .i64 a0_3]] rfl tF ?_; (with_reducible refine (linker_Check.calls k _ _ l0_0 _ _ l0_1 a0_2 a0_3 t171 _ ?side1 ?side2 ?side3 ?side4 A3.out).mono ?_); (case side1 => exact tC (Kd.C_below HR0_0.out HB.out)); (case side2 => exact HC0_0.out); (case side3 => exact tC (Kd.C_below HR0_1.out HB.out)); (case side4 => exact HC0_1.out); rintro e w139 ⟨rfl, hb⟩; refine ⟨_, rfl, ?_⟩; replace BK169 := aK (blk_below (g := gb169) (tK BK169.out) hb); replace BK170 := aK (blk_below (g := gb170) (tK BK170.out) hb); replace HB := aK (below_step (tB2 HB.out GE169.out GE170.out) hb); have hcz140_0 := bc 0 BK170.out; have hcz140_1 := bc 1 BK170.out; have hfz140_0 := blk_frozen BK170.out 0; have hfz140_1 := blk_frozen BK170.out 1))
  refine bodyPost_ret (results_ctt rfl _ _ gb170 31 #[.slice none 0 0, .slice none 0 0] (0, 0) _ rfl (by refine tK ?_; refine blk_put (cs := #[.slice none 0 0, .slice none 0 0]) ?_ 1 _ rfl; refine tK ?_; refine blk_put (cs := #[.slice none 0 0, .slice none 0 0]) ?_ 0 _ rfl; refine tK ?_; exact BK170.out) Try.underlying31 rfl (by kernel_rfl)) rfl ?_
  exact ⟨_, _, by first | rfl | (simp [errW_none, errW_some] <;> rfl) | (simp [*, errW_none, errW_some] <;> rfl), by first | exact Kd.S_nil _ _ _ _ _ | exact Kd.N_nil _ _ _ _ _ | exact Kd.V_nil _ _ _ _ _ | exact Kd.Q_nil _ _ _ _ _ | exact Kd.R_nil _ _ _ _ _, by first | exact Kd.S_nil _ _ _ _ _ | exact Kd.N_nil _ _ _ _ _ | exact Kd.V_nil _ _ _ _ _ | exact Kd.Q_nil _ _ _ _ _ | exact Kd.R_nil _ _ _ _ _, by repeat (first | (with_reducible first | exact HB.out | apply below_alloc | apply pw_below_drewN | apply below_drew1 | refine below_set ?_ GE169.out | refine below_set ?_ GE170.out) | exact HB.out)⟩
 rw [if_pos c4] at H
 have c4b0 : (t171 == 0) = true := beq_iff_eq.mpr c4
 have c4b1 : (t171 != 0) = false := bne_eq_false_iff_eq.mpr c4
 clear c4
 have HC5 := aK H
 clear H
 go_enter Try.func12, Try.ntmps12
 go_upto_region 3 with (first | ((refine gate_dst (N := 2) rfl ?_); (try (refine gate_guard (by rfl) ?_; dsimp only)); refine box_event ?hg (N := 2) ?hd (cs := #[.slice A0_0 l0_0.length c0_0, .slice A0_1 l0_1.length c0_1, .int .i64 a0_2, .int .i64 a0_3]) (t := 25) ?hr ?_; (case hd => rfl); (case hg => rfl); (case hr => first | (go_simp; done) | (go_simp; rfl)); intro gb169 hg w6 hbox hb; have BK169 := aK (hbox); have GW169 := aK ((by rw [hg]; exact (below_size (tB0 HB.out)) : w.heap.size ≤ gb169)); have GE169 := GW169; replace HB := aK (below_step (tB0 HB.out) hb); clear hb hbox hg) | ((refine gate_dst (N := 4) rfl ?_); (try (refine gate_guard (by rfl) ?_; dsimp only)); refine box_event ?hg (N := 4) ?hd (cs := #[.slice none 0 0, .slice none 0 0]) (t := 31) ?hr ?_; (case hd => rfl); (case hg => rfl); (case hr => first | (go_simp; done) | (go_simp; rfl)); intro gb170 hg w7 hbox hb; have BK170 := aK (hbox); have GW170 := aK ((by rw [hg]; exact (below_size (tB1 HB.out GE169.out)) : w.heap.size ≤ gb170)); have GE170 := GW170; replace HB := aK (below_step (tB1 HB.out GE169.out) hb); have NB169_170 := aK ((by rw [hg]; exact Nat.ne_of_lt (blk_lt (g := gb169) (o := .cells #[.slice A0_0 l0_0.length c0_0, .slice A0_1 l0_1.length c0_1, .int .i64 a0_2, .int .i64 a0_3] 25 (0, 0)) (tK BK169.out)) : gb169 ≠ gb170)); have NB170_169 := aK ((by rw [hg]; exact Nat.ne_of_gt (blk_lt (g := gb169) (o := .cells #[.slice A0_0 l0_0.length c0_0, .slice A0_1 l0_1.length c0_1, .int .i64 a0_2, .int .i64 a0_3] 25 (0, 0)) (tK BK169.out)) : gb170 ≠ gb169)); replace BK169 := aK (blk_below (g := gb169) (tK BK169.out) hb); clear hb hbox hg; have hnb8 := NB169_170.out; have hnc8 := NB170_169.out; have hcz9_0 := bc 0 BK169.out; have hcz9_1 := bc 1 BK169.out; have hcz9_2 := bc 2 BK169.out; have hcz9_3 := bc 3 BK169.out; have hfz9_0 := blk_frozen BK169.out 0; have hfz9_1 := blk_frozen BK169.out 1; have hfz9_2 := blk_frozen BK169.out 2; have hfz9_3 := blk_frozen BK169.out 3) | ((refine gate_callee (f := 13) rfl ?_); refine goesL_ (some 19) rfl rfl Try.func13 (by kernel_rfl) rfl #[.agg #[.slice A0_0 l0_0.length c0_0, .slice A0_1 l0_1.length c0_1, .int .i64 a0_2, .int .i64 a0_3]] rfl tF ?_; (with_reducible refine (linker_Check.calls k _ _ l0_0 _ _ l0_1 a0_2 a0_3 t171 _ ?side1 ?side2 ?side3 ?side4 A3.out).mono ?_); (case side1 => exact tC (Kd.C_below HR0_0.out HB.out)); (case side2 => exact HC0_0.out); (case side3 => exact tC (Kd.C_below HR0_1.out HB.out)); (case side4 => exact HC0_1.out); rintro e w10 ⟨rfl, hb⟩; refine ⟨_, rfl, ?_⟩; replace BK169 := aK (blk_below (g := gb169) (tK BK169.out) hb); replace BK170 := aK (blk_below (g := gb170) (tK BK170.out) hb); replace HB := aK (below_step (tB2 HB.out GE169.out GE170.out) hb)))
 (try simp only [Act.put, pA, pB, pC])
 go_cut [30] (fun v30 wc => ∃ (kq : Nat) (x30_4 : Bool), v30 = .bool x30_4 ∧ Aside0 (cfg_Build.j0 kq a1 x30_4 l0_0 l0_1 a0_2 a0_3 = some (r1, r2, r3, r4)) ∧ Aside0 (kq ≤ k) ∧ Aside0 (wc.heap[gb169]? = some (.cells #[(.slice A0_0 l0_0.length c0_0), (.slice A0_1 l0_1.length c0_1), .int .i64 a0_2, .int .i64 a0_3] 25 (0, 0))) ∧ Aside0 (wc.heap[gb170]? = some (.cells #[(.slice none 0 0), (.slice none 0 0)] 31 (0, 0))) ∧ Aside0 (Below w.heap.size w wc))
 case first =>
  have H := HC5.out
  clear HC5
  by_cases c11 : a1 < 0
  ·rw [if_pos c11] at H
   have c11b0 : decide (a1 < 0) = true := decide_eq_true c11
   clear c11
   (first | rw [c11b0] | (simp only [i64_w, i32_w]; rw [c11b0]) | skip)
   have H' := aK H
   clear H
   go_wp2
   go_meet
   case rel => exact ⟨_, (true), (by first | rfl | (simp; done) | (simp [*]; done)), H', ⟨by first | omega | exact Nat.le_refl _⟩, ⟨tK BK169.out⟩, ⟨tK BK170.out⟩, ⟨tB2 HB.out GE169.out GE170.out⟩⟩
  rw [if_neg c11] at H
  have c11b0 : decide (a1 < 0) = false := decide_eq_false c11
  clear c11
  (first | rw [c11b0] | (simp only [i64_w, i32_w]; rw [c11b0]) | skip)
  have H' := aK H
  clear H
  have hnb12 := NB169_170.out
  have hnc12 := NB170_169.out
  have hcz13_0 := bc 0 BK169.out
  have hcz13_1 := bc 1 BK169.out
  have hcz13_2 := bc 2 BK169.out
  have hcz13_3 := bc 3 BK169.out
  have hfz13_0 := blk_frozen BK169.out 0
  have hfz13_1 := blk_frozen BK169.out 1
  have hfz13_2 := blk_frozen BK169.out 2
  have hfz13_3 := blk_frozen BK169.out 3
  go_wp2
  go_meet
  case rel => exact ⟨_, (decide (a1 ≥ (l0_1.length : Int))), (by first | rfl | (simp; done) | (simp [*]; done)), H', ⟨by first | omega | exact Nat.le_refl _⟩, ⟨tK BK169.out⟩, ⟨tK BK170.out⟩, ⟨tB2 HB.out GE169.out GE170.out⟩⟩
 clear HC5
 obtain ⟨kq, x30_4, rfl, HA, HJ4, BK169, BK170, HB⟩ := hcut
 cases kq with
 | zero => exact absurd HA.out (by simp [cfg_Build.j0])
 | succ kj4 =>
  have H := HA.out
  clear HA
  simp only [cfg_Build.j0] at H
  by_cases c14 : x30_4 = true
  ·subst c14
   rw [if_pos rfl] at H
   simp only [Option.some.injEq, Prod.mk.injEq] at H
   obtain ⟨rfl, rfl, rfl, rfl⟩ := H
   have hnb15 := NB170_169.out
   have hnc15 := NB169_170.out
   have hcz16_0 := bc 0 BK170.out
   have hcz16_1 := bc 1 BK170.out
   have hfz16_0 := blk_frozen BK170.out 0
   have hfz16_1 := blk_frozen BK170.out 1
   go_wp2
   refine bodyPost_ret (results_ctt rfl _ _ gb170 31 #[.slice none 0 0, .slice none 0 0] (0, 0) _ rfl (by refine tK ?_; refine blk_put (cs := #[.slice none 0 0, .slice none 0 0]) ?_ 1 _ rfl; refine tK ?_; refine blk_put (cs := #[.slice none 0 0, .slice none 0 0]) ?_ 0 _ rfl; refine tK ?_; exact BK170.out) Try.underlying31 rfl (by kernel_rfl)) rfl ?_
   exact ⟨_, _, by first | rfl | (simp [errW_none, errW_some] <;> rfl) | (simp [*, errW_none, errW_some] <;> rfl), by first | exact Kd.S_nil _ _ _ _ _ | exact Kd.N_nil _ _ _ _ _ | exact Kd.V_nil _ _ _ _ _ | exact Kd.Q_nil _ _ _ _ _ | exact Kd.R_nil _ _ _ _ _, by first | exact Kd.S_nil _ _ _ _ _ | exact Kd.N_nil _ _ _ _ _ | exact Kd.V_nil _ _ _ _ _ | exact Kd.Q_nil _ _ _ _ _ | exact Kd.R_nil _ _ _ _ _, by repeat (first | (with_reducible first | exact HB.out | apply below_alloc | apply pw_below_drewN | apply below_drew1 | refine below_set ?_ GE169.out | refine below_set ?_ GE170.out) | exact HB.out)⟩
  ·replace c14 := Bool.eq_false_iff.mpr c14
   subst c14
   rw [if_neg (show ¬ (false = true) by decide)] at H
   by_cases c17 : 0 ≤ a1
   rotate_left
   ·rw [if_neg c17] at H
    exact absurd H (by simp)
   rw [if_pos c17] at H
   have c17b0 : decide (0 ≤ a1) = true := decide_eq_true c17
   clear c17
   by_cases c18 : a1 < (l0_1.length : Int)
   rotate_left
   ·rw [if_neg c18] at H
    exact absurd H (by simp)
   rw [if_pos c18] at H
   have c18b0 : decide (a1 < (l0_1.length : Int)) = true := decide_eq_true c18
   clear c18
   replace H := bM H
   obtain ⟨t173, A190, H⟩ := H
   (try dsimp only at H)
   have A19 := aK A190
   clear A190
   have H' := aK H
   clear H
   have hnb20 := NB169_170.out
   have hnc20 := NB170_169.out
   have hcz21_0 := bc 0 BK169.out
   have hcz21_1 := bc 1 BK169.out
   have hcz21_2 := bc 2 BK169.out
   have hcz21_3 := bc 3 BK169.out
   have hfz21_0 := blk_frozen BK169.out 0
   have hfz21_1 := blk_frozen BK169.out 1
   have hfz21_2 := blk_frozen BK169.out 2
   have hfz21_3 := blk_frozen BK169.out 3
   have p172 : 0 ≤ (a1 : Int) := tD
   have q172 : a1 < (l0_1.length : Int) := tD
   obtain ⟨ad172, e172, hx172_0, hx172_1, hx172_2, hx172_3⟩ := at_T39 HR0_1.out a1 p172 q172
   cases e172
   replace hx172_0 := cB HB.out hx172_0
   replace hx172_1 := cB HB.out hx172_1
   replace hx172_2 := cB HB.out hx172_2
   replace hx172_3 := cB HB.out hx172_3
   replace p172 := eq_true p172
   replace q172 := eq_true q172
   obtain ⟨⟨rr, ll⟩, hxr⟩ := xr_some A19.out
   have XR := aK hxr
   clear hxr
   have hmm := @run_makeMap Try.prog
   have a1_0 : ∀ o, (wc.alloc o).cell? ⟨gb169, 0, none⟩ = some (.slice A0_0 l0_0.length c0_0) := fun o => (blk_cell (blk_alloc BK169.out o) 0).trans rfl
   have a1_1 : ∀ o, (wc.alloc o).cell? ⟨gb169, 1, none⟩ = some (.slice (some ad172) l0_1.length c0_1) := fun o => (blk_cell (blk_alloc BK169.out o) 1).trans rfl
   have a2_0 : ∀ o o', ((wc.alloc o).alloc o').cell? ⟨gb169, 0, none⟩ = some (.slice A0_0 l0_0.length c0_0) := fun o o' => (blk_cell (blk_alloc (blk_alloc BK169.out o) o') 0).trans rfl
   have a2_1 : ∀ o o', ((wc.alloc o).alloc o').cell? ⟨gb169, 1, none⟩ = some (.slice (some ad172) l0_1.length c0_1) := fun o o' => (blk_cell (blk_alloc (blk_alloc BK169.out o) o') 1).trans rfl
   have e1_0 := fun o => pw_cell_below (below_alloc (Below.refl wc.heap.size wc) o) hx172_0
   have e1_1 := fun o => pw_cell_below (below_alloc (Below.refl wc.heap.size wc) o) hx172_1
   have e1_2 := fun o => pw_cell_below (below_alloc (Below.refl wc.heap.size wc) o) hx172_2
   have e1_3 := fun o => pw_cell_below (below_alloc (Below.refl wc.heap.size wc) o) hx172_3
   have e2_0 := fun o o' => pw_cell_below (below_alloc (below_alloc (Below.refl wc.heap.size wc) o) o') hx172_0
   have e2_1 := fun o o' => pw_cell_below (below_alloc (below_alloc (Below.refl wc.heap.size wc) o) o') hx172_1
   have e2_2 := fun o o' => pw_cell_below (below_alloc (below_alloc (Below.refl wc.heap.size wc) o) o') hx172_2
   have e2_3 := fun o o' => pw_cell_below (below_alloc (below_alloc (Below.refl wc.heap.size wc) o) o') hx172_3
   refine' cutP_ _ _
   rotate_left
   ·intro KJ_
    go_wp2_with fail
    go_region
    all_goals
     go_wp2_with (first | (go_at_call 36; (first | (obtain ⟨hR_, hL_, hB_, hn_, hr_, hl_⟩ := made3 wc (.cells #[.slice A0_0 l0_0.length c0_0, .string (rd_T39 l0_1 a1).f0, .int .i64 (rd_T39 l0_1 a1).f1, .int .i64 (rd_T39 l0_1 a1).f2, .int .i64 (rd_T39 l0_1 a1).f3, .map (some wc.heap.size), .map (some (wc.heap.size + 1))] 91 (0, 0)) wc.heap.size (wc.heap.size + 1) (by omega) (((wc.alloc (.map #[] 0)).alloc (.map #[] 0)).alloc (.cells #[.slice A0_0 l0_0.length c0_0, .string (rd_T39 l0_1 a1).f0, .int .i64 (rd_T39 l0_1 a1).f1, .int .i64 (rd_T39 l0_1 a1).f2, .int .i64 (rd_T39 l0_1 a1).f3, .map (some wc.heap.size), .map (some (wc.heap.size + 1))] 91 (0, 0))).drew rfl; refine (cfg_explore.call wc _ (wc.heap.size + 1 + 1) A0_0 l0_0.length c0_0 (rd_T39 l0_1 a1).f0 (rd_T39 l0_1 a1).f1 (rd_T39 l0_1 a1).f2 (rd_T39 l0_1 a1).f3 wc.heap.size (wc.heap.size + 1) l0_0 rfl (min kj4 1099511627776) (Nat.min_le_right _ _) (by repeat (first | exact Below.refl _ _ | apply below_alloc | apply pw_below_drewN | apply below_drew1)) hB_ (Kd.C_below HR0_0.out HB.out) hr_ hl_ hn_ hR_ hL_ (xr_wf XR.out) rr ll XR.out).mono ?_; clear hR_ hL_ hB_ hn_ hr_ hl_)); rintro en wE ⟨rfl, hbE, hBE, ⟨mr, hRE⟩, ⟨ml, hLE⟩⟩; have BBE := aK hBE; have RME := aK hRE; have LME := aK hLE; have HEC := aK hbE; clear hbE hBE hRE hLE; have HEW := aK (below_then HB.out HB.out.size HEC.out); have n0_ := aK (blk_below BK169.out HEC.out); have n1_ := aK (blk_below BK170.out HEC.out); have n2_ := aK (Kd.C_below HR0_0.out HEW.out); clear HEC; have BK169 := n0_; have BK170 := n1_; have HR0_0 := n2_; have HB := aK (Below.refl wE.heap.size wE); clear n0_ n1_ n2_; obtain ⟨gbp, hgbp_⟩ : ∃ g_ : Nat, wc.heap.size + 1 + 1 = g_ := ⟨_, rfl⟩; rw [hgbp_] at BBE ⊢; clear hgbp_; obtain ⟨brn, bln, n0_, n1_, n2_⟩ : ∃ brn bln, Aside0 (BuilderAt wE gbp A0_0 l0_0.length c0_0 (rd_T39 l0_1 a1).f0 (rd_T39 l0_1 a1).f1 (rd_T39 l0_1 a1).f2 (rd_T39 l0_1 a1).f3 brn bln) ∧ Aside0 (BoolMap Try.prog 3 4 .i64 wE brn mr rr) ∧ Aside0 (BoolMap Try.prog 3 4 .i64 wE bln ml ll) := ⟨_, _, BBE, RME, LME⟩; clear BBE RME LME; have BBE := n0_; have RME := n1_; have LME := n2_; clear n0_ n1_ n2_; (try generalize Value.map (some wc.heap.size) = vr_); (try generalize Value.map (some (wc.heap.size + 1)) = vl_)) | (go_at_call 36; (first | (obtain ⟨hR_, hL_, hB_, hn_, hr_, hl_⟩ := made3 wc (.cells #[.slice A0_0 l0_0.length c0_0, .string (rd_T39 l0_1 a1).f0, .int .i64 (rd_T39 l0_1 a1).f1, .int .i64 (rd_T39 l0_1 a1).f2, .int .i64 (rd_T39 l0_1 a1).f3, .map (some (wc.heap.size + 1)), .map (some wc.heap.size)] 91 (0, 0)) (wc.heap.size + 1) wc.heap.size (by omega) (((wc.alloc (.map #[] 0)).alloc (.map #[] 0)).alloc (.cells #[.slice A0_0 l0_0.length c0_0, .string (rd_T39 l0_1 a1).f0, .int .i64 (rd_T39 l0_1 a1).f1, .int .i64 (rd_T39 l0_1 a1).f2, .int .i64 (rd_T39 l0_1 a1).f3, .map (some (wc.heap.size + 1)), .map (some wc.heap.size)] 91 (0, 0))).drew rfl; refine (cfg_explore.call wc _ (wc.heap.size + 1 + 1) A0_0 l0_0.length c0_0 (rd_T39 l0_1 a1).f0 (rd_T39 l0_1 a1).f1 (rd_T39 l0_1 a1).f2 (rd_T39 l0_1 a1).f3 (wc.heap.size + 1) wc.heap.size l0_0 rfl (min kj4 1099511627776) (Nat.min_le_right _ _) (by repeat (first | exact Below.refl _ _ | apply below_alloc | apply pw_below_drewN | apply below_drew1)) hB_ (Kd.C_below HR0_0.out HB.out) hr_ hl_ hn_ hR_ hL_ (xr_wf XR.out) rr ll XR.out).mono ?_; clear hR_ hL_ hB_ hn_ hr_ hl_)); rintro en wE ⟨rfl, hbE, hBE, ⟨mr, hRE⟩, ⟨ml, hLE⟩⟩; have BBE := aK hBE; have RME := aK hRE; have LME := aK hLE; have HEC := aK hbE; clear hbE hBE hRE hLE; have HEW := aK (below_then HB.out HB.out.size HEC.out); have n0_ := aK (blk_below BK169.out HEC.out); have n1_ := aK (blk_below BK170.out HEC.out); have n2_ := aK (Kd.C_below HR0_0.out HEW.out); clear HEC; have BK169 := n0_; have BK170 := n1_; have HR0_0 := n2_; have HB := aK (Below.refl wE.heap.size wE); clear n0_ n1_ n2_; obtain ⟨gbp, hgbp_⟩ : ∃ g_ : Nat, wc.heap.size + 1 + 1 = g_ := ⟨_, rfl⟩; rw [hgbp_] at BBE ⊢; clear hgbp_; obtain ⟨brn, bln, n0_, n1_, n2_⟩ : ∃ brn bln, Aside0 (BuilderAt wE gbp A0_0 l0_0.length c0_0 (rd_T39 l0_1 a1).f0 (rd_T39 l0_1 a1).f1 (rd_T39 l0_1 a1).f2 (rd_T39 l0_1 a1).f3 brn bln) ∧ Aside0 (BoolMap Try.prog 3 4 .i64 wE brn mr rr) ∧ Aside0 (BoolMap Try.prog 3 4 .i64 wE bln ml ll) := ⟨_, _, BBE, RME, LME⟩; clear BBE RME LME; have BBE := n0_; have RME := n1_; have LME := n2_; clear n0_ n1_ n2_; (try generalize Value.map (some (wc.heap.size + 1)) = vr_); (try generalize Value.map (some wc.heap.size) = vl_)) | ((refine gate_dst (N := 8) rfl ?_); (try (refine gate_guard (by rfl) ?_; dsimp only)); refine box_event ?hg (N := 8) ?hd (cs := #[.slice none 0 0, .slice none 0 0]) (t := 31) ?hr ?_; (case hd => rfl); (case hg => rfl); (case hr => first | (go_simp; done) | (go_simp; rfl)); intro gb174 hg w22 hbox hb; have BK174 := aK (hbox); have GW174 := aK ((by rw [hg]; exact (below_size (tB2 HB.out GE169.out GE170.out)) : wE.heap.size ≤ gb174)); have GE174 := GW174; replace HB := aK (below_step (tB2 HB.out GE169.out GE170.out) hb); have NB169_174 := aK ((by rw [hg]; exact Nat.ne_of_lt (blk_lt (g := gb169) (o := .cells #[.slice A0_0 l0_0.length c0_0, .slice (some ad172) l0_1.length c0_1, .int .i64 a0_2, .int .i64 a0_3] 25 (0, 0)) (tK BK169.out)) : gb169 ≠ gb174)); have NB174_169 := aK ((by rw [hg]; exact Nat.ne_of_gt (blk_lt (g := gb169) (o := .cells #[.slice A0_0 l0_0.length c0_0, .slice (some ad172) l0_1.length c0_1, .int .i64 a0_2, .int .i64 a0_3] 25 (0, 0)) (tK BK169.out)) : gb174 ≠ gb169)); replace BK169 := aK (blk_below (g := gb169) (tK BK169.out) hb); have NB170_174 := aK ((by rw [hg]; exact Nat.ne_of_lt (blk_lt (g := gb170) (o := .cells #[.slice none 0 0, .slice none 0 0] 31 (0, 0)) (tK BK170.out)) : gb170 ≠ gb174)); have NB174_170 := aK ((by rw [hg]; exact Nat.ne_of_gt (blk_lt (g := gb170) (o := .cells #[.slice none 0 0, .slice none 0 0] 31 (0, 0)) (tK BK170.out)) : gb174 ≠ gb170)); replace BK170 := aK (blk_below (g := gb170) (tK BK170.out) hb); clear hb hbox hg) | ((refine gate_ (.makeMap 92 none) rfl ?_); refine wp_make_map rfl _ rfl ?_; intro bn wN hbn0 hbn hb; have n0_ := aK (blk_below (g := gb169) (tK BK169.out) hb); have n1_ := aK (blk_below (g := gb170) (tK BK170.out) hb); have n2_ := aK (blk_below (g := gb174) (tK BK174.out) hb); have n3_ := aK (below_step (tB1 HB.out GE174.out) hb); have BKN := aK hbn; have GEN := aK (Nat.le_trans (below_size (tB1 HB.out GE174.out)) hbn0); have NBN_174 := aK (show bn ≠ gb174 from Nat.ne_of_gt (Nat.lt_of_lt_of_le (blk_lt (g := gb174) (tK BK174.out)) hbn0)); clear BK169; clear BK170; clear BK174; clear HB; have BK169 := n0_; have BK170 := n1_; have BK174 := n2_; have HB := n3_; clear n0_ n1_ n2_ n3_ hb hbn hbn0; have hbw2_wN : wN.cell? ⟨gbp, 2, none⟩ = some (.int .i64 (rd_T39 l0_1 a1).f1) := (blk_cell (cs := #[.slice A0_0 l0_0.length c0_0, .string (rd_T39 l0_1 a1).f0, .int .i64 (rd_T39 l0_1 a1).f1, .int .i64 (rd_T39 l0_1 a1).f2, .int .i64 (rd_T39 l0_1 a1).f3, .map (some brn), .map (some bln)]) (blk_below BBE.out HB.out) 2).trans rfl; have hbw3_wN : wN.cell? ⟨gbp, 3, none⟩ = some (.int .i64 (rd_T39 l0_1 a1).f2) := (blk_cell (cs := #[.slice A0_0 l0_0.length c0_0, .string (rd_T39 l0_1 a1).f0, .int .i64 (rd_T39 l0_1 a1).f1, .int .i64 (rd_T39 l0_1 a1).f2, .int .i64 (rd_T39 l0_1 a1).f3, .map (some brn), .map (some bln)]) (blk_below BBE.out HB.out) 3).trans rfl; have hbw5_wN : wN.cell? ⟨gbp, 5, none⟩ = some (.map (some brn)) := (blk_cell (cs := #[.slice A0_0 l0_0.length c0_0, .string (rd_T39 l0_1 a1).f0, .int .i64 (rd_T39 l0_1 a1).f1, .int .i64 (rd_T39 l0_1 a1).f2, .int .i64 (rd_T39 l0_1 a1).f3, .map (some brn), .map (some bln)]) (blk_below BBE.out HB.out) 5).trans rfl; have hbw6_wN : wN.cell? ⟨gbp, 6, none⟩ = some (.map (some bln)) := (blk_cell (cs := #[.slice A0_0 l0_0.length c0_0, .string (rd_T39 l0_1 a1).f0, .int .i64 (rd_T39 l0_1 a1).f1, .int .i64 (rd_T39 l0_1 a1).f2, .int .i64 (rd_T39 l0_1 a1).f3, .map (some brn), .map (some bln)]) (blk_below BBE.out HB.out) 6).trans rfl))
     rename_i K_ aK_
     revert wE mr ml HEW HR0_0 gbp brn bln BBE RME LME vr_ vl_ gb174 w22 GW174 GE174 NB169_174 NB174_169 NB170_174 NB174_170 bn wN BKN GEN NBN_174 BK169 BK170 BK174 HB hbw2_wN hbw3_wN hbw5_wN hbw6_wN K_ aK_
     exact KJ_.out
   ·clear HR0_0 BK169 BK170 HB
    intro wE mr ml HEW HR0_0 gbp brn bln BBE RME LME vr_ vl_ gb174 w22 GW174 GE174 NB169_174 NB174_169 NB170_174 NB174_170 bn wN BKN GEN NBN_174 BK169 BK170 BK174 HB hbw2_wN hbw3_wN hbw5_wN hbw6_wN K_ aK_
    as_aux_lemma =>
    have NOM := aK (NumObj.empty bn)
    go_loopg [10] kj4 (fun kq v10 w' => ∃ (x10_2 : Int) (x175000_2 : List (S51)) (u175000 : Value) (om : Obj), v10 = .int .i64 x10_2 ∧ Aside0 (cfg_Build.l0 kq x10_2 ((rd_T39 l0_1 a1).f1) ((rd_T39 l0_1 a1).f2) l0_0 x175000_2 = some (r1, r2, r3, r4)) ∧ Aside0 (kq ≤ kj4) ∧ Aside0 (Kd.S k51 51 w' wE.heap.size (fun _ => True) u175000 x175000_2) ∧ Aside0 (w'.heap[gb169]? = some (.cells #[(.slice A0_0 l0_0.length c0_0), (.slice (some ad172) l0_1.length c0_1), .int .i64 a0_2, .int .i64 a0_3] 25 (0, 0))) ∧ Aside0 (w'.heap[gb170]? = some (.cells #[(.slice none 0 0), (.slice none 0 0)] 31 (0, 0))) ∧ Aside0 (w'.heap[bn]? = some om) ∧ Aside0 (∃ m_ : Nat, m_ ≤ x175000_2.length ∧ NumObj bn om m_ (numOf x175000_2)) ∧ Aside0 ((Lit.int .i64 x10_2).wf = true) ∧ Aside0 (w'.heap[gb174]? = some (.cells #[u175000, (.slice none 0 0)] 31 (0, 0))) ∧ Aside0 (Below wE.heap.size wE w'))
    case atStart => exact ⟨((rd_T39 l0_1 a1).f1), (([] : List (S51))), (.slice none 0 0), _, (by first | rfl | (simp; done) | (simp [*]; done)), H', ⟨Nat.le_refl _⟩, ⟨by first | exact Kd.S_nil _ _ _ _ _ | exact Kd.N_nil _ _ _ _ _ | exact Kd.V_nil _ _ _ _ _ | exact Kd.Q_nil _ _ _ _ _ | exact Kd.R_nil _ _ _ _ _⟩, ⟨tK BK169.out⟩, ⟨tK BK170.out⟩, ⟨tK BKN.out⟩, ⟨⟨0, Nat.le_refl _, NOM.out⟩⟩, ⟨WalkArith.wf_i64 (xr_wf XR.out)⟩, ⟨tK BK174.out⟩, ⟨tB3 HB.out GE169.out GE170.out GE174.out⟩⟩
    as_aux_lemma =>
    clear H'
    obtain ⟨x10_2, x175000_2, u175000, om, rfl, HA, HK2, HO_175000, BK169, BK170, BKN, NMX, HWF, BK174, HB⟩ := hrel
    obtain ⟨mN, hmN, hNOM⟩ := NMX.out
    have NOM := aK hNOM
    have HMN := aK hmN
    clear NMX hNOM hmN
    have hbw2_wr : wr.cell? ⟨gbp, 2, none⟩ = some (.int .i64 (rd_T39 l0_1 a1).f1) := (blk_cell (cs := #[.slice A0_0 l0_0.length c0_0, .string (rd_T39 l0_1 a1).f0, .int .i64 (rd_T39 l0_1 a1).f1, .int .i64 (rd_T39 l0_1 a1).f2, .int .i64 (rd_T39 l0_1 a1).f3, .map (some brn), .map (some bln)]) (blk_below BBE.out HB.out) 2).trans rfl
    have hbw3_wr : wr.cell? ⟨gbp, 3, none⟩ = some (.int .i64 (rd_T39 l0_1 a1).f2) := (blk_cell (cs := #[.slice A0_0 l0_0.length c0_0, .string (rd_T39 l0_1 a1).f0, .int .i64 (rd_T39 l0_1 a1).f1, .int .i64 (rd_T39 l0_1 a1).f2, .int .i64 (rd_T39 l0_1 a1).f3, .map (some brn), .map (some bln)]) (blk_below BBE.out HB.out) 3).trans rfl
    have hbw5_wr : wr.cell? ⟨gbp, 5, none⟩ = some (.map (some brn)) := (blk_cell (cs := #[.slice A0_0 l0_0.length c0_0, .string (rd_T39 l0_1 a1).f0, .int .i64 (rd_T39 l0_1 a1).f1, .int .i64 (rd_T39 l0_1 a1).f2, .int .i64 (rd_T39 l0_1 a1).f3, .map (some brn), .map (some bln)]) (blk_below BBE.out HB.out) 5).trans rfl
    have hbw6_wr : wr.cell? ⟨gbp, 6, none⟩ = some (.map (some bln)) := (blk_cell (cs := #[.slice A0_0 l0_0.length c0_0, .string (rd_T39 l0_1 a1).f0, .int .i64 (rd_T39 l0_1 a1).f1, .int .i64 (rd_T39 l0_1 a1).f2, .int .i64 (rd_T39 l0_1 a1).f3, .map (some brn), .map (some bln)]) (blk_below BBE.out HB.out) 6).trans rfl
    cases gk with
    | zero => exact absurd HA.out (by simp [cfg_Build.l0])
    | succ k2 =>
     have H := HA.out
     clear HA
     simp only [cfg_Build.l0] at H
     by_cases c23 : x10_2 < ((rd_T39 l0_1 a1).f2)
     ·rw [if_pos c23] at H
      have c23b0 : decide (x10_2 < ((rd_T39 l0_1 a1).f2)) = true := decide_eq_true c23
      clear c23
      replace H := bM H
      obtain ⟨t175, A240, H⟩ := H
      (try dsimp only at H)
      have A24 := aK A240
      clear A240
      by_cases c25 : t175 = true
      rotate_left
      ·replace c25 := Bool.eq_false_iff.mpr c25
       subst c25
       rw [if_neg (show ¬ (false = true) by decide)] at H
       have H' := aK H
       clear H
       go_wp2_with (first | ((refine gate_ (.lookup 89 (.tmp 63) (.tmp 64) false) rfl ?_); refine wp_look_bool' rfl _ _ rfl (RME.out.below HB.out) Try.underlying89 Try.underlying3 Try.underlying4 (zero4 _) rfl _ rfl HWF.out _ (xb_reach_eq A24.out XR.out) ?_))
       go_roundg k2
       case measure => have := HJ4.out; have := HK2.out; omega
       case rel => exact ⟨(wrap64 (x10_2 + 1)), (x175000_2), (u175000), _, (by first | rfl | (simp; done) | (simp [*]; done)), H', ⟨by have := HJ4.out; have := HK2.out; omega⟩, ⟨tS HO_175000.out⟩, ⟨tK BK169.out⟩, ⟨tK BK170.out⟩, ⟨tK BKN.out⟩, ⟨⟨mN, HMN.out, NOM.out⟩⟩, ⟨wrap64_wf _⟩, ⟨tK BK174.out⟩, ⟨tB3 HB.out GE169.out GE170.out GE174.out⟩⟩
      subst c25
      rw [if_pos rfl] at H
      replace H := bM H
      obtain ⟨⟨t176, t177, t178, t179, t180⟩, A260, H⟩ := H
      (try dsimp only at H)
      have A26 := aK A260
      clear A260
      replace H := bM H
      obtain ⟨t181, A270, H⟩ := H
      (try dsimp only at H)
      have A27 := aK A270
      clear A270
      have H' := aK H
      clear H
      go_wp2_with (first | ((refine gate_ (.lookup 89 (.tmp 63) (.tmp 64) false) rfl ?_); refine wp_look_bool' rfl _ _ rfl (RME.out.below HB.out) Try.underlying89 Try.underlying3 Try.underlying4 (zero4 _) rfl _ rfl HWF.out _ (xb_reach_eq A24.out XR.out) ?_) | ((refine gate_callee (f := 38) rfl ?_); refine goesL_ (some 69) rfl rfl Try.func38 (by kernel_rfl) rfl #[.pointer (some ⟨gbp, 0, none⟩), .int .i64 x10_2] rfl tF ?_; refine (at_call gbp A0_0 l0_0.length c0_0 _ _ _ _ _ _ l0_0 x10_2 _ rfl (blk_below BBE.out (tB1 HB.out GE174.out)) (Kd.C_below HR0_0.out (tB1 HB.out GE174.out)) _ _ _ _ _ A26.out).mono ?_; rintro e w28 ⟨rfl, hb⟩; refine ⟨_, rfl, ?_⟩; replace HO_175000 := aK (Kd.S_below (tS HO_175000.out) hb); replace BK169 := aK (blk_below (g := gb169) (tK BK169.out) hb); replace BK170 := aK (blk_below (g := gb170) (tK BK170.out) hb); replace BKN := aK (blk_below (g := bn) (o := om) (tK BKN.out) hb); replace BK174 := aK (blk_below (g := gb174) (tK BK174.out) hb); replace HB := aK (below_step (tB1 HB.out GE174.out) hb)) | ((refine gate_callee (f := 37) rfl ?_); refine goesL_ (some 71) rfl rfl Try.func37 (by kernel_rfl) rfl #[.agg #[.int .u8 t176, .int .i64 t177, .int .i64 t178, .int .i64 t179, .int .i64 t180], .int .i64 x10_2] rfl tF ?_; (with_reducible refine (cfg_successors.calls t176 t177 t178 t179 t180 x10_2 t181 _ A27.out).mono ?_); rintro e w29 ⟨v182, rfl, ho0, hb⟩; refine ⟨_, rfl, ?_⟩; replace HO_175000 := aK (Kd.S_elder' (tS HO_175000.out) (Kd.R_base ho0) hb); have HO183 := aK (Kd.R_lower ho0 (below_size (tB1 HB.out GE174.out))); replace BK169 := aK (blk_below (g := gb169) (tK BK169.out) hb); replace BK170 := aK (blk_below (g := gb170) (tK BK170.out) hb); replace BKN := aK (blk_below (g := bn) (o := om) (tK BKN.out) hb); replace BK174 := aK (blk_below (g := gb174) (tK BK174.out) hb); replace HB := aK (below_step (tB1 HB.out GE174.out) hb); obtain ⟨Ao30, co30, eo30⟩ := Kd.R_slice HO183.out; subst eo30))
      go_loopg [73] k2 (fun kq v73 w' => ∃ (x73_3 : Int), v73 = .int .i64 x73_3 ∧ Aside0 (cfg_Build.l1 kq x10_2 t181 (t181.length : Int) x73_3 ((rd_T39 l0_1 a1).f1) ((rd_T39 l0_1 a1).f2) l0_0 x175000_2 = some (r1, r2, r3, r4)) ∧ Aside0 (kq ≤ k2) ∧ Aside0 (Kd.R (Kd.int .i64) 3 w' wE.heap.size (fun _ => True) (.slice Ao30 t181.length co30) t181) ∧ Aside0 (Kd.S k51 51 w' wE.heap.size (fun k_ => some k_ ≠ ((.slice Ao30 t181.length co30) : Value).ownBlock) u175000 x175000_2) ∧ Aside0 (w'.heap[gb169]? = some (.cells #[(.slice A0_0 l0_0.length c0_0), (.slice (some ad172) l0_1.length c0_1), .int .i64 a0_2, .int .i64 a0_3] 25 (0, 0))) ∧ Aside0 (w'.heap[gb170]? = some (.cells #[(.slice none 0 0), (.slice none 0 0)] 31 (0, 0))) ∧ Aside0 (w'.heap[bn]? = some om) ∧ Aside0 (w'.heap[gb174]? = some (.cells #[u175000, (.slice none 0 0)] 31 (0, 0))) ∧ Aside0 (Below wE.heap.size wE w'))
      case atStart => exact ⟨(0), (by first | rfl | (simp; done) | (simp [*]; done)), H', ⟨Nat.le_refl _⟩, ⟨tR HO183.out⟩, ⟨by (with_reducible repeat (first | apply Kd.S_alloc | apply Kd.S_drewN | apply Kd.S_drew)); exact Kd.S_mono HO_175000.out (fun _ hk => hk.2)⟩, ⟨tK BK169.out⟩, ⟨tK BK170.out⟩, ⟨tK BKN.out⟩, ⟨tK BK174.out⟩, ⟨tB3 HB.out GE169.out GE170.out GE174.out⟩⟩
      as_aux_lemma =>
      clear H'
      obtain ⟨x73_3, rfl, HA, HK3, HO_71, HO_175000, BK169, BK170, BKN, BK174, HB⟩ := hrel
      have hbw2_wr : wr.cell? ⟨gbp, 2, none⟩ = some (.int .i64 (rd_T39 l0_1 a1).f1) := (blk_cell (cs := #[.slice A0_0 l0_0.length c0_0, .string (rd_T39 l0_1 a1).f0, .int .i64 (rd_T39 l0_1 a1).f1, .int .i64 (rd_T39 l0_1 a1).f2, .int .i64 (rd_T39 l0_1 a1).f3, .map (some brn), .map (some bln)]) (blk_below BBE.out HB.out) 2).trans rfl
      have hbw3_wr : wr.cell? ⟨gbp, 3, none⟩ = some (.int .i64 (rd_T39 l0_1 a1).f2) := (blk_cell (cs := #[.slice A0_0 l0_0.length c0_0, .string (rd_T39 l0_1 a1).f0, .int .i64 (rd_T39 l0_1 a1).f1, .int .i64 (rd_T39 l0_1 a1).f2, .int .i64 (rd_T39 l0_1 a1).f3, .map (some brn), .map (some bln)]) (blk_below BBE.out HB.out) 3).trans rfl
      have hbw5_wr : wr.cell? ⟨gbp, 5, none⟩ = some (.map (some brn)) := (blk_cell (cs := #[.slice A0_0 l0_0.length c0_0, .string (rd_T39 l0_1 a1).f0, .int .i64 (rd_T39 l0_1 a1).f1, .int .i64 (rd_T39 l0_1 a1).f2, .int .i64 (rd_T39 l0_1 a1).f3, .map (some brn), .map (some bln)]) (blk_below BBE.out HB.out) 5).trans rfl
      have hbw6_wr : wr.cell? ⟨gbp, 6, none⟩ = some (.map (some bln)) := (blk_cell (cs := #[.slice A0_0 l0_0.length c0_0, .string (rd_T39 l0_1 a1).f0, .int .i64 (rd_T39 l0_1 a1).f1, .int .i64 (rd_T39 l0_1 a1).f2, .int .i64 (rd_T39 l0_1 a1).f3, .map (some brn), .map (some bln)]) (blk_below BBE.out HB.out) 6).trans rfl
      cases gk with
      | zero => exact absurd HA.out (by simp [cfg_Build.l1])
      | succ k3 =>
       have H := HA.out
       clear HA
       simp only [cfg_Build.l1] at H
       by_cases c31 : x73_3 < (t181.length : Int)
       ·rw [if_pos c31] at H
        have c31b0 : decide (x73_3 < (t181.length : Int)) = true := decide_eq_true c31
        clear c31
        by_cases c32 : 0 ≤ x73_3
        rotate_left
        ·rw [if_neg c32] at H
         exact absurd H (by simp)
        rw [if_pos c32] at H
        have c32b0 : decide (0 ≤ x73_3) = true := decide_eq_true c32
        clear c32
        by_cases c33 : x73_3 < (t181.length : Int)
        rotate_left
        ·rw [if_neg c33] at H
         exact absurd H (by simp)
        rw [if_pos c33] at H
        have c33b0 : decide (x73_3 < (t181.length : Int)) = true := decide_eq_true c33
        clear c33
        by_cases c34 : (rd t181 x73_3) < ((rd_T39 l0_1 a1).f1)
        ·rw [if_pos c34] at H
         have c34b0 : decide ((rd t181 x73_3) < ((rd_T39 l0_1 a1).f1)) = true := decide_eq_true c34
         clear c34
         simp only [Option.some.injEq, Prod.mk.injEq] at H
         obtain ⟨rfl, rfl, rfl, rfl⟩ := H
         have p184 : 0 ≤ (x73_3 : Int) := tD
         have q184 : x73_3 < (t181.length : Int) := tD
         obtain ⟨ad184, e184, hx184_0⟩ := Kd.at_int (Kd.R_reads' HO_71.out).2.2 x73_3 p184 q184
         cases e184
         replace p184 := eq_true p184
         replace q184 := eq_true q184
         have hnb35 := NB170_169.out
         have hnc35 := NB169_170.out
         have hnb36 := NB170_174.out
         have hnc36 := NB174_170.out
         have hcz37_0 := bc 0 BK170.out
         have hcz37_1 := bc 1 BK170.out
         have hfz37_0 := blk_frozen BK170.out 0
         have hfz37_1 := blk_frozen BK170.out 1
         have HBw_ := aK (below_then HEW.out HEW.out.size HB.out)
         clear HB
         have HB := HBw_
         clear HBw_
         go_wp2
         refine bodyPost_ret (results_ctt rfl _ _ gb170 31 #[.slice none 0 0, .slice none 0 0] (0, 0) _ rfl (by refine tK ?_; refine blk_put (cs := #[.slice none 0 0, .slice none 0 0]) ?_ 1 _ rfl; refine tK ?_; refine blk_put (cs := #[.slice none 0 0, .slice none 0 0]) ?_ 0 _ rfl; refine tK ?_; exact BK170.out) Try.underlying31 rfl (by kernel_rfl)) rfl ?_
         exact ⟨_, _, by first | rfl | (simp [errW_none, errW_some] <;> rfl) | (simp [*, errW_none, errW_some] <;> rfl), by first | exact Kd.S_nil _ _ _ _ _ | exact Kd.N_nil _ _ _ _ _ | exact Kd.V_nil _ _ _ _ _ | exact Kd.Q_nil _ _ _ _ _ | exact Kd.R_nil _ _ _ _ _, by first | exact Kd.S_nil _ _ _ _ _ | exact Kd.N_nil _ _ _ _ _ | exact Kd.V_nil _ _ _ _ _ | exact Kd.Q_nil _ _ _ _ _ | exact Kd.R_nil _ _ _ _ _, by repeat (first | (with_reducible first | exact HB.out | apply below_alloc | apply pw_below_drewN | apply below_drew1 | refine below_set ?_ GE169.out | refine below_set ?_ GE170.out | refine below_set ?_ GE174.out) | exact HB.out)⟩
        ·rw [if_neg c34] at H
         have c34b0 : decide ((rd t181 x73_3) < ((rd_T39 l0_1 a1).f1)) = false := decide_eq_false c34
         clear c34
         by_cases c38 : (rd t181 x73_3) ≥ ((rd_T39 l0_1 a1).f2)
         ·rw [if_pos c38] at H
          have c38b0 : decide (((rd_T39 l0_1 a1).f2) ≤ (rd t181 x73_3)) = true := decide_eq_true c38
          clear c38
          simp only [Option.some.injEq, Prod.mk.injEq] at H
          obtain ⟨rfl, rfl, rfl, rfl⟩ := H
          have p184 : 0 ≤ (x73_3 : Int) := tD
          have q184 : x73_3 < (t181.length : Int) := tD
          obtain ⟨ad184, e184, hx184_0⟩ := Kd.at_int (Kd.R_reads' HO_71.out).2.2 x73_3 p184 q184
          cases e184
          replace p184 := eq_true p184
          replace q184 := eq_true q184
          have hnb39 := NB170_169.out
          have hnc39 := NB169_170.out
          have hnb40 := NB170_174.out
          have hnc40 := NB174_170.out
          have hcz41_0 := bc 0 BK170.out
          have hcz41_1 := bc 1 BK170.out
          have hfz41_0 := blk_frozen BK170.out 0
          have hfz41_1 := blk_frozen BK170.out 1
          have HBw_ := aK (below_then HEW.out HEW.out.size HB.out)
          clear HB
          have HB := HBw_
          clear HBw_
          go_wp2
          refine bodyPost_ret (results_ctt rfl _ _ gb170 31 #[.slice none 0 0, .slice none 0 0] (0, 0) _ rfl (by refine tK ?_; refine blk_put (cs := #[.slice none 0 0, .slice none 0 0]) ?_ 1 _ rfl; refine tK ?_; refine blk_put (cs := #[.slice none 0 0, .slice none 0 0]) ?_ 0 _ rfl; refine tK ?_; exact BK170.out) Try.underlying31 rfl (by kernel_rfl)) rfl ?_
          exact ⟨_, _, by first | rfl | (simp [errW_none, errW_some] <;> rfl) | (simp [*, errW_none, errW_some] <;> rfl), by first | exact Kd.S_nil _ _ _ _ _ | exact Kd.N_nil _ _ _ _ _ | exact Kd.V_nil _ _ _ _ _ | exact Kd.Q_nil _ _ _ _ _ | exact Kd.R_nil _ _ _ _ _, by first | exact Kd.S_nil _ _ _ _ _ | exact Kd.N_nil _ _ _ _ _ | exact Kd.V_nil _ _ _ _ _ | exact Kd.Q_nil _ _ _ _ _ | exact Kd.R_nil _ _ _ _ _, by repeat (first | (with_reducible first | exact HB.out | apply below_alloc | apply pw_below_drewN | apply below_drew1 | refine below_set ?_ GE169.out | refine below_set ?_ GE170.out | refine below_set ?_ GE174.out) | exact HB.out)⟩
         ·rw [if_neg c38] at H
          have c38b0 : decide (((rd_T39 l0_1 a1).f2) ≤ (rd t181 x73_3)) = false := decide_eq_false c38
          clear c38
          have H' := aK H
          clear H
          have p184 : 0 ≤ (x73_3 : Int) := tD
          have q184 : x73_3 < (t181.length : Int) := tD
          obtain ⟨ad184, e184, hx184_0⟩ := Kd.at_int (Kd.R_reads' HO_71.out).2.2 x73_3 p184 q184
          cases e184
          replace p184 := eq_true p184
          replace q184 := eq_true q184
          go_wp2
          go_roundg k3
          case measure => have := HJ4.out; have := HK2.out; have := HK3.out; omega
          case rel => exact ⟨(wrap64 (x73_3 + 1)), (by first | rfl | (simp; done) | (simp [*]; done)), H', ⟨by have := HJ4.out; have := HK2.out; have := HK3.out; omega⟩, ⟨tR HO_71.out⟩, ⟨tS HO_175000.out⟩, ⟨tK BK169.out⟩, ⟨tK BK170.out⟩, ⟨tK BKN.out⟩, ⟨tK BK174.out⟩, ⟨tB3 HB.out GE169.out GE170.out GE174.out⟩⟩
       ·rw [if_neg c31] at H
        have c31b0 : decide (x73_3 < (t181.length : Int)) = false := decide_eq_false c31
        clear c31
        replace H := bM H
        obtain ⟨t185, A420, H⟩ := H
        (try dsimp only at H)
        have A42 := aK A420
        clear A420
        by_cases c43 : t185 = true
        ·subst c43
         rw [if_pos rfl] at H
         by_cases c44 : x175000_2.length < 3518437208883
         rotate_left
         ·rw [if_neg c44] at H
          exact absurd H (by simp)
         rw [if_pos c44] at H
         have LMc44 := aK c44
         clear c44
         obtain ⟨y186, hy186⟩ : ∃ y_ : List (S51), y_ = (x175000_2 ++ [(⟨x10_2, 0, ([] : List Int)⟩ : S51)]) := ⟨_, rfl⟩
         replace H : (if 0 ≤ (wrap64 ((y186.length : Int) - 1)) then (if (wrap64 ((y186.length : Int) - 1)) < (y186.length : Int) then (cfg_Build.l0 k3 (wrap64 (x10_2 + 1)) ((rd_T39 l0_1 a1).f1) ((rd_T39 l0_1 a1).f2) l0_0 (y186.set ((wrap64 ((y186.length : Int) - 1)) : Int).toNat (⟨(rd_T51 y186 (wrap64 ((y186.length : Int) - 1))).f0, wrap64 (x10_2 + 1), (rd_T51 y186 (wrap64 ((y186.length : Int) - 1))).f2⟩ : S51))) else (none)) else (none)) = some (r1, r2, r3, r4) := by first | (rw [hy186]; with_reducible exact H) | (have H2_ := (Option.bind_some _ _).symm.trans H; rw [hy186]; with_reducible exact H2_) | (have H2_ := (Option.bind_some _ _).symm.trans H; with_reducible exact H2_) | with_reducible exact H | (rw [hy186]; exact H) | exact H
         have Ny186 := aK hy186
         clear hy186
         obtain ⟨ji45, hji45⟩ : ∃ j_ : Int, (wrap64 ((y186.length : Int) - 1)) = j_ := ⟨_, rfl⟩
         replace H : (if 0 ≤ (ji45) then (if (ji45) < (y186.length : Int) then (cfg_Build.l0 k3 (wrap64 (x10_2 + 1)) ((rd_T39 l0_1 a1).f1) ((rd_T39 l0_1 a1).f2) l0_0 (y186.set ((ji45) : Int).toNat (⟨(rd_T51 y186 (ji45)).f0, wrap64 (x10_2 + 1), (rd_T51 y186 (ji45)).f2⟩ : S51))) else (none)) else (none)) = some (r1, r2, r3, r4) := by first | (rw [hji45] at H; exact H) | (simp only [hji45] at H ⊢; exact H)
         (try rw [hji45] at A42)
         have hji45w : (IntKind.i64.wrap ((y186.length : Int) - 1)) = ji45 := (i64_w _).trans hji45
         by_cases c46 : 0 ≤ (ji45)
         rotate_left
         ·rw [if_neg c46] at H
          exact absurd H (by simp)
         rw [if_pos c46] at H
         have c46b0 : decide (0 ≤ (ji45)) = true := decide_eq_true c46
         clear c46
         by_cases c47 : (ji45) < (y186.length : Int)
         rotate_left
         ·rw [if_neg c47] at H
          exact absurd H (by simp)
         rw [if_pos c47] at H
         have c47b0 : decide ((ji45) < (y186.length : Int)) = true := decide_eq_true c47
         clear c47
         obtain ⟨y189, hy189⟩ : ∃ y_ : List (S51), y_ = (y186.set ((ji45) : Int).toNat (⟨(rd_T51 y186 (ji45)).f0, wrap64 (x10_2 + 1), (rd_T51 y186 (ji45)).f2⟩ : S51)) := ⟨_, rfl⟩
         replace H : (cfg_Build.l0 k3 (wrap64 (x10_2 + 1)) ((rd_T39 l0_1 a1).f1) ((rd_T39 l0_1 a1).f2) l0_0 y189) = some (r1, r2, r3, r4) := by first | (rw [hy189]; with_reducible exact H) | (have H2_ := (Option.bind_some _ _).symm.trans H; rw [hy189]; with_reducible exact H2_) | (have H2_ := (Option.bind_some _ _).symm.trans H; with_reducible exact H2_) | with_reducible exact H | (rw [hy189]; exact H) | exact H
         have Ny189 := aK hy189
         clear hy189
         have H' := aK H
         clear H
         go_wp2_with (first | ((refine gate_ (.lookup 89 (.tmp 99) (.tmp 100) false) rfl ?_); refine wp_look_bool' rfl _ _ rfl (LME.out.below HB.out) Try.underlying89 Try.underlying3 Try.underlying4 (zero4 _) rfl _ rfl HWF.out _ (xb_lead_eq A42.out XR.out) ?_; have hnb49 := NB174_169.out; have hnc49 := NB169_174.out; have hnb50 := NB174_170.out; have hnc50 := NB170_174.out; have hcz51_0 := bc 0 BK174.out; have hcz51_1 := bc 1 BK174.out; have hfz51_0 := blk_frozen BK174.out 0; have hfz51_1 := blk_frozen BK174.out 1; obtain ⟨Ao52, co52, eo52⟩ := Kd.S_slice HO_175000.out; subst eo52) | ((refine gate_ (.mapUpdate 92 (.tmp 102) (.tmp 103) (.tmp 106)) rfl ?_); have hIM_ := NOM.out _ BKN.out; refine wp_store_int rfl _ _ _ (.inl rfl) hIM_ Try.underlying92 Try.underlying3 Try.underlying3 (by have := HMN.out; have := LMc44.out; unfold maxLen; omega) rfl _ _ rfl rfl HWF.out (WalkArith.wf_i64 (by have := LMc44.out; constructor <;> omega)) ?_; intro wM hm_ hg_; obtain ⟨om2, hom_, hnom_⟩ := NumObj.of hm_; replace HO_175000 := aK (S_num HO_175000.out hIM_ hg_); replace HO_71 := aK (R_num HO_71.out rfl hIM_ hg_); replace BK169 := aK (blk_num BK169.out hIM_ hg_); replace BK170 := aK (blk_num BK170.out hIM_ hg_); replace BK174 := aK (blk_num BK174.out hIM_ hg_); replace HB := aK (pw_below_grown HB.out _ HB.out.size hg_ (fun k_ hk_ => by injection hk_ with hk_; subst hk_; exact GEN.out)); replace BKN := aK hom_; replace NOM := aK hnom_; clear hIM_ hm_ hg_ hom_ hnom_; have hczM_0 := bc 0 BK174.out; have hczM_1 := bc 1 BK174.out; have hfzM_0 := blk_frozen BK174.out 0; have hfzM_1 := blk_frozen BK174.out 1) | ((refine gate_builtin (b := .append) (xs := #[.tmp 108, .tmp 111]) rfl ?_); (try (refine gate_guard (by rfl) ?_; dsimp only)); at_builtin; refine Kd.S_append k51 (w0 := wE) wE.heap.size rfl (.tmp 108) (.tmp 111) 28 51 (.agg #[(.int .i64 0), (.int .i64 0), (.slice none 0 0)]) 40 rfl Try.underlying28 cfg_Build.info51 rfl (by decide) (by omega) (.slice Ao52 x175000_2.length co52) x175000_2 (⟨x10_2, 0, ([] : List Int)⟩ : S51) [.int .i64 x10_2, .int .i64 0, .slice none 0 0] (fun k_ => some k_ ≠ (.slice Ao30 t181.length co30 : Value).ownBlock) (fun _ => False) rfl rfl ?aP (fun k_ hk_ => hk_.elim) ?aF ?aO ?aB ?aS ?aL ?_; (case aP => exact k51_mkM _ _ _ (⟨x10_2, 0, ([] : List Int)⟩ : S51) (Kd.R_nil _ _ _ _ _)); (case aB => exact (tB1 HB.out GE174.out)); (case aF => exact (fun k_ hk => Kd.fresh' (Kd.R_lt (tR HO_71.out)) k_ hk)); (case aO => exact (by (with_reducible repeat (first | apply Kd.S_alloc | apply Kd.S_drewN | apply Kd.S_drew)); exact Kd.S_mono HO_175000.out (fun k_ hk => ⟨hk, fun e_ => e_⟩))); (case aS => exact (below_size (tB1 HB.out GE174.out))); (case aL => have := LMc44.out; omega); intro v187 w53 ho hb hg hat; rw [← Ny186.out] at ho; replace HO_71 := aK (Kd.R_over' (tR HO_71.out) (Kd.S_typed (tS HO_175000.out)) (by decide) hg); replace BK169 := aK (blk_grown (g := gb169) (o := .cells #[.slice A0_0 l0_0.length c0_0, .slice (some ad172) l0_1.length c0_1, .int .i64 a0_2, .int .i64 a0_3] 25 (0, 0)) (tK BK169.out) hg (Kd.S_ne HO_175000.out BK169.out (by decide))); replace BK170 := aK (blk_grown (g := gb170) (o := .cells #[.slice none 0 0, .slice none 0 0] 31 (0, 0)) (tK BK170.out) hg (Kd.S_ne HO_175000.out BK170.out (by decide))); replace BKN := aK (blk_grown (g := bn) (o := om2) (tK BKN.out) hg (num_ne_S HO_175000.out (NOM.out _ BKN.out))); replace BK174 := aK (blk_grown (g := gb174) (o := .cells #[.slice Ao52 x175000_2.length co52, .slice none 0 0] 31 (0, 0)) (tK BK174.out) hg (Kd.S_ne HO_175000.out BK174.out (by decide))); replace HB := aK (hb); have HO188 := aK (ho); clear HO_175000; clear ho hb hg hat; obtain ⟨Ao54, co54, eo54⟩ := Kd.S_slice HO188.out; subst eo54; have hcz55_0 := bc 0 BK174.out; have hcz55_1 := bc 1 BK174.out; have hfz55_0 := blk_frozen BK174.out 0; have hfz55_1 := blk_frozen BK174.out 1) | ((refine gate_store (t := 28) (p := 113) rfl ?_); refine store_event (t := 28) (p := 113) (v := ?vo_w56) (w1 := (w53.setCell ⟨gb174, 0, none⟩ (.slice Ao54 y186.length co54))) ?hg ?ho ?hn ?hr ?_; (case ho => rfl); (case hg => rfl); (case hn => rfl); (case hr => first | (go_simp; done) | (go_simp; rfl)); intro w56 hw; replace HO_71 : Aside0 (Kd.R (Kd.int .i64) 3 w56 wE.heap.size (fun _ => True) (.slice Ao30 t181.length co30) t181) := ⟨(by rw [hw]; exact (by (with_reducible repeat (first | apply Kd.R_alloc | apply Kd.R_drewN | apply Kd.R_drew)); exact Kd.R_mono (Kd.R_far (p := ⟨gb174, 0, none⟩) (Kd.R_types HO_71.out BK174.out (by decide)) (fun _ hk => hk.2) (.slice Ao54 y186.length co54)) (fun _ hk => trivial)))⟩; replace HO188 : Aside0 (Kd.S k51 51 w56 wE.heap.size (fun k_ => some k_ ≠ (.slice Ao30 t181.length co30 : Value).ownBlock) (.slice Ao54 y186.length co54) y186) := ⟨(by rw [hw]; exact (by (with_reducible repeat (first | apply Kd.S_alloc | apply Kd.S_drewN | apply Kd.S_drew)); exact Kd.S_mono (Kd.S_far (p := ⟨gb174, 0, none⟩) (Kd.S_types HO188.out BK174.out (by decide)) (fun _ hk => hk.2) (.slice Ao54 y186.length co54)) (fun _ hk => hk.1)))⟩; replace BK169 : Aside0 (w56.heap[gb169]? = some (.cells #[.slice A0_0 l0_0.length c0_0, .slice (some ad172) l0_1.length c0_1, .int .i64 a0_2, .int .i64 a0_3] 25 (0, 0))) := ⟨(by rw [hw]; exact (by refine tK ?_; refine blk_far ?_ NB169_174.out _; refine tK ?_; exact BK169.out))⟩; replace BK170 : Aside0 (w56.heap[gb170]? = some (.cells #[.slice none 0 0, .slice none 0 0] 31 (0, 0))) := ⟨(by rw [hw]; exact (by refine tK ?_; refine blk_far ?_ NB170_174.out _; refine tK ?_; exact BK170.out))⟩; replace BKN : Aside0 (w56.heap[bn]? = some (om2)) := ⟨(by rw [hw]; exact (by refine tK ?_; refine blk_far' ?_ NBN_174.out _; refine tK ?_; exact BKN.out))⟩; replace BK174 : Aside0 (w56.heap[gb174]? = some (.cells #[.slice Ao54 y186.length co54, .slice none 0 0] 31 (0, 0))) := ⟨(by rw [hw]; exact (by refine tK ?_; refine blk_put (cs := #[.slice Ao52 x175000_2.length co52, .slice none 0 0]) ?_ 0 _ rfl; refine tK ?_; exact BK174.out))⟩; replace HB : Aside0 (Below wE.heap.size wE w56) := ⟨(by rw [hw]; exact (tB1 HB.out GE174.out))⟩; clear hw; have hcz57_0 := bc 0 BK174.out; have hcz57_1 := bc 1 BK174.out; have hfz57_0 := blk_frozen BK174.out 0; have hfz57_1 := blk_frozen BK174.out 1; have p48 : 0 ≤ ((ji45) : Int) := tD; have q48 : ((ji45) : Int) < ((y186.length : Int) : Int) := tD; obtain ⟨go48, co48, eo48, gb48, gl48, cl48, HG48⟩ := Kd.S_form HO188.out (by omega); (first | cases eo48 | (injection eo48 with ea_ en_ ec_; (first | subst ea_ | (injection ea_ with ea_; subst ea_)); subst ec_; clear en_)); have GB48 := aK gb48; have GG48 := aK HG48; clear gb48 gl48 HG48; obtain ⟨_, ce48, hcl48, hM48, hcc48, hfr48, _, _⟩ := Kd.S_elem HO188.out z51 ((ji45) : Int) p48 q48; obtain ⟨ve48_2, rfl, ge48_2⟩ := k51_openM hM48; have hx48_0 : w56.cell? ⟨go48, ((ji45) : Int).toNat * 3, none⟩ = some (.int .i64 ((rd_T51 y186 (ji45)).f0)) := hcc48 0 _ rfl; have hx48_1 : w56.cell? ⟨go48, ((ji45) : Int).toNat * 3 + 1, none⟩ = some (.int .i64 ((rd_T51 y186 (ji45)).f1)) := hcc48 1 _ rfl; have hx48_2 : w56.cell? ⟨go48, ((ji45) : Int).toNat * 3 + 2, none⟩ = some (ve48_2) := hcc48 2 _ rfl; have hf48_0 : w56.frozen? ⟨go48, ((ji45) : Int).toNat * 3, none⟩ = false := hfr48 0; have hf48_1 : w56.frozen? ⟨go48, ((ji45) : Int).toNat * 3 + 1, none⟩ = false := hfr48 1; have hf48_2 : w56.frozen? ⟨go48, ((ji45) : Int).toNat * 3 + 2, none⟩ = false := hfr48 2; clear hcl48 hcc48 hfr48 hM48; replace p48 := eq_true p48; replace q48 := eq_true q48; have HX58 := aK (show Kd.S k51 51 w56 wE.heap.size (fun k_ => ((fun k_ => some k_ ≠ (.slice Ao30 t181.length co30 : Value).ownBlock)) k_ ∧ ¬ ((fun _ => False)) k_) (.slice (some ⟨go48, 0, none⟩) y186.length co54) y186 from (by (with_reducible repeat (first | apply Kd.S_alloc | apply Kd.S_drewN | apply Kd.S_drew)); exact Kd.S_mono HO188.out (fun k_ hk => ⟨hk, fun e_ => e_⟩))); obtain ⟨oki58, ce58, hcl58, hM58, hcc58, hfr58, hoki58, hH58⟩ := Kd.S_elem HX58.out z51 ((ji45) : Int) (tD) (by have h_ : ((ji45) : Int) < ((y186.length : Int) : Int) := tD; first | exact h_ | (have e_ := (Kd.S_reads' HO188.out).1; omega) | simpa using h_); obtain ⟨ve58_2, rfl, ge58_2⟩ := k51_openM hM58; have HP58 := Kd.S_seg hH58 (tD) (by have h_ : ((ji45) : Int) < ((y186.length : Int) : Int) := tD; first | exact h_ | (have e_ := (Kd.S_reads' HO188.out).1; omega) | simpa using h_) (seg := [.int .i64 (wrap64 (x10_2 + 1))]) (j := 1) (show 2 ≤ 3 from by decide) (x' := (⟨(rd_T51 y186 (ji45)).f0, wrap64 (x10_2 + 1), (rd_T51 y186 (ji45)).f2⟩ : S51)) (k51_mkM _ _ _ (⟨(rd_T51 y186 (ji45)).f0, wrap64 (x10_2 + 1), (rd_T51 y186 (ji45)).f2⟩ : S51) (Kd.R_mono ge58_2 (fun _ h_ => Or.inl h_))) (fun _ hk => hk) (fun k_ hk_ => hk_.elim); have hx58_1 := hcc58 1 _ rfl; (try simp only [show (k51).sz = 3 from rfl, Nat.mul_one, Nat.add_zero] at hx58_1); have hf58_1 := hfr58 1; (try simp only [show (k51).sz = 3 from rfl, Nat.mul_one, Nat.add_zero] at hf58_1); clear hcl58 hcc58 hfr58 hM58 hoki58 hH58) | ((refine gate_store (t := 3) (p := 123) rfl ?_); refine store_event (t := 3) (p := 123) (v := ?vo_w59) (w1 := (w56.setCell ⟨go48, ((ji45) : Int).toNat * 3 + 1, none⟩ (.int .i64 (wrap64 (x10_2 + 1))))) ?hg ?ho ?hn ?hr ?_; (case ho => rfl); (case hg => rfl); (case hn => rfl); (case hr => first | (go_simp; done) | (go_simp; rfl)); intro w59 hw; have hg : w56.grownBy w59 (some go48) := (by rw [hw]; exact HP58.2); have hp_ : Kd.S k51 51 w59 wE.heap.size (fun k_ => some k_ ≠ (.slice Ao30 t181.length co30 : Value).ownBlock) (.slice (some ⟨go48, 0, none⟩) y186.length co54) y189 := (by rw [hw, Ny189.out]; exact HP58.1); clear HP58; replace HO_71 := aK (Kd.R_over' (v := (.slice (some ⟨go48, 0, none⟩) y186.length co54)) (tR HO_71.out) (Kd.S_typed HO188.out) (by decide) hg); replace BK169 := aK (blk_grown (g := gb169) (o := .cells #[.slice A0_0 l0_0.length c0_0, .slice (some ad172) l0_1.length c0_1, .int .i64 a0_2, .int .i64 a0_3] 25 (0, 0)) (tK BK169.out) hg (Kd.S_ne HO188.out BK169.out (by decide))); replace BK170 := aK (blk_grown (g := gb170) (o := .cells #[.slice none 0 0, .slice none 0 0] 31 (0, 0)) (tK BK170.out) hg (Kd.S_ne HO188.out BK170.out (by decide))); replace BKN := aK (blk_grown (g := bn) (o := om2) (tK BKN.out) hg (num_ne_S HO188.out (NOM.out _ BKN.out))); replace BK174 := aK (blk_grown (g := gb174) (o := .cells #[.slice (some ⟨go48, 0, none⟩) y186.length co54, .slice none 0 0] 31 (0, 0)) (tK BK174.out) hg (Kd.S_ne HO188.out BK174.out (by decide))); replace HO188 := aK (hp_); replace HB := aK ((by rw [hw]; exact below_set (HB.out) GB48.out : Below wE.heap.size wE w59)); clear hg hw hp_))
         go_roundg k3
         case measure => have := HJ4.out; have := HK2.out; have := HK3.out; omega
         case rel => exact ⟨(wrap64 (x10_2 + 1)), (y189), (.slice (some ⟨go48, 0, none⟩) y186.length co54), _, (by first | rfl | (simp; done) | (simp [*]; done)), H', ⟨by have := HJ4.out; have := HK2.out; have := HK3.out; omega⟩, ⟨by (with_reducible repeat (first | apply Kd.S_alloc | apply Kd.S_drewN | apply Kd.S_drew)); exact Kd.S_mono HO188.out (fun _ hk => trivial)⟩, ⟨tK BK169.out⟩, ⟨tK BK170.out⟩, ⟨tK BKN.out⟩, ⟨⟨mN + 1, by rw [Ny189.out, List.length_set, Ny186.out, List.length_append]; have := HMN.out; simp; omega, by rw [Ny189.out, numOf_set' y186 ji45 (of_decide_eq_true c46b0) (of_decide_eq_true c47b0) (⟨(rd_T51 y186 (ji45)).f0, wrap64 (x10_2 + 1), (rd_T51 y186 (ji45)).f2⟩ : S51) rfl, Ny186.out]; exact NumObj.snoc NOM.out⟩⟩, ⟨wrap64_wf _⟩, ⟨tK BK174.out⟩, ⟨tB3 HB.out GE169.out GE170.out GE174.out⟩⟩
        ·replace c43 := Bool.eq_false_iff.mpr c43
         subst c43
         rw [if_neg (show ¬ (false = true) by decide)] at H
         obtain ⟨ji60, hji60⟩ : ∃ j_ : Int, (wrap64 ((x175000_2.length : Int) - 1)) = j_ := ⟨_, rfl⟩
         replace H : (if 0 ≤ (ji60) then (if (ji60) < (x175000_2.length : Int) then (cfg_Build.l0 k3 (wrap64 (x10_2 + 1)) ((rd_T39 l0_1 a1).f1) ((rd_T39 l0_1 a1).f2) l0_0 (x175000_2.set ((ji60) : Int).toNat (⟨(rd_T51 x175000_2 (ji60)).f0, wrap64 (x10_2 + 1), (rd_T51 x175000_2 (ji60)).f2⟩ : S51))) else (none)) else (none)) = some (r1, r2, r3, r4) := by first | (rw [hji60] at H; exact H) | (simp only [hji60] at H ⊢; exact H)
         (try rw [hji60] at A42)
         have hji60w : (IntKind.i64.wrap ((x175000_2.length : Int) - 1)) = ji60 := (i64_w _).trans hji60
         by_cases c61 : 0 ≤ (ji60)
         rotate_left
         ·rw [if_neg c61] at H
          exact absurd H (by simp)
         rw [if_pos c61] at H
         have c61b0 : decide (0 ≤ (ji60)) = true := decide_eq_true c61
         clear c61
         by_cases c62 : (ji60) < (x175000_2.length : Int)
         rotate_left
         ·rw [if_neg c62] at H
          exact absurd H (by simp)
         rw [if_pos c62] at H
         have c62b0 : decide ((ji60) < (x175000_2.length : Int)) = true := decide_eq_true c62
         clear c62
         obtain ⟨y190, hy190⟩ : ∃ y_ : List (S51), y_ = (x175000_2.set ((ji60) : Int).toNat (⟨(rd_T51 x175000_2 (ji60)).f0, wrap64 (x10_2 + 1), (rd_T51 x175000_2 (ji60)).f2⟩ : S51)) := ⟨_, rfl⟩
         replace H : (cfg_Build.l0 k3 (wrap64 (x10_2 + 1)) ((rd_T39 l0_1 a1).f1) ((rd_T39 l0_1 a1).f2) l0_0 y190) = some (r1, r2, r3, r4) := by first | (rw [hy190]; with_reducible exact H) | (have H2_ := (Option.bind_some _ _).symm.trans H; rw [hy190]; with_reducible exact H2_) | (have H2_ := (Option.bind_some _ _).symm.trans H; with_reducible exact H2_) | with_reducible exact H | (rw [hy190]; exact H) | exact H
         have Ny190 := aK hy190
         clear hy190
         have H' := aK H
         clear H
         go_wp2_with (first | ((refine gate_ (.lookup 89 (.tmp 99) (.tmp 100) false) rfl ?_); refine wp_look_bool' rfl _ _ rfl (LME.out.below HB.out) Try.underlying89 Try.underlying3 Try.underlying4 (zero4 _) rfl _ rfl HWF.out _ (xb_lead_eq A42.out XR.out) ?_; have hnb64 := NB174_169.out; have hnc64 := NB169_174.out; have hnb65 := NB174_170.out; have hnc65 := NB170_174.out; have hcz66_0 := bc 0 BK174.out; have hcz66_1 := bc 1 BK174.out; have hfz66_0 := blk_frozen BK174.out 0; have hfz66_1 := blk_frozen BK174.out 1; obtain ⟨Ao67, co67, eo67⟩ := Kd.S_slice HO_175000.out; subst eo67; have p63 : 0 ≤ ((ji60) : Int) := tD; have q63 : ((ji60) : Int) < ((x175000_2.length : Int) : Int) := tD; obtain ⟨go63, co63, eo63, gb63, gl63, cl63, HG63⟩ := Kd.S_form HO_175000.out (by omega); (first | cases eo63 | (injection eo63 with ea_ en_ ec_; (first | subst ea_ | (injection ea_ with ea_; subst ea_)); subst ec_; clear en_)); have GB63 := aK gb63; have GG63 := aK HG63; clear gb63 gl63 HG63; obtain ⟨_, ce63, hcl63, hM63, hcc63, hfr63, _, _⟩ := Kd.S_elem HO_175000.out z51 ((ji60) : Int) p63 q63; obtain ⟨ve63_2, rfl, ge63_2⟩ := k51_openM hM63; have hx63_0 : wr.cell? ⟨go63, ((ji60) : Int).toNat * 3, none⟩ = some (.int .i64 ((rd_T51 x175000_2 (ji60)).f0)) := hcc63 0 _ rfl; have hx63_1 : wr.cell? ⟨go63, ((ji60) : Int).toNat * 3 + 1, none⟩ = some (.int .i64 ((rd_T51 x175000_2 (ji60)).f1)) := hcc63 1 _ rfl; have hx63_2 : wr.cell? ⟨go63, ((ji60) : Int).toNat * 3 + 2, none⟩ = some (ve63_2) := hcc63 2 _ rfl; have hf63_0 : wr.frozen? ⟨go63, ((ji60) : Int).toNat * 3, none⟩ = false := hfr63 0; have hf63_1 : wr.frozen? ⟨go63, ((ji60) : Int).toNat * 3 + 1, none⟩ = false := hfr63 1; have hf63_2 : wr.frozen? ⟨go63, ((ji60) : Int).toNat * 3 + 2, none⟩ = false := hfr63 2; clear hcl63 hcc63 hfr63 hM63; replace p63 := eq_true p63; replace q63 := eq_true q63; have HX68 := aK (show Kd.S k51 51 wr wE.heap.size (fun k_ => ((fun k_ => some k_ ≠ (.slice Ao30 t181.length co30 : Value).ownBlock)) k_ ∧ ¬ ((fun _ => False)) k_) (.slice (some ⟨go63, 0, none⟩) x175000_2.length co67) x175000_2 from (by (with_reducible repeat (first | apply Kd.S_alloc | apply Kd.S_drewN | apply Kd.S_drew)); exact Kd.S_mono HO_175000.out (fun k_ hk => ⟨hk, fun e_ => e_⟩))); obtain ⟨oki68, ce68, hcl68, hM68, hcc68, hfr68, hoki68, hH68⟩ := Kd.S_elem HX68.out z51 ((ji60) : Int) (tD) (by have h_ : ((ji60) : Int) < ((x175000_2.length : Int) : Int) := tD; first | exact h_ | (have e_ := (Kd.S_reads' HO_175000.out).1; omega) | simpa using h_); obtain ⟨ve68_2, rfl, ge68_2⟩ := k51_openM hM68; have HP68 := Kd.S_seg hH68 (tD) (by have h_ : ((ji60) : Int) < ((x175000_2.length : Int) : Int) := tD; first | exact h_ | (have e_ := (Kd.S_reads' HO_175000.out).1; omega) | simpa using h_) (seg := [.int .i64 (wrap64 (x10_2 + 1))]) (j := 1) (show 2 ≤ 3 from by decide) (x' := (⟨(rd_T51 x175000_2 (ji60)).f0, wrap64 (x10_2 + 1), (rd_T51 x175000_2 (ji60)).f2⟩ : S51)) (k51_mkM _ _ _ (⟨(rd_T51 x175000_2 (ji60)).f0, wrap64 (x10_2 + 1), (rd_T51 x175000_2 (ji60)).f2⟩ : S51) (Kd.R_mono ge68_2 (fun _ h_ => Or.inl h_))) (fun _ hk => hk) (fun k_ hk_ => hk_.elim); have hx68_1 := hcc68 1 _ rfl; (try simp only [show (k51).sz = 3 from rfl, Nat.mul_one, Nat.add_zero] at hx68_1); have hf68_1 := hfr68 1; (try simp only [show (k51).sz = 3 from rfl, Nat.mul_one, Nat.add_zero] at hf68_1); clear hcl68 hcc68 hfr68 hM68 hoki68 hH68) | ((refine gate_store (t := 3) (p := 123) rfl ?_); refine store_event (t := 3) (p := 123) (v := ?vo_w69) (w1 := (wr.setCell ⟨go63, ((ji60) : Int).toNat * 3 + 1, none⟩ (.int .i64 (wrap64 (x10_2 + 1))))) ?hg ?ho ?hn ?hr ?_; (case ho => rfl); (case hg => rfl); (case hn => rfl); (case hr => first | (go_simp; done) | (go_simp; rfl)); intro w69 hw; have hg : wr.grownBy w69 (some go63) := (by rw [hw]; exact HP68.2); have hp_ : Kd.S k51 51 w69 wE.heap.size (fun k_ => some k_ ≠ (.slice Ao30 t181.length co30 : Value).ownBlock) (.slice (some ⟨go63, 0, none⟩) x175000_2.length co67) y190 := (by rw [hw, Ny190.out]; exact HP68.1); clear HP68; replace HO_71 := aK (Kd.R_over' (v := (.slice (some ⟨go63, 0, none⟩) x175000_2.length co67)) (tR HO_71.out) (Kd.S_typed HO_175000.out) (by decide) hg); replace BK169 := aK (blk_grown (g := gb169) (o := .cells #[.slice A0_0 l0_0.length c0_0, .slice (some ad172) l0_1.length c0_1, .int .i64 a0_2, .int .i64 a0_3] 25 (0, 0)) (tK BK169.out) hg (Kd.S_ne HO_175000.out BK169.out (by decide))); replace BK170 := aK (blk_grown (g := gb170) (o := .cells #[.slice none 0 0, .slice none 0 0] 31 (0, 0)) (tK BK170.out) hg (Kd.S_ne HO_175000.out BK170.out (by decide))); replace BKN := aK (blk_grown (g := bn) (o := om) (tK BKN.out) hg (num_ne_S HO_175000.out (NOM.out _ BKN.out))); replace BK174 := aK (blk_grown (g := gb174) (o := .cells #[.slice (some ⟨go63, 0, none⟩) x175000_2.length co67, .slice none 0 0] 31 (0, 0)) (tK BK174.out) hg (Kd.S_ne HO_175000.out BK174.out (by decide))); replace HO_175000 := aK (hp_); replace HB := aK ((by rw [hw]; exact below_set (HB.out) GB63.out : Below wE.heap.size wE w69)); clear hg hw hp_))
         go_roundg k3
         case measure => have := HJ4.out; have := HK2.out; have := HK3.out; omega
         case rel => exact ⟨(wrap64 (x10_2 + 1)), (y190), (.slice (some ⟨go63, 0, none⟩) x175000_2.length co67), _, (by first | rfl | (simp; done) | (simp [*]; done)), H', ⟨by have := HJ4.out; have := HK2.out; have := HK3.out; omega⟩, ⟨by (with_reducible repeat (first | apply Kd.S_alloc | apply Kd.S_drewN | apply Kd.S_drew)); exact Kd.S_mono HO_175000.out (fun _ hk => trivial)⟩, ⟨tK BK169.out⟩, ⟨tK BK170.out⟩, ⟨tK BKN.out⟩, ⟨⟨mN, by rw [Ny190.out, List.length_set]; exact HMN.out, by rw [Ny190.out, numOf_set' x175000_2 ji60 (of_decide_eq_true c61b0) (of_decide_eq_true c62b0) (⟨(rd_T51 x175000_2 (ji60)).f0, wrap64 (x10_2 + 1), (rd_T51 x175000_2 (ji60)).f2⟩ : S51) rfl]; exact NOM.out⟩⟩, ⟨wrap64_wf _⟩, ⟨tK BK174.out⟩, ⟨tB3 HB.out GE169.out GE170.out GE174.out⟩⟩
     ·rw [if_neg c23] at H
      have c23b0 : decide (x10_2 < ((rd_T39 l0_1 a1).f2)) = false := decide_eq_false c23
      clear c23
      by_cases c70 : 0 ≤ (x175000_2.length : Int)
      rotate_left
      ·rw [if_neg c70] at H
       exact absurd H (by simp)
      rw [if_pos c70] at H
      have c70b0 := eq_true c70
      have c70b1 : decide (0 ≤ (x175000_2.length : Int)) = true := decide_eq_true c70
      clear c70
      by_cases c71 : ((x175000_2.length : Int) : Int).toNat ≤ 11728124029610
      rotate_left
      ·rw [if_neg c71] at H
       exact absurd H (by simp)
      rw [if_pos c71] at H
      have c71b0 := eq_true c71
      have c71b1 : decide (((x175000_2.length : Int) : Int).toNat ≤ 11728124029610) = true := decide_eq_true c71
      clear c71
      obtain ⟨y191, hy191⟩ : ∃ y_ : List (List Int), y_ = (List.replicate ((x175000_2.length : Int) : Int).toNat []) := ⟨_, rfl⟩
      replace H : (cfg_Build.l2 k2 (x175000_2.length : Int) 0 l0_0 x175000_2 y191) = some (r1, r2, r3, r4) := by first | (rw [hy191]; with_reducible exact H) | (have H2_ := (Option.bind_some _ _).symm.trans H; rw [hy191]; with_reducible exact H2_) | (have H2_ := (Option.bind_some _ _).symm.trans H; with_reducible exact H2_) | with_reducible exact H | (rw [hy191]; exact H) | exact H
      have Ny191 := aK hy191
      clear hy191
      have H' := aK H
      clear H
      have hnb72 := NB174_169.out
      have hnc72 := NB169_174.out
      have hnb73 := NB174_170.out
      have hnc73 := NB170_174.out
      have hcz74_0 := bc 0 BK174.out
      have hcz74_1 := bc 1 BK174.out
      have hfz74_0 := blk_frozen BK174.out 0
      have hfz74_1 := blk_frozen BK174.out 1
      obtain ⟨Ao75, co75, eo75⟩ := Kd.S_slice HO_175000.out
      subst eo75
      go_wp2_with (first | ((refine gate_dst (N := 127) rfl ?_); (try (refine gate_guard (by rfl) ?_; dsimp only)); refine Kd.S_make (Kd.slice 3 (Kd.int .i64)) _ 49 rfl (N := 127) rfl 29 _ _ rfl (x175000_2.length : Int) rfl rfl Try.underlying29 (.slice none 0 0) 24 info49 rfl (by decide) (by omega) [] (ok := fun _ => True) (okp := fun _ => True) ⟨_, rfl, Kd.R_nil _ _ _ _ _⟩ (fun _ hk => hk) trivial (tD) (Nat.le_trans (Nat.mul_le_mul_right _ (tD : (x175000_2.length : Int).toNat ≤ 11728124029610)) (by omega)) (Below.refl _ _) (Nat.le_refl _) ?_; intro v192 w76 ho77 hb hg_ hnew_; clear hg_ hnew_; (first | rw [← Ny191.out] at ho77 | (simp only [Int.reduceToNat] at ho77; rw [← Ny191.out] at ho77)); replace HO_175000 := aK (Kd.S_old HO_175000.out hb); have HO193 := aK (Kd.S_lower (Kd.S_mono (Kd.S_bound ho77) (fun k_ hk_ => hk_.2.1)) (below_size (tB1 HB.out GE174.out))); replace BK169 := aK (blk_below (g := gb169) (tK BK169.out) hb); replace BK170 := aK (blk_below (g := gb170) (tK BK170.out) hb); replace BKN := aK (blk_below (g := bn) (o := om) (tK BKN.out) hb); replace BK174 := aK (blk_below (g := gb174) (tK BK174.out) hb); replace HB := aK (below_step (tB1 HB.out GE174.out) hb); clear hb ho77; obtain ⟨Ao78, co78, eo78⟩ := Kd.S_slice HO193.out; subst eo78; have hcz79_0 := bc 0 BK174.out; have hcz79_1 := bc 1 BK174.out; have hfz79_0 := blk_frozen BK174.out 0; have hfz79_1 := blk_frozen BK174.out 1))
      go_loopg [132] k2 (fun kq v132 w' => ∃ (x132_3 : Int) (x175000_3 : List (S51)) (x175001_3 : List (List Int)) (u175000 : Value) (u175001 : Value) (own : Nat → Prop), v132 = .int .i64 x132_3 ∧ Aside0 (cfg_Build.l2 kq (x175000_2.length : Int) x132_3 l0_0 x175000_3 x175001_3 = some (r1, r2, r3, r4)) ∧ Aside0 (kq ≤ k2) ∧ Aside0 (Kd.S k51 51 w' wE.heap.size (fun k_ => own k_) u175000 x175000_3) ∧ Aside0 (Kd.S (Kd.slice 3 (Kd.int .i64)) 49 w' wE.heap.size (fun k_ => ¬ own k_) u175001 x175001_3) ∧ Aside0 (w'.heap[gb169]? = some (.cells #[(.slice A0_0 l0_0.length c0_0), (.slice (some ad172) l0_1.length c0_1), .int .i64 a0_2, .int .i64 a0_3] 25 (0, 0))) ∧ Aside0 (w'.heap[gb170]? = some (.cells #[(.slice none 0 0), (.slice none 0 0)] 31 (0, 0))) ∧ Aside0 (w'.heap[bn]? = some om) ∧ Aside0 (numOf x175000_3 = numOf x175000_2) ∧ Aside0 (w'.heap[gb174]? = some (.cells #[u175000, u175001] 31 (0, 0))) ∧ Aside0 (Below wE.heap.size wE w'))
      case atStart => exact ⟨(0), (x175000_2), (y191), (.slice Ao75 x175000_2.length co75), (.slice Ao78 y191.length co78), (fun k_ => k_ < wr.heap.size), (by first | rfl | (simp; done) | (simp [*]; done)), H', ⟨Nat.le_refl _⟩, ⟨by (with_reducible repeat (first | apply Kd.S_alloc | apply Kd.S_drewN | apply Kd.S_drew)); exact Kd.S_mono (Kd.S_far (p := ⟨gb174, 1, none⟩) (Kd.S_types HO_175000.out BK174.out (by decide)) (fun _ hk => hk.2) (.slice Ao78 y191.length co78)) (fun _ hk => hk.1.2)⟩, ⟨by (with_reducible repeat (first | apply Kd.S_alloc | apply Kd.S_drewN | apply Kd.S_drew)); exact Kd.S_mono (Kd.S_far (p := ⟨gb174, 1, none⟩) (Kd.S_types HO193.out BK174.out (by decide)) (fun _ hk => hk.2) (.slice Ao78 y191.length co78)) (fun _ hk h_ => Nat.lt_irrefl _ (Nat.lt_of_lt_of_le h_ hk.1))⟩, ⟨by refine tK ?_; refine blk_far ?_ NB169_174.out _; refine tK ?_; exact BK169.out⟩, ⟨by refine tK ?_; refine blk_far ?_ NB170_174.out _; refine tK ?_; exact BK170.out⟩, ⟨by refine tK ?_; refine blk_far' ?_ NBN_174.out _; refine tK ?_; exact BKN.out⟩, ⟨rfl⟩, ⟨by refine tK ?_; refine blk_put (cs := #[.slice Ao75 x175000_2.length co75, .slice none 0 0]) ?_ 1 _ rfl; refine tK ?_; exact BK174.out⟩, ⟨tB3 HB.out GE169.out GE170.out GE174.out⟩⟩
      as_aux_lemma =>
      clear H'
      obtain ⟨x132_3, x175000_3, x175001_3, u175000, u175001, own, rfl, HA, HK3, HO_175000, HO_175001, BK169, BK170, BKN, NF, BK174, HB⟩ := hrel
      cases gk with
      | zero => exact absurd HA.out (by simp [cfg_Build.l2])
      | succ k3 =>
       have H := HA.out
       clear HA
       simp only [cfg_Build.l2] at H
       by_cases c80 : x132_3 < (x175000_2.length : Int)
       ·rw [if_pos c80] at H
        have c80b0 : decide (x132_3 < (x175000_2.length : Int)) = true := decide_eq_true c80
        clear c80
        by_cases c81 : 0 ≤ x132_3
        rotate_left
        ·rw [if_neg c81] at H
         exact absurd H (by simp)
        rw [if_pos c81] at H
        have c81b0 : decide (0 ≤ x132_3) = true := decide_eq_true c81
        clear c81
        by_cases c82 : x132_3 < (x175000_3.length : Int)
        rotate_left
        ·rw [if_neg c82] at H
         exact absurd H (by simp)
        rw [if_pos c82] at H
        have c82b0 : decide (x132_3 < (x175000_3.length : Int)) = true := decide_eq_true c82
        clear c82
        replace H := bM H
        obtain ⟨⟨t195, t196, t197, t198, t199⟩, A830, H⟩ := H
        (try dsimp only at H)
        have A83 := aK A830
        clear A830
        replace H := bM H
        obtain ⟨t200, A840, H⟩ := H
        (try dsimp only at H)
        have A84 := aK A840
        clear A840
        have H' := aK H
        clear H
        have hnb85 := NB174_169.out
        have hnc85 := NB169_174.out
        have hnb86 := NB174_170.out
        have hnc86 := NB170_174.out
        have hcz87_0 := bc 0 BK174.out
        have hcz87_1 := bc 1 BK174.out
        have hfz87_0 := blk_frozen BK174.out 0
        have hfz87_1 := blk_frozen BK174.out 1
        obtain ⟨Ao88, co88, eo88⟩ := Kd.S_slice HO_175000.out
        subst eo88
        have p194 : 0 ≤ (x132_3 : Int) := tD
        have q194 : x132_3 < (x175000_3.length : Int) := tD
        obtain ⟨ad194, A194_2, c194_2, e194, hx194_0, hx194_1, hx194_2, hl194_2, hi194_2⟩ := at_T51 (Kd.S_reads' HO_175000.out).2.2 x132_3 p194 q194
        cases e194
        obtain ⟨ce194, hce194, hMe194, hcc194⟩ := Kd.S_get HO_175000.out z51 x132_3 p194 (by first | exact q194 | exact tD | (have e_ := (Kd.S_reads' HO_175000.out).1; omega))
        obtain ⟨ve194_2, rfl, ge194_2⟩ := k51_openM hMe194
        have hv194_2 := hcc194 2 _ rfl
        rw [add_field _ _ 2 (by omega)] at hv194_2
        replace hv194_2 := oI (hv194_2.symm.trans hx194_2)
        rw [hv194_2] at ge194_2
        have HL194_2 := aK (show Kd.R (Kd.int .i64) 3 _ _ _ _ ((rd_T51 x175000_3 x132_3).f2) from ge194_2)
        clear hv194_2 ge194_2
        have HX194_2 := aK hx194_2
        clear hcc194 hce194
        have HR194_2 := aK hi194_2
        have HC194_2 := aK hl194_2
        clear hi194_2 hl194_2
        replace p194 := eq_true p194
        replace q194 := eq_true q194
        go_wp2_with (first | ((refine gate_callee (f := 38) rfl ?_); refine goesL_ (some 144) rfl rfl Try.func38 (by kernel_rfl) rfl #[.pointer (some ⟨gbp, 0, none⟩), .int .i64 (wrap64 (((rd_T51 x175000_3 x132_3).f1) - 1))] rfl tF ?_; refine (at_call gbp A0_0 l0_0.length c0_0 _ _ _ _ _ _ l0_0 (wrap64 (((rd_T51 x175000_3 x132_3).f1) - 1)) _ rfl (blk_below BBE.out (tB1 HB.out GE174.out)) (Kd.C_below HR0_0.out (tB1 HB.out GE174.out)) _ _ _ _ _ A83.out).mono ?_; rintro e w89 ⟨rfl, hb⟩; refine ⟨_, rfl, ?_⟩; replace HO_175000 := aK (Kd.S_below (tS HO_175000.out) hb); replace HO_175001 := aK (Kd.S_below (tS HO_175001.out) hb); replace HL194_2 := aK (Kd.R_below (tR HL194_2.out) hb); replace BK169 := aK (blk_below (g := gb169) (tK BK169.out) hb); replace BK170 := aK (blk_below (g := gb170) (tK BK170.out) hb); replace BKN := aK (blk_below (g := bn) (o := om) (tK BKN.out) hb); replace BK174 := aK (blk_below (g := gb174) (tK BK174.out) hb); replace HR194_2 := aK (Kd.C_below (by repeat (first | (with_reducible exact HR194_2.out) | (with_reducible refine Kd.C_alloc ?_ _) | (with_reducible refine Kd.C_drewN ?_ _) | (with_reducible refine Kd.C_drew ?_) | exact HR194_2.out)) hb); replace HX194_2 := aK (pw_cell_below hb HX194_2.out); replace HB := aK (below_step (tB1 HB.out GE174.out) hb)) | ((refine gate_callee (f := 37) rfl ?_); refine goesL_ (some 146) rfl rfl Try.func37 (by kernel_rfl) rfl #[.agg #[.int .u8 t195, .int .i64 t196, .int .i64 t197, .int .i64 t198, .int .i64 t199], .int .i64 (wrap64 (((rd_T51 x175000_3 x132_3).f1) - 1))] rfl tF ?_; (with_reducible refine (cfg_successors.calls t195 t196 t197 t198 t199 (wrap64 (((rd_T51 x175000_3 x132_3).f1) - 1)) t200 _ A84.out).mono ?_); rintro e w90 ⟨v201, rfl, ho0, hb⟩; refine ⟨_, rfl, ?_⟩; replace HO_175000 := aK (Kd.S_elder' (tS HO_175000.out) (Kd.R_base ho0) hb); replace HO_175001 := aK (Kd.S_elder' (tS HO_175001.out) (Kd.R_base ho0) hb); have HO202 := aK (Kd.R_lower (Kd.R_new' ho0 (Kd.R_lt (tR HL194_2.out))) (below_size (tB1 HB.out GE174.out))); replace HL194_2 := aK (Kd.R_elder' (tR HL194_2.out) (Kd.R_base ho0) hb); replace BK169 := aK (blk_below (g := gb169) (tK BK169.out) hb); replace BK170 := aK (blk_below (g := gb170) (tK BK170.out) hb); replace BKN := aK (blk_below (g := bn) (o := om) (tK BKN.out) hb); replace BK174 := aK (blk_below (g := gb174) (tK BK174.out) hb); replace HR194_2 := aK (Kd.C_below (by repeat (first | (with_reducible exact HR194_2.out) | (with_reducible refine Kd.C_alloc ?_ _) | (with_reducible refine Kd.C_drewN ?_ _) | (with_reducible refine Kd.C_drew ?_) | exact HR194_2.out)) hb); replace HX194_2 := aK (pw_cell_below hb HX194_2.out); replace HB := aK (below_step (tB1 HB.out GE174.out) hb); obtain ⟨Ao91, co91, eo91⟩ := Kd.R_slice HO202.out; subst eo91))
        go_loopg [148] k3 (fun kq v148 w' => ∃ (x148_4 : Int) (x175000_4 : List (S51)) (x175001_4 : List (List Int)) (u175000 : Value) (u175001 : Value) (own : Nat → Prop), v148 = .int .i64 x148_4 ∧ Aside0 (cfg_Build.l3 kq x132_3 (x175000_2.length : Int) x132_3 t200 (t200.length : Int) x148_4 l0_0 x175000_4 x175001_4 = some (r1, r2, r3, r4)) ∧ Aside0 (kq ≤ k3) ∧ Aside0 (Kd.R (Kd.int .i64) 3 w' wE.heap.size (fun _ => True) (.slice Ao91 t200.length co91) t200) ∧ Aside0 (Kd.S k51 51 w' wE.heap.size (fun k_ => own k_ ∧ some k_ ≠ ((.slice Ao91 t200.length co91) : Value).ownBlock) u175000 x175000_4) ∧ Aside0 (Kd.S (Kd.slice 3 (Kd.int .i64)) 49 w' wE.heap.size (fun k_ => ¬ own k_ ∧ some k_ ≠ ((.slice Ao91 t200.length co91) : Value).ownBlock) u175001 x175001_4) ∧ Aside0 (w'.heap[gb169]? = some (.cells #[(.slice A0_0 l0_0.length c0_0), (.slice (some ad172) l0_1.length c0_1), .int .i64 a0_2, .int .i64 a0_3] 25 (0, 0))) ∧ Aside0 (w'.heap[gb170]? = some (.cells #[(.slice none 0 0), (.slice none 0 0)] 31 (0, 0))) ∧ Aside0 (w'.heap[bn]? = some om) ∧ Aside0 (numOf x175000_4 = numOf x175000_2) ∧ Aside0 (w'.heap[gb174]? = some (.cells #[u175000, u175001] 31 (0, 0))) ∧ Aside0 (Below wE.heap.size wE w'))
        case atStart => exact ⟨(0), (x175000_3), (x175001_3), (.slice (some ad194) x175000_3.length co88), (u175001), own, (by first | rfl | (simp; done) | (simp [*]; done)), H', ⟨Nat.le_refl _⟩, ⟨by (with_reducible repeat (first | apply Kd.R_alloc | apply Kd.R_drewN | apply Kd.R_drew)); exact Kd.R_mono HO202.out (fun _ hk => trivial)⟩, ⟨tS HO_175000.out⟩, ⟨tS HO_175001.out⟩, ⟨tK BK169.out⟩, ⟨tK BK170.out⟩, ⟨tK BKN.out⟩, NF, ⟨tK BK174.out⟩, ⟨tB3 HB.out GE169.out GE170.out GE174.out⟩⟩
        as_aux_lemma =>
        clear H'
        obtain ⟨x148_4, x175000_4, x175001_4, u175000, u175001, own, rfl, HA, HK4, HO_146, HO_175000, HO_175001, BK169, BK170, BKN, NF, BK174, HB⟩ := hrel
        cases gk with
        | zero => exact absurd HA.out (by simp [cfg_Build.l3])
        | succ k4 =>
         have H := HA.out
         clear HA
         simp only [cfg_Build.l3] at H
         by_cases c92 : x148_4 < (t200.length : Int)
         rotate_left
         ·rw [if_neg c92] at H
          have c92b0 : decide (x148_4 < (t200.length : Int)) = false := decide_eq_false c92
          clear c92
          have H' := aK H
          clear H
          go_wp2
          go_roundg k4
          case measure => have := HJ4.out; have := HK2.out; have := HK3.out; have := HK4.out; omega
          case rel => exact ⟨(wrap64 (x132_3 + 1)), (x175000_4), (x175001_4), (u175000), (u175001), own, (by first | rfl | (simp; done) | (simp [*]; done)), H', ⟨by have := HJ4.out; have := HK2.out; have := HK3.out; have := HK4.out; omega⟩, ⟨by (with_reducible repeat (first | apply Kd.S_alloc | apply Kd.S_drewN | apply Kd.S_drew)); exact Kd.S_mono HO_175000.out (fun _ hk => hk.1)⟩, ⟨by (with_reducible repeat (first | apply Kd.S_alloc | apply Kd.S_drewN | apply Kd.S_drew)); exact Kd.S_mono HO_175001.out (fun _ hk => hk.1)⟩, ⟨tK BK169.out⟩, ⟨tK BK170.out⟩, ⟨tK BKN.out⟩, NF, ⟨tK BK174.out⟩, ⟨tB3 HB.out GE169.out GE170.out GE174.out⟩⟩
         rw [if_pos c92] at H
         have c92b0 : decide (x148_4 < (t200.length : Int)) = true := decide_eq_true c92
         clear c92
         by_cases c93 : 0 ≤ x148_4
         rotate_left
         ·rw [if_neg c93] at H
          exact absurd H (by simp)
         rw [if_pos c93] at H
         have c93b0 : decide (0 ≤ x148_4) = true := decide_eq_true c93
         clear c93
         by_cases c94 : x148_4 < (t200.length : Int)
         rotate_left
         ·rw [if_neg c94] at H
          exact absurd H (by simp)
         rw [if_pos c94] at H
         have c94b0 : decide (x148_4 < (t200.length : Int)) = true := decide_eq_true c94
         clear c94
         replace H := bM H
         obtain ⟨t204, A950, H⟩ := H
         (try dsimp only at H)
         have A95 := aK A950
         clear A950
         by_cases c96 : 0 ≤ x132_3
         rotate_left
         ·rw [if_neg c96] at H
          exact absurd H (by simp)
         rw [if_pos c96] at H
         have c96b0 : decide (0 ≤ x132_3) = true := decide_eq_true c96
         clear c96
         by_cases c97 : x132_3 < (x175000_4.length : Int)
         rotate_left
         ·rw [if_neg c97] at H
          exact absurd H (by simp)
         rw [if_pos c97] at H
         have c97b0 : decide (x132_3 < (x175000_4.length : Int)) = true := decide_eq_true c97
         clear c97
         replace H := bM H
         obtain ⟨t206, A980, H⟩ := H
         (try dsimp only at H)
         have A98 := aK A980
         clear A980
         by_cases c99 : t206 = true
         ·subst c99
          rw [if_pos rfl] at H
          have H' := aK H
          clear H
          have p203 : 0 ≤ (x148_4 : Int) := tD
          have q203 : x148_4 < (t200.length : Int) := tD
          obtain ⟨ad203, e203, hx203_0⟩ := Kd.at_int (Kd.R_reads' HO_146.out).2.2 x148_4 p203 q203
          cases e203
          replace p203 := eq_true p203
          replace q203 := eq_true q203
          have hnb100 := NB174_169.out
          have hnc100 := NB169_174.out
          have hnb101 := NB174_170.out
          have hnc101 := NB170_174.out
          have hcz102_0 := bc 0 BK174.out
          have hcz102_1 := bc 1 BK174.out
          have hfz102_0 := blk_frozen BK174.out 0
          have hfz102_1 := blk_frozen BK174.out 1
          obtain ⟨Ao103, co103, eo103⟩ := Kd.S_slice HO_175000.out
          subst eo103
          go_wp2_with (first | ((refine gate_ (.lookup 92 (.tmp 152) (.tmp 153) false) rfl ?_); refine wp_look_int' rfl _ _ rfl (NOM.out _ BKN.out) Try.underlying92 Try.underlying3 Try.underlying3 (zero3 _) rfl _ rfl (succ_wf_rd A84.out x148_4 (of_decide_eq_true c93b0) (of_decide_eq_true c94b0)) t204 (num_eq NF.out A95.out) ?_; have p205 : 0 ≤ (x132_3 : Int) := tD; have q205 : x132_3 < (x175000_4.length : Int) := tD; obtain ⟨ad205, A205_2, c205_2, e205, hx205_0, hx205_1, hx205_2, hl205_2, hi205_2⟩ := at_T51 (Kd.S_reads' HO_175000.out).2.2 x132_3 p205 q205; cases e205; obtain ⟨ce205, hce205, hMe205, hcc205⟩ := Kd.S_get HO_175000.out z51 x132_3 p205 (by first | exact q205 | exact tD | (have e_ := (Kd.S_reads' HO_175000.out).1; omega)); obtain ⟨ve205_2, rfl, ge205_2⟩ := k51_openM hMe205; have hv205_2 := hcc205 2 _ rfl; rw [add_field _ _ 2 (by omega)] at hv205_2; replace hv205_2 := oI (hv205_2.symm.trans hx205_2); rw [hv205_2] at ge205_2; have HL205_2 := aK (show Kd.R (Kd.int .i64) 3 _ _ _ _ ((rd_T51 x175000_4 x132_3).f2) from ge205_2); clear hv205_2 ge205_2; have HX205_2 := aK hx205_2; clear hcc205 hce205; have HR205_2 := aK hi205_2; have HC205_2 := aK hl205_2; clear hi205_2 hl205_2; replace p205 := eq_true p205; replace q205 := eq_true q205) | ((refine gate_callee (f := 39) rfl ?_); refine goesL_ (some 162) rfl rfl Try.func39 (by kernel_rfl) rfl #[.slice A205_2 ((rd_T51 x175000_4 x132_3).f2).length c205_2, .int .i64 t204] rfl tF ?_; (with_reducible refine (slices_Contains_int_int.calls k4 _ _ ((rd_T51 x175000_4 x132_3).f2) t204 true _ ?side1 ?side2 A98.out).mono ?_); (case side1 => repeat (first | exact (by repeat (first | (with_reducible exact HR205_2.out) | (with_reducible refine Kd.C_alloc ?_ _) | (with_reducible refine Kd.C_drewN ?_ _) | (with_reducible refine Kd.C_drew ?_) | exact HR205_2.out)) | (with_reducible refine Kd.C_alloc ?_ _) | (with_reducible refine Kd.C_drewN ?_ _) | (with_reducible refine Kd.C_drew ?_))); (case side2 => exact HC205_2.out); rintro e w' ⟨rfl, ⟨nd, rfl⟩⟩; refine ⟨_, rfl, ?_⟩))
          go_roundg k4
          case measure => have := HJ4.out; have := HK2.out; have := HK3.out; have := HK4.out; omega
          case rel => exact ⟨(wrap64 (x148_4 + 1)), (x175000_4), (x175001_4), (.slice (some ad205) x175000_4.length co103), (u175001), own, (by first | rfl | (simp; done) | (simp [*]; done)), H', ⟨by have := HJ4.out; have := HK2.out; have := HK3.out; have := HK4.out; omega⟩, ⟨tR HO_146.out⟩, ⟨tS HO_175000.out⟩, ⟨tS HO_175001.out⟩, ⟨tK BK169.out⟩, ⟨tK BK170.out⟩, ⟨tK BKN.out⟩, NF, ⟨tK BK174.out⟩, ⟨tB3 HB.out GE169.out GE170.out GE174.out⟩⟩
         ·replace c99 := Bool.eq_false_iff.mpr c99
          subst c99
          rw [if_neg (show ¬ (false = true) by decide)] at H
          by_cases c104 : ((rd_T51 x175000_4 x132_3).f2).length < 17592186044416
          rotate_left
          ·rw [if_neg c104] at H
           exact absurd H (by simp)
          rw [if_pos c104] at H
          have LMc104 := aK c104
          clear c104
          obtain ⟨y208, hy208⟩ : ∃ y_ : List Int, y_ = (((rd_T51 x175000_4 x132_3).f2) ++ [t204]) := ⟨_, rfl⟩
          replace H : (if 0 ≤ t204 then (if t204 < (x175001_4.length : Int) then (if (rd_LL x175001_4 t204).length < 17592186044416 then (cfg_Build.l3 k4 x132_3 (x175000_2.length : Int) x132_3 t200 (t200.length : Int) (wrap64 (x148_4 + 1)) l0_0 (x175000_4.set (x132_3 : Int).toNat (⟨(rd_T51 x175000_4 x132_3).f0, (rd_T51 x175000_4 x132_3).f1, y208⟩ : S51)) (x175001_4.set (t204 : Int).toNat ((rd_LL x175001_4 t204) ++ [x132_3]))) else (none)) else (none)) else (none)) = some (r1, r2, r3, r4) := by first | (rw [hy208]; with_reducible exact H) | (have H2_ := (Option.bind_some _ _).symm.trans H; rw [hy208]; with_reducible exact H2_) | (have H2_ := (Option.bind_some _ _).symm.trans H; with_reducible exact H2_) | with_reducible exact H | (rw [hy208]; exact H) | exact H
          have Ny208 := aK hy208
          clear hy208
          obtain ⟨y211, hy211⟩ : ∃ y_ : List (S51), y_ = (x175000_4.set (x132_3 : Int).toNat (⟨(rd_T51 x175000_4 x132_3).f0, (rd_T51 x175000_4 x132_3).f1, y208⟩ : S51)) := ⟨_, rfl⟩
          replace H : (if 0 ≤ t204 then (if t204 < (x175001_4.length : Int) then (if (rd_LL x175001_4 t204).length < 17592186044416 then (cfg_Build.l3 k4 x132_3 (x175000_2.length : Int) x132_3 t200 (t200.length : Int) (wrap64 (x148_4 + 1)) l0_0 y211 (x175001_4.set (t204 : Int).toNat ((rd_LL x175001_4 t204) ++ [x132_3]))) else (none)) else (none)) else (none)) = some (r1, r2, r3, r4) := by first | (rw [hy211]; with_reducible exact H) | (have H2_ := (Option.bind_some _ _).symm.trans H; rw [hy211]; with_reducible exact H2_) | (have H2_ := (Option.bind_some _ _).symm.trans H; with_reducible exact H2_) | with_reducible exact H | (rw [hy211]; exact H) | exact H
          have Ny211 := aK hy211
          clear hy211
          by_cases c106 : 0 ≤ t204
          rotate_left
          ·rw [if_neg c106] at H
           exact absurd H (by simp)
          rw [if_pos c106] at H
          have c106b0 : decide (0 ≤ t204) = true := decide_eq_true c106
          clear c106
          by_cases c107 : t204 < (x175001_4.length : Int)
          rotate_left
          ·rw [if_neg c107] at H
           exact absurd H (by simp)
          rw [if_pos c107] at H
          have c107b0 : decide (t204 < (x175001_4.length : Int)) = true := decide_eq_true c107
          clear c107
          by_cases c108 : (rd_LL x175001_4 t204).length < 17592186044416
          rotate_left
          ·rw [if_neg c108] at H
           exact absurd H (by simp)
          rw [if_pos c108] at H
          have LMc108 := aK c108
          clear c108
          obtain ⟨y213, hy213⟩ : ∃ y_ : List Int, y_ = ((rd_LL x175001_4 t204) ++ [x132_3]) := ⟨_, rfl⟩
          replace H : (cfg_Build.l3 k4 x132_3 (x175000_2.length : Int) x132_3 t200 (t200.length : Int) (wrap64 (x148_4 + 1)) l0_0 y211 (x175001_4.set (t204 : Int).toNat y213)) = some (r1, r2, r3, r4) := by first | (rw [hy213]; with_reducible exact H) | (have H2_ := (Option.bind_some _ _).symm.trans H; rw [hy213]; with_reducible exact H2_) | (have H2_ := (Option.bind_some _ _).symm.trans H; with_reducible exact H2_) | with_reducible exact H | (rw [hy213]; exact H) | exact H
          have Ny213 := aK hy213
          clear hy213
          obtain ⟨y216, hy216⟩ : ∃ y_ : List (List Int), y_ = (x175001_4.set (t204 : Int).toNat y213) := ⟨_, rfl⟩
          replace H : (cfg_Build.l3 k4 x132_3 (x175000_2.length : Int) x132_3 t200 (t200.length : Int) (wrap64 (x148_4 + 1)) l0_0 y211 y216) = some (r1, r2, r3, r4) := by first | (rw [hy216]; with_reducible exact H) | (have H2_ := (Option.bind_some _ _).symm.trans H; rw [hy216]; with_reducible exact H2_) | (have H2_ := (Option.bind_some _ _).symm.trans H; with_reducible exact H2_) | with_reducible exact H | (rw [hy216]; exact H) | exact H
          have Ny216 := aK hy216
          clear hy216
          have H' := aK H
          clear H
          have p203 : 0 ≤ (x148_4 : Int) := tD
          have q203 : x148_4 < (t200.length : Int) := tD
          obtain ⟨ad203, e203, hx203_0⟩ := Kd.at_int (Kd.R_reads' HO_146.out).2.2 x148_4 p203 q203
          cases e203
          replace p203 := eq_true p203
          replace q203 := eq_true q203
          have hnb110 := NB174_169.out
          have hnc110 := NB169_174.out
          have hnb111 := NB174_170.out
          have hnc111 := NB170_174.out
          have hcz112_0 := bc 0 BK174.out
          have hcz112_1 := bc 1 BK174.out
          have hfz112_0 := blk_frozen BK174.out 0
          have hfz112_1 := blk_frozen BK174.out 1
          obtain ⟨Ao113, co113, eo113⟩ := Kd.S_slice HO_175000.out
          subst eo113
          try go_wp2_with (first | ((refine gate_ (.lookup 92 (.tmp 152) (.tmp 153) false) rfl ?_); refine wp_look_int' rfl _ _ rfl (NOM.out _ BKN.out) Try.underlying92 Try.underlying3 Try.underlying3 (zero3 _) rfl _ rfl (succ_wf_rd A84.out x148_4 (of_decide_eq_true c93b0) (of_decide_eq_true c94b0)) t204 (num_eq NF.out A95.out) ?_; (try (rw [drewN_self wr]; generalize hq_ : World.drewN wr _ = wr; replace HO_146 : Aside0 (Kd.R (Kd.int .i64) 3 wr wE.heap.size (fun _ => True) (.slice (some ad203) t200.length co91) t200) := ⟨by rw [← hq_]; exact (tR HO_146.out)⟩; replace HO_175000 : Aside0 (Kd.S k51 51 wr wE.heap.size (fun k_ => own k_ ∧ some k_ ≠ (.slice (some ad203) t200.length co91 : Value).ownBlock) (.slice Ao113 x175000_4.length co113) x175000_4) := ⟨by rw [← hq_]; exact (tS HO_175000.out)⟩; replace HO_175001 : Aside0 (Kd.S (Kd.slice 3 (Kd.int .i64)) 49 wr wE.heap.size (fun k_ => ¬ own k_ ∧ some k_ ≠ (.slice (some ad203) t200.length co91 : Value).ownBlock) u175001 x175001_4) := ⟨by rw [← hq_]; exact (tS HO_175001.out)⟩; replace BK169 : Aside0 (wr.heap[gb169]? = some (.cells #[.slice A0_0 l0_0.length c0_0, .slice (some ad172) l0_1.length c0_1, .int .i64 a0_2, .int .i64 a0_3] 25 (0, 0))) := ⟨by rw [← hq_]; exact (tK BK169.out)⟩; replace BK170 : Aside0 (wr.heap[gb170]? = some (.cells #[.slice none 0 0, .slice none 0 0] 31 (0, 0))) := ⟨by rw [← hq_]; exact (tK BK170.out)⟩; replace BKN : Aside0 (wr.heap[bn]? = some (om)) := ⟨by rw [← hq_]; exact (tK BKN.out)⟩; replace BK174 : Aside0 (wr.heap[gb174]? = some (.cells #[.slice Ao113 x175000_4.length co113, u175001] 31 (0, 0))) := ⟨by rw [← hq_]; exact (tK BK174.out)⟩; replace HB : Aside0 (Below wE.heap.size wE wr) := ⟨by rw [← hq_]; exact (tB1 HB.out GE174.out)⟩; clear hq_)); have p205 : 0 ≤ (x132_3 : Int) := tD; have q205 : x132_3 < (x175000_4.length : Int) := tD; obtain ⟨ad205, A205_2, c205_2, e205, hx205_0, hx205_1, hx205_2, hl205_2, hi205_2⟩ := at_T51 (Kd.S_reads' HO_175000.out).2.2 x132_3 p205 q205; cases e205; obtain ⟨ce205, hce205, hMe205, hcc205⟩ := Kd.S_get HO_175000.out z51 x132_3 p205 (by first | exact q205 | exact tD | (have e_ := (Kd.S_reads' HO_175000.out).1; omega)); obtain ⟨ve205_2, rfl, ge205_2⟩ := k51_openM hMe205; have hv205_2 := hcc205 2 _ rfl; rw [add_field _ _ 2 (by omega)] at hv205_2; replace hv205_2 := oI (hv205_2.symm.trans hx205_2); rw [hv205_2] at ge205_2; have HL205_2 := aK (show Kd.R (Kd.int .i64) 3 _ _ _ _ ((rd_T51 x175000_4 x132_3).f2) from ge205_2); clear hv205_2 ge205_2; have HX205_2 := aK hx205_2; clear hcc205 hce205; have HR205_2 := aK hi205_2; have HC205_2 := aK hl205_2; clear hi205_2 hl205_2; replace p205 := eq_true p205; replace q205 := eq_true q205) | ((refine gate_callee (f := 39) rfl ?_); refine goesL_ (some 162) rfl rfl Try.func39 (by kernel_rfl) rfl #[.slice A205_2 ((rd_T51 x175000_4 x132_3).f2).length c205_2, .int .i64 t204] rfl tF ?_; (with_reducible refine (slices_Contains_int_int.calls k4 _ _ ((rd_T51 x175000_4 x132_3).f2) t204 false _ ?side1 ?side2 A98.out).mono ?_); (case side1 => repeat (first | exact (by repeat (first | (with_reducible exact HR205_2.out) | (with_reducible refine Kd.C_alloc ?_ _) | (with_reducible refine Kd.C_drewN ?_ _) | (with_reducible refine Kd.C_drew ?_) | exact HR205_2.out)) | (with_reducible refine Kd.C_alloc ?_ _) | (with_reducible refine Kd.C_drewN ?_ _) | (with_reducible refine Kd.C_drew ?_))); (case side2 => exact HC205_2.out); rintro e w' ⟨rfl, ⟨nd, rfl⟩⟩; refine ⟨_, rfl, ?_⟩; (try (rw [drewN_self wr]; generalize hq_ : World.drewN wr _ = wr; replace HL205_2 : Aside0 (Kd.R (Kd.int .i64) 3 wr wE.heap.size (fun k_ => (own k_ ∧ some k_ ≠ (.slice (some ad203) t200.length co91 : Value).ownBlock) ∧ some k_ ≠ (.slice (some ad205) x175000_4.length co113 : Value).ownBlock) (.slice A205_2 ((rd_T51 x175000_4 x132_3).f2).length c205_2) ((rd_T51 x175000_4 x132_3).f2)) := ⟨by rw [← hq_]; exact (tR HL205_2.out)⟩; replace HO_146 : Aside0 (Kd.R (Kd.int .i64) 3 wr wE.heap.size (fun _ => True) (.slice (some ad203) t200.length co91) t200) := ⟨by rw [← hq_]; exact (tR HO_146.out)⟩; replace HO_175000 : Aside0 (Kd.S k51 51 wr wE.heap.size (fun k_ => own k_ ∧ some k_ ≠ (.slice (some ad203) t200.length co91 : Value).ownBlock) (.slice (some ad205) x175000_4.length co113) x175000_4) := ⟨by rw [← hq_]; exact (tS HO_175000.out)⟩; replace HO_175001 : Aside0 (Kd.S (Kd.slice 3 (Kd.int .i64)) 49 wr wE.heap.size (fun k_ => ¬ own k_ ∧ some k_ ≠ (.slice (some ad203) t200.length co91 : Value).ownBlock) u175001 x175001_4) := ⟨by rw [← hq_]; exact (tS HO_175001.out)⟩; replace BK169 : Aside0 (wr.heap[gb169]? = some (.cells #[.slice A0_0 l0_0.length c0_0, .slice (some ad172) l0_1.length c0_1, .int .i64 a0_2, .int .i64 a0_3] 25 (0, 0))) := ⟨by rw [← hq_]; exact (tK BK169.out)⟩; replace BK170 : Aside0 (wr.heap[gb170]? = some (.cells #[.slice none 0 0, .slice none 0 0] 31 (0, 0))) := ⟨by rw [← hq_]; exact (tK BK170.out)⟩; replace BKN : Aside0 (wr.heap[bn]? = some (om)) := ⟨by rw [← hq_]; exact (tK BKN.out)⟩; replace BK174 : Aside0 (wr.heap[gb174]? = some (.cells #[.slice (some ad205) x175000_4.length co113, u175001] 31 (0, 0))) := ⟨by rw [← hq_]; exact (tK BK174.out)⟩; replace HB : Aside0 (Below wE.heap.size wE wr) := ⟨by rw [← hq_]; exact (tB1 HB.out GE174.out)⟩; replace HR205_2 : Aside0 (Kd.C (Kd.int .i64) wr A205_2 ((rd_T51 x175000_4 x132_3).f2).length ((rd_T51 x175000_4 x132_3).f2)) := ⟨by rw [← hq_]; exact (by repeat (first | (with_reducible exact HR205_2.out) | (with_reducible refine Kd.C_alloc ?_ _) | (with_reducible refine Kd.C_drewN ?_ _) | (with_reducible refine Kd.C_drew ?_) | exact HR205_2.out))⟩; clear hq_))))
          replace HO_146 := aK (Kd.R_drew HO_146.out)
          replace HO_175000 := aK (Kd.S_drew HO_175000.out)
          replace HO_175001 := aK (Kd.S_drew HO_175001.out)
          replace HL205_2 := aK (Kd.R_drew HL205_2.out)
          replace BK169 := aK (blk_drew BK169.out)
          replace BK170 := aK (blk_drew BK170.out)
          replace BKN := aK (blk_drew BKN.out)
          replace BK174 := aK (blk_drew BK174.out)
          replace HR205_2 := aK (Kd.C_drew HR205_2.out)
          replace HB := aK (below_drew1 HB.out)
          obtain ⟨own1, hown1⟩ : ∃ o_ : Nat → Prop, o_ = fun k_ => own k_ ∨ wr.heap.size ≤ k_ := ⟨_, rfl⟩
          have n0_ := aK (Kd.S_mono (ok' := fun k_ => own1 k_ ∧ some k_ ≠ (.slice (some ad203) t200.length co91 : Value).ownBlock) HO_175000.out (fun k_ hk => ⟨by rw [hown1]; exact .inl hk.1, hk.2⟩))
          have n1_ := aK (Kd.S_mono (ok' := fun k_ => ¬ own1 k_ ∧ some k_ ≠ (.slice (some ad203) t200.length co91 : Value).ownBlock) (Kd.S_bound HO_175001.out) (fun k_ hk => ⟨by rw [hown1]; exact fun h_ => h_.elim hk.1.1 (fun h2_ => Nat.lt_irrefl _ (Nat.lt_of_lt_of_le hk.2.2.1 h2_)), hk.1.2⟩))
          have HOW1 := aK (show ∀ k_, wr.drew.heap.size ≤ k_ → own1 k_ from fun k_ h_ => by rw [hown1]; exact .inr h_)
          clear HO_175000 HO_175001 hown1
          have HO_175000 := n0_
          have HO_175001 := n1_
          clear n0_ n1_
          have p207 : 0 ≤ (x132_3 : Int) := tD
          have q207 : x132_3 < (x175000_4.length : Int) := tD
          obtain ⟨ad207, A207_2, c207_2, e207, hx207_0, hx207_1, hx207_2, hl207_2, hi207_2⟩ := at_T51 (Kd.S_reads' HO_175000.out).2.2 x132_3 p207 q207
          obtain rfl : ad205 = ad207 := (by injection e207)
          obtain ⟨ce207, hce207, hMe207, hcc207⟩ := Kd.S_get HO_175000.out z51 x132_3 p207 (by first | exact q207 | exact tD | (have e_ := (Kd.S_reads' HO_175000.out).1; omega))
          obtain ⟨ve207_2, rfl, ge207_2⟩ := k51_openM hMe207
          have hv207_2 := hcc207 2 _ rfl
          rw [add_field _ _ 2 (by omega)] at hv207_2
          replace hv207_2 := oI (hv207_2.symm.trans hx207_2)
          rw [hv207_2] at ge207_2
          have HL207_2 := aK (show Kd.R (Kd.int .i64) 3 _ _ _ _ ((rd_T51 x175000_4 x132_3).f2) from ge207_2)
          clear hv207_2 ge207_2
          have HX207_2 := aK hx207_2
          clear hcc207 hce207
          have HR207_2 := aK hi207_2
          have HC207_2 := aK hl207_2
          clear hi207_2 hl207_2
          replace p207 := eq_true p207
          replace q207 := eq_true q207
          obtain ⟨go115, co115, eo115, gb115, gl115, cl115, HG115⟩ := Kd.S_form HO_175000.out (by have h_ : (x132_3 : Int) < ((x175000_4.length : Int) : Int) := tD; have h2_ : 0 ≤ (x132_3 : Int) := (tD); omega)
          (first | cases eo115 | (injection eo115 with ea_ en_ ec_; (first | subst ea_ | (injection ea_ with ea_; subst ea_)); subst ec_; clear en_))
          have GB115 := aK gb115
          have GG115 := aK HG115
          clear gb115 gl115 HG115
          (first | simp only [add_plain] at hx205_0 | skip)
          (first | simp only [add_plain] at hx205_1 | skip)
          (first | simp only [add_plain] at hx205_2 | skip)
          (first | simp only [add_plain] at hx207_0 | skip)
          (first | simp only [add_plain] at hx207_1 | skip)
          (first | simp only [add_plain] at hx207_2 | skip)
          obtain ⟨oki115, ce115, hcl115, hM115, hcc115, _, _, hH115⟩ := Kd.S_elem HO_175000.out z51 (x132_3 : Int) (tD) (by have h_ : (x132_3 : Int) < ((x175000_4.length : Int) : Int) := tD; first | exact h_ | (have e_ := (Kd.S_reads' HO_175000.out).1; omega) | simpa using h_)
          obtain ⟨ve115_2, rfl, ge115_2⟩ := k51_openM hM115
          have hv115 := hcc115 2 _ rfl
          have hX115 := HX207_2.out
          (try simp only [add_plain] at hX115)
          (try simp only [Nat.add_zero] at hv115)
          replace hv115 := oI (hv115.symm.trans hX115)
          subst hv115
          clear hX115 hcc115 hcl115
          have UU115 := aK (show Kd.R (Kd.int .i64) 3 _ wE.heap.size oki115 (.slice A207_2 ((rd_T51 x175000_4 x132_3).f2).length c207_2) ((rd_T51 x175000_4 x132_3).f2) from ge115_2)
          have HH115 := aK hH115
          have HN115 := aK (Kd.S_reads' HO_175000.out).1
          clear hH115 ge115_2
          refine start_ (n := 15) (S := fun w' => w'.cell? ⟨gb174, 0, none⟩ = some (.slice (some ⟨go115, 0, none⟩) x175000_4.length co113) ∧ w'.cell? ⟨gb174, 1, none⟩ = some (u175001) ∧ w'.cell? ⟨go115, ((x132_3).toNat * 3), none⟩ = some (.int .i64 ((rd_T51 x175000_4 x132_3).f0)) ∧ w'.cell? ⟨go115, ((x132_3).toNat * 3) + 1, none⟩ = some (.int .i64 ((rd_T51 x175000_4 x132_3).f1)) ∧ w'.cell? ⟨go115, ((x132_3).toNat * 3) + 2, none⟩ = some (.slice A207_2 ((rd_T51 x175000_4 x132_3).f2).length c207_2)) (ds := [14]) #[F_, F_, F_, F_, F_, F_, F_, F_, F_, F_, F_, F_, F_, F_, F_] (by kernel_rfl) rfl rfl ⟨(blk_cell BK174.out 0).trans rfl, (blk_cell BK174.out 1).trans rfl, hx207_0, hx207_1, hx207_2⟩ (fun hHeld => ?_); refine with_tabW cfg_Build.tab33 cfg_Build.bits33 (fun HT_ HW_ => ?_)
          generalize wr.drew = w114 at HOW1 HO_146 HO_175000 HO_175001 HL205_2 BK169 BK170 BKN BK174 HR205_2 HB GG115 HH115 HL207_2 HR207_2 HX207_2 UU115 hx205_0 hx205_1 hx205_2 hx207_0 hx207_1 hx207_2 hHeld ⊢
          refine pure_ (i := 0) (N := some 164) (v := ?_) (a' := ?_) #[T_, F_, F_, F_, F_, F_, F_, F_, F_, F_, F_, F_, F_, F_, F_] rfl rfl (any_of HT_.out (by kernel_rfl)) (fun _ _ _ h => h) (Or.inl ⟨by rfl, ?_⟩) ?_ ?_
          rotate_left
          ·intro w'
           go_simp
           with_reducible rfl
          rotate_left
          ·simp only [Act.put, pA, pB, pC, i64_w, i32_w]
           rfl
          refine pure_ (i := 2) (N := some 166) (v := ?_) (a' := ?_) #[T_, F_, T_, F_, F_, F_, F_, F_, F_, F_, F_, F_, F_, F_, F_] rfl rfl (any_of HT_.out (by kernel_rfl)) (fun _ _ _ h => h) (Or.inl ⟨by rfl, ?_⟩) ?_ ?_
          rotate_left
          ·intro w'
           go_simp
           with_reducible rfl
          rotate_left
          ·simp only [Act.put, pA, pB, pC, i64_w, i32_w]
           rfl
          refine pure_ (i := 3) (N := some 167) (v := ?_) (a' := ?_) #[T_, F_, T_, T_, F_, F_, F_, F_, F_, F_, F_, F_, F_, F_, F_] rfl rfl (any_of HT_.out (by kernel_rfl)) (fun _ _ _ h => h) (Or.inl ⟨by rfl, ?_⟩) ?_ ?_
          rotate_left
          ·intro w'
           go_simp
           with_reducible rfl
          rotate_left
          ·simp only [Act.put, pA, pB, pC, i64_w, i32_w]
           rfl
          refine pure_ (i := 5) (N := some 169) (v := ?_) (a' := ?_) #[T_, F_, T_, T_, F_, T_, F_, F_, F_, F_, F_, F_, F_, F_, F_] rfl rfl (any_of HT_.out (by kernel_rfl)) (fun _ _ _ h => h) (Or.inl ⟨by rfl, ?_⟩) ?_ ?_
          rotate_left
          ·intro w'
           go_simp
           with_reducible rfl
          rotate_left
          ·simp only [Act.put, pA, pB, pC, i64_w, i32_w]
           rfl
          refine pure_ (i := 9) (N := some 173) (v := ?_) (a' := ?_) #[T_, F_, T_, T_, F_, T_, F_, F_, F_, T_, F_, F_, F_, F_, F_] rfl rfl (any_of HT_.out (by kernel_rfl)) (fun _ _ _ h => h) (Or.inl ⟨by rfl, ?_⟩) ?_ ?_
          rotate_left
          ·intro w'
           go_simp
           with_reducible rfl
          rotate_left
          ·simp only [Act.put, pA, pB, pC, i64_w, i32_w]
           rfl
          refine take_ (i := 1) (N := some 165) (v := ?_) (a' := ?_) #[T_, T_, T_, T_, F_, T_, F_, F_, F_, T_, F_, F_, F_, F_, F_] rfl rfl (take_ofW HT_.out HW_.out (by kernel_rfl)) (fun _ _ _ h => h) (Or.inl ⟨by rfl, ?_⟩) hHeld ?_ ?_
          rotate_left
          ·rintro w' ⟨s0, s1, s2, s3, s4⟩
           go_simp
           with_reducible rfl
          rotate_left
          ·simp only [Act.put, pA, pB, pC, i64_w, i32_w]
           rfl
          refine take_ (i := 4) (N := some 168) (v := ?_) (a' := ?_) #[T_, T_, T_, T_, T_, T_, F_, F_, F_, T_, F_, F_, F_, F_, F_] rfl rfl (take_ofW HT_.out HW_.out (by kernel_rfl)) (fun _ _ _ h => h) (Or.inl ⟨by rfl, ?_⟩) hHeld ?_ ?_
          rotate_left
          ·rintro w' ⟨s0, s1, s2, s3, s4⟩
           go_simp
           with_reducible rfl
          rotate_left
          ·simp only [Act.put, pA, pB, pC, i64_w, i32_w]
           rfl
          refine pure_ (i := 6) (N := some 170) (v := ?_) (a' := ?_) #[T_, T_, T_, T_, T_, T_, T_, F_, F_, T_, F_, F_, F_, F_, F_] rfl rfl (any_of HT_.out (by kernel_rfl)) (fun _ _ _ h => h) (Or.inl ⟨by rfl, ?_⟩) ?_ ?_
          rotate_left
          ·intro w'
           go_simp
           with_reducible rfl
          rotate_left
          ·simp only [Act.put, pA, pB, pC, i64_w, i32_w]
           rfl
          refine pure_ (i := 7) (N := some 171) (v := ?_) (a' := ?_) #[T_, T_, T_, T_, T_, T_, T_, T_, F_, T_, F_, F_, F_, F_, F_] rfl rfl (any_of HT_.out (by kernel_rfl)) (fun _ _ _ h => h) (Or.inl ⟨by rfl, ?_⟩) ?_ ?_
          rotate_left
          ·intro w'
           go_simp
           with_reducible rfl
          rotate_left
          ·simp only [Act.put, pA, pB, pC, i64_w, i32_w]
           rfl
          refine take_ (i := 8) (N := some 172) (v := ?_) (a' := ?_) #[T_, T_, T_, T_, T_, T_, T_, T_, T_, T_, F_, F_, F_, F_, F_] rfl rfl (take_ofW HT_.out HW_.out (by kernel_rfl)) (fun _ _ _ h => h) (Or.inl ⟨by rfl, ?_⟩) hHeld ?_ ?_
          rotate_left
          ·rintro w' ⟨s0, s1, s2, s3, s4⟩
           go_simp
           with_reducible rfl
          rotate_left
          ·simp only [Act.put, pA, pB, pC, i64_w, i32_w]
           rfl
          refine one_ (i := 10) (N := some 174) #[T_, T_, T_, T_, T_, T_, T_, T_, T_, T_, T_, F_, F_, F_, F_] rfl rfl (one_of HT_.out (by kernel_rfl)) (by decide) (fun K hK => ?_)
          refine value_ (w1 := ?_) (v := ?_) (by rfl) rfl ?_ ?_
          rotate_left 2
          ·go_simp
           constructor
           ·rfl
           ·rfl
          refine hK.out _ _ ⟨(blk_cell (blk_alloc BK174.out _) 0).trans rfl, (blk_cell (blk_alloc BK174.out _) 1).trans rfl, (World.cell?_alloc_lt _ _ _ (World.block_lt_of_cell? _ _ (hHeld.2.2.1))).trans (hHeld.2.2.1), (World.cell?_alloc_lt _ _ _ (World.block_lt_of_cell? _ _ (hHeld.2.2.2.1))).trans (hHeld.2.2.2.1), (World.cell?_alloc_lt _ _ _ (World.block_lt_of_cell? _ _ (hHeld.2.2.2.2))).trans (hHeld.2.2.2.2)⟩ (fun hHeld => ?_)
          clear hK K
          refine norm_ (a' := ?_) ?_ ?_
          rotate_left
          ·show Act.put _ (some 174) _ = _
           simp only [Act.put, pA, pB, pC, i64_w, i32_w]
           rfl
          refine one_ (i := 11) (N := some 175) #[T_, T_, T_, T_, T_, T_, T_, T_, T_, T_, T_, T_, F_, F_, F_] rfl rfl (one_of HT_.out (by kernel_rfl)) (by decide) (fun K hK => ?_)
          refine Kd.R_append_step (Kd.int .i64) (w0 := wE) wE.heap.size (by rfl) (.tmp 172) (.tmp 174) 49 3 (.int .i64 0) 8 rfl Try.underlying49 info3 rfl (by decide) (by omega) (.slice A207_2 ((rd_T51 x175000_4 x132_3).f2).length c207_2) ((rd_T51 x175000_4 x132_3).f2) t204 [.int .i64 t204] (fun k_ => oki115 k_ ∨ ((fun k_ => own1 k_ ∧ some k_ ≠ (.slice (some ad203) t200.length co91 : Value).ownBlock)) k_ ∧ w114.heap.size ≤ k_) (fun _ => False) rfl rfl ?aP (fun _ hk => hk.elim) ?aF ?aO ?aB ?aS ?aL ?_
          (case aP => exact rfl)
          (case aB => exact (tB3 HB.out GE169.out GE170.out GE174.out))
          (case aF => exact (fun k_ hk => .inr ⟨⟨HOW1.out k_ hk, Kd.fresh' (Kd.R_lt (tR HO_146.out)) k_ hk⟩, hk⟩))
          (case aO => exact (by (with_reducible repeat (first | apply Kd.R_alloc | apply Kd.R_drewN | apply Kd.R_drew)); exact Kd.R_mono UU115.out (fun _ hk => .inl hk)))
          (case aS => exact (below_size (tB3 HB.out GE169.out GE170.out GE174.out)))
          (case aL => have := LMc104.out; omega)
          intro v209 w116 ho hb hg hat
          (first | have HS2_ := cell_grown hg (hHeld.2.2.1) (by first | (rw [add_block]; exact (fun e_ => ((HL207_2.out.1 _ e_.symm).2) rfl)) | (show some (Addr.add _ _).block ≠ _; rw [add_block]; exact (fun e_ => ((HL207_2.out.1 _ e_.symm).2) rfl)) | exact (fun e_ => ((HL207_2.out.1 _ e_.symm).2) rfl)) | have HS2_ := cell_grown hg (cell_unalloc (hHeld.2.2.1) (by first | (rw [add_block]; exact Kd.S_lt HO_175000.out _ rfl) | (show (Addr.add _ _).block < _; rw [add_block]; exact Kd.S_lt HO_175000.out _ rfl) | exact Kd.S_lt HO_175000.out _ rfl)) (by first | (rw [add_block]; exact (fun e_ => ((HL207_2.out.1 _ e_.symm).2) rfl)) | (show some (Addr.add _ _).block ≠ _; rw [add_block]; exact (fun e_ => ((HL207_2.out.1 _ e_.symm).2) rfl)) | exact (fun e_ => ((HL207_2.out.1 _ e_.symm).2) rfl)))
          (first | have HS3_ := cell_grown hg (hHeld.2.2.2.1) (by first | (rw [add_block]; exact (fun e_ => ((HL207_2.out.1 _ e_.symm).2) rfl)) | (show some (Addr.add _ _).block ≠ _; rw [add_block]; exact (fun e_ => ((HL207_2.out.1 _ e_.symm).2) rfl)) | exact (fun e_ => ((HL207_2.out.1 _ e_.symm).2) rfl)) | have HS3_ := cell_grown hg (cell_unalloc (hHeld.2.2.2.1) (by first | (rw [add_block]; exact Kd.S_lt HO_175000.out _ rfl) | (show (Addr.add _ _).block < _; rw [add_block]; exact Kd.S_lt HO_175000.out _ rfl) | exact Kd.S_lt HO_175000.out _ rfl)) (by first | (rw [add_block]; exact (fun e_ => ((HL207_2.out.1 _ e_.symm).2) rfl)) | (show some (Addr.add _ _).block ≠ _; rw [add_block]; exact (fun e_ => ((HL207_2.out.1 _ e_.symm).2) rfl)) | exact (fun e_ => ((HL207_2.out.1 _ e_.symm).2) rfl)))
          (first | have HS4_ := cell_grown hg (hHeld.2.2.2.2) (by first | (rw [add_block]; exact (fun e_ => ((HL207_2.out.1 _ e_.symm).2) rfl)) | (show some (Addr.add _ _).block ≠ _; rw [add_block]; exact (fun e_ => ((HL207_2.out.1 _ e_.symm).2) rfl)) | exact (fun e_ => ((HL207_2.out.1 _ e_.symm).2) rfl)) | have HS4_ := cell_grown hg (cell_unalloc (hHeld.2.2.2.2) (by first | (rw [add_block]; exact Kd.S_lt HO_175000.out _ rfl) | (show (Addr.add _ _).block < _; rw [add_block]; exact Kd.S_lt HO_175000.out _ rfl) | exact Kd.S_lt HO_175000.out _ rfl)) (by first | (rw [add_block]; exact (fun e_ => ((HL207_2.out.1 _ e_.symm).2) rfl)) | (show some (Addr.add _ _).block ≠ _; rw [add_block]; exact (fun e_ => ((HL207_2.out.1 _ e_.symm).2) rfl)) | exact (fun e_ => ((HL207_2.out.1 _ e_.symm).2) rfl)))
          rw [← Ny208.out] at ho
          have n0_ := aK (Kd.R_grown2 (tR HO_146.out) rfl hg (fun k_ e_ => (HL207_2.out.1 k_ e_).1.2))
          have n1_ := aK (Kd.S_grown (tS HO_175001.out) hg (by intro k_ hk e_; exact hk.1 ((HL207_2.out.1 k_ e_.symm).1.1)))
          have n2_ := aK (blk_grown (g := gb169) (o := .cells #[.slice A0_0 l0_0.length c0_0, .slice (some ad172) l0_1.length c0_1, .int .i64 a0_2, .int .i64 a0_3] 25 (0, 0)) (tK BK169.out) hg (Kd.R_ne HL207_2.out BK169.out (by decide)))
          have n3_ := aK (blk_grown (g := gb170) (o := .cells #[.slice none 0 0, .slice none 0 0] 31 (0, 0)) (tK BK170.out) hg (Kd.R_ne HL207_2.out BK170.out (by decide)))
          have nN_ := aK (blk_grown (g := bn) (o := om) (tK BKN.out) hg (num_ne_R HL207_2.out (NOM.out _ BKN.out)))
          have n4_ := aK (blk_grown (g := gb174) (o := .cells #[.slice (some ⟨go115, 0, none⟩) x175000_4.length co113, u175001] 31 (0, 0)) (tK BK174.out) hg (Kd.R_ne HL207_2.out BK174.out (by decide)))
          have n5_ := aK (hb)
          have n6_ := aK (Kd.H_grown (Kd.H_widen (by repeat (first | exact HH115.out | refine Kd.H_alloc ?_ _ | refine Kd.H_drewN ?_ _ | refine Kd.H_drew ?_))) hg (fun k_ e_ => .inl (UU115.out.1 k_ e_)))
          have n7_ := aK (ho)
          clear HO_146 HO_175001 BK169 BK170 BKN BK174 HB HH115 HO_175000 UU115 HL205_2 HL207_2
          have HO_146 := n0_
          have HO_175001 := n1_
          have BK169 := n2_
          have BK170 := n3_
          have BKN := nN_
          have BK174 := n4_
          have HB := n5_
          have HH115 := n6_
          have HO210 := n7_
          clear n0_ n1_ n2_ n3_ n4_ n5_ n6_ n7_ nN_ ho hb hg hat
          have p105 : 0 ≤ (x132_3 : Int) := tD
          have q105 : (x132_3 : Int) < ((x175000_4.length : Int) : Int) := tD
          replace p105 := eq_true p105
          replace q105 := eq_true q105
          obtain ⟨Ao119, co119, eo119⟩ := Kd.R_slice HO210.out
          (first | subst eo119 | (injection eo119 with f1_ f2_ f3_; have f4_ := f1_.symm; have f5_ := f3_.symm; clear f1_ f2_ f3_; subst f4_; subst f5_))
          obtain ⟨_, _, hraw117, _, _, hcc117, _⟩ := Kd.H_raw HH115.out (tD) (by have h_ : (x132_3 : Int) < ((x175000_4.length : Int) : Int) := tD; first | exact h_ | (have e_ := (HN115.out); omega) | simpa using h_)
          obtain ⟨_, hfr117⟩ := Kd.H_at HH115.out (tD) (by have h_ : (x132_3 : Int) < ((x175000_4.length : Int) : Int) := tD; first | exact h_ | (have e_ := (HN115.out); omega) | simpa using h_)
          have hx117_0 := hcc117 2 _ rfl
          have hf117_0 := hfr117 2
          (try rw [show (k51).sz = 3 from rfl] at hx117_0)
          (try rw [show (k51).sz = 3 from rfl] at hf117_0)
          have HP117 := Kd.S_seg0 HH115.out (tD) (by have h_ : (x132_3 : Int) < ((x175000_4.length : Int) : Int) := tD; first | exact h_ | (have e_ := (HN115.out); omega) | simpa using h_) (seg := [.slice Ao119 y208.length co119]) (j := 2) (show 3 ≤ 3 from by decide) (x' := (⟨(rd_T51 x175000_4 x132_3).f0, (rd_T51 x175000_4 x132_3).f1, y208⟩ : S51)) (k51_mkM _ _ _ (⟨(rd_T51 x175000_4 x132_3).f0, (rd_T51 x175000_4 x132_3).f1, y208⟩ : S51) HO210.out) (fun _ hk => hk)
          clear hcc117 hfr117
          have HNB169_go115 := aK (show gb169 ≠ go115 from by have h_ := Kd.R_ne hraw117 BK169.out (by decide); intro e_; exact h_ (by rw [e_]; rfl))
          have HNB170_go115 := aK (show gb170 ≠ go115 from by have h_ := Kd.R_ne hraw117 BK170.out (by decide); intro e_; exact h_ (by rw [e_]; rfl))
          have HNBN_go115 := aK (show bn ≠ go115 from by have h_ := num_ne_R hraw117 (NOM.out _ BKN.out); intro e_; exact h_ (by rw [e_]; rfl))
          have HNB174_go115 := aK (show gb174 ≠ go115 from by have h_ := Kd.R_ne hraw117 BK174.out (by decide); intro e_; exact h_ (by rw [e_]; rfl))
          have HS117 := HP117.1
          rw [← Ny211.out] at HS117
          have HQ117 := aK HS117
          obtain ⟨_, hgg117⟩ := Kd.R_typed hraw117 go115 rfl
          have GG117_ := aK hgg117
          clear HP117 HS117 hgg117
          refine hK.out _ _ ⟨(blk_cell BK174.out 0).trans rfl, (blk_cell BK174.out 1).trans rfl, HS2_, HS3_, HS4_⟩ (fun hHeld => ?_)
          clear hK K
          refine norm_ (a' := ?_) ?_ ?_
          rotate_left
          ·show Act.put _ (some 175) _ = _
           simp only [Act.put, pA, pB, pC, i64_w, i32_w]
           rfl
          refine pure_ (i := 12) (N := some 176) (v := ?_) (a' := ?_) #[T_, T_, T_, T_, T_, T_, T_, T_, T_, T_, T_, T_, T_, F_, F_] rfl rfl (any_of HT_.out (by kernel_rfl)) (fun _ _ _ h => h) (Or.inl ⟨by rfl, ?_⟩) ?_ ?_
          rotate_left
          ·intro w'
           go_simp
           with_reducible rfl
          rotate_left
          ·simp only [Act.put, pA, pB, pC, i64_w, i32_w]
           rfl
          refine pure_ (i := 13) (N := some 177) (v := ?_) (a' := ?_) #[T_, T_, T_, T_, T_, T_, T_, T_, T_, T_, T_, T_, T_, T_, F_] rfl rfl (any_of HT_.out (by kernel_rfl)) (fun _ _ _ h => h) (Or.inl ⟨by rfl, ?_⟩) ?_ ?_
          rotate_left
          ·intro w'
           go_simp
           with_reducible rfl
          rotate_left
          ·simp only [Act.put, pA, pB, pC, i64_w, i32_w]
           rfl
          refine last_ (i := 14) (N := none) #[T_, T_, T_, T_, T_, T_, T_, T_, T_, T_, T_, T_, T_, T_, T_] rfl rfl (one_of HT_.out (by kernel_rfl)) (by decide) (fun K hK => ?_)
          refine skip_ (w1 := ?_) (by rfl) rfl ?_ ?_
          rotate_left
          ·go_simp
           rfl
          refine hK.out _ _ ?_
          clear hK K
          refine done_ (done_of HT_.out (by kernel_rfl)) ?_
          try go_wp2
          have n0_ : Aside0 (Kd.R (Kd.int .i64) 3 (w116.setCell ⟨go115, (x132_3 : Int).toNat * 3 + 2, none⟩ (.slice Ao119 y208.length co119)) wE.heap.size (fun _ => True) (.slice (some ad203) t200.length co91) t200) := ⟨by (with_reducible repeat (first | apply Kd.R_alloc | apply Kd.R_drewN | apply Kd.R_drew)); exact Kd.R_mono (Kd.R_far (p := ⟨go115, (x132_3 : Int).toNat * 3 + 2, none⟩) (Kd.R_types HO_146.out GG117_.out (by decide)) (fun _ hk => hk.2) (.slice Ao119 y208.length co119)) (fun _ hk => trivial)⟩
          have n1_ : Aside0 (Kd.S (Kd.slice 3 (Kd.int .i64)) 49 (w116.setCell ⟨go115, (x132_3 : Int).toNat * 3 + 2, none⟩ (.slice Ao119 y208.length co119)) wE.heap.size (fun k_ => ¬ own1 k_ ∧ some k_ ≠ (.slice (some ad203) t200.length co91 : Value).ownBlock) u175001 x175001_4) := ⟨by (with_reducible repeat (first | apply Kd.S_alloc | apply Kd.S_drewN | apply Kd.S_drew)); exact Kd.S_mono (Kd.S_far (p := ⟨go115, (x132_3 : Int).toNat * 3 + 2, none⟩) (Kd.S_types HO_175001.out GG117_.out (by decide)) (fun _ hk => hk.2) (.slice Ao119 y208.length co119)) (fun _ hk => hk.1)⟩
          have n2_ : Aside0 (Kd.S k51 51 (w116.setCell ⟨go115, (x132_3 : Int).toNat * 3 + 2, none⟩ (.slice Ao119 y208.length co119)) wE.heap.size (fun k_ => own1 k_ ∧ some k_ ≠ (.slice (some ad203) t200.length co91 : Value).ownBlock) (.slice (some ⟨go115, 0, none⟩) x175000_4.length co113) y211) := ⟨tS HQ117.out⟩
          have n3_ : Aside0 ((w116.setCell ⟨go115, (x132_3 : Int).toNat * 3 + 2, none⟩ (.slice Ao119 y208.length co119)).heap[gb169]? = some (.cells #[.slice A0_0 l0_0.length c0_0, .slice (some ad172) l0_1.length c0_1, .int .i64 a0_2, .int .i64 a0_3] 25 (0, 0))) := ⟨by refine tK ?_; refine blk_far ?_ HNB169_go115.out _; refine tK ?_; exact BK169.out⟩
          have n4_ : Aside0 ((w116.setCell ⟨go115, (x132_3 : Int).toNat * 3 + 2, none⟩ (.slice Ao119 y208.length co119)).heap[gb170]? = some (.cells #[.slice none 0 0, .slice none 0 0] 31 (0, 0))) := ⟨by refine tK ?_; refine blk_far ?_ HNB170_go115.out _; refine tK ?_; exact BK170.out⟩
          have nN_ : Aside0 ((w116.setCell ⟨go115, (x132_3 : Int).toNat * 3 + 2, none⟩ (.slice Ao119 y208.length co119)).heap[bn]? = some (om)) := ⟨by refine tK ?_; refine blk_far' ?_ HNBN_go115.out _; refine tK ?_; exact BKN.out⟩
          have n5_ : Aside0 ((w116.setCell ⟨go115, (x132_3 : Int).toNat * 3 + 2, none⟩ (.slice Ao119 y208.length co119)).heap[gb174]? = some (.cells #[.slice (some ⟨go115, 0, none⟩) x175000_4.length co113, u175001] 31 (0, 0))) := ⟨by refine tK ?_; refine blk_far ?_ HNB174_go115.out _; refine tK ?_; exact BK174.out⟩
          have n6_ : Aside0 (Below wE.heap.size wE (w116.setCell ⟨go115, (x132_3 : Int).toNat * 3 + 2, none⟩ (.slice Ao119 y208.length co119))) := ⟨tB4 HB.out GB115.out GE169.out GE170.out GE174.out⟩
          generalize (w116.setCell ⟨go115, (x132_3 : Int).toNat * 3 + 2, none⟩ (.slice Ao119 y208.length co119)) = w120 at nN_ n0_ n1_ n2_ n3_ n4_ n5_ n6_ ⊢
          have HO_146 := n0_
          have HO_175001 := n1_
          have HO_175000 := n2_
          have BK169 := n3_
          have BK170 := n4_
          have BKN := nN_
          have BK174 := n5_
          have HB := n6_
          clear n0_ n1_ n2_ n3_ n4_ n5_ n6_ nN_
          replace HO_146 := aK (Kd.R_drew HO_146.out)
          replace HO_175001 := aK (Kd.S_drew HO_175001.out)
          replace HO_175000 := aK (Kd.S_drew HO_175000.out)
          replace BK169 := aK (blk_drew BK169.out)
          replace BK170 := aK (blk_drew BK170.out)
          replace BKN := aK (blk_drew BKN.out)
          replace BK174 := aK (blk_drew BK174.out)
          replace HB := aK (below_drew1 HB.out)
          obtain ⟨own2, hown2⟩ : ∃ o_ : Nat → Prop, o_ = fun k_ => own1 k_ ∧ k_ < w120.heap.size := ⟨_, rfl⟩
          have n0_ := aK (Kd.S_mono (ok' := fun k_ => own2 k_ ∧ some k_ ≠ (.slice (some ad203) t200.length co91 : Value).ownBlock) (Kd.S_bound HO_175000.out) (fun k_ hk => ⟨by rw [hown2]; exact ⟨hk.1.1, hk.2.2.1⟩, hk.1.2⟩))
          have n1_ := aK (Kd.S_mono (ok' := fun k_ => ¬ own2 k_ ∧ some k_ ≠ (.slice (some ad203) t200.length co91 : Value).ownBlock) HO_175001.out (fun k_ hk => ⟨by rw [hown2]; exact fun h_ => hk.1 h_.1, hk.2⟩))
          have HOW2 := aK (show ∀ k_, w120.drew.heap.size ≤ k_ → ¬ own2 k_ from fun k_ h_ => by rw [hown2]; exact fun h2_ => Nat.lt_irrefl _ (Nat.lt_of_lt_of_le h2_.2 h_))
          clear HO_175000 HO_175001 hown2
          have HO_175000 := n0_
          have HO_175001 := n1_
          clear n0_ n1_
          obtain ⟨Ao122, co122, eo122⟩ := Kd.S_slice HO_175001.out
          (first | subst eo122 | (injection eo122 with f1_ f2_ f3_; have f4_ := f1_.symm; have f5_ := f3_.symm; clear f1_ f2_ f3_; subst f4_; subst f5_))
          have p212 : 0 ≤ (t204 : Int) := tD
          have q212 : t204 < (x175001_4.length : Int) := tD
          obtain ⟨ad212, A212_0, c212_0, e212, hx212_0, hl212_0, hi212_0⟩ := at_LL (Kd.S_reads' HO_175001.out).2.2 t204 p212 q212
          cases e212
          obtain ⟨ce212, hce212, hMe212, hcc212⟩ := Kd.S_get HO_175001.out [] t204 p212 (by first | exact q212 | exact tD | (have e_ := (Kd.S_reads' HO_175001.out).1; omega))
          obtain ⟨ve212_0, rfl, ge212_0⟩ := hMe212
          have hv212_0 := hcc212 0 _ rfl
          rw [Nat.add_zero, show ((Kd.slice 3 (Kd.int .i64))).sz = 1 from rfl, Nat.mul_one] at hv212_0
          replace hv212_0 := oI (hv212_0.symm.trans hx212_0)
          rw [hv212_0] at ge212_0
          have HL212_0 := aK (show Kd.R (Kd.int .i64) 3 _ _ _ _ (rd_LL x175001_4 t204) from ge212_0)
          clear hv212_0 ge212_0
          have HX212_0 := aK hx212_0
          clear hcc212 hce212
          have HR212_0 := aK hi212_0
          have HC212_0 := aK hl212_0
          clear hi212_0 hl212_0
          replace p212 := eq_true p212
          replace q212 := eq_true q212
          obtain ⟨go123, co123, eo123, gb123, gl123, cl123, HG123⟩ := Kd.S_form HO_175001.out (by have h_ : (t204 : Int) < ((x175001_4.length : Int) : Int) := tD; have h2_ : 0 ≤ (t204 : Int) := (tD); omega)
          (first | cases eo123 | (injection eo123 with ea_ en_ ec_; (first | subst ea_ | (injection ea_ with ea_; subst ea_)); subst ec_; clear en_))
          have GB123 := aK gb123
          have GG123 := aK HG123
          clear gb123 gl123 HG123
          (first | simp only [add_plain] at hx212_0 | skip)
          obtain ⟨oki123, ce123, hcl123, hM123, hcc123, _, _, hH123⟩ := Kd.S_elem HO_175001.out [] (t204 : Int) (tD) (by have h_ : (t204 : Int) < ((x175001_4.length : Int) : Int) := tD; first | exact h_ | (have e_ := (Kd.S_reads' HO_175001.out).1; omega) | simpa using h_)
          obtain ⟨ve123_0, rfl, ge123_0⟩ := hM123
          have hv123 := hcc123 0 _ rfl
          have hX123 := HX212_0.out
          (try simp only [add_plain] at hX123)
          (try simp only [Nat.add_zero] at hv123)
          (try rw [show ((Kd.slice 3 (Kd.int .i64))).sz = 1 from rfl, Nat.mul_one] at hv123)
          replace hv123 := oI (hv123.symm.trans hX123)
          subst hv123
          clear hX123 hcc123 hcl123
          have UU123 := aK (show Kd.R (Kd.int .i64) 3 _ wE.heap.size oki123 (.slice A212_0 (rd_LL x175001_4 t204).length c212_0) (rd_LL x175001_4 t204) from ge123_0)
          have HH123 := aK hH123
          have HN123 := aK (Kd.S_reads' HO_175001.out).1
          clear hH123 ge123_0
          refine start_ (n := 13) (S := fun w' => w'.cell? ⟨gb174, 0, none⟩ = some (.slice (some ⟨go115, 0, none⟩) x175000_4.length co113) ∧ w'.cell? ⟨gb174, 1, none⟩ = some (.slice (some ⟨go123, 0, none⟩) x175001_4.length co122) ∧ w'.cell? ⟨go123, (t204).toNat, none⟩ = some (.slice A212_0 (rd_LL x175001_4 t204).length c212_0)) (ds := [12]) #[F_, F_, F_, F_, F_, F_, F_, F_, F_, F_, F_, F_, F_] (by kernel_rfl) rfl rfl ⟨(blk_cell BK174.out 0).trans rfl, (blk_cell BK174.out 1).trans rfl, hx212_0⟩ (fun hHeld => ?_); refine with_tabW cfg_Build.tab34 cfg_Build.bits34 (fun HT_ HW_ => ?_)
          generalize w120.drew = w121 at HOW2 HO_146 HO_175001 HO_175000 BK169 BK170 BKN BK174 HB GG123 HH123 HL212_0 HQ117 HR212_0 HX212_0 UU123 hx212_0 hHeld ⊢
          refine pure_ (i := 0) (N := some 178) (v := ?_) (a' := ?_) #[T_, F_, F_, F_, F_, F_, F_, F_, F_, F_, F_, F_, F_] rfl rfl (any_of HT_.out (by kernel_rfl)) (fun _ _ _ h => h) (Or.inl ⟨by rfl, ?_⟩) ?_ ?_
          rotate_left
          ·intro w'
           go_simp
           with_reducible rfl
          rotate_left
          ·simp only [Act.put, pA, pB, pC, i64_w, i32_w]
           rfl
          refine pure_ (i := 2) (N := some 180) (v := ?_) (a' := ?_) #[T_, F_, T_, F_, F_, F_, F_, F_, F_, F_, F_, F_, F_] rfl rfl (any_of HT_.out (by kernel_rfl)) (fun _ _ _ h => h) (Or.inl ⟨by rfl, ?_⟩) ?_ ?_
          rotate_left
          ·intro w'
           go_simp
           with_reducible rfl
          rotate_left
          ·simp only [Act.put, pA, pB, pC, i64_w, i32_w]
           rfl
          refine pure_ (i := 3) (N := some 181) (v := ?_) (a' := ?_) #[T_, F_, T_, T_, F_, F_, F_, F_, F_, F_, F_, F_, F_] rfl rfl (any_of HT_.out (by kernel_rfl)) (fun _ _ _ h => h) (Or.inl ⟨by rfl, ?_⟩) ?_ ?_
          rotate_left
          ·intro w'
           go_simp
           with_reducible rfl
          rotate_left
          ·simp only [Act.put, pA, pB, pC, i64_w, i32_w]
           rfl
          refine pure_ (i := 5) (N := some 183) (v := ?_) (a' := ?_) #[T_, F_, T_, T_, F_, T_, F_, F_, F_, F_, F_, F_, F_] rfl rfl (any_of HT_.out (by kernel_rfl)) (fun _ _ _ h => h) (Or.inl ⟨by rfl, ?_⟩) ?_ ?_
          rotate_left
          ·intro w'
           go_simp
           with_reducible rfl
          rotate_left
          ·simp only [Act.put, pA, pB, pC, i64_w, i32_w]
           rfl
          refine pure_ (i := 8) (N := some 186) (v := ?_) (a' := ?_) #[T_, F_, T_, T_, F_, T_, F_, F_, T_, F_, F_, F_, F_] rfl rfl (any_of HT_.out (by kernel_rfl)) (fun _ _ _ h => h) (Or.inl ⟨by rfl, ?_⟩) ?_ ?_
          rotate_left
          ·intro w'
           go_simp
           with_reducible rfl
          rotate_left
          ·simp only [Act.put, pA, pB, pC, i64_w, i32_w]
           rfl
          refine take_ (i := 1) (N := some 179) (v := ?_) (a' := ?_) #[T_, T_, T_, T_, F_, T_, F_, F_, T_, F_, F_, F_, F_] rfl rfl (take_ofW HT_.out HW_.out (by kernel_rfl)) (fun _ _ _ h => h) (Or.inl ⟨by rfl, ?_⟩) hHeld ?_ ?_
          rotate_left
          ·rintro w' ⟨s0, s1, s2⟩
           go_simp
           with_reducible rfl
          rotate_left
          ·simp only [Act.put, pA, pB, pC, i64_w, i32_w]
           rfl
          refine take_ (i := 4) (N := some 182) (v := ?_) (a' := ?_) #[T_, T_, T_, T_, T_, T_, F_, F_, T_, F_, F_, F_, F_] rfl rfl (take_ofW HT_.out HW_.out (by kernel_rfl)) (fun _ _ _ h => h) (Or.inl ⟨by rfl, ?_⟩) hHeld ?_ ?_
          rotate_left
          ·rintro w' ⟨s0, s1, s2⟩
           go_simp
           with_reducible rfl
          rotate_left
          ·simp only [Act.put, pA, pB, pC, i64_w, i32_w]
           rfl
          refine pure_ (i := 6) (N := some 184) (v := ?_) (a' := ?_) #[T_, T_, T_, T_, T_, T_, T_, F_, T_, F_, F_, F_, F_] rfl rfl (any_of HT_.out (by kernel_rfl)) (fun _ _ _ h => h) (Or.inl ⟨by rfl, ?_⟩) ?_ ?_
          rotate_left
          ·intro w'
           go_simp
           with_reducible rfl
          rotate_left
          ·simp only [Act.put, pA, pB, pC, i64_w, i32_w]
           rfl
          refine take_ (i := 7) (N := some 185) (v := ?_) (a' := ?_) #[T_, T_, T_, T_, T_, T_, T_, T_, T_, F_, F_, F_, F_] rfl rfl (take_ofW HT_.out HW_.out (by kernel_rfl)) (fun _ _ _ h => h) (Or.inl ⟨by rfl, ?_⟩) hHeld ?_ ?_
          rotate_left
          ·rintro w' ⟨s0, s1, s2⟩
           go_simp
           with_reducible rfl
          rotate_left
          ·simp only [Act.put, pA, pB, pC, i64_w, i32_w]
           rfl
          refine one_ (i := 9) (N := some 187) #[T_, T_, T_, T_, T_, T_, T_, T_, T_, T_, F_, F_, F_] rfl rfl (one_of HT_.out (by kernel_rfl)) (by decide) (fun K hK => ?_)
          refine value_ (w1 := ?_) (v := ?_) (by rfl) rfl ?_ ?_
          rotate_left 2
          ·go_simp
           constructor
           ·rfl
           ·rfl
          refine hK.out _ _ ⟨(blk_cell (blk_alloc BK174.out _) 0).trans rfl, (blk_cell (blk_alloc BK174.out _) 1).trans rfl, (World.cell?_alloc_lt _ _ _ (World.block_lt_of_cell? _ _ (hHeld.2.2))).trans (hHeld.2.2)⟩ (fun hHeld => ?_)
          clear hK K
          refine norm_ (a' := ?_) ?_ ?_
          rotate_left
          ·show Act.put _ (some 187) _ = _
           simp only [Act.put, pA, pB, pC, i64_w, i32_w]
           rfl
          refine one_ (i := 10) (N := some 188) #[T_, T_, T_, T_, T_, T_, T_, T_, T_, T_, T_, F_, F_] rfl rfl (one_of HT_.out (by kernel_rfl)) (by decide) (fun K hK => ?_)
          refine Kd.R_append_step (Kd.int .i64) (w0 := wE) wE.heap.size (by rfl) (.tmp 185) (.tmp 187) 49 3 (.int .i64 0) 8 rfl Try.underlying49 info3 rfl (by decide) (by omega) (.slice A212_0 (rd_LL x175001_4 t204).length c212_0) (rd_LL x175001_4 t204) x132_3 [.int .i64 x132_3] (fun k_ => oki123 k_ ∨ ((fun k_ => ¬ own2 k_ ∧ some k_ ≠ (.slice (some ad203) t200.length co91 : Value).ownBlock)) k_ ∧ w121.heap.size ≤ k_) (fun _ => False) rfl rfl ?aP (fun _ hk => hk.elim) ?aF ?aO ?aB ?aS ?aL ?_
          (case aP => exact rfl)
          (case aB => exact (tB3 HB.out GE169.out GE170.out GE174.out))
          (case aF => exact (fun k_ hk => .inr ⟨⟨HOW2.out k_ hk, Kd.fresh' (Kd.R_lt (tR HO_146.out)) k_ hk⟩, hk⟩))
          (case aO => exact (by (with_reducible repeat (first | apply Kd.R_alloc | apply Kd.R_drewN | apply Kd.R_drew)); exact Kd.R_mono UU123.out (fun _ hk => .inl hk)))
          (case aS => exact (below_size (tB3 HB.out GE169.out GE170.out GE174.out)))
          (case aL => have := LMc108.out; omega)
          intro v214 w124 ho hb hg hat
          (first | have HS2_ := cell_grown hg (hHeld.2.2) (by first | (rw [add_block]; exact (fun e_ => ((HL212_0.out.1 _ e_.symm).2) rfl)) | (show some (Addr.add _ _).block ≠ _; rw [add_block]; exact (fun e_ => ((HL212_0.out.1 _ e_.symm).2) rfl)) | exact (fun e_ => ((HL212_0.out.1 _ e_.symm).2) rfl)) | have HS2_ := cell_grown hg (cell_unalloc (hHeld.2.2) (by first | (rw [add_block]; exact Kd.S_lt HO_175001.out _ rfl) | (show (Addr.add _ _).block < _; rw [add_block]; exact Kd.S_lt HO_175001.out _ rfl) | exact Kd.S_lt HO_175001.out _ rfl)) (by first | (rw [add_block]; exact (fun e_ => ((HL212_0.out.1 _ e_.symm).2) rfl)) | (show some (Addr.add _ _).block ≠ _; rw [add_block]; exact (fun e_ => ((HL212_0.out.1 _ e_.symm).2) rfl)) | exact (fun e_ => ((HL212_0.out.1 _ e_.symm).2) rfl)))
          rw [← Ny213.out] at ho
          have n0_ := aK (Kd.R_grown2 (tR HO_146.out) rfl hg (fun k_ e_ => (HL212_0.out.1 k_ e_).1.2))
          have n1_ := aK (blk_grown (g := gb169) (o := .cells #[.slice A0_0 l0_0.length c0_0, .slice (some ad172) l0_1.length c0_1, .int .i64 a0_2, .int .i64 a0_3] 25 (0, 0)) (tK BK169.out) hg (Kd.R_ne HL212_0.out BK169.out (by decide)))
          have n2_ := aK (blk_grown (g := gb170) (o := .cells #[.slice none 0 0, .slice none 0 0] 31 (0, 0)) (tK BK170.out) hg (Kd.R_ne HL212_0.out BK170.out (by decide)))
          have nN_ := aK (blk_grown (g := bn) (o := om) (tK BKN.out) hg (num_ne_R HL212_0.out (NOM.out _ BKN.out)))
          have n3_ := aK (blk_grown (g := gb174) (o := .cells #[.slice (some ⟨go115, 0, none⟩) x175000_4.length co113, .slice (some ⟨go123, 0, none⟩) x175001_4.length co122] 31 (0, 0)) (tK BK174.out) hg (Kd.R_ne HL212_0.out BK174.out (by decide)))
          have n4_ := aK (Kd.S_grown (tS HO_175000.out) hg (by intro k_ hk e_; exact (HL212_0.out.1 k_ e_.symm).1.1 hk.1))
          have n5_ := aK (hb)
          have n6_ := aK (Kd.H_grown (Kd.H_widen (by repeat (first | exact HH123.out | refine Kd.H_alloc ?_ _ | refine Kd.H_drewN ?_ _ | refine Kd.H_drew ?_))) hg (fun k_ e_ => .inl (UU123.out.1 k_ e_)))
          have n7_ := aK (ho)
          clear HO_146 BK169 BK170 BKN BK174 HO_175000 HB HH123 HO_175001 UU123 HL212_0
          have HO_146 := n0_
          have BK169 := n1_
          have BK170 := n2_
          have BKN := nN_
          have BK174 := n3_
          have HO_175000 := n4_
          have HB := n5_
          have HH123 := n6_
          have HO215 := n7_
          clear n0_ n1_ n2_ n3_ n4_ n5_ n6_ n7_ nN_ ho hb hg hat
          have p109 : 0 ≤ (t204 : Int) := tD
          have q109 : (t204 : Int) < ((x175001_4.length : Int) : Int) := tD
          replace p109 := eq_true p109
          replace q109 := eq_true q109
          obtain ⟨Ao127, co127, eo127⟩ := Kd.R_slice HO215.out
          (first | subst eo127 | (injection eo127 with f1_ f2_ f3_; have f4_ := f1_.symm; have f5_ := f3_.symm; clear f1_ f2_ f3_; subst f4_; subst f5_))
          obtain ⟨_, _, hraw125, _, _, hcc125, _⟩ := Kd.H_raw HH123.out (tD) (by have h_ : (t204 : Int) < ((x175001_4.length : Int) : Int) := tD; first | exact h_ | (have e_ := (HN123.out); omega) | simpa using h_)
          obtain ⟨_, hfr125⟩ := Kd.H_at HH123.out (tD) (by have h_ : (t204 : Int) < ((x175001_4.length : Int) : Int) := tD; first | exact h_ | (have e_ := (HN123.out); omega) | simpa using h_)
          have hx125_0 := hcc125 0 _ rfl
          have hf125_0 := hfr125 0
          (try simp only [Nat.add_zero] at hx125_0 hf125_0)
          (try rw [show ((Kd.slice 3 (Kd.int .i64))).sz = 1 from rfl, Nat.mul_one] at hx125_0)
          (try rw [show ((Kd.slice 3 (Kd.int .i64))).sz = 1 from rfl, Nat.mul_one] at hf125_0)
          have HP125 := Kd.S_seg0 HH123.out (tD) (by have h_ : (t204 : Int) < ((x175001_4.length : Int) : Int) := tD; first | exact h_ | (have e_ := (HN123.out); omega) | simpa using h_) (seg := [.slice Ao127 y213.length co127]) (j := 0) (show 1 ≤ 1 from by decide) (x' := y213) (Kd.M_row HO215.out) (fun _ hk => hk)
          (try simp only [show ((Kd.slice 3 (Kd.int .i64))).sz = 1 from rfl, Nat.mul_one, Nat.add_zero] at HP125)
          clear hcc125 hfr125
          have HNB169_go123 := aK (show gb169 ≠ go123 from by have h_ := Kd.R_ne hraw125 BK169.out (by decide); intro e_; exact h_ (by rw [e_]; rfl))
          have HNB170_go123 := aK (show gb170 ≠ go123 from by have h_ := Kd.R_ne hraw125 BK170.out (by decide); intro e_; exact h_ (by rw [e_]; rfl))
          have HNBN_go123 := aK (show bn ≠ go123 from by have h_ := num_ne_R hraw125 (NOM.out _ BKN.out); intro e_; exact h_ (by rw [e_]; rfl))
          have HNB174_go123 := aK (show gb174 ≠ go123 from by have h_ := Kd.R_ne hraw125 BK174.out (by decide); intro e_; exact h_ (by rw [e_]; rfl))
          have HS125 := HP125.1
          rw [← Ny216.out] at HS125
          have HQ125 := aK HS125
          obtain ⟨_, hgg125⟩ := Kd.R_typed hraw125 go123 rfl
          have GG125_ := aK hgg125
          clear HP125 HS125 hgg125
          refine hK.out _ _ ⟨(blk_cell BK174.out 0).trans rfl, (blk_cell BK174.out 1).trans rfl, HS2_⟩ (fun hHeld => ?_)
          clear hK K
          refine norm_ (a' := ?_) ?_ ?_
          rotate_left
          ·show Act.put _ (some 188) _ = _
           simp only [Act.put, pA, pB, pC, i64_w, i32_w]
           rfl
          refine pure_ (i := 11) (N := some 189) (v := ?_) (a' := ?_) #[T_, T_, T_, T_, T_, T_, T_, T_, T_, T_, T_, T_, F_] rfl rfl (any_of HT_.out (by kernel_rfl)) (fun _ _ _ h => h) (Or.inl ⟨by rfl, ?_⟩) ?_ ?_
          rotate_left
          ·intro w'
           go_simp
           with_reducible rfl
          rotate_left
          ·simp only [Act.put, pA, pB, pC, i64_w, i32_w]
           rfl
          refine last_ (i := 12) (N := none) #[T_, T_, T_, T_, T_, T_, T_, T_, T_, T_, T_, T_, T_] rfl rfl (one_of HT_.out (by kernel_rfl)) (by decide) (fun K hK => ?_)
          refine skip_ (w1 := ?_) (by rfl) rfl ?_ ?_
          rotate_left
          ·go_simp
           rfl
          refine hK.out _ _ ?_
          clear hK K
          refine done_ (done_of HT_.out (by kernel_rfl)) ?_
          try go_wp2
          go_roundg k4
          case measure => have := HJ4.out; have := HK2.out; have := HK3.out; have := HK4.out; omega
          case rel => exact ⟨(wrap64 (x148_4 + 1)), (y211), (y216), (.slice (some ⟨go115, 0, none⟩) x175000_4.length co113), (.slice (some ⟨go123, 0, none⟩) x175001_4.length co122), own2, (by first | rfl | (simp; done) | (simp [*]; done)), H', ⟨by have := HJ4.out; have := HK2.out; have := HK3.out; have := HK4.out; omega⟩, ⟨by (with_reducible repeat (first | apply Kd.R_alloc | apply Kd.R_drewN | apply Kd.R_drew)); exact Kd.R_mono (Kd.R_far (p := ⟨go123, (t204 : Int).toNat, none⟩) (Kd.R_types HO_146.out GG125_.out (by decide)) (fun _ hk => hk.2) (.slice Ao127 y213.length co127)) (fun _ hk => trivial)⟩, ⟨by (with_reducible repeat (first | apply Kd.S_alloc | apply Kd.S_drewN | apply Kd.S_drew)); exact Kd.S_mono (Kd.S_far (p := ⟨go123, (t204 : Int).toNat, none⟩) (Kd.S_types HO_175000.out GG125_.out (by decide)) (fun _ hk => hk.2) (.slice Ao127 y213.length co127)) (fun _ hk => hk.1)⟩, ⟨tS HQ125.out⟩, ⟨by refine tK ?_; refine blk_far ?_ HNB169_go123.out _; refine tK ?_; exact BK169.out⟩, ⟨by refine tK ?_; refine blk_far ?_ HNB170_go123.out _; refine tK ?_; exact BK170.out⟩, ⟨by refine tK ?_; refine blk_far' ?_ HNBN_go123.out _; refine tK ?_; exact BKN.out⟩, ⟨by rw [Ny211.out, numOf_set' x175000_4 x132_3 (of_decide_eq_true c96b0) (of_decide_eq_true c97b0) (⟨(rd_T51 x175000_4 x132_3).f0, (rd_T51 x175000_4 x132_3).f1, y208⟩ : S51) rfl]; exact NF.out⟩, ⟨by refine tK ?_; refine blk_far ?_ HNB174_go123.out _; refine tK ?_; exact BK174.out⟩, ⟨tB4 HB.out GB123.out GE169.out GE170.out GE174.out⟩⟩
       ·rw [if_neg c80] at H
        have c80b0 : decide (x132_3 < (x175000_2.length : Int)) = false := decide_eq_false c80
        clear c80
        simp only [Option.some.injEq, Prod.mk.injEq] at H
        obtain ⟨rfl, rfl, rfl, rfl⟩ := H
        have hnb128 := NB174_169.out
        have hnc128 := NB169_174.out
        have hnb129 := NB174_170.out
        have hnc129 := NB170_174.out
        have hcz130_0 := bc 0 BK174.out
        have hcz130_1 := bc 1 BK174.out
        have hfz130_0 := blk_frozen BK174.out 0
        have hfz130_1 := blk_frozen BK174.out 1
        replace HO_175000 := aK (Kd.S_lower HO_175000.out HEW.out.size)
        replace HO_175001 := aK (Kd.S_lower HO_175001.out HEW.out.size)
        obtain ⟨Ao131, co131, eo131⟩ := Kd.S_slice HO_175000.out
        subst eo131
        have hnb132 := NB170_169.out
        have hnc132 := NB169_170.out
        have hcz133_0 := bc 0 BK170.out
        have hcz133_1 := bc 1 BK170.out
        have hfz133_0 := blk_frozen BK170.out 0
        have hfz133_1 := blk_frozen BK170.out 1
        obtain ⟨Ao134, co134, eo134⟩ := Kd.S_slice HO_175001.out
        subst eo134
        have HBw_ := aK (below_then HEW.out HEW.out.size HB.out)
        clear HB
        have HB := HBw_
        clear HBw_
        go_wp2
        refine bodyPost_ret (results_ctt rfl _ _ gb170 31 #[.slice Ao131 x175000_3.length co131, .slice Ao134 x175001_3.length co134] (0, 0) _ rfl (by refine tK ?_; refine blk_put (cs := #[.slice Ao131 x175000_3.length co131, .slice none 0 0]) ?_ 1 _ rfl; refine tK ?_; refine blk_put (cs := #[.slice none 0 0, .slice none 0 0]) ?_ 0 _ rfl; refine tK ?_; exact BK170.out) Try.underlying31 rfl (by kernel_rfl)) rfl ?_
        exact ⟨_, _, by first | rfl | (simp [errW_none, errW_some] <;> rfl) | (simp [*, errW_none, errW_some] <;> rfl), by (with_reducible repeat (first | apply Kd.S_alloc | apply Kd.S_drewN | apply Kd.S_drew)); exact Kd.S_mono (Kd.S_far (p := ⟨gb170, 1, none⟩) (Kd.S_far (p := ⟨gb170, 0, none⟩) (Kd.S_types HO_175000.out BK170.out (by decide)) (fun _ hk => hk.2) (.slice Ao131 x175000_3.length co131)) (fun _ hk => hk.2) (.slice Ao134 x175001_3.length co134)) (fun _ hk => trivial), by (with_reducible repeat (first | apply Kd.S_alloc | apply Kd.S_drewN | apply Kd.S_drew)); exact Kd.S_mono (Kd.S_far (p := ⟨gb170, 1, none⟩) (Kd.S_far (p := ⟨gb170, 0, none⟩) (Kd.S_types HO_175001.out BK170.out (by decide)) (fun _ hk => hk.2) (.slice Ao131 x175000_3.length co131)) (fun _ hk => hk.2) (.slice Ao134 x175001_3.length co134)) (fun _ hk => trivial), by repeat (first | (with_reducible first | exact HB.out | apply below_alloc | apply pw_below_drewN | apply below_drew1 | refine below_set ?_ GE169.out | refine below_set ?_ GE170.out | refine below_set ?_ GE174.out) | exact HB.out)⟩
end Go.Proofs.Ytihmfdndiicjgaa.C
