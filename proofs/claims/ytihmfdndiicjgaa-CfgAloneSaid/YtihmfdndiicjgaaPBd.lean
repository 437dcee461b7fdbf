/- What cfg.Build answers, second part: the edges. -/
import Derived.Test.YtihmfdndiicjgaaPBc
set_option linter.unusedVariables false
set_option linter.unusedSimpArgs false
namespace Go.Proofs.Ytihmfdndiicjgaa.PB
open Go.RowKit Go.Proofs.Ytihmfdndiicjgaa.C Go.Proofs.HEvt Go.Proofs.YtihmfdndiicjgaaW.PrintWords
/-! ### numOf -/
theorem numOf_go_range (x : Int) : ∀ (l : List S51) (j : Nat) (a : Int), numOf.go j l a x = a ∨ ((j : Int) ≤ numOf.go j l a x ∧ numOf.go j l a x < ((j + l.length : Nat) : Int)) := by
 intro l
 induction l with
 | nil => intro j a; exact .inl rfl
 | cons b l ih =>
  intro j a
  show numOf.go (j + 1) l (if x = b.f0 then (j : Int) else a) x = a ∨ _
  by_cases h : x = b.f0
  ·rw [if_pos h]
   right
   show (j : Int) ≤ numOf.go (j + 1) l (if x = b.f0 then (j : Int) else a) x ∧ numOf.go (j + 1) l (if x = b.f0 then (j : Int) else a) x < _
   rw [if_pos h, List.length_cons]
   rcases ih (j + 1) (j : Int) with q | q <;> omega
  ·rw [if_neg h]
   rcases ih (j + 1) a with q | q
   ·exact .inl q
   ·right
    show (j : Int) ≤ numOf.go (j + 1) l (if x = b.f0 then (j : Int) else a) x ∧ numOf.go (j + 1) l (if x = b.f0 then (j : Int) else a) x < _
    rw [if_neg h, List.length_cons]
    omega
theorem numOf_range (l : List S51) (hl : l ≠ []) (x : Int) : 0 ≤ numOf l x ∧ numOf l x < (l.length : Int) := by
 rw [numOf_eq]
 have : 0 < l.length := List.length_pos_iff.2 hl
 rcases numOf_go_range x l 0 0 with q | q <;> omega
theorem numOf_go_congr (x : Int) : ∀ (l l' : List S51) (j : Nat) (a : Int), l.map S51.f0 = l'.map S51.f0 → numOf.go j l a x = numOf.go j l' a x := by
 intro l
 induction l with
 | nil =>
  intro l' j a h
  cases l' with
  | nil => rfl
  | cons b l' => simp at h
 | cons b l ih =>
  intro l' j a h
  cases l' with
  | nil => simp at h
  | cons b' l' =>
   simp at h
   show numOf.go (j + 1) l (if x = b.f0 then (j : Int) else a) x = numOf.go (j + 1) l' (if x = b'.f0 then (j : Int) else a) x
   rw [h.1]
   exact ih l' _ _ (by simp [h.2])
theorem numOf_congr {l l' : List S51} (h : l.map S51.f0 = l'.map S51.f0) (x : Int) : numOf l x = numOf l' x := by
 rw [numOf_eq, numOf_eq]
 exact numOf_go_congr x l l' 0 0 h
/-! ### slices.Contains -/
theorem idx_evt (xs : List Int) (a : Int) (hl : xs.length ≤ 4611686018427387904) : ∀ m i, i + m = xs.length → ∃ r, Evt (fun k => slices_Index_int_int.l0 k xs a (xs.length : Int) (i : Int)) r ∧ (0 ≤ r ↔ a ∈ xs.drop i) := by
 intro m
 induction m with
 | zero =>
  intro i hi
  rw [List.drop_of_length_le (by omega)]
  exact ⟨-1, Evt.step (fun k => by rw [slices_Index_int_int.l0]) (Evt.neg (by omega) (Evt.pure _)), by simp⟩
 | succ m ih =>
  intro i hi
  have hlt : i < xs.length := by omega
  rw [List.drop_eq_getElem_cons hlt]
  by_cases h : a = xs[i]
  ·exact ⟨(i : Int), Evt.step (fun k => by rw [slices_Index_int_int.l0]) (Evt.pos (by omega) (Evt.pos (by omega) (Evt.pos (by omega) (Evt.pos (by rw [rd_nat _ _ hlt]; exact h) (Evt.pure _))))), ⟨fun _ => by rw [h]; exact List.mem_cons_self, fun _ => by omega⟩⟩
  ·obtain ⟨r, k1, k2⟩ := ih (i + 1) (by omega)
   refine ⟨r, Evt.step (fun k => by rw [slices_Index_int_int.l0]) (Evt.pos (by omega) (Evt.pos (by omega) (Evt.pos (by omega) (Evt.neg (by rw [rd_nat _ _ hlt]; exact h) ?_)))), ?_⟩
   ·rw [evt_succ hlt hl]; exact k1
   ·rw [k2, List.mem_cons]
    constructor
    ·exact .inr
    ·rintro (q | q)
     ·exact absurd q h
     ·exact q
theorem contains_evt (xs : List Int) (a : Int) (hl : xs.length ≤ 4611686018427387904) : Evt (fun k => slices_Contains_int_int.f k xs a) (decide (a ∈ xs)) := by
 obtain ⟨r, k1, k2⟩ := idx_evt xs a hl xs.length 0 (by omega)
 rw [List.drop_zero] at k2
 have k1' : Evt (fun k => slices_Index_int_int.f k xs a) r := k1
 have e : (fun k => slices_Contains_int_int.f k xs a) = fun k => (slices_Index_int_int.f k xs a).bind fun t168 => (some (decide (t168 ≥ 0))) := rfl
 rw [e]
 exact Evt.bind k1' ((Evt.pure _).to (decide_eq_decide.mpr k2))
/-! ### the edges -/
def put1 (i : Nat) (p : List (List Int)) (t : Int) : List (List Int) := p.set t.toNat (p.getD t.toNat [] ++ [(i : Int)])
def puts (i : Nat) (p : List (List Int)) (ts : List Int) : List (List Int) := ts.foldl (put1 i) p
theorem put1_len (i : Nat) (p : List (List Int)) (t : Int) : (put1 i p t).length = p.length := by simp [put1]
theorem puts_len (i : Nat) : ∀ (ts : List Int) (p : List (List Int)), (puts i p ts).length = p.length := by
 intro ts
 induction ts with
 | nil => intro p; rfl
 | cons t ts ih => intro p; show (puts i (put1 i p t) ts).length = _; rw [ih, put1_len]
theorem put1_row (i : Nat) (p : List (List Int)) (t : Int) (B : Nat) (h : ∀ y ∈ p, y.length ≤ B) : ∀ y ∈ put1 i p t, y.length ≤ B + 1 := by
 intro y hy
 rcases List.mem_or_eq_of_mem_set hy with h1 | rfl
 ·have := h y h1; omega
 ·rw [List.length_append, List.length_singleton, List.getD_eq_getElem?_getD]
  cases hq : p[t.toNat]? with
  | none => simp
  | some z => have := h z (List.mem_of_getElem? hq); simp; omega
theorem puts_row (i : Nat) : ∀ (ts : List Int) (p : List (List Int)) (B : Nat), (∀ y ∈ p, y.length ≤ B) → ∀ y ∈ puts i p ts, y.length ≤ B + ts.length := by
 intro ts
 induction ts with
 | nil => intro p B h y hy; exact h y hy
 | cons t ts ih =>
  intro p B h y hy
  have := ih (put1 i p t) (B + 1) (put1_row i p t B h) y hy
  rw [List.length_cons]; omega
def prevs : Nat → List (List Int) → List S51 → List (List Int)
 | _, p, [] => p
 | i, p, b :: bs => prevs (i + 1) (puts i p b.f2) bs
theorem prevs_len : ∀ (l : List S51) (i : Nat) (p : List (List Int)), (prevs i p l).length = p.length := by
 intro l
 induction l with
 | nil => intro i p; rfl
 | cons b l ih => intro i p; show (prevs (i + 1) (puts i p b.f2) l).length = _; rw [ih, puts_len]
theorem prevs_snoc : ∀ (l : List S51) (i : Nat) (p : List (List Int)) (b : S51), prevs i p (l ++ [b]) = puts (i + l.length) (prevs i p l) b.f2 := by
 intro l
 induction l with
 | nil => intro i p b; rfl
 | cons a l ih =>
  intro i p b
  show prevs (i + 1) (puts i p a.f2) (l ++ [b]) = puts (i + (a :: l).length) (prevs (i + 1) (puts i p a.f2) l) b.f2
  rw [ih, List.length_cons, show i + 1 + l.length = i + (l.length + 1) by omega]
theorem prevs_row : ∀ (l : List S51) (i : Nat) (p : List (List Int)) (B : Nat), (∀ x ∈ l, x.f2.length ≤ 2) → (∀ y ∈ p, y.length ≤ B) → ∀ y ∈ prevs i p l, y.length ≤ B + 2 * l.length := by
 intro l
 induction l with
 | nil => intro i p B _ h y hy; exact h y hy
 | cons b l ih =>
  intro i p B hx h y hy
  have h1 := puts_row i b.f2 p B h
  have hb := hx b List.mem_cons_self
  have := ih (i + 1) (puts i p b.f2) (B + 2) (fun x hx' => hx x (List.mem_cons_of_mem _ hx')) (fun y hy => by have := h1 y hy; omega) y hy
  rw [List.length_cons]; omega
def ins1 (cur : List Int) (t : Int) : List Int := if t ∈ cur then cur else cur ++ [t]
/-- The numbers, each once, in their order. -/
def once (cur ts : List Int) : List Int := ts.foldl ins1 cur
theorem once_len : ∀ (ts cur : List Int), (once cur ts).length ≤ cur.length + ts.length := by
 intro ts
 induction ts with
 | nil => intro cur; exact Nat.le_refl _
 | cons t ts ih =>
  intro cur
  have := ih (ins1 cur t)
  have h2 : (ins1 cur t).length ≤ cur.length + 1 := by unfold ins1; split <;> simp
  show (once (ins1 cur t) ts).length ≤ _
  rw [List.length_cons]; omega
/-- A block with its successors. -/
def fin1 (code : List Int) (acc : List S51) (b : S51) : S51 := ⟨b.f0, b.f1, once [] ((sc code (b.f1 - 1)).map (numOf acc))⟩
theorem fin1_len (code : List Int) (acc : List S51) (b : S51) : (fin1 code acc b).f2.length ≤ 2 := by
 have h1 := once_len ((sc code (b.f1 - 1)).map (numOf acc)) []
 have h2 := sc_len code (b.f1 - 1)
 rw [List.length_map] at h1
 show (once [] ((sc code (b.f1 - 1)).map (numOf acc))).length ≤ 2
 simp at h1
 omega
theorem mid_get (A : List S51) (b : S51) (C : List S51) (h : A.length < (A ++ b :: C).length) : (A ++ b :: C)[A.length] = b := by simp
theorem mid_rd (A : List S51) (b : S51) (C : List S51) : rd_T51 (A ++ b :: C) (A.length : Int) = b := by
 rw [rd51 _ _ (by simp)]; exact mid_get _ _ _ (by simp)
theorem mid_set (A : List S51) (b c : S51) (C : List S51) : (A ++ b :: C).set A.length c = A ++ c :: C := by
 rw [List.set_append_right _ _ (Nat.le_refl _)]
 simp
theorem l3_evt (code : List Int) (acc : List S51) (hn : acc.length ≤ 4096) (hne : acc ≠ []) (A C : List S51) (b : S51) (ts : List Int) (hts : ts.length ≤ 2) (p0 : List (List Int)) (hp0 : p0.length = acc.length) (hrow : ∀ y ∈ p0, y.length ≤ 100000)
  (hf : (A ++ b :: C).map S51.f0 = acc.map S51.f0) : ∀ m j (cur : List Int), j + m = ts.length → cur.length ≤ j → ∀ r : Res,
  Evt (fun k => cfg_Build.l2 k (acc.length : Int) ((A.length + 1 : Nat) : Int) code (A ++ ⟨b.f0, b.f1, once cur ((ts.drop j).map (numOf acc))⟩ :: C) (puts A.length p0 (once cur ((ts.drop j).map (numOf acc))))) r →
  Evt (fun k => cfg_Build.l3 k (A.length : Int) (acc.length : Int) (A.length : Int) ts (ts.length : Int) (j : Int) code (A ++ ⟨b.f0, b.f1, cur⟩ :: C) (puts A.length p0 cur)) r := by
 have hlen : (A ++ b :: C).length = acc.length := by have := congrArg List.length hf; simpa using this
 have hlen2 : ∀ c : S51, (A ++ c :: C).length = acc.length := fun c => by rw [← hlen]; simp
 have hA : A.length < acc.length := by rw [← hlen]; simp
 intro m
 induction m with
 | zero =>
  intro j cur hj hc r hr
  rw [List.drop_of_length_le (by omega)] at hr
  refine Evt.step (fun k => by rw [cfg_Build.l3]) (Evt.neg (by omega) ?_)
  rw [evt_succ (n := A.length + 1) (by omega) (by omega)]
  exact hr
 | succ m ih =>
  intro j cur hj hc r hr
  have hlt : j < ts.length := by omega
  rw [List.drop_eq_getElem_cons hlt, List.map_cons] at hr
  have hnum : numOf (A ++ (⟨b.f0, b.f1, cur⟩ : S51) :: C) (ts[j]) = numOf acc (ts[j]) := numOf_congr (by rw [← hf]; simp) _
  have hrg := numOf_range acc hne (ts[j])
  generalize ht : numOf acc (ts[j]) = t at hr hnum hrg
  have hx : rd_T51 (A ++ (⟨b.f0, b.f1, cur⟩ : S51) :: C) (A.length : Int) = ⟨b.f0, b.f1, cur⟩ := by
   rw [rd51 _ _ (by rw [hlen2]; exact hA)]; exact mid_get _ _ _ _
  refine Evt.step (fun k => by rw [cfg_Build.l3]) (Evt.pos (by omega) (Evt.pos (by omega) (Evt.pos (by omega) ?_)))
  rw [rd_nat _ _ hlt]
  refine Evt.bind (a := t) (Evt.of_eq (fun _ => by unfold xb_num.f; rw [hnum])) (Evt.pos (by omega) (Evt.pos (by rw [hlen2]; omega) ?_))
  rw [hx]
  refine Evt.bind (contains_evt cur t (by omega)) ?_
  have hstep : once cur (t :: (ts.drop (j + 1)).map (numOf acc)) = once (ins1 cur t) ((ts.drop (j + 1)).map (numOf acc)) := rfl
  rw [hstep] at hr
  have q1 : j + 1 + m = ts.length := by omega
  have q2 : cur.length ≤ j + 1 := by omega
  have q3 : cur.length < 17592186044416 := by omega
  have q4 : 0 ≤ t ∧ t < (acc.length : Int) := hrg
  have q5 : (cur ++ [t]).length ≤ j + 1 := by rw [List.length_append, List.length_singleton]; omega
  by_cases hm : t ∈ cur
  ·have hi : ins1 cur t = cur := by unfold ins1; rw [if_pos hm]
   rw [hi] at hr
   refine Evt.pos (decide_eq_true hm) ?_
   rw [evt_succ hlt (show ts.length ≤ 4611686018427387904 by omega)]
   exact ih (j + 1) cur (by omega) (by omega) r hr
  ·have hi : ins1 cur t = cur ++ [t] := by unfold ins1; rw [if_neg hm]
   rw [hi] at hr
   have hpl : (puts A.length p0 cur).length = acc.length := by rw [puts_len, hp0]
   have hrl : (rd_LL (puts A.length p0 cur) t).length < 17592186044416 := by
    unfold rd_LL
    rw [List.getD_eq_getElem?_getD]
    cases hq : (puts A.length p0 cur)[t.toNat]? with
    | none => simp
    | some z =>
     have := puts_row A.length cur p0 100000 hrow z (List.mem_of_getElem? hq)
     simp; omega
   refine Evt.neg (by simp [hm]) (Evt.pos q3 (Evt.pos q4.1 (Evt.pos (by rw [hpl]; exact q4.2) (Evt.pos hrl ?_))))
   rw [evt_succ hlt (show ts.length ≤ 4611686018427387904 by omega), Int.toNat_natCast, mid_set]
   have hput : (puts A.length p0 cur).set t.toNat (rd_LL (puts A.length p0 cur) t ++ [(A.length : Int)]) = puts A.length p0 (cur ++ [t]) := by
    unfold puts
    rw [List.foldl_append]
    rfl
   rw [hput]
   exact ih (j + 1) (cur ++ [t]) q1 q5 r hr
theorem l2_evt {code : List Int} {s e : Int} {R : Int → Bool} (hw : Words code) (hc : code.length ≤ 4096) (P : Part code s e) (acc : List S51) (hne : acc ≠ []) (hn : acc.length ≤ 4096) (hb : ∀ b ∈ acc, BlkIn s e R b) : ∀ m i, i + m = acc.length →
  Evt (fun k => cfg_Build.l2 k (acc.length : Int) (i : Int) code ((acc.take i).map (fin1 code acc) ++ acc.drop i) (prevs 0 (List.replicate acc.length []) ((acc.take i).map (fin1 code acc))))
   (acc.map (fin1 code acc), prevs 0 (List.replicate acc.length []) (acc.map (fin1 code acc)), -1, 0) := by
 have hs0 := P.s0
 have hel := P.el
 intro m
 induction m with
 | zero =>
  intro i hi
  rw [List.take_of_length_le (by omega), List.drop_of_length_le (by omega), List.append_nil]
  exact Evt.step (fun k => by rw [cfg_Build.l2]) (Evt.neg (by omega) (Evt.pure _))
 | succ m ih =>
  intro i hi
  have hlt : i < acc.length := by omega
  have hAl : ((acc.take i).map (fin1 code acc)).length = i := by rw [List.length_map, List.length_take]; omega
  have hall : ((acc.take i).map (fin1 code acc) ++ acc.drop i).length = acc.length := by rw [List.length_append, hAl, List.length_drop]; omega
  obtain ⟨b1, b2, b3, b4, b5⟩ := hb _ (List.getElem_mem hlt)
  have hd : acc.drop i = acc[i] :: acc.drop (i + 1) := List.drop_eq_getElem_cons hlt
  have hget : rd_T51 ((acc.take i).map (fin1 code acc) ++ acc.drop i) (i : Int) = acc[i] := by
   rw [hd]
   have hm := mid_rd ((acc.take i).map (fin1 code acc)) acc[i] (acc.drop (i + 1))
   rw [hAl] at hm
   exact hm
  have hw1 : wrap64 (acc[i].f1 - 1) = acc[i].f1 - 1 := wrap_id (by omega) (by omega)
  have hbe : acc[i] = (⟨acc[i].f0, acc[i].f1, []⟩ : S51) := by
   have := b1
   cases hq : acc[i] with
   | mk x0 x1 x2 => rw [hq] at this; simp at this; rw [this]
  refine Evt.step (fun k => by rw [cfg_Build.l2]) (Evt.pos (by omega) (Evt.pos (by omega) (Evt.pos (by omega) ?_)))
  rw [hget, hw1]
  refine Evt.bind (Evt.of_eq (fun _ => at_f hw (by omega) (by omega))) (Evt.bind (Evt.of_eq (fun _ => sc_f code (acc[i].f1 - 1))) ?_)
  have hfm : ((acc.take i).map (fin1 code acc) ++ acc[i] :: acc.drop (i + 1)).map S51.f0 = acc.map S51.f0 := by
   rw [← hd, List.map_append, List.map_map]
   have : (S51.f0 ∘ fin1 code acc) = S51.f0 := rfl
   rw [this, ← List.map_append, List.take_append_drop]
  have hp := prevs_row ((acc.take i).map (fin1 code acc)) 0 (List.replicate acc.length []) 0 (fun x hx => by obtain ⟨y, _, rfl⟩ := List.mem_map.1 hx; exact fin1_len _ _ _) (fun y hy => by rw [(List.mem_replicate.1 hy).2]; simp)
  have hnext := ih (i + 1) (by omega)
  have htk : (acc.take (i + 1)).map (fin1 code acc) = (acc.take i).map (fin1 code acc) ++ [fin1 code acc acc[i]] := by
   rw [List.take_succ_eq_append_getElem hlt, List.map_append]; rfl
  rw [htk, prevs_snoc, hAl, Nat.zero_add, List.append_assoc] at hnext
  have hr := l3_evt code acc hn hne ((acc.take i).map (fin1 code acc)) (acc.drop (i + 1)) acc[i] (sc code (acc[i].f1 - 1)) (sc_len _ _) (prevs 0 (List.replicate acc.length []) ((acc.take i).map (fin1 code acc))) (by rw [prevs_len]; simp) (fun y hy => by have := hp y hy; rw [hAl] at this; omega) hfm
   (sc code (acc[i].f1 - 1)).length 0 [] (by omega) (Nat.le_refl _) _ (by rw [List.drop_zero, hAl]; exact hnext)
  rw [hAl, ← hbe, ← hd] at hr
  exact hr
end Go.Proofs.Ytihmfdndiicjgaa.PB
