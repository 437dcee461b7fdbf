/- CfgValid's pure statement: cfg.Valid and the reference's Valid answer alike for every graph of at most 30 blocks. -/
import Derived.Test.YtihmfdndiicjgaaSayCfgValid
import Derived.Test.YtihmfdndiicjgaaHEvt
set_option linter.unusedVariables false
set_option linter.unusedSimpArgs false
namespace Go.Proofs.Ytihmfdndiicjgaa.Pure
open Go.RowKit Go.Proofs.Ytihmfdndiicjgaa.C Go.Proofs.HEvt Go.Proofs.YtihmfdndiicjgaaW.PrintWords
theorem awake_ends : Evt (fun k => ontimelaw24_awake.f k) true := Evt.of_mono (fun k => ontimelaw24_awake.mono k) (k := 60) (by kernel_rfl)
theorem rd51 (xs : List S51) (i : Nat) (h : i < xs.length) : rd_T51 xs (i : Int) = xs[i] := by unfold rd_T51; simp [List.getD_eq_getElem?_getD, h]
theorem rd104 (xs : List S104) (i : Nat) (h : i < xs.length) : rd_T104 xs (i : Int) = xs[i] := by unfold rd_T104; simp [List.getD_eq_getElem?_getD, h]
theorem rdLL (xs : List (List Int)) (i : Nat) (h : i < xs.length) : rd_L11 xs (i : Int) = xs[i] := by unfold rd_L11; simp [List.getD_eq_getElem?_getD, h]
/-! ### wide -/
theorem wide_l1 (l1 : List (List Int)) (hl : l1.length ≤ 4611686018427387904) : ∀ d i, i + d = l1.length → ∃ b, Evt (fun k => ontimelaw24_wide.l1 k l1 (l1.length : Int) (i : Int)) b ∧ (b = false → ∀ y ∈ l1.drop i, y.length ≤ 60) := by
 intro d
 induction d with
 | zero =>
  intro i hi
  refine ⟨false, Evt.step (fun k => by rw [ontimelaw24_wide.l1]) (Evt.neg (by omega) (Evt.pure _)), fun _ y hy => ?_⟩
  rw [List.drop_of_length_le (by omega)] at hy
  cases hy
 | succ d ih =>
  intro i hi
  have hlt : i < l1.length := by omega
  by_cases h : (l1[i].length : Int) > 60
  ·refine ⟨true, Evt.step (fun k => by rw [ontimelaw24_wide.l1]) (Evt.pos (by omega) (Evt.pos (by omega) (Evt.pos (by omega) (Evt.pos ?_ (Evt.pure _))))), fun h => by cases h⟩
   rw [rdLL _ _ hlt]; exact h
  ·obtain ⟨b, hb, hb2⟩ := ih (i + 1) (by omega)
   refine ⟨b, Evt.step (fun k => by rw [ontimelaw24_wide.l1]) (Evt.pos (by omega) (Evt.pos (by omega) (Evt.pos (by omega) (Evt.neg ?_ ?_)))), fun h0 y hy => ?_⟩
   ·rw [rdLL _ _ hlt]; exact h
   ·rw [evt_succ hlt hl]; exact hb
   ·rw [List.drop_eq_getElem_cons hlt] at hy
    rcases List.mem_cons.1 hy with rfl | hy
    ·omega
    ·exact hb2 h0 y hy
theorem wide_l0 (l0 : List S51) (l1 : List (List Int)) (hl : l0.length ≤ 4611686018427387904) (hl1 : l1.length ≤ 4611686018427387904) : ∀ d i, i + d = l0.length → ∃ b, Evt (fun k => ontimelaw24_wide.l0 k l0 (l0.length : Int) (i : Int) l0 l1) b ∧ (b = false → (∀ x ∈ l0.drop i, x.f2.length ≤ 10) ∧ ∀ y ∈ l1, y.length ≤ 60) := by
 intro d
 induction d with
 | zero =>
  intro i hi
  obtain ⟨b, hb, hb2⟩ := wide_l1 l1 hl1 l1.length 0 (by omega)
  have hb : Evt (fun k => ontimelaw24_wide.l1 k l1 (l1.length : Int) 0) b := hb
  refine ⟨b, Evt.step (fun k => by rw [ontimelaw24_wide.l0]) (Evt.neg (by omega) hb), fun h0 => ⟨fun y hy => ?_, fun y hy => hb2 h0 y hy⟩⟩
  rw [List.drop_of_length_le (by omega)] at hy
  cases hy
 | succ d ih =>
  intro i hi
  have hlt : i < l0.length := by omega
  by_cases h : (l0[i].f2.length : Int) > 10
  ·refine ⟨true, Evt.step (fun k => by rw [ontimelaw24_wide.l0]) (Evt.pos (by omega) (Evt.pos (by omega) (Evt.pos (by omega) (Evt.pos ?_ (Evt.pure _))))), fun h => by cases h⟩
   rw [rd51 _ _ hlt]; exact h
  ·obtain ⟨b, hb, hb2⟩ := ih (i + 1) (by omega)
   refine ⟨b, Evt.step (fun k => by rw [ontimelaw24_wide.l0]) (Evt.pos (by omega) (Evt.pos (by omega) (Evt.pos (by omega) (Evt.neg ?_ ?_)))), fun h0 => ⟨fun y hy => ?_, (hb2 h0).2⟩⟩
   ·rw [rd51 _ _ hlt]; exact h
   ·rw [evt_succ hlt hl]; exact hb
   ·rw [List.drop_eq_getElem_cons hlt] at hy
    rcases List.mem_cons.1 hy with rfl | hy
    ·omega
    ·exact (hb2 h0).1 y hy
theorem wide_ends (l0 : List S51) (l1 : List (List Int)) : ∃ b, Evt (fun k => ontimelaw24_wide.f k l0 l1) b ∧ (b = false → l0.length ≤ 30 ∧ l1.length ≤ 30 ∧ (∀ x ∈ l0, x.f2.length ≤ 10) ∧ ∀ y ∈ l1, y.length ≤ 60) := by
 have e : (fun k => ontimelaw24_wide.f k l0 l1) = fun k => if (l0.length : Int) > 30 then (ontimelaw24_wide.j0 k true l0 l1) else (ontimelaw24_wide.j0 k (decide ((l1.length : Int) > 30)) l0 l1) := rfl
 rw [e]
 by_cases h : (l0.length : Int) > 30
 ·exact ⟨true, Evt.pos h (Evt.step (fun k => by rw [ontimelaw24_wide.j0]) (Evt.pos rfl (Evt.pure _))), fun h => by cases h⟩
 ·by_cases h1 : (l1.length : Int) > 30
  ·refine ⟨true, Evt.neg h (Evt.step (fun k => by rw [ontimelaw24_wide.j0]) (Evt.pos (decide_eq_true h1) (Evt.pure _))), fun h => by cases h⟩
  ·obtain ⟨b, hb, hb2⟩ := wide_l0 l0 l1 (by omega) (by omega) l0.length 0 (by omega)
   have hb : Evt (fun k => ontimelaw24_wide.l0 k l0 (l0.length : Int) 0 l0 l1) b := hb
   exact ⟨b, Evt.neg h (Evt.step (fun k => by rw [ontimelaw24_wide.j0]) (Evt.neg (by simpa using h1) hb)), fun h0 => ⟨by omega, by omega, (hb2 h0).1, (hb2 h0).2⟩⟩
/-! ### equality of lists, thrice -/
theorem dec_cons_eq {α : Type} [DecidableEq α] {a b : α} {s t : List α} (h : a = b) : decide (s = t) = decide (a :: s = b :: t) := by subst h; simp
theorem dec_cons_ne {α : Type} [DecidableEq α] {a b : α} {s t : List α} (h : ¬ a = b) : false = decide (a :: s = b :: t) := by simp [h]
theorem eq_l0 (x0 x1 : List Int) (hl : x0.length = x1.length) (hb : x0.length ≤ 4611686018427387904) : ∀ d i, i + d = x0.length → Evt (fun k => slices_Equal_int_int.l0 k x0 x1 (x0.length : Int) (i : Int)) (decide (x0.drop i = x1.drop i)) := by
 intro d
 induction d with
 | zero =>
  intro i hi
  refine Evt.step (fun k => by rw [slices_Equal_int_int.l0]) (Evt.neg (by omega) ((Evt.pure _).to ?_))
  rw [List.drop_of_length_le (by omega), List.drop_of_length_le (by omega)]
  simp
 | succ d ih =>
  intro i hi
  have h0 : i < x0.length := by omega
  have h1 : i < x1.length := by omega
  refine Evt.step (fun k => by rw [slices_Equal_int_int.l0]) (Evt.pos (by omega) (Evt.pos (by omega) (Evt.pos (by omega) (Evt.pos (by omega) ?_))))
  rw [rd_nat _ _ h0, rd_nat _ _ h1, evt_succ h0 hb, List.drop_eq_getElem_cons h0, List.drop_eq_getElem_cons h1]
  by_cases h : x0[i] = x1[i]
  ·exact Evt.pos h ((ih (i + 1) (by omega)).to (dec_cons_eq h))
  ·exact Evt.neg h ((Evt.pure _).to (dec_cons_ne h))
theorem equal_evt (x0 x1 : List Int) (hb : x0.length ≤ 4611686018427387904) : Evt (fun k => slices_Equal_int_int.f k x0 x1) (decide (x0 = x1)) := by
 have e : (fun k => slices_Equal_int_int.f k x0 x1) = fun k => if (x0.length : Int) = (x1.length : Int) then (slices_Equal_int_int.l0 k x0 x1 (x0.length : Int) 0) else (some false) := rfl
 rw [e]
 by_cases h : x0.length = x1.length
 ·exact Evt.pos (by omega) (eq_l0 x0 x1 h hb x0.length 0 (by omega))
 ·exact Evt.neg (by omega) ((Evt.pure _).to (by
   have : x0 ≠ x1 := fun h2 => h (by rw [h2])
   simp [this]))
theorem same_l0 (x0 x1 : List Int) (hl : x0.length = x1.length) (hb : x0.length ≤ 4611686018427387904) : ∀ d i, i + d = x0.length → Evt (fun k => ontimeref24_same.l0 k x0 x1 (i : Int)) (decide (x0.drop i = x1.drop i)) := by
 intro d
 induction d with
 | zero =>
  intro i hi
  refine Evt.step (fun k => by rw [ontimeref24_same.l0]) (Evt.neg (by omega) ((Evt.pure _).to ?_))
  rw [List.drop_of_length_le (by omega), List.drop_of_length_le (by omega)]
  simp
 | succ d ih =>
  intro i hi
  have h0 : i < x0.length := by omega
  have h1 : i < x1.length := by omega
  refine Evt.step (fun k => by rw [ontimeref24_same.l0]) (Evt.pos (by omega) (Evt.pos (by omega) (Evt.pos (by omega) ?_)))
  rw [rd_nat _ _ h0, rd_nat _ _ h1, evt_succ h0 hb, List.drop_eq_getElem_cons h0, List.drop_eq_getElem_cons h1]
  by_cases h : x0[i] = x1[i]
  ·exact Evt.pos h ((ih (i + 1) (by omega)).to (dec_cons_eq h))
  ·exact Evt.neg h ((Evt.pure _).to (dec_cons_ne h))
theorem same_evt (x0 x1 : List Int) (hb : x0.length ≤ 4611686018427387904) : Evt (fun k => ontimeref24_same.f k x0 x1) (decide (x0 = x1)) := by
 have e : (fun k => ontimeref24_same.f k x0 x1) = fun k => if (x0.length : Int) = (x1.length : Int) then (ontimeref24_same.l0 k x0 x1 0) else (some false) := rfl
 rw [e]
 by_cases h : x0.length = x1.length
 ·exact Evt.pos (by omega) (same_l0 x0 x1 h hb x0.length 0 (by omega))
 ·exact Evt.neg (by omega) ((Evt.pure _).to (by
   have : x0 ≠ x1 := fun h2 => h (by rw [h2])
   simp [this]))
theorem eqf_l0 (x0 x1 : List (List Int)) (hl : x0.length = x1.length) (hb : x0.length ≤ 4611686018427387904) (hr : ∀ y ∈ x0, y.length ≤ 4611686018427387904) : ∀ d i, i + d = x0.length → Evt (fun k => slices_EqualFunc_int_int_int_int.l0 k x1 x0 (x0.length : Int) (i : Int)) (decide (x0.drop i = x1.drop i)) := by
 intro d
 induction d with
 | zero =>
  intro i hi
  refine Evt.step (fun k => by rw [slices_EqualFunc_int_int_int_int.l0]) (Evt.neg (by omega) ((Evt.pure _).to ?_))
  rw [List.drop_of_length_le (by omega), List.drop_of_length_le (by omega)]
  simp
 | succ d ih =>
  intro i hi
  have h0 : i < x0.length := by omega
  have h1 : i < x1.length := by omega
  refine Evt.step (fun k => by rw [slices_EqualFunc_int_int_int_int.l0]) (Evt.pos (by omega) (Evt.pos (by omega) (Evt.pos (by omega) (Evt.pos (by omega) ?_))))
  rw [rdLL _ _ h0, rdLL _ _ h1, evt_succ h0 hb, List.drop_eq_getElem_cons h0, List.drop_eq_getElem_cons h1]
  refine Evt.bind (a := decide (x0[i] = x1[i])) (Evt.bind (a := decide (x0[i] = x1[i])) (equal_evt _ _ (hr _ (List.getElem_mem _))) (Evt.pure _)) ?_
  by_cases h : x0[i] = x1[i]
  ·exact Evt.pos (decide_eq_true h) ((ih (i + 1) (by omega)).to (dec_cons_eq h))
  ·exact Evt.neg (by simp [h]) ((Evt.pure _).to (dec_cons_ne h))
theorem eqf_evt (x0 x1 : List (List Int)) (hb : x0.length ≤ 4611686018427387904) (hr : ∀ y ∈ x0, y.length ≤ 4611686018427387904) : Evt (fun k => slices_EqualFunc_int_int_int_int.f k x0 x1) (decide (x0 = x1)) := by
 have e : (fun k => slices_EqualFunc_int_int_int_int.f k x0 x1) = fun k => if (x0.length : Int) = (x1.length : Int) then (slices_EqualFunc_int_int_int_int.l0 k x1 x0 (x0.length : Int) 0) else (some false) := rfl
 rw [e]
 by_cases h : x0.length = x1.length
 ·exact Evt.pos (by omega) (eqf_l0 x0 x1 h hb hr x0.length 0 (by omega))
 ·exact Evt.neg (by omega) ((Evt.pure _).to (by
   have : x0 ≠ x1 := fun h2 => h (by rw [h2])
   simp [this]))
/-! ### the predecessors, told as a fold -/
def put1 (i : Nat) (p : List (List Int)) (t : Int) : List (List Int) := p.set t.toNat (p.getD t.toNat [] ++ [(i : Int)])
def puts (i : Nat) (p : List (List Int)) (ts : List Int) : List (List Int) := ts.foldl (put1 i) p
theorem put1_len (i : Nat) (p : List (List Int)) (t : Int) : (put1 i p t).length = p.length := by simp [put1]
theorem puts_len (i : Nat) : ∀ (ts : List Int) (p : List (List Int)), (puts i p ts).length = p.length := by
 intro ts
 induction ts with
 | nil => intro p; rfl
 | cons t ts ih => intro p; show (puts i (put1 i p t) ts).length = _; rw [ih, put1_len]
theorem put1_row (i : Nat) (p : List (List Int)) (t : Int) (B : Nat) (h : ∀ y ∈ p, y.length ≤ B) : ∀ y ∈ put1 i p t, y.length ≤ B + 1 := by
 intro y hy
 rcases List.mem_or_eq_of_mem_set hy with h1 | rfl
 ·have := h y h1; omega
 ·rw [List.length_append, List.length_singleton, List.getD_eq_getElem?_getD]
  cases hq : p[t.toNat]? with
  | none => simp
  | some z => have := h z (List.mem_of_getElem? hq); simp; omega
theorem puts_row (i : Nat) : ∀ (ts : List Int) (p : List (List Int)) (B : Nat), (∀ y ∈ p, y.length ≤ B) → ∀ y ∈ puts i p ts, y.length ≤ B + ts.length := by
 intro ts
 induction ts with
 | nil => intro p B h y hy; exact h y hy
 | cons t ts ih =>
  intro p B h y hy
  have := ih (put1 i p t) (B + 1) (put1_row i p t B h) y hy
  rw [List.length_cons]; omega
theorem rdLL_any (p : List (List Int)) (t : Int) : rd_L11 p t = p.getD t.toNat [] := rfl
/-! ### the specification -/
def InR (n : Nat) (ts : List Int) : Prop := ∀ t ∈ ts, 0 ≤ t ∧ t < (n : Int)
def Twice (ts : List Int) : Prop := (ts.length : Int) = 2 ∧ rd ts 0 = rd ts 1
def blkOk (n : Nat) (e : Int) (b : S51) : Prop := e ≤ b.f0 ∧ b.f0 < b.f1 ∧ (b.f2.length : Int) ≤ 2 ∧ ¬ Twice b.f2 ∧ InR n b.f2
noncomputable instance decBlk (n : Nat) (e : Int) (b : S51) : Decidable (blkOk n e b) := Classical.propDecidable _
noncomputable def good (n : Nat) : Int → List S51 → Bool
 | _, [] => true
 | e, b :: bs => decide (blkOk n e b) && good n b.f1 bs
def prevs : Nat → List (List Int) → List S51 → List (List Int)
 | _, p, [] => p
 | i, p, b :: bs => prevs (i + 1) (puts i p b.f2) bs
theorem prevs_len : ∀ (l : List S51) (i : Nat) (p : List (List Int)), (prevs i p l).length = p.length := by
 intro l
 induction l with
 | nil => intro i p; rfl
 | cons b l ih => intro i p; show (prevs (i + 1) (puts i p b.f2) l).length = _; rw [ih, puts_len]
/-! ### cfg.Valid -/
theorem cv_l1 (N : Nat) (l0 : List S51) (l1 : List (List Int)) (e : Int) (i : Nat) (hi : i < 4611686018427387904) (ts : List Int) (hts : ts.length ≤ 10) : ∀ d j (p : List (List Int)) (B : Nat), j + d = ts.length → p.length = N → (∀ y ∈ p, y.length ≤ B) → B + d ≤ 1000000 →
  (InR N (ts.drop j) → ∀ r, Evt (fun k => cfg_Valid.l0 k (N : Int) (puts i p (ts.drop j)) e l0 (l0.length : Int) ((i + 1 : Nat) : Int) l0 l1) r → Evt (fun k => cfg_Valid.l1 k (N : Int) p e (i : Int) l0 (l0.length : Int) (i : Int) ts (ts.length : Int) (j : Int) l0 l1) r) ∧
  (¬ InR N (ts.drop j) → Evt (fun k => cfg_Valid.l1 k (N : Int) p e (i : Int) l0 (l0.length : Int) (i : Int) ts (ts.length : Int) (j : Int) l0 l1) false) := by
 intro d
 induction d with
 | zero =>
  intro j p B hj hp hB hd
  have hnil : ts.drop j = [] := List.drop_of_length_le (by omega)
  rw [hnil]
  refine ⟨fun _ r hr => Evt.step (fun k => by rw [cfg_Valid.l1]) (Evt.neg (by omega) ?_), fun h => absurd (fun t ht => by cases ht) h⟩
  rw [evt_succ (n := i + 1) (by omega) (by omega)]
  exact hr
 | succ d ih =>
  intro j p B hj hp hB hd
  have hlt : j < ts.length := by omega
  rw [List.drop_eq_getElem_cons hlt]
  by_cases hin : 0 ≤ ts[j] ∧ ts[j] < (N : Int)
  ·have hrow : (rd_L11 p ts[j]).length < 17592186044416 := by
    rw [rdLL_any, List.getD_eq_getElem?_getD]
    cases hq : p[ts[j].toNat]? with
    | none => simp
    | some z => have := hB z (List.mem_of_getElem? hq); simp; omega
   obtain ⟨h1, h2⟩ := ih (j + 1) (put1 i p ts[j]) (B + 1) (by omega) (by rw [put1_len, hp]) (put1_row i p ts[j] B hB) (by omega)
   have go : ∀ r, Evt (fun k => cfg_Valid.l1 k (N : Int) (put1 i p ts[j]) e (i : Int) l0 (l0.length : Int) (i : Int) ts (ts.length : Int) ((j + 1 : Nat) : Int) l0 l1) r → Evt (fun k => cfg_Valid.l1 k (N : Int) p e (i : Int) l0 (l0.length : Int) (i : Int) ts (ts.length : Int) (j : Int) l0 l1) r := by
    intro r hr
    refine Evt.step (fun k => by rw [cfg_Valid.l1]) (Evt.pos (by omega) (Evt.pos (by omega) (Evt.pos (by omega) ?_)))
    rw [rd_nat _ _ hlt]
    refine Evt.neg (by omega) (Evt.neg (by omega) (Evt.pos (by omega) (Evt.pos (by omega) (Evt.pos hrow ?_))))
    rw [evt_succ hlt (by omega)]
    exact hr
   refine ⟨fun h r hr => go r (h1 (fun t ht => h t (List.mem_cons_of_mem _ ht)) r hr), fun h => go false (h2 (fun h' => h (fun t ht => ?_)))⟩
   rcases List.mem_cons.1 ht with rfl | ht
   ·exact hin
   ·exact h' t ht
  ·refine ⟨fun h => absurd (h ts[j] List.mem_cons_self) hin, fun _ => ?_⟩
   refine Evt.step (fun k => by rw [cfg_Valid.l1]) (Evt.pos (by omega) (Evt.pos (by omega) (Evt.pos (by omega) ?_)))
   rw [rd_nat _ _ hlt]
   by_cases h0 : ts[j] < 0
   ·exact Evt.pos h0 (Evt.pure _)
   ·exact Evt.neg h0 (Evt.pos (by omega) (Evt.pure _))
theorem cv_l0 (l0 : List S51) (l1 : List (List Int)) (hl : l0.length ≤ 30) (hx : ∀ x ∈ l0, x.f2.length ≤ 10) : ∀ d i (e : Int) (p : List (List Int)), i + d = l0.length → p.length = l0.length → (∀ y ∈ p, y.length ≤ 10 * i) →
  Evt (fun k => cfg_Valid.l0 k (l0.length : Int) p e l0 (l0.length : Int) (i : Int) l0 l1) (good l0.length e (l0.drop i) && decide (prevs i p (l0.drop i) = l1)) := by
 intro d
 induction d with
 | zero =>
  intro i e p hi hp hB
  have hnil : l0.drop i = [] := List.drop_of_length_le (by omega)
  rw [hnil]
  refine Evt.step (fun k => by rw [cfg_Valid.l0]) (Evt.neg (by omega) (Evt.bind (eqf_evt p l1 (by omega) (fun y hy => by have := hB y hy; omega)) ((Evt.pure _).to ?_)))
  show _ = (true && decide (p = l1))
  rw [Bool.true_and]
 | succ d ih =>
  intro i e p hi hp hB
  have hlt : i < l0.length := by omega
  rw [List.drop_eq_getElem_cons hlt]
  have h10 := hx _ (List.getElem_mem hlt)
  obtain ⟨k1, k2⟩ := cv_l1 l0.length l0 l1 l0[i].f1 i (by omega) l0[i].f2 h10 l0[i].f2.length 0 p (10 * i) (by omega) hp hB (by omega)
  rw [List.drop_zero] at k1 k2
  have hnext := ih (i + 1) l0[i].f1 (puts i p l0[i].f2) (by omega) (by rw [puts_len, hp]) (fun y hy => by have := puts_row i _ p _ hB y hy; omega)
  have e1 : good l0.length e (l0[i] :: l0.drop (i + 1)) = (decide (blkOk l0.length e l0[i]) && good l0.length l0[i].f1 (l0.drop (i + 1))) := by simp only [good]
  have e2 : prevs i p (l0[i] :: l0.drop (i + 1)) = prevs (i + 1) (puts i p l0[i].f2) (l0.drop (i + 1)) := rfl
  rw [e1, e2]
  refine Evt.step (fun k => by rw [cfg_Valid.l0]) (Evt.pos (by omega) (Evt.pos (by omega) (Evt.pos (by omega) ?_)))
  rw [rd51 _ _ hlt]
  have bad : ¬ blkOk l0.length e l0[i] → false = ((decide (blkOk l0.length e l0[i]) && good l0.length l0[i].f1 (l0.drop (i + 1))) && decide (prevs (i + 1) (puts i p l0[i].f2) (l0.drop (i + 1)) = l1)) := fun h => by simp [h]
  have jt : ∀ x65 : Bool, x65 = true → ¬ blkOk l0.length e l0[i] → Evt (fun k => cfg_Valid.j2 k (l0.length : Int) p (i : Int) l0 (l0.length : Int) (i : Int) x65 l0 l1 l0[i].f0 l0[i].f1 l0[i].f2) ((decide (blkOk l0.length e l0[i]) && good l0.length l0[i].f1 (l0.drop (i + 1))) && decide (prevs (i + 1) (puts i p l0[i].f2) (l0.drop (i + 1)) = l1)) :=
   fun x hx h => Evt.step (fun k => by rw [cfg_Valid.j2]) (Evt.pos hx ((Evt.pure _).to (bad h)))
  have jf : ∀ x65 : Bool, x65 = false → e ≤ l0[i].f0 → l0[i].f0 < l0[i].f1 → (l0[i].f2.length : Int) ≤ 2 → ¬ Twice l0[i].f2 → Evt (fun k => cfg_Valid.j2 k (l0.length : Int) p (i : Int) l0 (l0.length : Int) (i : Int) x65 l0 l1 l0[i].f0 l0[i].f1 l0[i].f2) ((decide (blkOk l0.length e l0[i]) && good l0.length l0[i].f1 (l0.drop (i + 1))) && decide (prevs (i + 1) (puts i p l0[i].f2) (l0.drop (i + 1)) = l1)) := by
   intro x hx q1 q2 q3 q4
   refine Evt.step (fun k => by rw [cfg_Valid.j2]) (Evt.neg (by rw [hx]; decide) ?_)
   by_cases hr : InR l0.length l0[i].f2
   ·refine k1 hr _ (hnext.to ?_)
    have : blkOk l0.length e l0[i] := ⟨q1, q2, q3, q4, hr⟩
    simp [this]
   ·exact (k2 hr).to (bad (fun h => hr h.2.2.2.2))
  by_cases c1 : l0[i].f0 < e
  ·exact Evt.pos c1 (jt _ rfl (fun h => by have := h.1; omega))
  refine Evt.neg c1 ?_
  by_cases c2 : l0[i].f1 ≤ l0[i].f0
  ·exact Evt.pos c2 (jt _ rfl (fun h => by have := h.2.1; omega))
  refine Evt.neg c2 ?_
  by_cases c3 : (l0[i].f2.length : Int) > 2
  ·exact Evt.pos c3 (jt _ rfl (fun h => by have := h.2.2.1; omega))
  refine Evt.neg c3 ?_
  by_cases c4 : (l0[i].f2.length : Int) = 2
  ·refine Evt.pos c4 (Evt.pos (by omega) (Evt.pos (by omega) ?_))
   by_cases c5 : rd l0[i].f2 0 = rd l0[i].f2 1
   ·exact jt _ (beq_iff_eq.mpr c5) (fun h => h.2.2.2.1 ⟨c4, c5⟩)
   ·exact jf _ (beq_eq_false_iff_ne.mpr c5) (by omega) (by omega) (by omega) (fun h => c5 h.2)
  ·exact Evt.neg c4 (jf _ rfl (by omega) (by omega) (by omega) (fun h => c4 h.1))
theorem cv_evt (l0 : List S51) (l1 : List (List Int)) (hl : l0.length ≤ 30) (hx : ∀ x ∈ l0, x.f2.length ≤ 10) :
  Evt (fun k => cfg_Valid.f k l0 l1) (decide (0 < l0.length) && decide (l1.length = l0.length) && (good l0.length 0 l0 && decide (prevs 0 (List.replicate l0.length []) l0 = l1))) := by
 have e : (fun k => cfg_Valid.f k l0 l1) = fun k => if (l0.length : Int) = 0 then (cfg_Valid.j0 k (l0.length : Int) true l0 l1) else (cfg_Valid.j0 k (l0.length : Int) ((l1.length : Int) != (l0.length : Int)) l0 l1) := rfl
 rw [e]
 by_cases h : (l0.length : Int) = 0
 ·refine Evt.pos h (Evt.step (fun k => by rw [cfg_Valid.j0]) (Evt.pos rfl ((Evt.pure _).to ?_)))
  have : ¬ 0 < l0.length := by omega
  simp [this]
 ·refine Evt.neg h ?_
  by_cases h1 : l1.length = l0.length
  ·refine Evt.step (fun k => by rw [cfg_Valid.j0]) (Evt.neg (by simp [h1]) (Evt.pos (by omega) (Evt.pos (by omega) ?_)))
   have hg := cv_l0 l0 l1 hl hx l0.length 0 0 (List.replicate l0.length []) (by omega) (by simp) (fun y hy => by rw [(List.mem_replicate.1 hy).2]; simp)
   rw [List.drop_zero] at hg
   have h2 : 0 < l0.length := by omega
   refine Evt.to (Evt.congr (fun k => ?_) hg) (by simp [h1, h2])
   rfl
  ·refine Evt.step (fun k => by rw [cfg_Valid.j0]) (Evt.pos (by simp; omega) ((Evt.pure _).to (by simp [h1])))
/-! ### the reference -/
def cv (b : S51) : S104 := ⟨b.f0, b.f1, b.f2⟩
theorem blocks_l0 (l0 : List S51) (hl : l0.length ≤ 1000000) : ∀ d i (x : List S104), i + d = l0.length → x.length = i → Evt (fun k => ontimelaw24_blocks.l0 k x l0 (l0.length : Int) (i : Int)) (x ++ (l0.drop i).map cv) := by
 intro d
 induction d with
 | zero =>
  intro i x hi hx
  rw [List.drop_of_length_le (by omega)]
  exact Evt.step (fun k => by rw [ontimelaw24_blocks.l0]) (Evt.neg (by omega) ((Evt.pure _).to (by simp)))
 | succ d ih =>
  intro i x hi hx
  have hlt : i < l0.length := by omega
  rw [List.drop_eq_getElem_cons hlt]
  refine Evt.step (fun k => by rw [ontimelaw24_blocks.l0]) (Evt.pos (by omega) (Evt.pos (by omega) (Evt.pos (by omega) (Evt.pos (by omega) ?_))))
  rw [rd51 _ _ hlt, evt_succ hlt (by omega)]
  exact (ih (i + 1) _ (by omega) (by simp [hx])).to (by rw [List.map_cons, List.append_assoc]; rfl)
theorem blocks_evt (l0 : List S51) (l1 : List (List Int)) (hl : l0.length ≤ 1000000) : Evt (fun k => ontimelaw24_blocks.f k l0 l1) (l0.map cv) := by
 have := blocks_l0 l0 hl l0.length 0 [] (by omega) rfl
 exact this
theorem rp_l1 (l0 : List S51) (i : Nat) (hi : i < l0.length) (hn : l0.length ≤ 1000000) (N : Nat) (hin : InR N (l0[i]).f2) (hts : (l0[i]).f2.length ≤ 10) : ∀ d j (p : List (List Int)) (B : Nat), j + d = (l0[i]).f2.length → p.length = N → (∀ y ∈ p, y.length ≤ B) → B + d ≤ 1000000000 →
  ∀ r, Evt (fun k => ontimeref24_Prev.l0 k (l0.map cv) (puts i p ((l0[i]).f2.drop j)) ((i + 1 : Nat) : Int)) r → Evt (fun k => ontimeref24_Prev.l1 k (l0.map cv) p (i : Int) (j : Int)) r := by
 have hm : i < (l0.map cv).length := by simp; exact hi
 have e0 : rd_T104 (l0.map cv) (i : Int) = cv (l0[i]) := by rw [rd104 _ _ hm]; simp
 have e1 : (cv (l0[i])).f2 = (l0[i]).f2 := rfl
 have hlm : (l0.map cv).length = l0.length := by simp
 intro d
 induction d with
 | zero =>
  intro j p B hj hp hB hd r hr
  rw [List.drop_of_length_le (by omega)] at hr
  refine Evt.step (fun k => by rw [ontimeref24_Prev.l1]) (Evt.pos (by omega) (Evt.pos (by omega) ?_))
  rw [e0, e1]
  refine Evt.neg (by omega) ?_
  rw [evt_succ (n := i + 1) (by omega) (by omega)]
  exact hr
 | succ d ih =>
  intro j p B hj hp hB hd r hr
  have hlt : j < (l0[i]).f2.length := by omega
  rw [List.drop_eq_getElem_cons hlt] at hr
  have h0 := hin _ (List.getElem_mem hlt)
  have hrow : (rd_L11 p ((l0[i]).f2[j])).length < 17592186044416 := by
   rw [rdLL_any, List.getD_eq_getElem?_getD]
   cases hq : p[((l0[i]).f2[j]).toNat]? with
   | none => simp
   | some z => have := hB z (List.mem_of_getElem? hq); simp; omega
  have h1 := ih (j + 1) (put1 i p ((l0[i]).f2[j])) (B + 1) (by omega) (by rw [put1_len, hp]) (put1_row i p _ B hB) (by omega) r hr
  refine Evt.step (fun k => by rw [ontimeref24_Prev.l1]) (Evt.pos (by omega) (Evt.pos (by omega) ?_))
  rw [e0, e1]
  refine Evt.pos (by omega) (Evt.pos (by omega) ?_)
  rw [rd_nat _ _ hlt]
  refine Evt.pos (by omega) (Evt.pos (by omega) (Evt.pos hrow ?_))
  rw [evt_succ hlt (by omega)]
  exact h1
theorem rp_l0 (l0 : List S51) (hn : l0.length ≤ 1000000) (hx : ∀ x ∈ l0, x.f2.length ≤ 10) (N : Nat) (hin : ∀ x ∈ l0, InR N x.f2) : ∀ d i (p : List (List Int)), i + d = l0.length → p.length = N → (∀ y ∈ p, y.length ≤ 10 * i) →
  Evt (fun k => ontimeref24_Prev.l0 k (l0.map cv) p (i : Int)) (prevs i p (l0.drop i)) := by
 have hlm : (l0.map cv).length = l0.length := by simp
 intro d
 induction d with
 | zero =>
  intro i p hi hp hB
  rw [List.drop_of_length_le (by omega)]
  exact Evt.step (fun k => by rw [ontimeref24_Prev.l0]) (Evt.neg (by omega) ((Evt.pure p).to rfl))
 | succ d ih =>
  intro i p hi hp hB
  have hlt : i < l0.length := by omega
  rw [List.drop_eq_getElem_cons hlt]
  have h10 := hx _ (List.getElem_mem hlt)
  have hnext := ih (i + 1) (puts i p l0[i].f2) (by omega) (by rw [puts_len, hp]) (fun y hy => by have := puts_row i _ p _ hB y hy; omega)
  refine Evt.step (fun k => by rw [ontimeref24_Prev.l0]) (Evt.pos (by omega) ?_)
  exact rp_l1 l0 i hlt hn N (hin _ (List.getElem_mem hlt)) h10 l0[i].f2.length 0 p (10 * i) (by omega) hp hB (by omega) _ hnext
theorem rp_evt (l0 : List S51) (hn : l0.length ≤ 1000000) (hx : ∀ x ∈ l0, x.f2.length ≤ 10) (hin : ∀ x ∈ l0, InR l0.length x.f2) : Evt (fun k => ontimeref24_Prev.f k (l0.map cv)) (prevs 0 (List.replicate l0.length []) l0) := by
 have hlm : (l0.map cv).length = l0.length := by simp
 have e : (fun k => ontimeref24_Prev.f k (l0.map cv)) = fun k => if 0 ≤ ((l0.map cv).length : Int) then (if (((l0.map cv).length : Int) : Int).toNat ≤ 11728124029610 then (ontimeref24_Prev.l0 k (l0.map cv) (List.replicate (((l0.map cv).length : Int) : Int).toNat []) 0) else (none)) else (none) := rfl
 rw [e, hlm]
 refine Evt.pos (by omega) (Evt.pos (by omega) ?_)
 have := rp_l0 l0 hn hx l0.length hin l0.length 0 (List.replicate l0.length []) (by omega) (by simp) (fun y hy => by rw [(List.mem_replicate.1 hy).2]; simp)
 exact this
/-- The reference's check of one block's successors, from place j on. -/
def nextOk (n : Nat) (ts : List Int) (j : Nat) : Prop := ∀ q (h : q < ts.length), j ≤ q → (0 ≤ ts[q] ∧ ts[q] < (n : Int)) ∧ (0 < q → ts[q] ≠ rd ts 0)
theorem rv_l1 (l0 : List S51) (l1 : List (List Int)) (i : Nat) (hi : i < l0.length) (hn : l0.length ≤ 1000000) (hts : (l0[i]).f2.length ≤ 10) : ∀ d j, j + d = (l0[i]).f2.length →
  (nextOk l0.length (l0[i]).f2 j → ∀ r, Evt (fun k => ontimeref24_Valid.l0 k (l0.map cv) l1 ((i + 1 : Nat) : Int)) r → Evt (fun k => ontimeref24_Valid.l1 k (l0.map cv) l1 (i : Int) (j : Int)) r) ∧
  (¬ nextOk l0.length (l0[i]).f2 j → Evt (fun k => ontimeref24_Valid.l1 k (l0.map cv) l1 (i : Int) (j : Int)) false) := by
 have hm : i < (l0.map cv).length := by simp; exact hi
 have e0 : rd_T104 (l0.map cv) (i : Int) = cv (l0[i]) := by rw [rd104 _ _ hm]; simp
 have e1 : (cv (l0[i])).f2 = (l0[i]).f2 := rfl
 have hlm : (l0.map cv).length = l0.length := by simp
 intro d
 induction d with
 | zero =>
  intro j hj
  refine ⟨fun _ r hr => ?_, fun h => absurd (fun q hq hjq => by omega) h⟩
  refine Evt.step (fun k => by rw [ontimeref24_Valid.l1]) (Evt.pos (by omega) (Evt.pos (by omega) ?_))
  rw [e0, e1]
  refine Evt.neg (by omega) ?_
  rw [evt_succ (n := i + 1) (by omega) (by omega)]
  exact hr
 | succ d ih =>
  intro j hj
  have hlt : j < (l0[i]).f2.length := by omega
  obtain ⟨h1, h2⟩ := ih (j + 1) (by omega)
  by_cases hin : 0 ≤ (l0[i]).f2[j] ∧ (l0[i]).f2[j] < (l0.length : Int)
  ·by_cases h0 : 0 < j ∧ (l0[i]).f2[j] = rd (l0[i]).f2 0
   ·refine ⟨fun h => absurd h0.2 ((h j hlt (Nat.le_refl _)).2 h0.1), fun _ => ?_⟩
    refine Evt.step (fun k => by rw [ontimeref24_Valid.l1]) (Evt.pos (by omega) (Evt.pos (by omega) ?_))
    rw [e0, e1]
    refine Evt.pos (by omega) (Evt.pos (by omega) ?_)
    rw [rd_nat _ _ hlt]
    exact Evt.neg (by omega) (Evt.neg (by omega) (Evt.pos (by omega) (Evt.pos (by omega) (Evt.pos h0.2 (Evt.pure _)))))
   ·have go : ∀ r, Evt (fun k => ontimeref24_Valid.l1 k (l0.map cv) l1 (i : Int) ((j + 1 : Nat) : Int)) r → Evt (fun k => ontimeref24_Valid.l1 k (l0.map cv) l1 (i : Int) (j : Int)) r := by
     intro r hr
     refine Evt.step (fun k => by rw [ontimeref24_Valid.l1]) (Evt.pos (by omega) (Evt.pos (by omega) ?_))
     rw [e0, e1]
     refine Evt.pos (by omega) (Evt.pos (by omega) ?_)
     rw [rd_nat _ _ hlt, evt_succ hlt (by omega)]
     refine Evt.neg (by omega) (Evt.neg (by omega) ?_)
     by_cases hj0 : 0 < j
     ·exact Evt.pos (by omega) (Evt.pos (by omega) (Evt.neg (fun h => h0 ⟨hj0, h⟩) hr))
     ·exact Evt.neg (by omega) hr
    refine ⟨fun h r hr => go r (h1 (fun q hq hjq => h q hq (by omega)) r hr), fun h => go false (h2 (fun h' => h (fun q hq hjq => ?_)))⟩
    by_cases e : q = j
    ·subst e
     exact ⟨hin, fun hq0 h => h0 ⟨hq0, h⟩⟩
    ·exact h' q hq (by omega)
  ·refine ⟨fun h => absurd (h j hlt (Nat.le_refl _)).1 hin, fun _ => ?_⟩
   refine Evt.step (fun k => by rw [ontimeref24_Valid.l1]) (Evt.pos (by omega) (Evt.pos (by omega) ?_))
   rw [e0, e1]
   refine Evt.pos (by omega) (Evt.pos (by omega) ?_)
   rw [rd_nat _ _ hlt]
   by_cases h0 : (l0[i]).f2[j] < 0
   ·exact Evt.pos h0 (Evt.pure _)
   ·exact Evt.neg h0 (Evt.pos (by omega) (Evt.pure _))
theorem rv_l2 (x0 : List S104) (l1 t : List (List Int)) (h1 : l1.length = x0.length) (h2 : t.length = x0.length) (hb : x0.length ≤ 1000000) (hr : ∀ y ∈ l1, y.length ≤ 4611686018427387904) : ∀ d i, i + d = x0.length → Evt (fun k => ontimeref24_Valid.l2 k x0 l1 t (i : Int)) (decide (t.drop i = l1.drop i)) := by
 intro d
 induction d with
 | zero =>
  intro i hi
  refine Evt.step (fun k => by rw [ontimeref24_Valid.l2]) (Evt.neg (by omega) ((Evt.pure _).to ?_))
  rw [List.drop_of_length_le (by omega), List.drop_of_length_le (by omega)]
  simp
 | succ d ih =>
  intro i hi
  have q1 : i < l1.length := by omega
  have q2 : i < t.length := by omega
  refine Evt.step (fun k => by rw [ontimeref24_Valid.l2]) (Evt.pos (by omega) (Evt.pos (by omega) (Evt.pos (by omega) (Evt.pos (by omega) ?_))))
  rw [rdLL _ _ q1, rdLL _ _ q2, evt_succ (n := x0.length) (by omega) (by omega), List.drop_eq_getElem_cons q1, List.drop_eq_getElem_cons q2]
  refine Evt.bind (a := decide (l1[i] = t[i])) (same_evt _ _ (hr _ (List.getElem_mem _))) ?_
  by_cases h : t[i] = l1[i]
  ·exact Evt.pos (decide_eq_true h.symm) ((ih (i + 1) (by omega)).to (dec_cons_eq h))
  ·exact Evt.neg (by simp; exact fun h2 => h h2.symm) ((Evt.pure _).to (dec_cons_ne h))
theorem pair_cases (ts : List Int) (h : (ts.length : Int) ≤ 2) : ts = [] ∨ (∃ a, ts = [a]) ∨ ∃ a b, ts = [a, b] := by
 match ts, h with
 | [], _ => exact .inl rfl
 | [a], _ => exact .inr (.inl ⟨a, rfl⟩)
 | [a, b], _ => exact .inr (.inr ⟨a, b, rfl⟩)
 | a :: b :: c :: r, h => simp at h; omega
theorem next_iff (n : Nat) (ts : List Int) (h : (ts.length : Int) ≤ 2) : nextOk n ts 0 ↔ ¬ Twice ts ∧ InR n ts := by
 rcases pair_cases ts h with rfl | ⟨a, rfl⟩ | ⟨a, b, rfl⟩
 ·refine ⟨fun _ => ⟨fun ht => by have := ht.1; simp at this, fun t ht => by cases ht⟩, fun _ q hq _ => by simp at hq⟩
 ·refine ⟨fun h0 => ⟨fun ht => by have := ht.1; simp at this, fun t ht => ?_⟩, fun h0 q hq _ => ?_⟩
  ·rw [List.mem_singleton] at ht; subst ht; exact (h0 0 (by simp) (Nat.le_refl _)).1
  ·have : q = 0 := by simp at hq; omega
   subst this
   exact ⟨h0.2 _ (by simp), fun h => by omega⟩
 ·refine ⟨fun h0 => ⟨fun ht => ?_, fun t ht => ?_⟩, fun h0 q hq _ => ?_⟩
  ·exact (h0 1 (by simp) (Nat.zero_le _)).2 (by omega) ht.2.symm
  ·rcases List.mem_cons.1 ht with rfl | ht
   ·exact (h0 0 (by simp) (Nat.le_refl _)).1
   ·rw [List.mem_singleton] at ht; subst ht; exact (h0 1 (by simp) (Nat.zero_le _)).1
  ·have hq2 : q = 0 ∨ q = 1 := by simp at hq; omega
   rcases hq2 with rfl | rfl
   ·exact ⟨h0.2 _ (by simp), fun h => by omega⟩
   ·exact ⟨h0.2 _ (by simp), fun _ e => h0.1 ⟨by simp, e.symm⟩⟩
theorem rv_l0 (l0 : List S51) (l1 : List (List Int)) (hl : l0.length ≤ 30) (hx : ∀ x ∈ l0, x.f2.length ≤ 10) (h1 : l1.length = l0.length) (hr : ∀ y ∈ l1, y.length ≤ 4611686018427387904)
  (hw : ∀ x ∈ l0, -9223372036854775808 ≤ x.f0 ∧ x.f1 ≤ 9223372036854775807) : ∀ d i (e : Int), i + d = l0.length → 0 ≤ e → (∀ x ∈ l0.take i, InR l0.length x.f2) → (i = 0 → e = 0) → (∀ h : 0 < i, ∃ h2 : i - 1 < l0.length, e = (l0[i - 1]).f1) →
  Evt (fun k => ontimeref24_Valid.l0 k (l0.map cv) l1 (i : Int)) (good l0.length e (l0.drop i) && decide (prevs 0 (List.replicate l0.length []) l0 = l1)) := by
 have hlm : (l0.map cv).length = l0.length := by simp
 intro d
 induction d with
 | zero =>
  intro i e hi he hin _ _
  have hall : ∀ x ∈ l0, InR l0.length x.f2 := fun x hx' => hin x (by rw [List.take_of_length_le (by omega)]; exact hx')
  rw [List.drop_of_length_le (by omega)]
  refine Evt.step (fun k => by rw [ontimeref24_Valid.l0]) (Evt.neg (by omega) (Evt.bind (rp_evt l0 (by omega) hx hall) ?_))
  have := rv_l2 (l0.map cv) l1 (prevs 0 (List.replicate l0.length []) l0) (by omega) (by rw [prevs_len]; simp) (by omega) hr l0.length 0 (by omega)
  rw [List.drop_zero, List.drop_zero] at this
  refine Evt.to this ?_
  show _ = (true && _)
  rw [Bool.true_and]
 | succ d ih =>
  intro i e hi he hin hz hp
  have hlt : i < l0.length := by omega
  have hm : i < (l0.map cv).length := by omega
  have e0 : rd_T104 (l0.map cv) (i : Int) = cv (l0[i]) := by rw [rd104 _ _ hm]; simp
  have f0 : (cv (l0[i])).f0 = (l0[i]).f0 := rfl
  have f1 : (cv (l0[i])).f1 = (l0[i]).f1 := rfl
  have f2 : (cv (l0[i])).f2 = (l0[i]).f2 := rfl
  have h10 := hx _ (List.getElem_mem hlt)
  have e1 : good l0.length e (l0[i] :: l0.drop (i + 1)) = (decide (blkOk l0.length e l0[i]) && good l0.length l0[i].f1 (l0.drop (i + 1))) := by simp only [good]
  rw [List.drop_eq_getElem_cons hlt, e1]
  obtain ⟨k1, k2⟩ := rv_l1 l0 l1 i hlt (by omega) h10 l0[i].f2.length 0 (by omega)
  have bad : ¬ blkOk l0.length e l0[i] → false = ((decide (blkOk l0.length e l0[i]) && good l0.length l0[i].f1 (l0.drop (i + 1))) && decide (prevs 0 (List.replicate l0.length []) l0 = l1)) := fun h => by simp [h]
  have jt : ∀ x : Bool, x = true → ¬ blkOk l0.length e l0[i] → Evt (fun k => ontimeref24_Valid.j2 k (l0.map cv) l1 (i : Int) x) ((decide (blkOk l0.length e l0[i]) && good l0.length l0[i].f1 (l0.drop (i + 1))) && decide (prevs 0 (List.replicate l0.length []) l0 = l1)) :=
   fun x hx h => Evt.step (fun k => by rw [ontimeref24_Valid.j2]) (Evt.pos hx ((Evt.pure _).to (bad h)))
  have jd : e ≤ l0[i].f0 → l0[i].f0 < l0[i].f1 → Evt (fun k => ontimeref24_Valid.j2 k (l0.map cv) l1 (i : Int) (decide (((l0[i]).f2.length : Int) > 2))) ((decide (blkOk l0.length e l0[i]) && good l0.length l0[i].f1 (l0.drop (i + 1))) && decide (prevs 0 (List.replicate l0.length []) l0 = l1)) := by
   intro q1 q2
   by_cases q3 : ((l0[i]).f2.length : Int) > 2
   ·exact jt _ (decide_eq_true q3) (fun h => by have := h.2.2.1; omega)
   ·refine Evt.step (fun k => by rw [ontimeref24_Valid.j2]) (Evt.neg (by simpa using q3) ?_)
    by_cases hn : nextOk l0.length (l0[i]).f2 0
    ·have hn2 := (next_iff _ _ (by omega)).1 hn
     have hok : blkOk l0.length e l0[i] := ⟨q1, q2, by omega, hn2.1, hn2.2⟩
     refine k1 hn _ ((ih (i + 1) l0[i].f1 (by omega) (by omega) ?_ (fun h => by omega) (fun h => ⟨by omega, rfl⟩)).to (by simp [hok]))
     intro x hx'
     rw [List.take_succ_eq_append_getElem hlt] at hx'
     rcases List.mem_append.1 hx' with h | h
     ·exact hin x h
     ·rw [List.mem_singleton] at h; subst h; exact hn2.2
    ·exact (k2 hn).to (bad (fun h => hn ((next_iff _ _ (by omega)).2 ⟨h.2.2.2.1, h.2.2.2.2⟩)))
  refine Evt.step (fun k => by rw [ontimeref24_Valid.l0]) (Evt.pos (by omega) (Evt.pos (by omega) ?_))
  rw [e0, f0, f1, f2]
  by_cases c1 : l0[i].f0 < 0
  ·exact Evt.pos c1 (jt _ rfl (fun h => by have := h.1; omega))
  refine Evt.neg c1 ?_
  by_cases c2 : l0[i].f0 ≥ l0[i].f1
  ·exact Evt.pos c2 (jt _ rfl (fun h => by have := h.2.1; omega))
  refine Evt.neg c2 ?_
  by_cases c3 : (i : Int) > 0
  ·obtain ⟨h2, he2⟩ := hp (by omega)
   have w1 : wrap64 ((i : Int) - 1) = ((i - 1 : Nat) : Int) := by unfold wrap64; omega
   have hm2 : i - 1 < (l0.map cv).length := by omega
   have e3 : rd_T104 (l0.map cv) ((i - 1 : Nat) : Int) = cv (l0[i - 1]) := by rw [rd104 _ _ hm2]; simp
   have f3 : (cv (l0[i - 1])).f1 = (l0[i - 1]).f1 := rfl
   refine Evt.pos c3 ?_
   rw [w1, e3, f3, ← he2]
   refine Evt.pos (by omega) (Evt.pos (by omega) ?_)
   by_cases c4 : l0[i].f0 < e
   ·exact Evt.pos c4 (jt _ rfl (fun h => by have := h.1; omega))
   ·exact Evt.neg c4 (jd (by omega) (by omega))
  ·refine Evt.neg c3 (jd ?_ (by omega))
   have := hz (by omega)
   omega
theorem rv_evt (l0 : List S51) (l1 : List (List Int)) (hl : l0.length ≤ 30) (hx : ∀ x ∈ l0, x.f2.length ≤ 10) (hr : ∀ y ∈ l1, y.length ≤ 4611686018427387904) (hw : ∀ x ∈ l0, -9223372036854775808 ≤ x.f0 ∧ x.f1 ≤ 9223372036854775807) :
  Evt (fun k => ontimeref24_Valid.f k (l0.map cv) l1) (decide (0 < l0.length) && decide (l1.length = l0.length) && (good l0.length 0 l0 && decide (prevs 0 (List.replicate l0.length []) l0 = l1))) := by
 have hlm : (l0.map cv).length = l0.length := by simp
 have e : (fun k => ontimeref24_Valid.f k (l0.map cv) l1) = fun k => if ((l0.map cv).length : Int) = 0 then (ontimeref24_Valid.j0 k (l0.map cv) l1 true) else (ontimeref24_Valid.j0 k (l0.map cv) l1 ((l1.length : Int) != ((l0.map cv).length : Int))) := rfl
 rw [e, hlm]
 by_cases h : (l0.length : Int) = 0
 ·refine Evt.pos h (Evt.step (fun k => by rw [ontimeref24_Valid.j0]) (Evt.pos rfl ((Evt.pure _).to ?_)))
  have : ¬ 0 < l0.length := by omega
  simp [this]
 ·refine Evt.neg h ?_
  by_cases h1 : l1.length = l0.length
  ·refine Evt.step (fun k => by rw [ontimeref24_Valid.j0]) (Evt.neg (by simp [h1]) ?_)
   have hg := rv_l0 l0 l1 hl hx h1 hr hw l0.length 0 0 (by omega) (Int.le_refl _) (fun x hx' => by simp at hx') (fun _ => rfl) (fun h => by omega)
   rw [List.drop_zero] at hg
   have h2 : 0 < l0.length := by omega
   refine Evt.to (Evt.congr (fun k => ?_) hg) (by simp [h1, h2])
   rfl
  ·refine Evt.step (fun k => by rw [ontimeref24_Valid.j0]) (Evt.pos (by simp; omega) ((Evt.pure _).to (by simp [h1])))
theorem CfgValid : ontimelaw24_CfgValid.Pure := by
 intro x h
 obtain ⟨⟨hl0, hb⟩, hl1, hp⟩ := h
 have e : (fun k => ontimelaw24_CfgValid.f k x.f0 x.f1) = fun k => (ontimelaw24_awake.f k).bind fun t444 => (if t444 = true then ((ontimelaw24_wide.f k x.f0 x.f1).bind fun t445 => (if t445 = true then (some true) else ((cfg_Valid.f k x.f0 x.f1).bind fun t446 => ((ontimelaw24_blocks.f k x.f0 x.f1).bind fun t447 => ((ontimeref24_Valid.f k t447 x.f1).bind fun t450 => (some (t446 == t450))))))) else (some false)) := rfl
 refine Evt.some (g := fun k => ontimelaw24_CfgValid.f k x.f0 x.f1) ?_
 rw [e]
 refine Evt.bind awake_ends (Evt.pos rfl ?_)
 obtain ⟨b, hw, hw2⟩ := wide_ends x.f0 x.f1
 refine Evt.bind hw ?_
 cases b with
 | true => exact Evt.pos rfl (Evt.pure _)
 | false =>
  obtain ⟨g1, g2, g3, g4⟩ := hw2 rfl
  refine Evt.neg (by decide) (Evt.bind (cv_evt x.f0 x.f1 g1 g3) (Evt.bind (blocks_evt x.f0 x.f1 (by omega)) (Evt.bind (rv_evt x.f0 x.f1 g1 g3 (fun y hy => by have := g4 y hy; omega) (fun y hy => ?_)) ((Evt.pure _).to ?_))))
  ·obtain ⟨w0, w1, _⟩ := hb y hy
   rw [wf_i64] at w0 w1
   exact ⟨w0.1, w1.2⟩
  ·exact beq_self_eq_true _
end Go.Proofs.Ytihmfdndiicjgaa.Pure
