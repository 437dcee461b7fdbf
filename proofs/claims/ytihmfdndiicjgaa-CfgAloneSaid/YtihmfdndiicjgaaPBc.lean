/- What cfg.Build answers, told by plain functions of the exploration's result. -/
import Derived.Test.YtihmfdndiicjgaaPBb
set_option linter.unusedVariables false
set_option linter.unusedSimpArgs false
namespace Go.Proofs.Ytihmfdndiicjgaa.PB
open Go.RowKit Go.Proofs.Ytihmfdndiicjgaa.C Go.Proofs.HEvt Go.Proofs.YtihmfdndiicjgaaW.PrintWords
abbrev Res := List S51 × List (List Int) × Int × Int
theorem rd51 (xs : List S51) (i : Nat) (h : i < xs.length) : rd_T51 xs (i : Int) = xs[i] := by unfold rd_T51; simp [List.getD_eq_getElem?_getD, h]
/-! ### the scan -/
def Leaves (code : List Int) (s e pc : Int) : Prop := ∃ t ∈ sc code pc, t < s ∨ t ≥ e
noncomputable instance (code : List Int) (s e pc : Int) : Decidable (Leaves code s e pc) := Classical.propDecidable _
def lastTo (acc : List S51) (v : Int) : List S51 := acc.dropLast ++ [⟨(acc.getLastD z51).f0, v, (acc.getLastD z51).f2⟩]
def addB (L : Int → Bool) (acc : List S51) (pc : Int) : List S51 := if L pc = true then acc ++ [⟨pc, pc + 1, []⟩] else lastTo acc (pc + 1)
/-- The scan from pc on, d steps before the end: none: an instruction leaves the part. -/
noncomputable def scan (code : List Int) (s e : Int) (R L : Int → Bool) : Nat → Int → List S51 → Sum Int (List S51)
 | 0, _, acc => .inr acc
 | d + 1, pc, acc => if R pc = true then (if Leaves code s e pc then .inl pc else scan code s e R L d (pc + 1) (addB L acc pc)) else scan code s e R L d (pc + 1) acc
theorem lastTo_snoc (a : List S51) (b : S51) (v : Int) : lastTo (a ++ [b]) v = a ++ [⟨b.f0, v, b.f2⟩] := by
 simp [lastTo]
theorem set_last (a : List S51) (b c : S51) : (a ++ [b]).set a.length c = a ++ [c] := by
 rw [List.set_append_right _ _ (Nat.le_refl _)]
 simp
/-- A block as the scan leaves it. -/
def BlkIn (s e : Int) (R : Int → Bool) (b : S51) : Prop := b.f2 = [] ∧ s ≤ b.f0 ∧ b.f0 < b.f1 ∧ b.f1 ≤ e ∧ R (b.f1 - 1) = true
section
variable {code : List Int} {s e : Int} {R L : Int → Bool}
theorem lead_evt (hx : Evt (fun k => xr k code s e) (R, L)) (pc : Int) : Evt (fun k => xb_lead.f k code s e pc) (L pc) := by
 have h := Evt.bind (G := fun k => xr k code s e) (F := fun _ (x : (Int → Bool) × (Int → Bool)) => some (x.2 pc)) (r := L pc) hx (Evt.of_eq (fun _ => rfl))
 exact h
theorem reach_evt (hx : Evt (fun k => xr k code s e) (R, L)) (pc : Int) : Evt (fun k => xb_reach.f k code s e pc) (R pc) := by
 have h := Evt.bind (G := fun k => xr k code s e) (F := fun _ (x : (Int → Bool) × (Int → Bool)) => some (x.1 pc)) (r := R pc) hx (Evt.of_eq (fun _ => rfl))
 exact h
theorem l1_evt (hw : Words code) (hc : code.length ≤ 4096) (P : Part code s e) (hx : Evt (fun k => xr k code s e) (R, L)) (pc : Int) (h0 : s ≤ pc) (h1 : pc < e) (acc : List S51) (hlen : acc.length ≤ 100000) (hacc : L pc = true ∨ acc ≠ []) :
  ∀ m j, j + m = (sc code pc).length →
  ((∃ t ∈ (sc code pc).drop j, t < s ∨ t ≥ e) → Evt (fun k => cfg_Build.l1 k pc (sc code pc) ((sc code pc).length : Int) (j : Int) s e code acc) (([] : List S51), ([] : List (List Int)), pc, 10)) ∧
  (¬ (∃ t ∈ (sc code pc).drop j, t < s ∨ t ≥ e) → ∀ r : Res, Evt (fun k => cfg_Build.l0 k (pc + 1) s e code (addB L acc pc)) r → Evt (fun k => cfg_Build.l1 k pc (sc code pc) ((sc code pc).length : Int) (j : Int) s e code acc) r) := by
 have hs0 := P.s0
 have hel := P.el
 have hsl := sc_len code pc
 have hw1 : wrap64 (pc + 1) = pc + 1 := wrap_id (by omega) (by omega)
 intro m
 induction m with
 | zero =>
  intro j hj
  rw [List.drop_of_length_le (by omega)]
  refine ⟨fun hq => (by obtain ⟨t, ht, _⟩ := hq; cases ht), fun _ r hr => ?_⟩
  refine Evt.step (fun k => by rw [cfg_Build.l1]) (Evt.neg (by omega) (Evt.bind (lead_evt hx pc) ?_))
  by_cases hL : L pc = true
  ·have ha : addB L acc pc = acc ++ [⟨pc, pc + 1, []⟩] := by unfold addB; rw [if_pos hL]
   rw [ha] at hr
   refine Evt.pos hL (Evt.pos (by omega) (Evt.bind (Evt.pure _) ?_))
   have e1 : wrap64 (((acc ++ [(⟨pc, 0, []⟩ : S51)]).length : Int) - 1) = (acc.length : Int) := by
    rw [wrap_id] <;> simp <;> omega
   show Evt (fun k => if 0 ≤ wrap64 (((acc ++ [(⟨pc, 0, []⟩ : S51)]).length : Int) - 1) then _ else _) r
   refine Evt.pos (by rw [e1]; omega) (Evt.pos (by rw [e1]; simp; omega) ?_)
   rw [e1, hw1]
   have e2 : rd_T51 (acc ++ [(⟨pc, 0, []⟩ : S51)]) (acc.length : Int) = ⟨pc, 0, []⟩ := by
    rw [rd51 _ _ (by simp)]; simp
   rw [e2, Int.toNat_natCast, set_last]
   exact hr
  ·have ha : addB L acc pc = lastTo acc (pc + 1) := by unfold addB; rw [if_neg hL]
   have hne : acc ≠ [] := hacc.resolve_left hL
   rw [ha] at hr
   rcases List.eq_nil_or_concat acc with rfl | ⟨a, b, rfl⟩
   ·exact absurd rfl hne
   ·rw [List.concat_eq_append] at hr hlen ⊢
    rw [lastTo_snoc] at hr
    have e1 : wrap64 (((a ++ [b]).length : Int) - 1) = (a.length : Int) := by
     rw [List.length_append] at hlen
     rw [wrap_id] <;> simp <;> omega
    refine Evt.neg hL (Evt.pos (by rw [e1]; omega) (Evt.pos (by rw [e1]; simp; omega) ?_))
    rw [e1, hw1]
    have e2 : rd_T51 (a ++ [b]) (a.length : Int) = b := by
     rw [rd51 _ _ (by simp)]; simp
    rw [e2, Int.toNat_natCast, set_last]
    exact hr
 | succ m ih =>
  intro j hj
  have hlt : j < (sc code pc).length := by omega
  obtain ⟨k1, k2⟩ := ih (j + 1) (by omega)
  rw [List.drop_eq_getElem_cons hlt]
  by_cases q : (sc code pc)[j] < s ∨ (sc code pc)[j] ≥ e
  ·refine ⟨fun _ => ?_, fun h => absurd ⟨_, List.mem_cons_self, q⟩ h⟩
   refine Evt.step (fun k => by rw [cfg_Build.l1]) (Evt.pos (by omega) (Evt.pos (by omega) (Evt.pos (by omega) ?_)))
   rw [rd_nat _ _ hlt]
   by_cases q1 : (sc code pc)[j] < s
   ·exact Evt.pos q1 (Evt.pure _)
   ·exact Evt.neg q1 (Evt.pos (by omega) (Evt.pure _))
  ·have go : ∀ r : Res, Evt (fun k => cfg_Build.l1 k pc (sc code pc) ((sc code pc).length : Int) ((j + 1 : Nat) : Int) s e code acc) r → Evt (fun k => cfg_Build.l1 k pc (sc code pc) ((sc code pc).length : Int) (j : Int) s e code acc) r := by
    intro r hr
    refine Evt.step (fun k => by rw [cfg_Build.l1]) (Evt.pos (by omega) (Evt.pos (by omega) (Evt.pos (by omega) ?_)))
    rw [rd_nat _ _ hlt, evt_succ hlt (by omega)]
    exact Evt.neg (by omega) (Evt.neg (by omega) hr)
   refine ⟨fun hq => ?_, fun h r hr => go r (k2 (fun hq => by obtain ⟨t, ht, h'⟩ := hq; exact h ⟨t, List.mem_cons_of_mem _ ht, h'⟩) r hr)⟩
   obtain ⟨t, ht, h⟩ := hq
   refine go _ (k1 ?_)
   rcases List.mem_cons.1 ht with rfl | ht
   ·exact absurd h q
   ·exact ⟨t, ht, h⟩
/-- The scan, whole: 'fin' is what follows the last instruction. -/
theorem l0_evt (hw : Words code) (hc : code.length ≤ 4096) (P : Part code s e) (hx : Evt (fun k => xr k code s e) (R, L)) (hI : XInv code s e [] R L) (fin : List S51 → Res)
  (hfin : ∀ acc : List S51, acc ≠ [] → acc.length ≤ 4096 → (∀ b ∈ acc, BlkIn s e R b) → Evt (fun k => if 0 ≤ (acc.length : Int) then (if ((acc.length : Int) : Int).toNat ≤ 11728124029610 then (cfg_Build.l2 k (acc.length : Int) 0 code acc (List.replicate ((acc.length : Int) : Int).toNat [])) else (none)) else (none)) (fin acc)) :
  ∀ (d : Nat) (pc : Int) (acc : List S51), s ≤ pc → pc + (d : Int) = e → (acc.length : Int) ≤ pc - s → (acc ≠ [] ∨ pc = s) → (∀ b ∈ acc, BlkIn s e R b ∧ b.f1 ≤ pc) →
  Evt (fun k => cfg_Build.l0 k pc s e code acc) (match scan code s e R L d pc acc with | .inl p => (([] : List S51), ([] : List (List Int)), p, 10) | .inr a => fin a) := by
 have hs0 := P.s0
 have hel := P.el
 have hse := P.se
 have hRs : R s = true := by
  rcases hI.st with h | h
  ·cases h
  ·exact h
 have hLs : L s = true := (hI.ld s).2 (.inl rfl)
 intro d
 induction d with
 | zero =>
  intro pc acc h0 h1 hl hne hb
  have hne2 : acc ≠ [] := by
   rcases hne with h | h
   ·exact h
   ·omega
  exact Evt.step (fun k => by rw [cfg_Build.l0]) (Evt.neg (by omega) (hfin acc hne2 (by omega) (fun b hb' => (hb b hb').1)))
 | succ d ih =>
  intro pc acc h0 h1 hl hne hb
  have hw1 : wrap64 (pc + 1) = pc + 1 := wrap_id (by omega) (by omega)
  refine Evt.step (fun k => by rw [cfg_Build.l0]) (Evt.pos (by omega) (Evt.bind (reach_evt hx pc) ?_))
  by_cases hR : R pc = true
  ·refine Evt.pos hR (Evt.bind (Evt.of_eq (fun _ => at_f hw (by omega) (by omega))) (Evt.bind (Evt.of_eq (fun _ => sc_f code pc)) ?_))
   have hacc : L pc = true ∨ acc ≠ [] := by
    rcases hne with h | h
    ·exact .inr h
    ·exact .inl (h ▸ hLs)
   obtain ⟨k1, k2⟩ := l1_evt hw hc P hx pc h0 (by omega) acc (by omega) hacc (sc code pc).length 0 (by omega)
   rw [List.drop_zero] at k1 k2
   by_cases hq : Leaves code s e pc
   ·have e1 : scan code s e R L (d + 1) pc acc = .inl pc := by rw [scan, if_pos hR, if_pos hq]
    rw [e1]
    exact k1 hq
   ·have e1 : scan code s e R L (d + 1) pc acc = scan code s e R L d (pc + 1) (addB L acc pc) := by rw [scan, if_pos hR, if_neg hq]
    rw [e1]
    have hadd : (addB L acc pc) ≠ [] ∧ ((addB L acc pc).length : Int) ≤ pc + 1 - s ∧ ∀ b ∈ addB L acc pc, BlkIn s e R b ∧ b.f1 ≤ pc + 1 := by
     have hnew : BlkIn s e R ⟨pc, pc + 1, []⟩ := ⟨rfl, h0, by show pc < pc + 1; omega, by show pc + 1 ≤ e; omega, by show R (pc + 1 - 1) = true; rw [show pc + 1 - 1 = pc by omega]; exact hR⟩
     unfold addB
     by_cases hL : L pc = true
     ·rw [if_pos hL]
      refine ⟨by simp, by rw [List.length_append, List.length_singleton]; omega, fun b hb' => ?_⟩
      rcases List.mem_append.1 hb' with h | h
      ·exact ⟨(hb b h).1, by have := (hb b h).2; omega⟩
      ·rw [List.mem_singleton] at h; subst h; exact ⟨hnew, Int.le_refl _⟩
     ·rw [if_neg hL]
      rcases List.eq_nil_or_concat acc with rfl | ⟨a, b, rfl⟩
      ·exact absurd rfl (hacc.resolve_left hL)
      ·rw [List.concat_eq_append] at hb hl ⊢
       rw [lastTo_snoc]
       refine ⟨by simp, by rw [List.length_append, List.length_singleton] at hl ⊢; omega, fun b' hb' => ?_⟩
       rcases List.mem_append.1 hb' with h | h
       ·have := hb b' (List.mem_append.2 (.inl h)); exact ⟨this.1, by omega⟩
       ·rw [List.mem_singleton] at h
        subst h
        have hbb := hb b (by simp)
        obtain ⟨⟨g1, g2, g3, g4, g5⟩, g6⟩ := hbb
        refine ⟨⟨g1, g2, ?_, ?_, ?_⟩, Int.le_refl _⟩
        ·show b.f0 < pc + 1; omega
        ·show pc + 1 ≤ e; omega
        ·show R (pc + 1 - 1) = true; rw [show pc + 1 - 1 = pc by omega]; exact hR
    have := ih (pc + 1) (addB L acc pc) (by omega) (by omega) hadd.2.1 (.inl hadd.1) hadd.2.2
    exact k2 hq _ this
  ·have e1 : scan code s e R L (d + 1) pc acc = scan code s e R L d (pc + 1) acc := by rw [scan, if_neg hR]
   rw [e1]
   refine Evt.neg hR ?_
   rw [hw1]
   refine ih (pc + 1) acc (by omega) (by omega) (by omega) (.inl ?_) (fun b hb' => ⟨(hb b hb').1, by have := (hb b hb').2; omega⟩)
   rcases hne with h | h
   ·exact h
   ·subst h; exact absurd hRs hR
end
end Go.Proofs.Ytihmfdndiicjgaa.PB
