/- Rounds that suffice: what a printed function tells once it has rounds enough. -/
import Derived.Test.YtihmfdndiicjgaaWMore
set_option linter.unusedVariables false
namespace Go.Proofs.HEvt
open Go.RowKit Go.Proofs.YtihmfdndiicjgaaW.PrintWords
def Evt {α : Type} (g : Nat → Option α) (r : α) : Prop := ∃ n, ∀ k, n ≤ k → g k = some r
section
variable {α β : Type}
theorem Evt.pure (r : α) : Evt (fun _ => some r) r := ⟨0, fun _ _ => rfl⟩
theorem Evt.of_eq {g : Nat → Option α} {r : α} (h : ∀ k, g k = some r) : Evt g r := ⟨0, fun k _ => h k⟩
theorem Evt.bind {G : Nat → Option α} {F : Nat → α → Option β} {a : α} {r : β} (h : Evt G a) (h2 : Evt (fun k => F k a) r) : Evt (fun k => (G k).bind (F k)) r := by
 obtain ⟨n, hn⟩ := h
 obtain ⟨m, hm⟩ := h2
 refine ⟨max n m, fun k hk => ?_⟩
 have h1 := hn k (by omega)
 have h2 : F k a = some r := hm k (by omega)
 show (G k).bind (F k) = some r
 rw [h1]
 exact h2
theorem Evt.pos {c : Prop} [Decidable c] {A B : Nat → Option α} {r : α} (hc : c) (h : Evt A r) : Evt (fun k => if c then A k else B k) r := by
 obtain ⟨n, hn⟩ := h
 exact ⟨n, fun k hk => by show (if c then A k else B k) = some r; rw [if_pos hc]; exact hn k hk⟩
theorem Evt.neg {c : Prop} [Decidable c] {A B : Nat → Option α} {r : α} (hc : ¬ c) (h : Evt B r) : Evt (fun k => if c then A k else B k) r := by
 obtain ⟨n, hn⟩ := h
 exact ⟨n, fun k hk => by show (if c then A k else B k) = some r; rw [if_neg hc]; exact hn k hk⟩
theorem Evt.step {g g' : Nat → Option α} {r : α} (h : ∀ k, g (k + 1) = g' k) (h' : Evt g' r) : Evt g r := by
 obtain ⟨n, hn⟩ := h'
 refine ⟨n + 1, fun k hk => ?_⟩
 obtain ⟨m, rfl⟩ : ∃ m, k = m + 1 := ⟨k - 1, by omega⟩
 rw [h]
 exact hn m (by omega)
theorem Evt.some {g : Nat → Option α} {r : α} (h : Evt g r) : ∃ k, g k = Option.some r := by
 obtain ⟨n, hn⟩ := h
 exact ⟨n, hn n (Nat.le_refl _)⟩
theorem Evt.of_mono {g : Nat → Option α} {r : α} (hm : ∀ k, LeO (g k) (g (k + 1))) {k : Nat} (h : g k = Option.some r) : Evt g r := by
 refine ⟨k, fun j hj => ?_⟩
 induction hj with
 | refl => exact h
 | step _ ih => exact hm _ _ ih
theorem Evt.to {g : Nat → Option α} {r s : α} (h : Evt g r) (e : r = s) : Evt g s := e ▸ h
theorem Evt.congr {g g' : Nat → Option α} {r : α} (e : ∀ k, g k = g' k) (h : Evt g' r) : Evt g r := by
 have : g = g' := funext e
 rw [this]; exact h
end
theorem evt_succ {i n : Nat} (h : i < n) (hn : n ≤ 4611686018427387904) : wrap64 ((i : Int) + 1) = ((i + 1 : Nat) : Int) := by
 unfold wrap64
 omega
theorem wrap_id {x : Int} (h0 : -9223372036854775808 ≤ x) (h1 : x ≤ 9223372036854775807) : wrap64 x = x := by
 unfold wrap64
 omega
theorem rd_nat (xs : List Int) (i : Nat) (h : i < xs.length) : rd xs (i : Int) = xs[i] := by
 unfold rd
 simp [List.getD_eq_getElem?_getD, h]
theorem wf_i64 {x : Int} : (Lit.int .i64 x).wf = true ↔ -9223372036854775808 ≤ x ∧ x ≤ 9223372036854775807 := by
 simp only [Lit.wf, IntKind.min, IntKind.max, IntKind.signed, IntKind.bits, Bool.and_eq_true, decide_eq_true_eq, if_true]
 omega
theorem wf_u32 {x : Int} : (Lit.int .u32 x).wf = true ↔ 0 ≤ x ∧ x ≤ 4294967295 := by
 simp only [Lit.wf, IntKind.min, IntKind.max, IntKind.signed, IntKind.bits, Bool.and_eq_true]
 simp
end Go.Proofs.HEvt
