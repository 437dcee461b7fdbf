import Derived.Test.YtihmfdndiicjgaaZj
namespace Go.Proofs.Ytihmfdndiicjgaa.C
open Go.RowKit Go.Proofs.YtihmfdndiicjgaaW.PrintWords Go.Proofs.YtihmfdndiicjgaaW.PrintLast Go.Proofs.YtihmfdndiicjgaaW.PrintMore Go.Proofs.HMap Go.Proofs.HLaws
set_option linter.unusedVariables false
set_option linter.unusedSimpArgs false
def rd_LL (xs : List (List Int)) (i : Int) : List Int := xs.getD i.toNat ([] : List Int)
theorem at_LL {w : World} {A : Option Addr} {n : Nat} {xs : List (List Int)} (h : Kd.C (Kd.slice 3 (Kd.int .i64)) w A n xs) (i : Int) (h0 : 0 ≤ i) (h1 : i < n) : ∃ ad A0 c0, A = some ad ∧ w.cell? (ad.add i.toNat) = some (.slice A0 (rd_LL xs i).length c0) ∧ (rd_LL xs i).length ≤ c0 ∧ (Kd.int .i64).C w A0 (rd_LL xs i).length (rd_LL xs i) := by
 obtain ⟨ad, c, e, _, hK, hc0⟩ := Kd.C_get h ([] : List Int) i h0 h1
 have hc : ∀ j u, c[j]? = some u → w.cell? (ad.add (i.toNat * 1 + j)) = some u := hc0
 obtain ⟨A0, c0, rfl, l0, g0⟩ := hK
 exact ⟨ad, A0, c0, e, by have hq := hc 0 _ rfl; rwa [Nat.mul_one, Nat.add_zero] at hq, l0, g0⟩
theorem cfg_explore.mono1 (code : List Int) (s e : Int) : ∀ k work r l, LeO (cfg_explore.l0 code s e k work r l) (cfg_explore.l0 code s e (k + 1) work r l)
 | 0 => fun _ _ _ r h => by simp [cfg_explore.l0] at h
 | k + 1 => fun work r l => by
  have ih := cfg_explore.mono1 code s e k
  unfold cfg_explore.l0
  repeat' first
   | (with_reducible exact ih _ _ _)
   | (with_reducible exact LeO.refl _)
   | (with_reducible exact LeO.none _)
   | (with_reducible refine LeO.ite ?_ ?_)
   | (with_reducible refine LeO.bind ?_ (fun _ => ?_))
def xr (k : Nat) (code : List Int) (s e : Int) : Option ((Int → Bool) × (Int → Bool)) := cfg_explore.l0 code s e (min k 1099511627776) [s] (fun _ => false) (cfg_explore.upd (fun _ => false) s)
theorem xr.mono (code : List Int) (s e : Int) (k : Nat) : LeO (xr k code s e) (xr (k + 1) code s e) := by
 unfold xr
 rcases Nat.lt_or_ge k 1099511627776 with h | h
 ·rw [Nat.min_eq_left (by omega), Nat.min_eq_left (by omega)]; exact cfg_explore.mono1 _ _ _ _ _ _ _
 ·rw [Nat.min_eq_right (by omega), Nat.min_eq_right (by omega)]; exact LeO.refl _
theorem xr.mono_le (code : List Int) (s e : Int) {k k' : Nat} (h : k ≤ k') : LeO (xr k code s e) (xr k' code s e) := by
 obtain ⟨d, rfl⟩ : ∃ d, k' = k + d := ⟨k' - k, by omega⟩
 induction d with
 | zero => exact LeO.refl _
 | succ d ih => exact LeO.trans (ih (by omega)) (xr.mono _ _ _ _)
theorem xr.same {code : List Int} {s e : Int} {k k' : Nat} {x y : (Int → Bool) × (Int → Bool)} (h : xr k code s e = some x) (h' : xr k' code s e = some y) : y = x := by
 rcases Nat.le_total k k' with hk | hk
 ·have := xr.mono_le code s e hk _ h; rw [h'] at this; exact oI this
 ·have := xr.mono_le code s e hk _ h'; rw [h] at this; exact (oI this).symm
def xb_explored.f (k : Nat) (code : List Int) (s e : Int) : Option Int := (xr k code s e).bind fun _ => some 0
def xb_reach.f (k : Nat) (code : List Int) (s e pc : Int) : Option Bool := (xr k code s e).bind fun x => some (x.1 pc)
def xb_lead.f (k : Nat) (code : List Int) (s e pc : Int) : Option Bool := (xr k code s e).bind fun x => some (x.2 pc)
theorem xb_explored.mono : ∀ a0 a1 a2 k, LeO (xb_explored.f k a0 a1 a2) (xb_explored.f (k + 1) a0 a1 a2) := fun a0 a1 a2 k => LeO.bind (xr.mono _ _ _ _) (fun _ => LeO.refl _)
theorem xb_reach.mono : ∀ a0 a1 a2 a3 k, LeO (xb_reach.f k a0 a1 a2 a3) (xb_reach.f (k + 1) a0 a1 a2 a3) := fun a0 a1 a2 a3 k => LeO.bind (xr.mono _ _ _ _) (fun _ => LeO.refl _)
theorem xb_lead.mono : ∀ a0 a1 a2 a3 k, LeO (xb_lead.f k a0 a1 a2 a3) (xb_lead.f (k + 1) a0 a1 a2 a3) := fun a0 a1 a2 a3 k => LeO.bind (xr.mono _ _ _ _) (fun _ => LeO.refl _)
def numOf : List S51 → Int → Int
 | [], _ => 0
 | b :: l, x => (go 0 (b :: l) 0 x)
where go : Nat → List S51 → Int → Int → Int
 | _, [], a, _ => a
 | j, b :: l, a, x => go (j + 1) l (if x = b.f0 then (j : Int) else a) x
def xb_num.f (bl : List S51) (x : Int) : Option Int := some (numOf bl x)
def xb_at.f (code : List Int) (pc : Int) : Option (Int × Int × Int × Int × Int) :=
 if 0 ≤ pc then (if pc < (code.length : Int) then (isa_Decode.f (rd code pc)).bind fun i => some (i.1, i.2.1, i.2.2.1, i.2.2.2.1, i.2.2.2.2.1) else none) else none
theorem numOf_go_snoc (x : Int) (b : S51) : ∀ (l : List S51) (j : Nat) (a : Int), numOf.go j (l ++ [b]) a x = if x = b.f0 then ((j + l.length : Nat) : Int) else numOf.go j l a x
 | [], j, a => by simp [numOf.go]
 | c :: l, j, a => by
  simp only [List.cons_append, numOf.go]
  rw [numOf_go_snoc x b l (j + 1)]
  simp only [List.length_cons]
  congr 2; omega
theorem numOf_eq (l : List S51) (x : Int) : numOf l x = numOf.go 0 l 0 x := by cases l <;> rfl
theorem numOf_snoc (l : List S51) (b : S51) (x : Int) : numOf (l ++ [b]) x = if x = b.f0 then (l.length : Int) else numOf l x := by
 rw [numOf_eq, numOf_eq, numOf_go_snoc]; simp
theorem numOf_go_set (x : Int) : ∀ (l : List S51) (i j : Nat) (a : Int) (b : S51), (∀ c, l[i]? = some c → c.f0 = b.f0) → numOf.go j (l.set i b) a x = numOf.go j l a x
 | [], _, _, _, _, _ => rfl
 | c :: l, 0, j, a, b, h => by simp only [List.set_cons_zero, numOf.go]; rw [h c rfl]
 | c :: l, i + 1, j, a, b, h => by
  simp only [List.set_cons_succ, numOf.go]
  exact numOf_go_set x l i (j + 1) _ b (fun c' hc => h c' (by simpa using hc))
theorem numOf_set (l : List S51) (i : Nat) (b : S51) (h : ∀ c, l[i]? = some c → c.f0 = b.f0) : numOf (l.set i b) = numOf l := by
 funext x
 rw [numOf_eq, numOf_eq, numOf_go_set x l i 0 0 b h]
end Go.Proofs.Ytihmfdndiicjgaa.C
