/- The exploration of a task's part ends; what it marks is what can be reached, and what it leads is what begins a block. -/
import Derived.Test.YtihmfdndiicjgaaPBa
import Derived.Test.YtihmfdndiicjgaaCx12
import Derived.Test.YtihmfdndiicjgaaCx11
import Derived.Test.YtihmfdndiicjgaaCx6
set_option linter.unusedVariables false
set_option linter.unusedSimpArgs false
namespace Go.Proofs.Ytihmfdndiicjgaa.PB
open Go.RowKit Go.Proofs.Ytihmfdndiicjgaa.C Go.Proofs.HEvt Go.Proofs.YtihmfdndiicjgaaW.PrintWords
/-- What can be reached from s, inside the part. -/
inductive Rch (code : List Int) (s e : Int) : Int → Prop
 | start : Rch code s e s
 | next {x t : Int} : Rch code s e x → s ≤ x → x < e → t ∈ sc code x → Rch code s e t
theorem sc_len (code : List Int) (pc : Int) : (sc code pc).length ≤ 2 := cfg_explore.succ_len _ _ _ _ _ _ _ (sc_f code pc)
theorem sc_wf (code : List Int) (pc : Int) : ∀ x ∈ sc code pc, -9223372036854775808 ≤ x ∧ x ≤ 9223372036854775807 := fun x hx => wf_i64.1 (cfg_explore.succ_wf _ _ _ _ _ _ _ (sc_f code pc) x hx)
structure XInv (code : List Int) (s e : Int) (work : List Int) (r l : Int → Bool) : Prop where
 rin : ∀ x, r x = true → s ≤ x ∧ x < e
 wwf : ∀ x ∈ work, -9223372036854775808 ≤ x ∧ x ≤ 9223372036854775807
 clo : ∀ x, r x = true → ∀ t ∈ sc code x, r t = true ∨ t ∈ work ∨ ¬ (s ≤ t ∧ t < e)
 wmin : ∀ x ∈ work, Rch code s e x
 rmin : ∀ x, r x = true → Rch code s e x
 st : s ∈ work ∨ r s = true
 ld : ∀ x, l x = true ↔ x = s ∨ (r x = true ∧ (ins code x).1 = 28) ∨ ∃ p, r p = true ∧ cfg_explore.lead (ins code p).1 = true ∧ x ∈ sc code p
/-- How many are not marked yet. -/
def cnt (s e : Int) (r : Int → Bool) : Nat := ((List.range (e - s).toNat).filter (fun i : Nat => !r (s + (i : Int)))).length
theorem filter_lt {α : Type} (p q : α → Bool) : ∀ (l : List α), (∀ x ∈ l, q x = true → p x = true) → (l.filter q).length ≤ (l.filter p).length ∧ ((∃ x ∈ l, p x = true ∧ q x = false) → (l.filter q).length + 1 ≤ (l.filter p).length) := by
 intro l
 induction l with
 | nil => intro _; exact ⟨Nat.le_refl _, fun ⟨x, hx, _⟩ => by cases hx⟩
 | cons a l ih =>
  intro h
  obtain ⟨h1, h2⟩ := ih (fun x hx => h x (List.mem_cons_of_mem _ hx))
  have ha := h a List.mem_cons_self
  simp only [List.filter_cons]
  cases hq : q a with
  | true =>
   have hp := ha hq
   rw [hp]
   simp only [if_true, List.length_cons]
   refine ⟨by omega, fun ⟨x, hx, k1, k2⟩ => ?_⟩
   rcases List.mem_cons.1 hx with rfl | hx
   ·rw [hq] at k2; cases k2
   ·have := h2 ⟨x, hx, k1, k2⟩; omega
  | false =>
   cases hp : p a with
   | true =>
    simp only [if_true, List.length_cons]
    exact ⟨by simp; omega, fun _ => by simp; omega⟩
   | false =>
    refine ⟨by simpa using h1, fun ⟨x, hx, k1, k2⟩ => ?_⟩
    rcases List.mem_cons.1 hx with rfl | hx
    ·rw [hp] at k1; cases k1
    ·simpa using h2 ⟨x, hx, k1, k2⟩
theorem cnt_upd {s e x : Int} {r : Int → Bool} (h0 : s ≤ x) (h1 : x < e) (hr : r x = false) : cnt s e (cfg_explore.upd r x) + 1 ≤ cnt s e r := by
 refine (filter_lt _ _ _ (fun i _ hi => ?_)).2 ⟨(x - s).toNat, List.mem_range.2 (by omega), ?_, ?_⟩
 ·unfold cfg_explore.upd at hi
  by_cases e : s + (i : Int) = x
  ·rw [if_pos e] at hi; simp at hi
  ·rw [if_neg e] at hi; exact hi
 ·have : s + ((x - s).toNat : Int) = x := by omega
  rw [this, hr]; rfl
 ·have : s + ((x - s).toNat : Int) = x := by omega
  unfold cfg_explore.upd
  rw [this, if_pos rfl]; rfl
theorem cnt_le (s e : Int) (r : Int → Bool) : cnt s e r ≤ (e - s).toNat := by
 unfold cnt
 have := List.length_filter_le (fun i : Nat => !r (s + (i : Int))) (List.range (e - s).toNat)
 simpa using this
theorem upd_iff (g : Int → Bool) (x z : Int) : cfg_explore.upd g x z = true ↔ z = x ∨ g z = true := by
 unfold cfg_explore.upd
 by_cases h : z = x
 ·simp [h]
 ·simp [h]
theorem fold_iff : ∀ (ss : List Int) (g : Int → Bool) (z : Int), ss.foldl cfg_explore.upd g z = true ↔ z ∈ ss ∨ g z = true := by
 intro ss
 induction ss with
 | nil => intro g z; simp
 | cons a ss ih =>
  intro g z
  rw [List.foldl_cons, ih, upd_iff, List.mem_cons]
  constructor
  ·rintro (h | h | h)
   ·exact .inl (.inr h)
   ·exact .inl (.inl h)
   ·exact .inr h
  ·rintro ((h | h) | h)
   ·exact .inr (.inl h)
   ·exact .inl h
   ·exact .inr (.inr h)
theorem upds_iff (b : Bool) (g : Int → Bool) (ss : List Int) (z : Int) : cfg_explore.upds b g ss z = true ↔ (b = true ∧ z ∈ ss) ∨ g z = true := by
 unfold cfg_explore.upds
 cases b with
 | true => simp [fold_iff]
 | false => simp
section
variable {code : List Int} {s e : Int}
theorem explore_ends (hw : Words code) (hc : code.length ≤ 4096) (P : Part code s e) : ∀ (m : Nat) (work : List Int) (r l : Int → Bool), XInv code s e work r l → 2 * cnt s e r + work.length ≤ m → m ≤ 100000 →
  ∃ R L, (∀ k, m < k → cfg_explore.l0 code s e k work r l = some (R, L)) ∧ XInv code s e [] R L := by
 have hs0 := P.s0
 have hel := P.el
 intro m
 induction m with
 | zero =>
  intro work r l hI hm hM
  have : work = [] := List.length_eq_zero_iff.1 (by omega)
  subst this
  refine ⟨r, l, fun k hk => ?_, hI⟩
  obtain ⟨j, rfl⟩ : ∃ j, k = j + 1 := ⟨k - 1, by omega⟩
  rw [cfg_explore.l0]
  rfl
 | succ m ih =>
  intro work r l hI hm hM
  rcases List.eq_nil_or_concat work with rfl | ⟨w', x, rfl⟩
  ·refine ⟨r, l, fun k hk => ?_, hI⟩
   obtain ⟨j, rfl⟩ : ∃ j, k = j + 1 := ⟨k - 1, by omega⟩
   rw [cfg_explore.l0]
   rfl
  ·rw [List.concat_eq_append] at hI hm ⊢
   have hlen : (w' ++ [x]).length = w'.length + 1 := by simp
   have hrd : rd (w' ++ [x]) (((w' ++ [x]).length : Int) - 1) = x := by
    have : (((w' ++ [x]).length : Int) - 1) = (w'.length : Int) := by rw [hlen]; omega
    rw [this, rd_nat _ _ (by rw [hlen]; omega)]
    simp
   have htake : (w' ++ [x]).take ((w' ++ [x]).length - 1) = w' := by rw [hlen]; simp
   have hxw := hI.wwf x (by simp)
   have hpos : 0 < (w' ++ [x]).length := by rw [hlen]; omega
   rw [hlen] at hm
   have pop : (r x = true ∨ ¬ (s ≤ x ∧ x < e)) → XInv code s e w' r l := by
    intro hx
    refine ⟨hI.rin, fun y hy => hI.wwf y (by simp [hy]), fun y hy t ht => ?_, fun y hy => hI.wmin y (by simp [hy]), hI.rmin, ?_, hI.ld⟩
    ·rcases hI.clo y hy t ht with h | h | h
     ·exact .inl h
     ·rcases List.mem_append.1 h with h | h
      ·exact .inr (.inl h)
      ·rw [List.mem_singleton] at h
       subst h
       rcases hx with hx | hx
       ·exact .inl hx
       ·exact .inr (.inr hx)
     ·exact .inr (.inr h)
    ·rcases hI.st with h | h
     ·rcases List.mem_append.1 h with h | h
      ·exact .inl h
      ·rw [List.mem_singleton] at h
       rcases hx with hx | hx
       ·exact .inr (h ▸ hx)
       ·exact absurd ⟨by omega, by rw [← h]; exact P.se⟩ hx
     ·exact .inr h
   by_cases c1 : r x = true
   ·obtain ⟨R, L, h1, h2⟩ := ih w' r l (pop (.inl c1)) (by omega) (by omega)
    refine ⟨R, L, fun k hk => ?_, h2⟩
    obtain ⟨j, rfl⟩ : ∃ j, k = j + 1 := ⟨k - 1, by omega⟩
    rw [cfg_explore.l0, hrd, htake, if_pos hpos, if_pos hxw, if_pos c1]
    exact h1 j (by omega)
   by_cases c2 : x < s
   ·obtain ⟨R, L, h1, h2⟩ := ih w' r l (pop (.inr (by omega))) (by omega) (by omega)
    refine ⟨R, L, fun k hk => ?_, h2⟩
    obtain ⟨j, rfl⟩ : ∃ j, k = j + 1 := ⟨k - 1, by omega⟩
    rw [cfg_explore.l0, hrd, htake, if_pos hpos, if_pos hxw, if_neg c1, if_pos c2]
    exact h1 j (by omega)
   by_cases c3 : x ≥ e
   ·obtain ⟨R, L, h1, h2⟩ := ih w' r l (pop (.inr (by omega))) (by omega) (by omega)
    refine ⟨R, L, fun k hk => ?_, h2⟩
    obtain ⟨j, rfl⟩ : ∃ j, k = j + 1 := ⟨k - 1, by omega⟩
    rw [cfg_explore.l0, hrd, htake, if_pos hpos, if_pos hxw, if_neg c1, if_neg c2, if_pos c3]
    exact h1 j (by omega)
   have hrx : r x = false := by simpa using c1
   have hx0 : s ≤ x := by omega
   have hx1 : x < e := by omega
   have hcn := cnt_upd hx0 hx1 hrx
   have hsl := sc_len code x
   have hrch := hI.wmin x (by simp)
   have hI' : XInv code s e (w' ++ sc code x) (cfg_explore.upd r x) (cfg_explore.upds (cfg_explore.lead (ins code x).1) (if (ins code x).1 = 28 then cfg_explore.upd l x else l) (sc code x)) := by
    refine ⟨fun y hy => ?_, fun y hy => ?_, fun y hy t ht => ?_, fun y hy => ?_, fun y hy => ?_, ?_, fun y => ?_⟩
    ·rcases (upd_iff _ _ _).1 hy with rfl | hy
     ·exact ⟨hx0, hx1⟩
     ·exact hI.rin y hy
    ·rcases List.mem_append.1 hy with hy | hy
     ·exact hI.wwf y (by simp [hy])
     ·exact sc_wf code x y hy
    ·rcases (upd_iff _ _ _).1 hy with rfl | hy
     ·exact .inr (.inl (List.mem_append.2 (.inr ht)))
     ·rcases hI.clo y hy t ht with h | h | h
      ·exact .inl ((upd_iff _ _ _).2 (.inr h))
      ·rcases List.mem_append.1 h with h | h
       ·exact .inr (.inl (List.mem_append.2 (.inl h)))
       ·rw [List.mem_singleton] at h
        exact .inl ((upd_iff _ _ _).2 (.inl h))
      ·exact .inr (.inr h)
    ·rcases List.mem_append.1 hy with hy | hy
     ·exact hI.wmin y (by simp [hy])
     ·exact .next hrch hx0 hx1 hy
    ·rcases (upd_iff _ _ _).1 hy with rfl | hy
     ·exact hrch
     ·exact hI.rmin y hy
    ·rcases hI.st with h | h
     ·rcases List.mem_append.1 h with h | h
      ·exact .inl (List.mem_append.2 (.inl h))
      ·rw [List.mem_singleton] at h
       exact .inr ((upd_iff _ _ _).2 (.inl h))
     ·exact .inr ((upd_iff _ _ _).2 (.inr h))
    ·rw [upds_iff]
     have h28 : (if (ins code x).1 = 28 then cfg_explore.upd l x else l) y = true ↔ (y = x ∧ (ins code x).1 = 28) ∨ l y = true := by
      by_cases h : (ins code x).1 = 28
      ·rw [if_pos h, upd_iff]
       constructor
       ·rintro (h1 | h1)
        ·exact .inl ⟨h1, h⟩
        ·exact .inr h1
       ·rintro (⟨h1, _⟩ | h1)
        ·exact .inl h1
        ·exact .inr h1
      ·rw [if_neg h]
       constructor
       ·exact .inr
       ·rintro (⟨_, h1⟩ | h1)
        ·exact absurd h1 h
        ·exact h1
     rw [h28, hI.ld y]
     constructor
     ·rintro (⟨h1, h2⟩ | ⟨rfl, h2⟩ | h | ⟨h1, h2⟩ | ⟨p, h1, h2, h3⟩)
      ·exact .inr (.inr ⟨x, (upd_iff _ _ _).2 (.inl rfl), h1, h2⟩)
      ·exact .inr (.inl ⟨(upd_iff _ _ _).2 (.inl rfl), h2⟩)
      ·exact .inl h
      ·exact .inr (.inl ⟨(upd_iff _ _ _).2 (.inr h1), h2⟩)
      ·exact .inr (.inr ⟨p, (upd_iff _ _ _).2 (.inr h1), h2, h3⟩)
     ·rintro (h | ⟨h1, h2⟩ | ⟨p, h1, h2, h3⟩)
      ·exact .inr (.inr (.inl h))
      ·rcases (upd_iff _ _ _).1 h1 with rfl | h1
       ·exact .inr (.inl ⟨rfl, h2⟩)
       ·exact .inr (.inr (.inr (.inl ⟨h1, h2⟩)))
      ·rcases (upd_iff _ _ _).1 h1 with rfl | h1
       ·exact .inl ⟨h2, h3⟩
       ·exact .inr (.inr (.inr (.inr ⟨p, h1, h2, h3⟩)))
   obtain ⟨R, L, h1, h2⟩ := ih _ _ _ hI' (by rw [List.length_append]; omega) (by omega)
   refine ⟨R, L, fun k hk => ?_, h2⟩
   obtain ⟨j, rfl⟩ : ∃ j, k = j + 1 := ⟨k - 1, by omega⟩
   have hwx := hw.rd (pc := x) (by omega) (by omega)
   rw [cfg_explore.l0, hrd, htake, if_pos hpos, if_pos hxw, if_neg c1, if_neg c2, if_neg c3, if_pos ⟨by omega, by omega, hwx.1, hwx.2, by rw [hlen]; omega⟩, dec_f hw (by omega) (by omega)]
   show ((cfg_successors.f (ins code x).1 (ins code x).2.1 (ins code x).2.2.1 (ins code x).2.2.2.1 (ins code x).2.2.2.2.1 x).bind fun ss => _) = _
   rw [sc_f]
   exact h1 j (by omega)
/-- The exploration, whole. -/
theorem xr_evt (hw : Words code) (hc : code.length ≤ 4096) (P : Part code s e) : ∃ R L, Evt (fun k => xr k code s e) (R, L) ∧ XInv code s e [] R L := by
 have hs0 := P.s0
 have hel := P.el
 have hse := P.se
 have hI : XInv code s e [s] (fun _ => false) (cfg_explore.upd (fun _ => false) s) := by
  refine ⟨fun x hx => by simp at hx, fun x hx => ?_, fun x hx => by simp at hx, fun x hx => ?_, fun x hx => by simp at hx, .inl (by simp), fun x => ?_⟩
  ·rw [List.mem_singleton] at hx; omega
  ·rw [List.mem_singleton] at hx; subst hx; exact .start
  ·rw [upd_iff]; simp
 have hcn := cnt_le s e (fun _ => false)
 obtain ⟨R, L, h1, h2⟩ := explore_ends hw hc P 20000 [s] _ _ hI (by simp; omega) (by omega)
 refine ⟨R, L, ⟨20001, fun k hk => ?_⟩, h2⟩
 exact h1 _ (by omega)
end
theorem XInv.reach {code : List Int} {s e : Int} {R L : Int → Bool} (h : XInv code s e [] R L) (x : Int) : R x = true ↔ Rch code s e x ∧ s ≤ x ∧ x < e := by
 have hst : R s = true := by
  rcases h.st with h | h
  ·cases h
  ·exact h
 have all : ∀ y, Rch code s e y → (R y = true ∨ ¬ (s ≤ y ∧ y < e)) := by
  intro y hy
  induction hy with
  | start => exact .inl hst
  | next h1 h2 h3 h4 ih =>
   rcases ih with ih | ih
   ·rcases h.clo _ ih _ h4 with q | q | q
    ·exact .inl q
    ·cases q
    ·exact .inr q
   ·exact absurd ⟨h2, h3⟩ ih
 constructor
 ·exact fun hx => ⟨h.rmin x hx, h.rin x hx⟩
 ·rintro ⟨h1, h2⟩
  rcases all x h1 with q | q
  ·exact q
  ·exact absurd h2 q
end Go.Proofs.Ytihmfdndiicjgaa.PB
set_option linter.unusedVariables false
set_option linter.unusedSimpArgs false
namespace Go.Proofs.Ytihmfdndiicjgaa.PB
open Go.RowKit Go.Proofs.Ytihmfdndiicjgaa.C Go.Proofs.HEvt Go.Proofs.YtihmfdndiicjgaaW.PrintWords
abbrev Res := List S51 × List (List Int) × Int × Int
theorem rd51 (xs : List S51) (i : Nat) (h : i < xs.length) : rd_T51 xs (i : Int) = xs[i] := by unfold rd_T51; simp [List.getD_eq_getElem?_getD, h]
/-! ### the scan -/
def Leaves (code : List Int) (s e pc : Int) : Prop := ∃ t ∈ sc code pc, t < s ∨ t ≥ e
noncomputable instance (code : List Int) (s e pc : Int) : Decidable (Leaves code s e pc) := Classical.propDecidable _
def lastTo (acc : List S51) (v : Int) : List S51 := acc.dropLast ++ [⟨(acc.getLastD z51).f0, v, (acc.getLastD z51).f2⟩]
def addB (L : Int → Bool) (acc : List S51) (pc : Int) : List S51 := if L pc = true then acc ++ [⟨pc, pc + 1, []⟩] else lastTo acc (pc + 1)
/-- The scan from pc on, d steps before the end: none: an instruction leaves the part. -/
noncomputable def scan (code : List Int) (s e : Int) (R L : Int → Bool) : Nat → Int → List S51 → Sum Int (List S51)
 | 0, _, acc => .inr acc
 | d + 1, pc, acc => if R pc = true then (if Leaves code s e pc then .inl pc else scan code s e R L d (pc + 1) (addB L acc pc)) else scan code s e R L d (pc + 1) acc
theorem lastTo_snoc (a : List S51) (b : S51) (v : Int) : lastTo (a ++ [b]) v = a ++ [⟨b.f0, v, b.f2⟩] := by
 simp [lastTo]
theorem set_last (a : List S51) (b c : S51) : (a ++ [b]).set a.length c = a ++ [c] := by
 rw [List.set_append_right _ _ (Nat.le_refl _)]
 simp
/-- A block as the scan leaves it. -/
def BlkIn (s e : Int) (R : Int → Bool) (b : S51) : Prop := b.f2 = [] ∧ s ≤ b.f0 ∧ b.f0 < b.f1 ∧ b.f1 ≤ e ∧ R (b.f1 - 1) = true
section
variable {code : List Int} {s e : Int} {R L : Int → Bool}
theorem lead_evt (hx : Evt (fun k => xr k code s e) (R, L)) (pc : Int) : Evt (fun k => xb_lead.f k code s e pc) (L pc) := by
 have h := Evt.bind (G := fun k => xr k code s e) (F := fun _ (x : (Int → Bool) × (Int → Bool)) => some (x.2 pc)) (r := L pc) hx (Evt.of_eq (fun _ => rfl))
 exact h
theorem reach_evt (hx : Evt (fun k => xr k code s e) (R, L)) (pc : Int) : Evt (fun k => xb_reach.f k code s e pc) (R pc) := by
 have h := Evt.bind (G := fun k => xr k code s e) (F := fun _ (x : (Int → Bool) × (Int → Bool)) => some (x.1 pc)) (r := R pc) hx (Evt.of_eq (fun _ => rfl))
 exact h
theorem l1_evt (hw : Words code) (hc : code.length ≤ 4096) (P : Part code s e) (hx : Evt (fun k => xr k code s e) (R, L)) (pc : Int) (h0 : s ≤ pc) (h1 : pc < e) (acc : List S51) (hlen : acc.length ≤ 100000) (hacc : L pc = true ∨ acc ≠ []) :
  ∀ m j, j + m = (sc code pc).length →
  ((∃ t ∈ (sc code pc).drop j, t < s ∨ t ≥ e) → Evt (fun k => cfg_Build.l1 k pc (sc code pc) ((sc code pc).length : Int) (j : Int) s e code acc) (([] : List S51), ([] : List (List Int)), pc, 10)) ∧
  (¬ (∃ t ∈ (sc code pc).drop j, t < s ∨ t ≥ e) → ∀ r : Res, Evt (fun k => cfg_Build.l0 k (pc + 1) s e code (addB L acc pc)) r → Evt (fun k => cfg_Build.l1 k pc (sc code pc) ((sc code pc).length : Int) (j : Int) s e code acc) r) := by
 have hs0 := P.s0
 have hel := P.el
 have hsl := sc_len code pc
 have hw1 : wrap64 (pc + 1) = pc + 1 := wrap_id (by omega) (by omega)
 intro m
 induction m with
 | zero =>
  intro j hj
  rw [List.drop_of_length_le (by omega)]
  refine ⟨fun hq => (by obtain ⟨t, ht, _⟩ := hq; cases ht), fun _ r hr => ?_⟩
  refine Evt.step (fun k => by rw [cfg_Build.l1]) (Evt.neg (by omega) (Evt.bind (lead_evt hx pc) ?_))
  by_cases hL : L pc = true
  ·have ha : addB L acc pc = acc ++ [⟨pc, pc + 1, []⟩] := by unfold addB; rw [if_pos hL]
   rw [ha] at hr
   refine Evt.pos hL (Evt.pos (by omega) (Evt.bind (Evt.pure _) ?_))
   have e1 : wrap64 (((acc ++ [(⟨pc, 0, []⟩ : S51)]).length : Int) - 1) = (acc.length : Int) := by
    rw [wrap_id] <;> simp <;> omega
   show Evt (fun k => if 0 ≤ wrap64 (((acc ++ [(⟨pc, 0, []⟩ : S51)]).length : Int) - 1) then _ else _) r
   refine Evt.pos (by rw [e1]; omega) (Evt.pos (by rw [e1]; simp; omega) ?_)
   rw [e1, hw1]
   have e2 : rd_T51 (acc ++ [(⟨pc, 0, []⟩ : S51)]) (acc.length : Int) = ⟨pc, 0, []⟩ := by
    rw [rd51 _ _ (by simp)]; simp
   rw [e2, Int.toNat_natCast, set_last]
   exact hr
  ·have ha : addB L acc pc = lastTo acc (pc + 1) := by unfold addB; rw [if_neg hL]
   have hne : acc ≠ [] := hacc.resolve_left hL
   rw [ha] at hr
   rcases List.eq_nil_or_concat acc with rfl | ⟨a, b, rfl⟩
   ·exact absurd rfl hne
   ·rw [List.concat_eq_append] at hr hlen ⊢
    rw [lastTo_snoc] at hr
    have e1 : wrap64 (((a ++ [b]).length : Int) - 1) = (a.length : Int) := by
     rw [List.length_append] at hlen
     rw [wrap_id] <;> simp <;> omega
    refine Evt.neg hL (Evt.pos (by rw [e1]; omega) (Evt.pos (by rw [e1]; simp; omega) ?_))
    rw [e1, hw1]
    have e2 : rd_T51 (a ++ [b]) (a.length : Int) = b := by
     rw [rd51 _ _ (by simp)]; simp
    rw [e2, Int.toNat_natCast, set_last]
    exact hr
 | succ m ih =>
  intro j hj
  have hlt : j < (sc code pc).length := by omega
  obtain ⟨k1, k2⟩ := ih (j + 1) (by omega)
  rw [List.drop_eq_getElem_cons hlt]
  by_cases q : (sc code pc)[j] < s ∨ (sc code pc)[j] ≥ e
  ·refine ⟨fun _ => ?_, fun h => absurd ⟨_, List.mem_cons_self, q⟩ h⟩
   refine Evt.step (fun k => by rw [cfg_Build.l1]) (Evt.pos (by omega) (Evt.pos (by omega) (Evt.pos (by omega) ?_)))
   rw [rd_nat _ _ hlt]
   by_cases q1 : (sc code pc)[j] < s
   ·exact Evt.pos q1 (Evt.pure _)
   ·exact Evt.neg q1 (Evt.pos (by omega) (Evt.pure _))
  ·have go : ∀ r : Res, Evt (fun k => cfg_Build.l1 k pc (sc code pc) ((sc code pc).length : Int) ((j + 1 : Nat) : Int) s e code acc) r → Evt (fun k => cfg_Build.l1 k pc (sc code pc) ((sc code pc).length : Int) (j : Int) s e code acc) r := by
    intro r hr
    refine Evt.step (fun k => by rw [cfg_Build.l1]) (Evt.pos (by omega) (Evt.pos (by omega) (Evt.pos (by omega) ?_)))
    rw [rd_nat _ _ hlt, evt_succ hlt (by omega)]
    exact Evt.neg (by omega) (Evt.neg (by omega) hr)
   refine ⟨fun hq => ?_, fun h r hr => go r (k2 (fun hq => by obtain ⟨t, ht, h'⟩ := hq; exact h ⟨t, List.mem_cons_of_mem _ ht, h'⟩) r hr)⟩
   obtain ⟨t, ht, h⟩ := hq
   refine go _ (k1 ?_)
   rcases List.mem_cons.1 ht with rfl | ht
   ·exact absurd h q
   ·exact ⟨t, ht, h⟩
/-- The scan, whole: 'fin' is what follows the last instruction. -/
theorem l0_evt (hw : Words code) (hc : code.length ≤ 4096) (P : Part code s e) (hx : Evt (fun k => xr k code s e) (R, L)) (hI : XInv code s e [] R L) (fin : List S51 → Res)
  (hfin : ∀ acc : List S51, acc ≠ [] → acc.length ≤ 4096 → (∀ b ∈ acc, BlkIn s e R b) → Evt (fun k => if 0 ≤ (acc.length : Int) then (if ((acc.length : Int) : Int).toNat ≤ 11728124029610 then (cfg_Build.l2 k (acc.length : Int) 0 code acc (List.replicate ((acc.length : Int) : Int).toNat [])) else (none)) else (none)) (fin acc)) :
  ∀ (d : Nat) (pc : Int) (acc : List S51), s ≤ pc → pc + (d : Int) = e → (acc.length : Int) ≤ pc - s → (acc ≠ [] ∨ pc = s) → (∀ b ∈ acc, BlkIn s e R b ∧ b.f1 ≤ pc) →
  Evt (fun k => cfg_Build.l0 k pc s e code acc) (match scan code s e R L d pc acc with | .inl p => (([] : List S51), ([] : List (List Int)), p, 10) | .inr a => fin a) := by
 have hs0 := P.s0
 have hel := P.el
 have hse := P.se
 have hRs : R s = true := by
  rcases hI.st with h | h
  ·cases h
  ·exact h
 have hLs : L s = true := (hI.ld s).2 (.inl rfl)
 intro d
 induction d with
 | zero =>
  intro pc acc h0 h1 hl hne hb
  have hne2 : acc ≠ [] := by
   rcases hne with h | h
   ·exact h
   ·omega
  exact Evt.step (fun k => by rw [cfg_Build.l0]) (Evt.neg (by omega) (hfin acc hne2 (by omega) (fun b hb' => (hb b hb').1)))
 | succ d ih =>
  intro pc acc h0 h1 hl hne hb
  have hw1 : wrap64 (pc + 1) = pc + 1 := wrap_id (by omega) (by omega)
  refine Evt.step (fun k => by rw [cfg_Build.l0]) (Evt.pos (by omega) (Evt.bind (reach_evt hx pc) ?_))
  by_cases hR : R pc = true
  ·refine Evt.pos hR (Evt.bind (Evt.of_eq (fun _ => at_f hw (by omega) (by omega))) (Evt.bind (Evt.of_eq (fun _ => sc_f code pc)) ?_))
   have hacc : L pc = true ∨ acc ≠ [] := by
    rcases hne with h | h
    ·exact .inr h
    ·exact .inl (h ▸ hLs)
   obtain ⟨k1, k2⟩ := l1_evt hw hc P hx pc h0 (by omega) acc (by omega) hacc (sc code pc).length 0 (by omega)
   rw [List.drop_zero] at k1 k2
   by_cases hq : Leaves code s e pc
   ·have e1 : scan code s e R L (d + 1) pc acc = .inl pc := by rw [scan, if_pos hR, if_pos hq]
    rw [e1]
    exact k1 hq
   ·have e1 : scan code s e R L (d + 1) pc acc = scan code s e R L d (pc + 1) (addB L acc pc) := by rw [scan, if_pos hR, if_neg hq]
    rw [e1]
    have hadd : (addB L acc pc) ≠ [] ∧ ((addB L acc pc).length : Int) ≤ pc + 1 - s ∧ ∀ b ∈ addB L acc pc, BlkIn s e R b ∧ b.f1 ≤ pc + 1 := by
     have hnew : BlkIn s e R ⟨pc, pc + 1, []⟩ := ⟨rfl, h0, by show pc < pc + 1; omega, by show pc + 1 ≤ e; omega, by show R (pc + 1 - 1) = true; rw [show pc + 1 - 1 = pc by omega]; exact hR⟩
     unfold addB
     by_cases hL : L pc = true
     ·rw [if_pos hL]
      refine ⟨by simp, by rw [List.length_append, List.length_singleton]; omega, fun b hb' => ?_⟩
      rcases List.mem_append.1 hb' with h | h
      ·exact ⟨(hb b h).1, by have := (hb b h).2; omega⟩
      ·rw [List.mem_singleton] at h; subst h; exact ⟨hnew, Int.le_refl _⟩
     ·rw [if_neg hL]
      rcases List.eq_nil_or_concat acc with rfl | ⟨a, b, rfl⟩
      ·exact absurd rfl (hacc.resolve_left hL)
      ·rw [List.concat_eq_append] at hb hl ⊢
       rw [lastTo_snoc]
       refine ⟨by simp, by rw [List.length_append, List.length_singleton] at hl ⊢; omega, fun b' hb' => ?_⟩
       rcases List.mem_append.1 hb' with h | h
       ·have := hb b' (List.mem_append.2 (.inl h)); exact ⟨this.1, by omega⟩
       ·rw [List.mem_singleton] at h
        subst h
        have hbb := hb b (by simp)
        obtain ⟨⟨g1, g2, g3, g4, g5⟩, g6⟩ := hbb
        refine ⟨⟨g1, g2, ?_, ?_, ?_⟩, Int.le_refl _⟩
        ·show b.f0 < pc + 1; omega
        ·show pc + 1 ≤ e; omega
        ·show R (pc + 1 - 1) = true; rw [show pc + 1 - 1 = pc by omega]; exact hR
    have := ih (pc + 1) (addB L acc pc) (by omega) (by omega) hadd.2.1 (.inl hadd.1) hadd.2.2
    exact k2 hq _ this
  ·have e1 : scan code s e R L (d + 1) pc acc = scan code s e R L d (pc + 1) acc := by rw [scan, if_neg hR]
   rw [e1]
   refine Evt.neg hR ?_
   rw [hw1]
   refine ih (pc + 1) acc (by omega) (by omega) (by omega) (.inl ?_) (fun b hb' => ⟨(hb b hb').1, by have := (hb b hb').2; omega⟩)
   rcases hne with h | h
   ·exact h
   ·subst h; exact absurd hRs hR
end
end Go.Proofs.Ytihmfdndiicjgaa.PB
set_option linter.unusedVariables false
set_option linter.unusedSimpArgs false
namespace Go.Proofs.Ytihmfdndiicjgaa.PB
open Go.RowKit Go.Proofs.Ytihmfdndiicjgaa.C Go.Proofs.HEvt Go.Proofs.YtihmfdndiicjgaaW.PrintWords
/-! ### numOf -/
theorem numOf_go_range (x : Int) : ∀ (l : List S51) (j : Nat) (a : Int), numOf.go j l a x = a ∨ ((j : Int) ≤ numOf.go j l a x ∧ numOf.go j l a x < ((j + l.length : Nat) : Int)) := by
 intro l
 induction l with
 | nil => intro j a; exact .inl rfl
 | cons b l ih =>
  intro j a
  show numOf.go (j + 1) l (if x = b.f0 then (j : Int) else a) x = a ∨ _
  by_cases h : x = b.f0
  ·rw [if_pos h]
   right
   show (j : Int) ≤ numOf.go (j + 1) l (if x = b.f0 then (j : Int) else a) x ∧ numOf.go (j + 1) l (if x = b.f0 then (j : Int) else a) x < _
   rw [if_pos h, List.length_cons]
   rcases ih (j + 1) (j : Int) with q | q <;> omega
  ·rw [if_neg h]
   rcases ih (j + 1) a with q | q
   ·exact .inl q
   ·right
    show (j : Int) ≤ numOf.go (j + 1) l (if x = b.f0 then (j : Int) else a) x ∧ numOf.go (j + 1) l (if x = b.f0 then (j : Int) else a) x < _
    rw [if_neg h, List.length_cons]
    omega
theorem numOf_range (l : List S51) (hl : l ≠ []) (x : Int) : 0 ≤ numOf l x ∧ numOf l x < (l.length : Int) := by
 rw [numOf_eq]
 have : 0 < l.length := List.length_pos_iff.2 hl
 rcases numOf_go_range x l 0 0 with q | q <;> omega
theorem numOf_go_congr (x : Int) : ∀ (l l' : List S51) (j : Nat) (a : Int), l.map S51.f0 = l'.map S51.f0 → numOf.go j l a x = numOf.go j l' a x := by
 intro l
 induction l with
 | nil =>
  intro l' j a h
  cases l' with
  | nil => rfl
  | cons b l' => simp at h
 | cons b l ih =>
  intro l' j a h
  cases l' with
  | nil => simp at h
  | cons b' l' =>
   simp at h
   show numOf.go (j + 1) l (if x = b.f0 then (j : Int) else a) x = numOf.go (j + 1) l' (if x = b'.f0 then (j : Int) else a) x
   rw [h.1]
   exact ih l' _ _ (by simp [h.2])
theorem numOf_congr {l l' : List S51} (h : l.map S51.f0 = l'.map S51.f0) (x : Int) : numOf l x = numOf l' x := by
 rw [numOf_eq, numOf_eq]
 exact numOf_go_congr x l l' 0 0 h
/-! ### slices.Contains -/
theorem idx_evt (xs : List Int) (a : Int) (hl : xs.length ≤ 4611686018427387904) : ∀ m i, i + m = xs.length → ∃ r, Evt (fun k => slices_Index_int_int.l0 k xs a (xs.length : Int) (i : Int)) r ∧ (0 ≤ r ↔ a ∈ xs.drop i) := by
 intro m
 induction m with
 | zero =>
  intro i hi
  rw [List.drop_of_length_le (by omega)]
  exact ⟨-1, Evt.step (fun k => by rw [slices_Index_int_int.l0]) (Evt.neg (by omega) (Evt.pure _)), by simp⟩
 | succ m ih =>
  intro i hi
  have hlt : i < xs.length := by omega
  rw [List.drop_eq_getElem_cons hlt]
  by_cases h : a = xs[i]
  ·exact ⟨(i : Int), Evt.step (fun k => by rw [slices_Index_int_int.l0]) (Evt.pos (by omega) (Evt.pos (by omega) (Evt.pos (by omega) (Evt.pos (by rw [rd_nat _ _ hlt]; exact h) (Evt.pure _))))), ⟨fun _ => by rw [h]; exact List.mem_cons_self, fun _ => by omega⟩⟩
  ·obtain ⟨r, k1, k2⟩ := ih (i + 1) (by omega)
   refine ⟨r, Evt.step (fun k => by rw [slices_Index_int_int.l0]) (Evt.pos (by omega) (Evt.pos (by omega) (Evt.pos (by omega) (Evt.neg (by rw [rd_nat _ _ hlt]; exact h) ?_)))), ?_⟩
   ·rw [evt_succ hlt hl]; exact k1
   ·rw [k2, List.mem_cons]
    constructor
    ·exact .inr
    ·rintro (q | q)
     ·exact absurd q h
     ·exact q
theorem contains_evt (xs : List Int) (a : Int) (hl : xs.length ≤ 4611686018427387904) : Evt (fun k => slices_Contains_int_int.f k xs a) (decide (a ∈ xs)) := by
 obtain ⟨r, k1, k2⟩ := idx_evt xs a hl xs.length 0 (by omega)
 rw [List.drop_zero] at k2
 have k1' : Evt (fun k => slices_Index_int_int.f k xs a) r := k1
 have e : (fun k => slices_Contains_int_int.f k xs a) = fun k => (slices_Index_int_int.f k xs a).bind fun t168 => (some (decide (t168 ≥ 0))) := rfl
 rw [e]
 exact Evt.bind k1' ((Evt.pure _).to (decide_eq_decide.mpr k2))
/-! ### the edges -/
def put1 (i : Nat) (p : List (List Int)) (t : Int) : List (List Int) := p.set t.toNat (p.getD t.toNat [] ++ [(i : Int)])
def puts (i : Nat) (p : List (List Int)) (ts : List Int) : List (List Int) := ts.foldl (put1 i) p
theorem put1_len (i : Nat) (p : List (List Int)) (t : Int) : (put1 i p t).length = p.length := by simp [put1]
theorem puts_len (i : Nat) : ∀ (ts : List Int) (p : List (List Int)), (puts i p ts).length = p.length := by
 intro ts
 induction ts with
 | nil => intro p; rfl
 | cons t ts ih => intro p; show (puts i (put1 i p t) ts).length = _; rw [ih, put1_len]
theorem put1_row (i : Nat) (p : List (List Int)) (t : Int) (B : Nat) (h : ∀ y ∈ p, y.length ≤ B) : ∀ y ∈ put1 i p t, y.length ≤ B + 1 := by
 intro y hy
 rcases List.mem_or_eq_of_mem_set hy with h1 | rfl
 ·have := h y h1; omega
 ·rw [List.length_append, List.length_singleton, List.getD_eq_getElem?_getD]
  cases hq : p[t.toNat]? with
  | none => simp
  | some z => have := h z (List.mem_of_getElem? hq); simp; omega
theorem puts_row (i : Nat) : ∀ (ts : List Int) (p : List (List Int)) (B : Nat), (∀ y ∈ p, y.length ≤ B) → ∀ y ∈ puts i p ts, y.length ≤ B + ts.length := by
 intro ts
 induction ts with
 | nil => intro p B h y hy; exact h y hy
 | cons t ts ih =>
  intro p B h y hy
  have := ih (put1 i p t) (B + 1) (put1_row i p t B h) y hy
  rw [List.length_cons]; omega
def prevs : Nat → List (List Int) → List S51 → List (List Int)
 | _, p, [] => p
 | i, p, b :: bs => prevs (i + 1) (puts i p b.f2) bs
theorem prevs_len : ∀ (l : List S51) (i : Nat) (p : List (List Int)), (prevs i p l).length = p.length := by
 intro l
 induction l with
 | nil => intro i p; rfl
 | cons b l ih => intro i p; show (prevs (i + 1) (puts i p b.f2) l).length = _; rw [ih, puts_len]
theorem prevs_snoc : ∀ (l : List S51) (i : Nat) (p : List (List Int)) (b : S51), prevs i p (l ++ [b]) = puts (i + l.length) (prevs i p l) b.f2 := by
 intro l
 induction l with
 | nil => intro i p b; rfl
 | cons a l ih =>
  intro i p b
  show prevs (i + 1) (puts i p a.f2) (l ++ [b]) = puts (i + (a :: l).length) (prevs (i + 1) (puts i p a.f2) l) b.f2
  rw [ih, List.length_cons, show i + 1 + l.length = i + (l.length + 1) by omega]
theorem prevs_row : ∀ (l : List S51) (i : Nat) (p : List (List Int)) (B : Nat), (∀ x ∈ l, x.f2.length ≤ 2) → (∀ y ∈ p, y.length ≤ B) → ∀ y ∈ prevs i p l, y.length ≤ B + 2 * l.length := by
 intro l
 induction l with
 | nil => intro i p B _ h y hy; exact h y hy
 | cons b l ih =>
  intro i p B hx h y hy
  have h1 := puts_row i b.f2 p B h
  have hb := hx b List.mem_cons_self
  have := ih (i + 1) (puts i p b.f2) (B + 2) (fun x hx' => hx x (List.mem_cons_of_mem _ hx')) (fun y hy => by have := h1 y hy; omega) y hy
  rw [List.length_cons]; omega
def ins1 (cur : List Int) (t : Int) : List Int := if t ∈ cur then cur else cur ++ [t]
/-- The numbers, each once, in their order. -/
def once (cur ts : List Int) : List Int := ts.foldl ins1 cur
theorem once_len : ∀ (ts cur : List Int), (once cur ts).length ≤ cur.length + ts.length := by
 intro ts
 induction ts with
 | nil => intro cur; exact Nat.le_refl _
 | cons t ts ih =>
  intro cur
  have := ih (ins1 cur t)
  have h2 : (ins1 cur t).length ≤ cur.length + 1 := by unfold ins1; split <;> simp
  show (once (ins1 cur t) ts).length ≤ _
  rw [List.length_cons]; omega
/-- A block with its successors. -/
def fin1 (code : List Int) (acc : List S51) (b : S51) : S51 := ⟨b.f0, b.f1, once [] ((sc code (b.f1 - 1)).map (numOf acc))⟩
theorem fin1_len (code : List Int) (acc : List S51) (b : S51) : (fin1 code acc b).f2.length ≤ 2 := by
 have h1 := once_len ((sc code (b.f1 - 1)).map (numOf acc)) []
 have h2 := sc_len code (b.f1 - 1)
 rw [List.length_map] at h1
 show (once [] ((sc code (b.f1 - 1)).map (numOf acc))).length ≤ 2
 simp at h1
 omega
theorem mid_get (A : List S51) (b : S51) (C : List S51) (h : A.length < (A ++ b :: C).length) : (A ++ b :: C)[A.length] = b := by simp
theorem mid_rd (A : List S51) (b : S51) (C : List S51) : rd_T51 (A ++ b :: C) (A.length : Int) = b := by
 rw [rd51 _ _ (by simp)]; exact mid_get _ _ _ (by simp)
theorem mid_set (A : List S51) (b c : S51) (C : List S51) : (A ++ b :: C).set A.length c = A ++ c :: C := by
 rw [List.set_append_right _ _ (Nat.le_refl _)]
 simp
theorem l3_evt (code : List Int) (acc : List S51) (hn : acc.length ≤ 4096) (hne : acc ≠ []) (A C : List S51) (b : S51) (ts : List Int) (hts : ts.length ≤ 2) (p0 : List (List Int)) (hp0 : p0.length = acc.length) (hrow : ∀ y ∈ p0, y.length ≤ 100000)
  (hf : (A ++ b :: C).map S51.f0 = acc.map S51.f0) : ∀ m j (cur : List Int), j + m = ts.length → cur.length ≤ j → ∀ r : Res,
  Evt (fun k => cfg_Build.l2 k (acc.length : Int) ((A.length + 1 : Nat) : Int) code (A ++ ⟨b.f0, b.f1, once cur ((ts.drop j).map (numOf acc))⟩ :: C) (puts A.length p0 (once cur ((ts.drop j).map (numOf acc))))) r →
  Evt (fun k => cfg_Build.l3 k (A.length : Int) (acc.length : Int) (A.length : Int) ts (ts.length : Int) (j : Int) code (A ++ ⟨b.f0, b.f1, cur⟩ :: C) (puts A.length p0 cur)) r := by
 have hlen : (A ++ b :: C).length = acc.length := by have := congrArg List.length hf; simpa using this
 have hlen2 : ∀ c : S51, (A ++ c :: C).length = acc.length := fun c => by rw [← hlen]; simp
 have hA : A.length < acc.length := by rw [← hlen]; simp
 intro m
 induction m with
 | zero =>
  intro j cur hj hc r hr
  rw [List.drop_of_length_le (by omega)] at hr
  refine Evt.step (fun k => by rw [cfg_Build.l3]) (Evt.neg (by omega) ?_)
  rw [evt_succ (n := A.length + 1) (by omega) (by omega)]
  exact hr
 | succ m ih =>
  intro j cur hj hc r hr
  have hlt : j < ts.length := by omega
  rw [List.drop_eq_getElem_cons hlt, List.map_cons] at hr
  have hnum : numOf (A ++ (⟨b.f0, b.f1, cur⟩ : S51) :: C) (ts[j]) = numOf acc (ts[j]) := numOf_congr (by rw [← hf]; simp) _
  have hrg := numOf_range acc hne (ts[j])
  generalize ht : numOf acc (ts[j]) = t at hr hnum hrg
  have hx : rd_T51 (A ++ (⟨b.f0, b.f1, cur⟩ : S51) :: C) (A.length : Int) = ⟨b.f0, b.f1, cur⟩ := by
   rw [rd51 _ _ (by rw [hlen2]; exact hA)]; exact mid_get _ _ _ _
  refine Evt.step (fun k => by rw [cfg_Build.l3]) (Evt.pos (by omega) (Evt.pos (by omega) (Evt.pos (by omega) ?_)))
  rw [rd_nat _ _ hlt]
  refine Evt.bind (a := t) (Evt.of_eq (fun _ => by unfold xb_num.f; rw [hnum])) (Evt.pos (by omega) (Evt.pos (by rw [hlen2]; omega) ?_))
  rw [hx]
  refine Evt.bind (contains_evt cur t (by omega)) ?_
  have hstep : once cur (t :: (ts.drop (j + 1)).map (numOf acc)) = once (ins1 cur t) ((ts.drop (j + 1)).map (numOf acc)) := rfl
  rw [hstep] at hr
  have q1 : j + 1 + m = ts.length := by omega
  have q2 : cur.length ≤ j + 1 := by omega
  have q3 : cur.length < 17592186044416 := by omega
  have q4 : 0 ≤ t ∧ t < (acc.length : Int) := hrg
  have q5 : (cur ++ [t]).length ≤ j + 1 := by rw [List.length_append, List.length_singleton]; omega
  by_cases hm : t ∈ cur
  ·have hi : ins1 cur t = cur := by unfold ins1; rw [if_pos hm]
   rw [hi] at hr
   refine Evt.pos (decide_eq_true hm) ?_
   rw [evt_succ hlt (show ts.length ≤ 4611686018427387904 by omega)]
   exact ih (j + 1) cur (by omega) (by omega) r hr
  ·have hi : ins1 cur t = cur ++ [t] := by unfold ins1; rw [if_neg hm]
   rw [hi] at hr
   have hpl : (puts A.length p0 cur).length = acc.length := by rw [puts_len, hp0]
   have hrl : (rd_LL (puts A.length p0 cur) t).length < 17592186044416 := by
    unfold rd_LL
    rw [List.getD_eq_getElem?_getD]
    cases hq : (puts A.length p0 cur)[t.toNat]? with
    | none => simp
    | some z =>
     have := puts_row A.length cur p0 100000 hrow z (List.mem_of_getElem? hq)
     simp; omega
   refine Evt.neg (by simp [hm]) (Evt.pos q3 (Evt.pos q4.1 (Evt.pos (by rw [hpl]; exact q4.2) (Evt.pos hrl ?_))))
   rw [evt_succ hlt (show ts.length ≤ 4611686018427387904 by omega), Int.toNat_natCast, mid_set]
   have hput : (puts A.length p0 cur).set t.toNat (rd_LL (puts A.length p0 cur) t ++ [(A.length : Int)]) = puts A.length p0 (cur ++ [t]) := by
    unfold puts
    rw [List.foldl_append]
    rfl
   rw [hput]
   exact ih (j + 1) (cur ++ [t]) q1 q5 r hr
theorem l2_evt {code : List Int} {s e : Int} {R : Int → Bool} (hw : Words code) (hc : code.length ≤ 4096) (P : Part code s e) (acc : List S51) (hne : acc ≠ []) (hn : acc.length ≤ 4096) (hb : ∀ b ∈ acc, BlkIn s e R b) : ∀ m i, i + m = acc.length →
  Evt (fun k => cfg_Build.l2 k (acc.length : Int) (i : Int) code ((acc.take i).map (fin1 code acc) ++ acc.drop i) (prevs 0 (List.replicate acc.length []) ((acc.take i).map (fin1 code acc))))
   (acc.map (fin1 code acc), prevs 0 (List.replicate acc.length []) (acc.map (fin1 code acc)), -1, 0) := by
 have hs0 := P.s0
 have hel := P.el
 intro m
 induction m with
 | zero =>
  intro i hi
  rw [List.take_of_length_le (by omega), List.drop_of_length_le (by omega), List.append_nil]
  exact Evt.step (fun k => by rw [cfg_Build.l2]) (Evt.neg (by omega) (Evt.pure _))
 | succ m ih =>
  intro i hi
  have hlt : i < acc.length := by omega
  have hAl : ((acc.take i).map (fin1 code acc)).length = i := by rw [List.length_map, List.length_take]; omega
  have hall : ((acc.take i).map (fin1 code acc) ++ acc.drop i).length = acc.length := by rw [List.length_append, hAl, List.length_drop]; omega
  obtain ⟨b1, b2, b3, b4, b5⟩ := hb _ (List.getElem_mem hlt)
  have hd : acc.drop i = acc[i] :: acc.drop (i + 1) := List.drop_eq_getElem_cons hlt
  have hget : rd_T51 ((acc.take i).map (fin1 code acc) ++ acc.drop i) (i : Int) = acc[i] := by
   rw [hd]
   have hm := mid_rd ((acc.take i).map (fin1 code acc)) acc[i] (acc.drop (i + 1))
   rw [hAl] at hm
   exact hm
  have hw1 : wrap64 (acc[i].f1 - 1) = acc[i].f1 - 1 := wrap_id (by omega) (by omega)
  have hbe : acc[i] = (⟨acc[i].f0, acc[i].f1, []⟩ : S51) := by
   have := b1
   cases hq : acc[i] with
   | mk x0 x1 x2 => rw [hq] at this; simp at this; rw [this]
  refine Evt.step (fun k => by rw [cfg_Build.l2]) (Evt.pos (by omega) (Evt.pos (by omega) (Evt.pos (by omega) ?_)))
  rw [hget, hw1]
  refine Evt.bind (Evt.of_eq (fun _ => at_f hw (by omega) (by omega))) (Evt.bind (Evt.of_eq (fun _ => sc_f code (acc[i].f1 - 1))) ?_)
  have hfm : ((acc.take i).map (fin1 code acc) ++ acc[i] :: acc.drop (i + 1)).map S51.f0 = acc.map S51.f0 := by
   rw [← hd, List.map_append, List.map_map]
   have : (S51.f0 ∘ fin1 code acc) = S51.f0 := rfl
   rw [this, ← List.map_append, List.take_append_drop]
  have hp := prevs_row ((acc.take i).map (fin1 code acc)) 0 (List.replicate acc.length []) 0 (fun x hx => by obtain ⟨y, _, rfl⟩ := List.mem_map.1 hx; exact fin1_len _ _ _) (fun y hy => by rw [(List.mem_replicate.1 hy).2]; simp)
  have hnext := ih (i + 1) (by omega)
  have htk : (acc.take (i + 1)).map (fin1 code acc) = (acc.take i).map (fin1 code acc) ++ [fin1 code acc acc[i]] := by
   rw [List.take_succ_eq_append_getElem hlt, List.map_append]; rfl
  rw [htk, prevs_snoc, hAl, Nat.zero_add, List.append_assoc] at hnext
  have hr := l3_evt code acc hn hne ((acc.take i).map (fin1 code acc)) (acc.drop (i + 1)) acc[i] (sc code (acc[i].f1 - 1)) (sc_len _ _) (prevs 0 (List.replicate acc.length []) ((acc.take i).map (fin1 code acc))) (by rw [prevs_len]; simp) (fun y hy => by have := hp y hy; rw [hAl] at this; omega) hfm
   (sc code (acc[i].f1 - 1)).length 0 [] (by omega) (Nat.le_refl _) _ (by rw [List.drop_zero, hAl]; exact hnext)
  rw [hAl, ← hbe, ← hd] at hr
  exact hr
end Go.Proofs.Ytihmfdndiicjgaa.PB
set_option linter.unusedVariables false
set_option linter.unusedSimpArgs false
namespace Go.Proofs.Ytihmfdndiicjgaa.PB
open Go.RowKit Go.Proofs.Ytihmfdndiicjgaa.C Go.Proofs.HEvt Go.Proofs.YtihmfdndiicjgaaW.PrintWords
/-- Reached, in the part. -/
noncomputable def Rf (code : List Int) (s e : Int) (x : Int) : Bool := @decide (Rch code s e x ∧ s ≤ x ∧ x < e) (Classical.propDecidable _)
def Lead (code : List Int) (s e x : Int) : Prop := x = s ∨ (Rf code s e x = true ∧ (ins code x).1 = 28) ∨ ∃ p, Rf code s e p = true ∧ cfg_explore.lead (ins code p).1 = true ∧ x ∈ sc code p
noncomputable def Lf (code : List Int) (s e : Int) (x : Int) : Bool := @decide (Lead code s e x) (Classical.propDecidable _)
theorem Rf_iff {code : List Int} {s e x : Int} : Rf code s e x = true ↔ Rch code s e x ∧ s ≤ x ∧ x < e := by unfold Rf; exact @decide_eq_true_iff _ (Classical.propDecidable _)
theorem Lf_iff {code : List Int} {s e x : Int} : Lf code s e x = true ↔ Lead code s e x := by unfold Lf; exact @decide_eq_true_iff _ (Classical.propDecidable _)
theorem bool_ext {a b : Bool} (h : a = true ↔ b = true) : a = b := by cases a <;> cases b <;> simp_all
theorem XInv.R_eq {code : List Int} {s e : Int} {R L : Int → Bool} (h : XInv code s e [] R L) : R = Rf code s e := funext fun x => bool_ext (by rw [h.reach x, Rf_iff])
theorem XInv.L_eq {code : List Int} {s e : Int} {R L : Int → Bool} (h : XInv code s e [] R L) : L = Lf code s e := funext fun x => bool_ext (by
 rw [h.ld x, Lf_iff]
 unfold Lead
 rw [← h.R_eq])
noncomputable def scan0 (code : List Int) (s e : Int) : Sum Int (List S51) := scan code s e (Rf code s e) (Lf code s e) (e - s).toNat s []
/-- The graph's blocks, with their successors. -/
def fins (code : List Int) (acc : List S51) : List S51 := acc.map (fin1 code acc)
def finish (code : List Int) (acc : List S51) : Res := (fins code acc, prevs 0 (List.replicate acc.length []) (fins code acc), -1, 0)
noncomputable def bspec (code : List Int) (s e : Int) : Res := match scan0 code s e with | .inl p => ([], [], p, 10) | .inr acc => finish code acc
theorem part_evt {code : List Int} {s e : Int} (hw : Words code) (hc : code.length ≤ 4096) (P : Part code s e) :
  Evt (fun k => (xb_explored.f k code s e).bind fun _ => cfg_Build.l0 k s s e code []) (bspec code s e) := by
 obtain ⟨R, L, hx, hI⟩ := xr_evt hw hc P
 have hs0 := P.s0
 have hse := P.se
 have h1 : Evt (fun k => xb_explored.f k code s e) 0 := by
  have h := Evt.bind (G := fun k => xr k code s e) (F := fun _ (x : (Int → Bool) × (Int → Bool)) => some (0 : Int)) (r := 0) hx (Evt.of_eq (fun _ => rfl))
  exact h
 refine Evt.bind h1 ?_
 have hfin : ∀ acc : List S51, acc ≠ [] → acc.length ≤ 4096 → (∀ b ∈ acc, BlkIn s e R b) → Evt (fun k => if 0 ≤ (acc.length : Int) then (if ((acc.length : Int) : Int).toNat ≤ 11728124029610 then (cfg_Build.l2 k (acc.length : Int) 0 code acc (List.replicate ((acc.length : Int) : Int).toNat [])) else (none)) else (none)) (finish code acc) := by
  intro acc hne hn hb
  have := l2_evt hw hc P acc hne hn hb acc.length 0 (by omega)
  exact Evt.pos (by omega) (Evt.pos (by omega) this)
 have := l0_evt hw hc P hx hI (finish code) hfin (e - s).toNat s [] (Int.le_refl _) (by omega) (by simp) (.inr rfl) (fun b hb => by cases hb)
 rw [hI.R_eq, hI.L_eq] at this
 exact this
/-- Build, whole. -/
theorem build_evt (code : List Int) (ents : List S39) (sh lk : Int) (hw : Words code) (hc : code.length ≤ 4611686018427387904) (hn : ents.length ≤ 4611686018427387904) (c : Int) (hck : Evt (fun k => linker_Check.f k code ents sh lk) c) (hgood : c = 0 → code.length ≤ 4096 ∧ ∀ j (h : j < ents.length), Part code (ents[j]).f1 (ents[j]).f2) (task : Int) :
  (c ≠ 0 → Evt (fun k => cfg_Build.f k code ents sh lk task) ([], [], -1, 3)) ∧
  (c = 0 → ¬ (0 ≤ task ∧ task < ents.length) → Evt (fun k => cfg_Build.f k code ents sh lk task) ([], [], -1, 2)) ∧
  (c = 0 → ∀ j (h : j < ents.length), task = (j : Int) → Evt (fun k => cfg_Build.f k code ents sh lk task) (bspec code (ents[j]).f1 (ents[j]).f2)) := by
 have e0 : (fun k => cfg_Build.f k code ents sh lk task) = fun k => (linker_Check.f k code ents sh lk).bind fun t171 => (if t171 = 0 then (if task < 0 then (cfg_Build.j0 k task true code ents sh lk) else (cfg_Build.j0 k task (decide (task ≥ (ents.length : Int))) code ents sh lk)) else (some (([] : List S51), ([] : List (List Int)), (-1), 3))) := rfl
 rw [e0]
 refine ⟨fun h => Evt.bind hck (Evt.neg h (Evt.pure _)), fun h h2 => ?_, fun h j hj ht => ?_⟩
 ·refine Evt.bind hck (Evt.pos h ?_)
  by_cases q : task < 0
  ·exact Evt.pos q (Evt.step (fun k => by rw [cfg_Build.j0]) (Evt.pos rfl (Evt.pure _)))
  ·exact Evt.neg q (Evt.step (fun k => by rw [cfg_Build.j0]) (Evt.pos (decide_eq_true (by omega)) (Evt.pure _)))
 ·obtain ⟨g1, g2⟩ := hgood h
  subst ht
  refine Evt.bind hck (Evt.pos h (Evt.neg (by omega) (Evt.step (fun k => by rw [cfg_Build.j0]) (Evt.neg (by simp; omega) (Evt.pos (by omega) (Evt.pos (by omega) ?_))))))
  rw [rd39 _ _ hj]
  exact part_evt hw g1 (g2 j hj)
/-! ### the part's own code -/
theorem addB_ok {s e : Int} {R L : Int → Bool} {acc : List S51} {pc : Int} (h0 : s ≤ pc) (h1 : pc < e) (hR : R pc = true) (hacc : L pc = true ∨ acc ≠ []) (hb : ∀ b ∈ acc, BlkIn s e R b ∧ b.f1 ≤ pc) : addB L acc pc ≠ [] ∧ ∀ b ∈ addB L acc pc, BlkIn s e R b ∧ b.f1 ≤ pc + 1 := by
 have hnew : BlkIn s e R ⟨pc, pc + 1, []⟩ := ⟨rfl, h0, by show pc < pc + 1; omega, by show pc + 1 ≤ e; omega, by show R (pc + 1 - 1) = true; rw [show pc + 1 - 1 = pc by omega]; exact hR⟩
 unfold addB
 by_cases hL : L pc = true
 ·rw [if_pos hL]
  refine ⟨by simp, fun b hb' => ?_⟩
  rcases List.mem_append.1 hb' with h | h
  ·exact ⟨(hb b h).1, by have := (hb b h).2; omega⟩
  ·rw [List.mem_singleton] at h; subst h; exact ⟨hnew, Int.le_refl _⟩
 ·rw [if_neg hL]
  rcases List.eq_nil_or_concat acc with rfl | ⟨a, b, rfl⟩
  ·exact absurd rfl (hacc.resolve_left hL)
  ·rw [List.concat_eq_append] at hb ⊢
   rw [lastTo_snoc]
   refine ⟨by simp, fun b' hb' => ?_⟩
   rcases List.mem_append.1 hb' with h | h
   ·have := hb b' (List.mem_append.2 (.inl h)); exact ⟨this.1, by omega⟩
   ·rw [List.mem_singleton] at h
    subst h
    have hbb := hb b (by simp)
    obtain ⟨⟨g1, g2, g3, g4, g5⟩, g6⟩ := hbb
    refine ⟨⟨g1, g2, ?_, ?_, ?_⟩, Int.le_refl _⟩
    ·show b.f0 < pc + 1; omega
    ·show pc + 1 ≤ e; omega
    ·show R (pc + 1 - 1) = true; rw [show pc + 1 - 1 = pc by omega]; exact hR
theorem scan_ok {code : List Int} {s e : Int} {R L : Int → Bool} (hRs : R s = true) (hLs : L s = true) (hse : s < e) : ∀ (d : Nat) (pc : Int) (acc out : List S51), s ≤ pc → pc + (d : Int) = e → (acc ≠ [] ∨ pc = s) → (∀ b ∈ acc, BlkIn s e R b ∧ b.f1 ≤ pc) → scan code s e R L d pc acc = .inr out → out ≠ [] ∧ ∀ b ∈ out, BlkIn s e R b := by
 intro d
 induction d with
 | zero =>
  intro pc acc out h0 h1 hne hb h
  have : acc = out := by unfold scan at h; exact Sum.inr.inj h
  subst this
  refine ⟨?_, fun b hb' => (hb b hb').1⟩
  rcases hne with q | q
  ·exact q
  ·omega
 | succ d ih =>
  intro pc acc out h0 h1 hne hb h
  unfold scan at h
  by_cases hr : R pc = true
  ·rw [if_pos hr] at h
   by_cases q : Leaves code s e pc
   ·rw [if_pos q] at h; cases h
   ·rw [if_neg q] at h
    have hacc : L pc = true ∨ acc ≠ [] := by
     rcases hne with h | h
     ·exact .inr h
     ·exact .inl (h ▸ hLs)
    obtain ⟨k1, k2⟩ := addB_ok (L := L) h0 (by omega) hr hacc hb
    exact ih (pc + 1) _ out (by omega) (by omega) (.inl k1) k2 h
  ·rw [if_neg hr] at h
   refine ih (pc + 1) acc out (by omega) (by omega) (.inl ?_) (fun b hb' => ⟨(hb b hb').1, by have := (hb b hb').2; omega⟩) h
   rcases hne with h | h
   ·exact h
   ·subst h; exact absurd hRs hr
theorem Rf_s (code : List Int) {s e : Int} (hse : s < e) : Rf code s e s = true := Rf_iff.2 ⟨.start, Int.le_refl _, hse⟩
theorem Lf_s (code : List Int) (s e : Int) : Lf code s e s = true := Lf_iff.2 (.inl rfl)
theorem scan0_ok {code : List Int} {s e : Int} (hse : s < e) {acc : List S51} (h : scan0 code s e = .inr acc) : acc ≠ [] ∧ ∀ b ∈ acc, BlkIn s e (Rf code s e) b :=
 scan_ok (Rf_s code hse) (Lf_s code s e) hse (e - s).toNat s [] acc (Int.le_refl _) (by omega) (.inr rfl) (fun b hb => by cases hb) h
end Go.Proofs.Ytihmfdndiicjgaa.PB
set_option linter.unusedVariables false
set_option linter.unusedSimpArgs false
namespace Go.Proofs.Ytihmfdndiicjgaa.PB
open Go.RowKit Go.Proofs.Ytihmfdndiicjgaa.C Go.Proofs.HEvt Go.Proofs.YtihmfdndiicjgaaW.PrintWords
theorem awake_ends : Evt (fun k => ontimelaw24_awake.f k) true := Evt.of_mono (fun k => ontimelaw24_awake.mono k) (k := 60) (by kernel_rfl)
theorem rd104 (xs : List S104) (i : Nat) (h : i < xs.length) : rd_T104 xs (i : Int) = xs[i] := by unfold rd_T104; simp [List.getD_eq_getElem?_getD, h]
theorem rdLL (xs : List (List Int)) (i : Nat) (h : i < xs.length) : rd_L11 xs (i : Int) = xs[i] := by unfold rd_L11; simp [List.getD_eq_getElem?_getD, h]
theorem rdLL_any (p : List (List Int)) (t : Int) : rd_L11 p t = p.getD t.toNat [] := rfl
def InR (n : Nat) (ts : List Int) : Prop := ∀ t ∈ ts, 0 ≤ t ∧ t < (n : Int)
def cv (b : S51) : S104 := ⟨b.f0, b.f1, b.f2⟩
theorem ints_l0 (x0 : List Int) (hb : x0.length ≤ 4611686018427387904) : ∀ d i, i + d = x0.length → Evt (fun k => ontimelaw24_ints.l0 k x0 x0 (x0.length : Int) (i : Int)) true := by
 intro d
 induction d with
 | zero =>
  intro i hi
  exact Evt.step (fun k => by rw [ontimelaw24_ints.l0]) (Evt.neg (by omega) (Evt.pure _))
 | succ d ih =>
  intro i hi
  have h0 : i < x0.length := by omega
  refine Evt.step (fun k => by rw [ontimelaw24_ints.l0]) (Evt.pos (by omega) (Evt.pos (by omega) (Evt.pos (by omega) (Evt.pos (by omega) (Evt.pos rfl ?_)))))
  rw [evt_succ h0 hb]
  exact ih (i + 1) (by omega)
theorem ints_evt (x0 : List Int) (hb : x0.length ≤ 4611686018427387904) : Evt (fun k => ontimelaw24_ints.f k x0 x0) true := by
 have e : (fun k => ontimelaw24_ints.f k x0 x0) = fun k => if (x0.length : Int) = (x0.length : Int) then (ontimelaw24_ints.l0 k x0 x0 (x0.length : Int) 0) else (some false) := rfl
 rw [e]
 exact Evt.pos rfl (ints_l0 x0 hb x0.length 0 (by omega))
theorem rp_l1 (l0 : List S51) (i : Nat) (hi : i < l0.length) (hn : l0.length ≤ 1000000) (N : Nat) (hin : InR N (l0[i]).f2) (hts : (l0[i]).f2.length ≤ 10) : ∀ d j (p : List (List Int)) (B : Nat), j + d = (l0[i]).f2.length → p.length = N → (∀ y ∈ p, y.length ≤ B) → B + d ≤ 1000000000 →
  ∀ r, Evt (fun k => ontimeref24_Prev.l0 k (l0.map cv) (puts i p ((l0[i]).f2.drop j)) ((i + 1 : Nat) : Int)) r → Evt (fun k => ontimeref24_Prev.l1 k (l0.map cv) p (i : Int) (j : Int)) r := by
 have hm : i < (l0.map cv).length := by simp; exact hi
 have e0 : rd_T104 (l0.map cv) (i : Int) = cv (l0[i]) := by rw [rd104 _ _ hm]; simp
 have e1 : (cv (l0[i])).f2 = (l0[i]).f2 := rfl
 have hlm : (l0.map cv).length = l0.length := by simp
 intro d
 induction d with
 | zero =>
  intro j p B hj hp hB hd r hr
  rw [List.drop_of_length_le (by omega)] at hr
  refine Evt.step (fun k => by rw [ontimeref24_Prev.l1]) (Evt.pos (by omega) (Evt.pos (by omega) ?_))
  rw [e0, e1]
  refine Evt.neg (by omega) ?_
  rw [evt_succ (n := i + 1) (by omega) (by omega)]
  exact hr
 | succ d ih =>
  intro j p B hj hp hB hd r hr
  have hlt : j < (l0[i]).f2.length := by omega
  rw [List.drop_eq_getElem_cons hlt] at hr
  have h0 := hin _ (List.getElem_mem hlt)
  have hrow : (rd_L11 p ((l0[i]).f2[j])).length < 17592186044416 := by
   rw [rdLL_any, List.getD_eq_getElem?_getD]
   cases hq : p[((l0[i]).f2[j]).toNat]? with
   | none => simp
   | some z => have := hB z (List.mem_of_getElem? hq); simp; omega
  have h1 := ih (j + 1) (put1 i p ((l0[i]).f2[j])) (B + 1) (by omega) (by rw [put1_len, hp]) (put1_row i p _ B hB) (by omega) r hr
  refine Evt.step (fun k => by rw [ontimeref24_Prev.l1]) (Evt.pos (by omega) (Evt.pos (by omega) ?_))
  rw [e0, e1]
  refine Evt.pos (by omega) (Evt.pos (by omega) ?_)
  rw [rd_nat _ _ hlt]
  refine Evt.pos (by omega) (Evt.pos (by omega) (Evt.pos hrow ?_))
  rw [evt_succ hlt (by omega)]
  exact h1
theorem rp_l0 (l0 : List S51) (hn : l0.length ≤ 1000000) (hx : ∀ x ∈ l0, x.f2.length ≤ 10) (N : Nat) (hin : ∀ x ∈ l0, InR N x.f2) : ∀ d i (p : List (List Int)), i + d = l0.length → p.length = N → (∀ y ∈ p, y.length ≤ 10 * i) →
  Evt (fun k => ontimeref24_Prev.l0 k (l0.map cv) p (i : Int)) (prevs i p (l0.drop i)) := by
 have hlm : (l0.map cv).length = l0.length := by simp
 intro d
 induction d with
 | zero =>
  intro i p hi hp hB
  rw [List.drop_of_length_le (by omega)]
  exact Evt.step (fun k => by rw [ontimeref24_Prev.l0]) (Evt.neg (by omega) ((Evt.pure p).to rfl))
 | succ d ih =>
  intro i p hi hp hB
  have hlt : i < l0.length := by omega
  rw [List.drop_eq_getElem_cons hlt]
  have h10 := hx _ (List.getElem_mem hlt)
  have hnext := ih (i + 1) (puts i p l0[i].f2) (by omega) (by rw [puts_len, hp]) (fun y hy => by have := puts_row i _ p _ hB y hy; omega)
  refine Evt.step (fun k => by rw [ontimeref24_Prev.l0]) (Evt.pos (by omega) ?_)
  exact rp_l1 l0 i hlt hn N (hin _ (List.getElem_mem hlt)) h10 l0[i].f2.length 0 p (10 * i) (by omega) hp hB (by omega) _ hnext
theorem rp_evt (l0 : List S51) (hn : l0.length ≤ 1000000) (hx : ∀ x ∈ l0, x.f2.length ≤ 10) (hin : ∀ x ∈ l0, InR l0.length x.f2) : Evt (fun k => ontimeref24_Prev.f k (l0.map cv)) (prevs 0 (List.replicate l0.length []) l0) := by
 have hlm : (l0.map cv).length = l0.length := by simp
 have e : (fun k => ontimeref24_Prev.f k (l0.map cv)) = fun k => if 0 ≤ ((l0.map cv).length : Int) then (if (((l0.map cv).length : Int) : Int).toNat ≤ 11728124029610 then (ontimeref24_Prev.l0 k (l0.map cv) (List.replicate (((l0.map cv).length : Int) : Int).toNat []) 0) else (none)) else (none) := rfl
 rw [e, hlm]
 refine Evt.pos (by omega) (Evt.pos (by omega) ?_)
 have := rp_l0 l0 hn hx l0.length hin l0.length 0 (List.replicate l0.length []) (by omega) (by simp) (fun y hy => by rw [(List.mem_replicate.1 hy).2]; simp)
 exact this
theorem is_l0 (bl : List S51) (pv : List (List Int)) (hn : bl.length ≤ 1000000) (hp : pv.length = bl.length) (hx : ∀ x ∈ bl, x.f2.length ≤ 10) (hr : ∀ y ∈ pv, y.length ≤ 4611686018427387904) : ∀ d i, i + d = bl.length →
  Evt (fun k => ontimelaw24_is.l0 k (bl.map cv) pv bl (bl.length : Int) (i : Int) bl pv) true := by
 have hlm : (bl.map cv).length = bl.length := by simp
 intro d
 induction d with
 | zero =>
  intro i hi
  exact Evt.step (fun k => by rw [ontimelaw24_is.l0]) (Evt.neg (by omega) (Evt.pure _))
 | succ d ih =>
  intro i hi
  have hlt : i < bl.length := by omega
  have hm : i < (bl.map cv).length := by omega
  have hq : i < pv.length := by omega
  have e0 : rd_T104 (bl.map cv) (i : Int) = cv (bl[i]) := by rw [rd104 _ _ hm]; simp
  have f0 : (cv (bl[i])).f0 = (bl[i]).f0 := rfl
  have f1 : (cv (bl[i])).f1 = (bl[i]).f1 := rfl
  have f2 : (cv (bl[i])).f2 = (bl[i]).f2 := rfl
  have h10 := hx _ (List.getElem_mem hlt)
  have hrow := hr _ (List.getElem_mem hq)
  refine Evt.step (fun k => by rw [ontimelaw24_is.l0]) (Evt.pos (by omega) (Evt.pos (by omega) (Evt.pos (by omega) (Evt.pos (by omega) ?_))))
  rw [e0, f0, f1, f2, rd51 _ _ hlt, rdLL _ _ hq]
  refine Evt.pos rfl (Evt.pos rfl (Evt.bind (ints_evt _ (by omega)) (Evt.pos rfl (Evt.pos (by omega) (Evt.pos (by omega) (Evt.bind (ints_evt _ hrow) (Evt.pos rfl ?_)))))))
  rw [evt_succ hlt (by omega)]
  exact ih (i + 1) (by omega)
/-- Blocks with their own predecessors are what they are. -/
theorem is_evt (bl : List S51) (hn : bl.length ≤ 4096) (hx : ∀ x ∈ bl, x.f2.length ≤ 2) (hin : ∀ x ∈ bl, InR bl.length x.f2) : Evt (fun k => ontimelaw24_is.f k bl (prevs 0 (List.replicate bl.length []) bl) (bl.map cv)) true := by
 have hlm : (bl.map cv).length = bl.length := by simp
 have hpl : (prevs 0 (List.replicate bl.length []) bl).length = bl.length := by rw [prevs_len]; simp
 have e : (fun k => ontimelaw24_is.f k bl (prevs 0 (List.replicate bl.length []) bl) (bl.map cv)) = fun k => if (bl.length : Int) = ((bl.map cv).length : Int) then (ontimelaw24_is.j0 k (bl.map cv) (((prevs 0 (List.replicate bl.length []) bl).length : Int) != ((bl.map cv).length : Int)) bl (prevs 0 (List.replicate bl.length []) bl)) else (ontimelaw24_is.j0 k (bl.map cv) true bl (prevs 0 (List.replicate bl.length []) bl)) := rfl
 rw [e, hlm]
 have hrow := prevs_row bl 0 (List.replicate bl.length []) 0 hx (fun y hy => by rw [(List.mem_replicate.1 hy).2]; simp)
 refine Evt.pos rfl (Evt.step (fun k => by rw [ontimelaw24_is.j0]) (Evt.neg (by rw [hpl]; simp) (Evt.bind (rp_evt bl (by omega) (fun x h => by have := hx x h; omega) hin) ?_)))
 exact is_l0 bl _ (by omega) hpl (fun x h => by have := hx x h; omega) (fun y hy => by have := hrow y hy; omega) bl.length 0 (by omega)
theorem once_mem : ∀ (ts cur : List Int) (x : Int), x ∈ once cur ts ↔ x ∈ cur ∨ x ∈ ts := by
 intro ts
 induction ts with
 | nil => intro cur x; simp [once]
 | cons t ts ih =>
  intro cur x
  show x ∈ once (ins1 cur t) ts ↔ _
  rw [ih]
  unfold ins1
  by_cases h : t ∈ cur
  ·rw [if_pos h, List.mem_cons]
   constructor
   ·rintro (q | q)
    ·exact .inl q
    ·exact .inr (.inr q)
   ·rintro (q | q | q)
    ·exact .inl q
    ·exact .inl (q ▸ h)
    ·exact .inr q
  ·rw [if_neg h]
   simp only [List.mem_append, List.mem_cons, List.not_mem_nil, or_false]
   exact or_assoc
theorem fins_len (code : List Int) (acc : List S51) : (fins code acc).length = acc.length := by unfold fins; simp
theorem fins_in (code : List Int) (acc : List S51) (hne : acc ≠ []) : ∀ x ∈ fins code acc, x.f2.length ≤ 2 ∧ InR acc.length x.f2 := by
 intro x hx
 obtain ⟨b, _, rfl⟩ := List.mem_map.1 hx
 refine ⟨fin1_len code acc b, fun t ht => ?_⟩
 rcases (once_mem _ _ _).1 ht with q | q
 ·cases q
 ·obtain ⟨y, _, rfl⟩ := List.mem_map.1 q
  exact numOf_range acc hne y
theorem finish_is (code : List Int) (acc : List S51) (hne : acc ≠ []) (hn : acc.length ≤ 4096) : Evt (fun k => ontimelaw24_is.f k (finish code acc).1 (finish code acc).2.1 ((finish code acc).1.map cv)) true := by
 have h := fins_in code acc hne
 have hl := fins_len code acc
 have := is_evt (fins code acc) (by omega) (fun x hx => (h x hx).1) (fun x hx => by rw [hl]; exact (h x hx).2)
 rw [hl] at this
 exact this
end Go.Proofs.Ytihmfdndiicjgaa.PB
