/- The exploration of a task's part ends; what it marks is what can be reached, and what it leads is what begins a block. -/
import Derived.Test.YtihmfdndiicjgaaPBa
set_option linter.unusedVariables false
set_option linter.unusedSimpArgs false
namespace Go.Proofs.Ytihmfdndiicjgaa.PB
open Go.RowKit Go.Proofs.Ytihmfdndiicjgaa.C Go.Proofs.HEvt Go.Proofs.YtihmfdndiicjgaaW.PrintWords
/-- What can be reached from s, inside the part. -/
inductive Rch (code : List Int) (s e : Int) : Int → Prop
 | start : Rch code s e s
 | next {x t : Int} : Rch code s e x → s ≤ x → x < e → t ∈ sc code x → Rch code s e t
theorem sc_len (code : List Int) (pc : Int) : (sc code pc).length ≤ 2 := cfg_explore.succ_len _ _ _ _ _ _ _ (sc_f code pc)
theorem sc_wf (code : List Int) (pc : Int) : ∀ x ∈ sc code pc, -9223372036854775808 ≤ x ∧ x ≤ 9223372036854775807 := fun x hx => wf_i64.1 (cfg_explore.succ_wf _ _ _ _ _ _ _ (sc_f code pc) x hx)
structure XInv (code : List Int) (s e : Int) (work : List Int) (r l : Int → Bool) : Prop where
 rin : ∀ x, r x = true → s ≤ x ∧ x < e
 wwf : ∀ x ∈ work, -9223372036854775808 ≤ x ∧ x ≤ 9223372036854775807
 clo : ∀ x, r x = true → ∀ t ∈ sc code x, r t = true ∨ t ∈ work ∨ ¬ (s ≤ t ∧ t < e)
 wmin : ∀ x ∈ work, Rch code s e x
 rmin : ∀ x, r x = true → Rch code s e x
 st : s ∈ work ∨ r s = true
 ld : ∀ x, l x = true ↔ x = s ∨ (r x = true ∧ (ins code x).1 = 28) ∨ ∃ p, r p = true ∧ cfg_explore.lead (ins code p).1 = true ∧ x ∈ sc code p
/-- How many are not marked yet. -/
def cnt (s e : Int) (r : Int → Bool) : Nat := ((List.range (e - s).toNat).filter (fun i : Nat => !r (s + (i : Int)))).length
theorem filter_lt {α : Type} (p q : α → Bool) : ∀ (l : List α), (∀ x ∈ l, q x = true → p x = true) → (l.filter q).length ≤ (l.filter p).length ∧ ((∃ x ∈ l, p x = true ∧ q x = false) → (l.filter q).length + 1 ≤ (l.filter p).length) := by
 intro l
 induction l with
 | nil => intro _; exact ⟨Nat.le_refl _, fun ⟨x, hx, _⟩ => by cases hx⟩
 | cons a l ih =>
  intro h
  obtain ⟨h1, h2⟩ := ih (fun x hx => h x (List.mem_cons_of_mem _ hx))
  have ha := h a List.mem_cons_self
  simp only [List.filter_cons]
  cases hq : q a with
  | true =>
   have hp := ha hq
   rw [hp]
   simp only [if_true, List.length_cons]
   refine ⟨by omega, fun ⟨x, hx, k1, k2⟩ => ?_⟩
   rcases List.mem_cons.1 hx with rfl | hx
   ·rw [hq] at k2; cases k2
   ·have := h2 ⟨x, hx, k1, k2⟩; omega
  | false =>
   cases hp : p a with
   | true =>
    simp only [if_true, List.length_cons]
    exact ⟨by simp; omega, fun _ => by simp; omega⟩
   | false =>
    refine ⟨by simpa using h1, fun ⟨x, hx, k1, k2⟩ => ?_⟩
    rcases List.mem_cons.1 hx with rfl | hx
    ·rw [hp] at k1; cases k1
    ·simpa using h2 ⟨x, hx, k1, k2⟩
theorem cnt_upd {s e x : Int} {r : Int → Bool} (h0 : s ≤ x) (h1 : x < e) (hr : r x = false) : cnt s e (cfg_explore.upd r x) + 1 ≤ cnt s e r := by
 refine (filter_lt _ _ _ (fun i _ hi => ?_)).2 ⟨(x - s).toNat, List.mem_range.2 (by omega), ?_, ?_⟩
 ·unfold cfg_explore.upd at hi
  by_cases e : s + (i : Int) = x
  ·rw [if_pos e] at hi; simp at hi
  ·rw [if_neg e] at hi; exact hi
 ·have : s + ((x - s).toNat : Int) = x := by omega
  rw [this, hr]; rfl
 ·have : s + ((x - s).toNat : Int) = x := by omega
  unfold cfg_explore.upd
  rw [this, if_pos rfl]; rfl
theorem cnt_le (s e : Int) (r : Int → Bool) : cnt s e r ≤ (e - s).toNat := by
 unfold cnt
 have := List.length_filter_le (fun i : Nat => !r (s + (i : Int))) (List.range (e - s).toNat)
 simpa using this
theorem upd_iff (g : Int → Bool) (x z : Int) : cfg_explore.upd g x z = true ↔ z = x ∨ g z = true := by
 unfold cfg_explore.upd
 by_cases h : z = x
 ·simp [h]
 ·simp [h]
theorem fold_iff : ∀ (ss : List Int) (g : Int → Bool) (z : Int), ss.foldl cfg_explore.upd g z = true ↔ z ∈ ss ∨ g z = true := by
 intro ss
 induction ss with
 | nil => intro g z; simp
 | cons a ss ih =>
  intro g z
  rw [List.foldl_cons, ih, upd_iff, List.mem_cons]
  constructor
  ·rintro (h | h | h)
   ·exact .inl (.inr h)
   ·exact .inl (.inl h)
   ·exact .inr h
  ·rintro ((h | h) | h)
   ·exact .inr (.inl h)
   ·exact .inl h
   ·exact .inr (.inr h)
theorem upds_iff (b : Bool) (g : Int → Bool) (ss : List Int) (z : Int) : cfg_explore.upds b g ss z = true ↔ (b = true ∧ z ∈ ss) ∨ g z = true := by
 unfold cfg_explore.upds
 cases b with
 | true => simp [fold_iff]
 | false => simp
section
variable {code : List Int} {s e : Int}
theorem explore_ends (hw : Words code) (hc : code.length ≤ 4096) (P : Part code s e) : ∀ (m : Nat) (work : List Int) (r l : Int → Bool), XInv code s e work r l → 2 * cnt s e r + work.length ≤ m → m ≤ 100000 →
  ∃ R L, (∀ k, m < k → cfg_explore.l0 code s e k work r l = some (R, L)) ∧ XInv code s e [] R L := by
 have hs0 := P.s0
 have hel := P.el
 intro m
 induction m with
 | zero =>
  intro work r l hI hm hM
  have : work = [] := List.length_eq_zero_iff.1 (by omega)
  subst this
  refine ⟨r, l, fun k hk => ?_, hI⟩
  obtain ⟨j, rfl⟩ : ∃ j, k = j + 1 := ⟨k - 1, by omega⟩
  rw [cfg_explore.l0]
  rfl
 | succ m ih =>
  intro work r l hI hm hM
  rcases List.eq_nil_or_concat work with rfl | ⟨w', x, rfl⟩
  ·refine ⟨r, l, fun k hk => ?_, hI⟩
   obtain ⟨j, rfl⟩ : ∃ j, k = j + 1 := ⟨k - 1, by omega⟩
   rw [cfg_explore.l0]
   rfl
  ·rw [List.concat_eq_append] at hI hm ⊢
   have hlen : (w' ++ [x]).length = w'.length + 1 := by simp
   have hrd : rd (w' ++ [x]) (((w' ++ [x]).length : Int) - 1) = x := by
    have : (((w' ++ [x]).length : Int) - 1) = (w'.length : Int) := by rw [hlen]; omega
    rw [this, rd_nat _ _ (by rw [hlen]; omega)]
    simp
   have htake : (w' ++ [x]).take ((w' ++ [x]).length - 1) = w' := by rw [hlen]; simp
   have hxw := hI.wwf x (by simp)
   have hpos : 0 < (w' ++ [x]).length := by rw [hlen]; omega
   rw [hlen] at hm
   have pop : (r x = true ∨ ¬ (s ≤ x ∧ x < e)) → XInv code s e w' r l := by
    intro hx
    refine ⟨hI.rin, fun y hy => hI.wwf y (by simp [hy]), fun y hy t ht => ?_, fun y hy => hI.wmin y (by simp [hy]), hI.rmin, ?_, hI.ld⟩
    ·rcases hI.clo y hy t ht with h | h | h
     ·exact .inl h
     ·rcases List.mem_append.1 h with h | h
      ·exact .inr (.inl h)
      ·rw [List.mem_singleton] at h
       subst h
       rcases hx with hx | hx
       ·exact .inl hx
       ·exact .inr (.inr hx)
     ·exact .inr (.inr h)
    ·rcases hI.st with h | h
     ·rcases List.mem_append.1 h with h | h
      ·exact .inl h
      ·rw [List.mem_singleton] at h
       rcases hx with hx | hx
       ·exact .inr (h ▸ hx)
       ·exact absurd ⟨by omega, by rw [← h]; exact P.se⟩ hx
     ·exact .inr h
   by_cases c1 : r x = true
   ·obtain ⟨R, L, h1, h2⟩ := ih w' r l (pop (.inl c1)) (by omega) (by omega)
    refine ⟨R, L, fun k hk => ?_, h2⟩
    obtain ⟨j, rfl⟩ : ∃ j, k = j + 1 := ⟨k - 1, by omega⟩
    rw [cfg_explore.l0, hrd, htake, if_pos hpos, if_pos hxw, if_pos c1]
    exact h1 j (by omega)
   by_cases c2 : x < s
   ·obtain ⟨R, L, h1, h2⟩ := ih w' r l (pop (.inr (by omega))) (by omega) (by omega)
    refine ⟨R, L, fun k hk => ?_, h2⟩
    obtain ⟨j, rfl⟩ : ∃ j, k = j + 1 := ⟨k - 1, by omega⟩
    rw [cfg_explore.l0, hrd, htake, if_pos hpos, if_pos hxw, if_neg c1, if_pos c2]
    exact h1 j (by omega)
   by_cases c3 : x ≥ e
   ·obtain ⟨R, L, h1, h2⟩ := ih w' r l (pop (.inr (by omega))) (by omega) (by omega)
    refine ⟨R, L, fun k hk => ?_, h2⟩
    obtain ⟨j, rfl⟩ : ∃ j, k = j + 1 := ⟨k - 1, by omega⟩
    rw [cfg_explore.l0, hrd, htake, if_pos hpos, if_pos hxw, if_neg c1, if_neg c2, if_pos c3]
    exact h1 j (by omega)
   have hrx : r x = false := by simpa using c1
   have hx0 : s ≤ x := by omega
   have hx1 : x < e := by omega
   have hcn := cnt_upd hx0 hx1 hrx
   have hsl := sc_len code x
   have hrch := hI.wmin x (by simp)
   have hI' : XInv code s e (w' ++ sc code x) (cfg_explore.upd r x) (cfg_explore.upds (cfg_explore.lead (ins code x).1) (if (ins code x).1 = 28 then cfg_explore.upd l x else l) (sc code x)) := by
    refine ⟨fun y hy => ?_, fun y hy => ?_, fun y hy t ht => ?_, fun y hy => ?_, fun y hy => ?_, ?_, fun y => ?_⟩
    ·rcases (upd_iff _ _ _).1 hy with rfl | hy
     ·exact ⟨hx0, hx1⟩
     ·exact hI.rin y hy
    ·rcases List.mem_append.1 hy with hy | hy
     ·exact hI.wwf y (by simp [hy])
     ·exact sc_wf code x y hy
    ·rcases (upd_iff _ _ _).1 hy with rfl | hy
     ·exact .inr (.inl (List.mem_append.2 (.inr ht)))
     ·rcases hI.clo y hy t ht with h | h | h
      ·exact .inl ((upd_iff _ _ _).2 (.inr h))
      ·rcases List.mem_append.1 h with h | h
       ·exact .inr (.inl (List.mem_append.2 (.inl h)))
       ·rw [List.mem_singleton] at h
        exact .inl ((upd_iff _ _ _).2 (.inl h))
      ·exact .inr (.inr h)
    ·rcases List.mem_append.1 hy with hy | hy
     ·exact hI.wmin y (by simp [hy])
     ·exact .next hrch hx0 hx1 hy
    ·rcases (upd_iff _ _ _).1 hy with rfl | hy
     ·exact hrch
     ·exact hI.rmin y hy
    ·rcases hI.st with h | h
     ·rcases List.mem_append.1 h with h | h
      ·exact .inl (List.mem_append.2 (.inl h))
      ·rw [List.mem_singleton] at h
       exact .inr ((upd_iff _ _ _).2 (.inl h))
     ·exact .inr ((upd_iff _ _ _).2 (.inr h))
    ·rw [upds_iff]
     have h28 : (if (ins code x).1 = 28 then cfg_explore.upd l x else l) y = true ↔ (y = x ∧ (ins code x).1 = 28) ∨ l y = true := by
      by_cases h : (ins code x).1 = 28
      ·rw [if_pos h, upd_iff]
       constructor
       ·rintro (h1 | h1)
        ·exact .inl ⟨h1, h⟩
        ·exact .inr h1
       ·rintro (⟨h1, _⟩ | h1)
        ·exact .inl h1
        ·exact .inr h1
      ·rw [if_neg h]
       constructor
       ·exact .inr
       ·rintro (⟨_, h1⟩ | h1)
        ·exact absurd h1 h
        ·exact h1
     rw [h28, hI.ld y]
     constructor
     ·rintro (⟨h1, h2⟩ | ⟨rfl, h2⟩ | h | ⟨h1, h2⟩ | ⟨p, h1, h2, h3⟩)
      ·exact .inr (.inr ⟨x, (upd_iff _ _ _).2 (.inl rfl), h1, h2⟩)
      ·exact .inr (.inl ⟨(upd_iff _ _ _).2 (.inl rfl), h2⟩)
      ·exact .inl h
      ·exact .inr (.inl ⟨(upd_iff _ _ _).2 (.inr h1), h2⟩)
      ·exact .inr (.inr ⟨p, (upd_iff _ _ _).2 (.inr h1), h2, h3⟩)
     ·rintro (h | ⟨h1, h2⟩ | ⟨p, h1, h2, h3⟩)
      ·exact .inr (.inr (.inl h))
      ·rcases (upd_iff _ _ _).1 h1 with rfl | h1
       ·exact .inr (.inl ⟨rfl, h2⟩)
       ·exact .inr (.inr (.inr (.inl ⟨h1, h2⟩)))
      ·rcases (upd_iff _ _ _).1 h1 with rfl | h1
       ·exact .inl ⟨h2, h3⟩
       ·exact .inr (.inr (.inr (.inr ⟨p, h1, h2, h3⟩)))
   obtain ⟨R, L, h1, h2⟩ := ih _ _ _ hI' (by rw [List.length_append]; omega) (by omega)
   refine ⟨R, L, fun k hk => ?_, h2⟩
   obtain ⟨j, rfl⟩ : ∃ j, k = j + 1 := ⟨k - 1, by omega⟩
   have hwx := hw.rd (pc := x) (by omega) (by omega)
   rw [cfg_explore.l0, hrd, htake, if_pos hpos, if_pos hxw, if_neg c1, if_neg c2, if_neg c3, if_pos ⟨by omega, by omega, hwx.1, hwx.2, by rw [hlen]; omega⟩, dec_f hw (by omega) (by omega)]
   show ((cfg_successors.f (ins code x).1 (ins code x).2.1 (ins code x).2.2.1 (ins code x).2.2.2.1 (ins code x).2.2.2.2.1 x).bind fun ss => _) = _
   rw [sc_f]
   exact h1 j (by omega)
/-- The exploration, whole. -/
theorem xr_evt (hw : Words code) (hc : code.length ≤ 4096) (P : Part code s e) : ∃ R L, Evt (fun k => xr k code s e) (R, L) ∧ XInv code s e [] R L := by
 have hs0 := P.s0
 have hel := P.el
 have hse := P.se
 have hI : XInv code s e [s] (fun _ => false) (cfg_explore.upd (fun _ => false) s) := by
  refine ⟨fun x hx => by simp at hx, fun x hx => ?_, fun x hx => by simp at hx, fun x hx => ?_, fun x hx => by simp at hx, .inl (by simp), fun x => ?_⟩
  ·rw [List.mem_singleton] at hx; omega
  ·rw [List.mem_singleton] at hx; subst hx; exact .start
  ·rw [upd_iff]; simp
 have hcn := cnt_le s e (fun _ => false)
 obtain ⟨R, L, h1, h2⟩ := explore_ends hw hc P 20000 [s] _ _ hI (by simp; omega) (by omega)
 refine ⟨R, L, ⟨20001, fun k hk => ?_⟩, h2⟩
 exact h1 _ (by omega)
end
theorem XInv.reach {code : List Int} {s e : Int} {R L : Int → Bool} (h : XInv code s e [] R L) (x : Int) : R x = true ↔ Rch code s e x ∧ s ≤ x ∧ x < e := by
 have hst : R s = true := by
  rcases h.st with h | h
  ·cases h
  ·exact h
 have all : ∀ y, Rch code s e y → (R y = true ∨ ¬ (s ≤ y ∧ y < e)) := by
  intro y hy
  induction hy with
  | start => exact .inl hst
  | next h1 h2 h3 h4 ih =>
   rcases ih with ih | ih
   ·rcases h.clo _ ih _ h4 with q | q | q
    ·exact .inl q
    ·cases q
    ·exact .inr q
   ·exact absurd ⟨h2, h3⟩ ih
 constructor
 ·exact fun hx => ⟨h.rmin x hx, h.rin x hx⟩
 ·rintro ⟨h1, h2⟩
  rcases all x h1 with q | q
  ·exact q
  ·exact absurd h2 q
end Go.Proofs.Ytihmfdndiicjgaa.PB
