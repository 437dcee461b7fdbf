/- What cfg.Build answers, whole: the graph is a function of the part's own code. -/
import Derived.Test.YtihmfdndiicjgaaPBd
set_option linter.unusedVariables false
set_option linter.unusedSimpArgs false
namespace Go.Proofs.Ytihmfdndiicjgaa.PB
open Go.RowKit Go.Proofs.Ytihmfdndiicjgaa.C Go.Proofs.HEvt Go.Proofs.YtihmfdndiicjgaaW.PrintWords
/-- Reached, in the part. -/
noncomputable def Rf (code : List Int) (s e : Int) (x : Int) : Bool := @decide (Rch code s e x ∧ s ≤ x ∧ x < e) (Classical.propDecidable _)
def Lead (code : List Int) (s e x : Int) : Prop := x = s ∨ (Rf code s e x = true ∧ (ins code x).1 = 28) ∨ ∃ p, Rf code s e p = true ∧ cfg_explore.lead (ins code p).1 = true ∧ x ∈ sc code p
noncomputable def Lf (code : List Int) (s e : Int) (x : Int) : Bool := @decide (Lead code s e x) (Classical.propDecidable _)
theorem Rf_iff {code : List Int} {s e x : Int} : Rf code s e x = true ↔ Rch code s e x ∧ s ≤ x ∧ x < e := by unfold Rf; exact @decide_eq_true_iff _ (Classical.propDecidable _)
theorem Lf_iff {code : List Int} {s e x : Int} : Lf code s e x = true ↔ Lead code s e x := by unfold Lf; exact @decide_eq_true_iff _ (Classical.propDecidable _)
theorem bool_ext {a b : Bool} (h : a = true ↔ b = true) : a = b := by cases a <;> cases b <;> simp_all
theorem XInv.R_eq {code : List Int} {s e : Int} {R L : Int → Bool} (h : XInv code s e [] R L) : R = Rf code s e := funext fun x => bool_ext (by rw [h.reach x, Rf_iff])
theorem XInv.L_eq {code : List Int} {s e : Int} {R L : Int → Bool} (h : XInv code s e [] R L) : L = Lf code s e := funext fun x => bool_ext (by
 rw [h.ld x, Lf_iff]
 unfold Lead
 rw [← h.R_eq])
noncomputable def scan0 (code : List Int) (s e : Int) : Sum Int (List S51) := scan code s e (Rf code s e) (Lf code s e) (e - s).toNat s []
/-- The graph's blocks, with their successors. -/
def fins (code : List Int) (acc : List S51) : List S51 := acc.map (fin1 code acc)
def finish (code : List Int) (acc : List S51) : Res := (fins code acc, prevs 0 (List.replicate acc.length []) (fins code acc), -1, 0)
noncomputable def bspec (code : List Int) (s e : Int) : Res := match scan0 code s e with | .inl p => ([], [], p, 10) | .inr acc => finish code acc
theorem part_evt {code : List Int} {s e : Int} (hw : Words code) (hc : code.length ≤ 4096) (P : Part code s e) :
  Evt (fun k => (xb_explored.f k code s e).bind fun _ => cfg_Build.l0 k s s e code []) (bspec code s e) := by
 obtain ⟨R, L, hx, hI⟩ := xr_evt hw hc P
 have hs0 := P.s0
 have hse := P.se
 have h1 : Evt (fun k => xb_explored.f k code s e) 0 := by
  have h := Evt.bind (G := fun k => xr k code s e) (F := fun _ (x : (Int → Bool) × (Int → Bool)) => some (0 : Int)) (r := 0) hx (Evt.of_eq (fun _ => rfl))
  exact h
 refine Evt.bind h1 ?_
 have hfin : ∀ acc : List S51, acc ≠ [] → acc.length ≤ 4096 → (∀ b ∈ acc, BlkIn s e R b) → Evt (fun k => if 0 ≤ (acc.length : Int) then (if ((acc.length : Int) : Int).toNat ≤ 11728124029610 then (cfg_Build.l2 k (acc.length : Int) 0 code acc (List.replicate ((acc.length : Int) : Int).toNat [])) else (none)) else (none)) (finish code acc) := by
  intro acc hne hn hb
  have := l2_evt hw hc P acc hne hn hb acc.length 0 (by omega)
  exact Evt.pos (by omega) (Evt.pos (by omega) this)
 have := l0_evt hw hc P hx hI (finish code) hfin (e - s).toNat s [] (Int.le_refl _) (by omega) (by simp) (.inr rfl) (fun b hb => by cases hb)
 rw [hI.R_eq, hI.L_eq] at this
 exact this
/-- Build, whole. -/
theorem build_evt (code : List Int) (ents : List S39) (sh lk : Int) (hw : Words code) (hc : code.length ≤ 4611686018427387904) (hn : ents.length ≤ 4611686018427387904) (c : Int) (hck : Evt (fun k => linker_Check.f k code ents sh lk) c) (hgood : c = 0 → code.length ≤ 4096 ∧ ∀ j (h : j < ents.length), Part code (ents[j]).f1 (ents[j]).f2) (task : Int) :
  (c ≠ 0 → Evt (fun k => cfg_Build.f k code ents sh lk task) ([], [], -1, 3)) ∧
  (c = 0 → ¬ (0 ≤ task ∧ task < ents.length) → Evt (fun k => cfg_Build.f k code ents sh lk task) ([], [], -1, 2)) ∧
  (c = 0 → ∀ j (h : j < ents.length), task = (j : Int) → Evt (fun k => cfg_Build.f k code ents sh lk task) (bspec code (ents[j]).f1 (ents[j]).f2)) := by
 have e0 : (fun k => cfg_Build.f k code ents sh lk task) = fun k => (linker_Check.f k code ents sh lk).bind fun t171 => (if t171 = 0 then (if task < 0 then (cfg_Build.j0 k task true code ents sh lk) else (cfg_Build.j0 k task (decide (task ≥ (ents.length : Int))) code ents sh lk)) else (some (([] : List S51), ([] : List (List Int)), (-1), 3))) := rfl
 rw [e0]
 refine ⟨fun h => Evt.bind hck (Evt.neg h (Evt.pure _)), fun h h2 => ?_, fun h j hj ht => ?_⟩
 ·refine Evt.bind hck (Evt.pos h ?_)
  by_cases q : task < 0
  ·exact Evt.pos q (Evt.step (fun k => by rw [cfg_Build.j0]) (Evt.pos rfl (Evt.pure _)))
  ·exact Evt.neg q (Evt.step (fun k => by rw [cfg_Build.j0]) (Evt.pos (decide_eq_true (by omega)) (Evt.pure _)))
 ·obtain ⟨g1, g2⟩ := hgood h
  subst ht
  refine Evt.bind hck (Evt.pos h (Evt.neg (by omega) (Evt.step (fun k => by rw [cfg_Build.j0]) (Evt.neg (by simp; omega) (Evt.pos (by omega) (Evt.pos (by omega) ?_))))))
  rw [rd39 _ _ hj]
  exact part_evt hw g1 (g2 j hj)
/-! ### the part's own code -/
def Agree (code code' : List Int) (s e : Int) : Prop := ∀ pc, s ≤ pc → pc < e → rd code pc = rd code' pc
theorem Agree.symm {code code' : List Int} {s e : Int} (h : Agree code code' s e) : Agree code' code s e := fun pc a b => (h pc a b).symm
theorem Agree.ins {code code' : List Int} {s e : Int} (h : Agree code code' s e) (pc : Int) (h0 : s ≤ pc) (h1 : pc < e) : PB.ins code pc = PB.ins code' pc := by unfold PB.ins; rw [h pc h0 h1]
theorem Agree.sc {code code' : List Int} {s e : Int} (h : Agree code code' s e) (pc : Int) (h0 : s ≤ pc) (h1 : pc < e) : PB.sc code pc = PB.sc code' pc := by unfold PB.sc; rw [h.ins pc h0 h1]
theorem Agree.rch {code code' : List Int} {s e : Int} (h : Agree code code' s e) {x : Int} (hx : Rch code s e x) : Rch code' s e x := by
 induction hx with
 | start => exact .start
 | next h1 h2 h3 h4 ih => exact .next ih h2 h3 (by rw [← h.sc _ h2 h3]; exact h4)
theorem Agree.Rf {code code' : List Int} {s e : Int} (h : Agree code code' s e) : PB.Rf code s e = PB.Rf code' s e := funext fun x => bool_ext (by
 rw [Rf_iff, Rf_iff]
 exact ⟨fun q => ⟨h.rch q.1, q.2⟩, fun q => ⟨h.symm.rch q.1, q.2⟩⟩)
theorem Agree.lead {code code' : List Int} {s e : Int} (h : Agree code code' s e) {x : Int} (hx : Lead code s e x) : Lead code' s e x := by
 rcases hx with q | ⟨q1, q2⟩ | ⟨p, q1, q2, q3⟩
 ·exact .inl q
 ·have hr := Rf_iff.1 q1
  exact .inr (.inl ⟨by rw [← h.Rf]; exact q1, by rw [← h.ins x hr.2.1 hr.2.2]; exact q2⟩)
 ·have hr := Rf_iff.1 q1
  exact .inr (.inr ⟨p, by rw [← h.Rf]; exact q1, by rw [← h.ins p hr.2.1 hr.2.2]; exact q2, by rw [← h.sc p hr.2.1 hr.2.2]; exact q3⟩)
theorem Agree.Lf {code code' : List Int} {s e : Int} (h : Agree code code' s e) : PB.Lf code s e = PB.Lf code' s e := funext fun x => bool_ext (by
 rw [Lf_iff, Lf_iff]
 exact ⟨fun q => h.lead q, fun q => h.symm.lead q⟩)
theorem Agree.scan {code code' : List Int} {s e : Int} (h : Agree code code' s e) (R L : Int → Bool) (hR : ∀ x, R x = true → s ≤ x ∧ x < e) : ∀ d pc acc, PB.scan code s e R L d pc acc = PB.scan code' s e R L d pc acc := by
 intro d
 induction d with
 | zero => intro pc acc; rfl
 | succ d ih =>
  intro pc acc
  unfold PB.scan
  by_cases hr : R pc = true
  ·rw [if_pos hr, if_pos hr]
   have := hR pc hr
   have hl : Leaves code s e pc ↔ Leaves code' s e pc := by unfold Leaves; rw [h.sc pc this.1 this.2]
   by_cases q : Leaves code s e pc
   ·rw [if_pos q, if_pos (hl.1 q)]
   ·rw [if_neg q, if_neg (fun q' => q (hl.2 q'))]
    exact ih _ _
  ·rw [if_neg hr, if_neg hr]
   exact ih _ _
theorem addB_ok {s e : Int} {R L : Int → Bool} {acc : List S51} {pc : Int} (h0 : s ≤ pc) (h1 : pc < e) (hR : R pc = true) (hacc : L pc = true ∨ acc ≠ []) (hb : ∀ b ∈ acc, BlkIn s e R b ∧ b.f1 ≤ pc) : addB L acc pc ≠ [] ∧ ∀ b ∈ addB L acc pc, BlkIn s e R b ∧ b.f1 ≤ pc + 1 := by
 have hnew : BlkIn s e R ⟨pc, pc + 1, []⟩ := ⟨rfl, h0, by show pc < pc + 1; omega, by show pc + 1 ≤ e; omega, by show R (pc + 1 - 1) = true; rw [show pc + 1 - 1 = pc by omega]; exact hR⟩
 unfold addB
 by_cases hL : L pc = true
 ·rw [if_pos hL]
  refine ⟨by simp, fun b hb' => ?_⟩
  rcases List.mem_append.1 hb' with h | h
  ·exact ⟨(hb b h).1, by have := (hb b h).2; omega⟩
  ·rw [List.mem_singleton] at h; subst h; exact ⟨hnew, Int.le_refl _⟩
 ·rw [if_neg hL]
  rcases List.eq_nil_or_concat acc with rfl | ⟨a, b, rfl⟩
  ·exact absurd rfl (hacc.resolve_left hL)
  ·rw [List.concat_eq_append] at hb ⊢
   rw [lastTo_snoc]
   refine ⟨by simp, fun b' hb' => ?_⟩
   rcases List.mem_append.1 hb' with h | h
   ·have := hb b' (List.mem_append.2 (.inl h)); exact ⟨this.1, by omega⟩
   ·rw [List.mem_singleton] at h
    subst h
    have hbb := hb b (by simp)
    obtain ⟨⟨g1, g2, g3, g4, g5⟩, g6⟩ := hbb
    refine ⟨⟨g1, g2, ?_, ?_, ?_⟩, Int.le_refl _⟩
    ·show b.f0 < pc + 1; omega
    ·show pc + 1 ≤ e; omega
    ·show R (pc + 1 - 1) = true; rw [show pc + 1 - 1 = pc by omega]; exact hR
theorem scan_ok {code : List Int} {s e : Int} {R L : Int → Bool} (hRs : R s = true) (hLs : L s = true) (hse : s < e) : ∀ (d : Nat) (pc : Int) (acc out : List S51), s ≤ pc → pc + (d : Int) = e → (acc ≠ [] ∨ pc = s) → (∀ b ∈ acc, BlkIn s e R b ∧ b.f1 ≤ pc) → scan code s e R L d pc acc = .inr out → out ≠ [] ∧ ∀ b ∈ out, BlkIn s e R b := by
 intro d
 induction d with
 | zero =>
  intro pc acc out h0 h1 hne hb h
  have : acc = out := by unfold scan at h; exact Sum.inr.inj h
  subst this
  refine ⟨?_, fun b hb' => (hb b hb').1⟩
  rcases hne with q | q
  ·exact q
  ·omega
 | succ d ih =>
  intro pc acc out h0 h1 hne hb h
  unfold scan at h
  by_cases hr : R pc = true
  ·rw [if_pos hr] at h
   by_cases q : Leaves code s e pc
   ·rw [if_pos q] at h; cases h
   ·rw [if_neg q] at h
    have hacc : L pc = true ∨ acc ≠ [] := by
     rcases hne with h | h
     ·exact .inr h
     ·exact .inl (h ▸ hLs)
    obtain ⟨k1, k2⟩ := addB_ok (L := L) h0 (by omega) hr hacc hb
    exact ih (pc + 1) _ out (by omega) (by omega) (.inl k1) k2 h
  ·rw [if_neg hr] at h
   refine ih (pc + 1) acc out (by omega) (by omega) (.inl ?_) (fun b hb' => ⟨(hb b hb').1, by have := (hb b hb').2; omega⟩) h
   rcases hne with h | h
   ·exact h
   ·subst h; exact absurd hRs hr
theorem Rf_s (code : List Int) {s e : Int} (hse : s < e) : Rf code s e s = true := Rf_iff.2 ⟨.start, Int.le_refl _, hse⟩
theorem Lf_s (code : List Int) (s e : Int) : Lf code s e s = true := Lf_iff.2 (.inl rfl)
theorem scan0_ok {code : List Int} {s e : Int} (hse : s < e) {acc : List S51} (h : scan0 code s e = .inr acc) : acc ≠ [] ∧ ∀ b ∈ acc, BlkIn s e (Rf code s e) b :=
 scan_ok (Rf_s code hse) (Lf_s code s e) hse (e - s).toNat s [] acc (Int.le_refl _) (by omega) (.inr rfl) (fun b hb => by cases hb) h
theorem Agree.bspec {code code' : List Int} {s e : Int} (hse : s < e) (h : Agree code code' s e) : PB.bspec code s e = PB.bspec code' s e := by
 have h1 : scan0 code s e = scan0 code' s e := by
  unfold scan0
  rw [← h.Rf, ← h.Lf]
  exact h.scan _ _ (fun x hx => (Rf_iff.1 hx).2) _ _ _
 unfold PB.bspec
 rw [← h1]
 cases hq : scan0 code s e with
 | inl p => rfl
 | inr acc =>
  obtain ⟨_, hb⟩ := scan0_ok hse hq
  have : fins code acc = fins code' acc := by
   unfold fins
   refine List.map_congr_left fun b hb' => ?_
   obtain ⟨g1, g2, g3, g4, g5⟩ := hb b hb'
   unfold fin1
   rw [h.sc (b.f1 - 1) (by omega) (by omega)]
  show finish code acc = finish code' acc
  unfold finish
  rw [this]
end Go.Proofs.Ytihmfdndiicjgaa.PB
