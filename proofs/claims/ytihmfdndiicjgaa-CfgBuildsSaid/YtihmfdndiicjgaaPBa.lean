/- linker.Check ends for every image; where it answers 0, the tasks' parts of the code are as the graphs' construction needs them. -/
import Derived.Test.YtihmfdndiicjgaaZm
import Derived.Test.YtihmfdndiicjgaaHEvt
set_option linter.unusedVariables false
set_option linter.unusedSimpArgs false
namespace Go.Proofs.Ytihmfdndiicjgaa.PB
open Go.RowKit Go.Proofs.Ytihmfdndiicjgaa.C Go.Proofs.HEvt Go.Proofs.YtihmfdndiicjgaaW.PrintWords
theorem rd39 (xs : List S39) (i : Nat) (h : i < xs.length) : rd_T39 xs (i : Int) = xs[i] := by unfold rd_T39; simp [List.getD_eq_getElem?_getD, h]
/-- The words are words. -/
def Words (code : List Int) : Prop := ∀ x ∈ code, 0 ≤ x ∧ x ≤ 4294967295
theorem Words.rd {code : List Int} (h : Words code) {pc : Int} (h0 : 0 ≤ pc) (h1 : pc < code.length) : 0 ≤ rd code pc ∧ rd code pc ≤ 4294967295 := by
 obtain ⟨i, rfl⟩ := Int.eq_ofNat_of_zero_le h0
 have hi : i < code.length := by omega
 rw [rd_nat _ _ hi]
 exact h _ (List.getElem_mem hi)
/-- The instruction at an index. -/
def ins (code : List Int) (pc : Int) : Int × Int × Int × Int × Int × Int := isa_Decode.g (rd code pc)
def isBr (op : Int) : Bool := decide (22 ≤ op) && decide (op ≤ 24)
def tgt (i : Int × Int × Int × Int × Int × Int) (pc : Int) : Int := wrap64 (wrap64 (pc + 1) + i.2.2.2.2.1)
theorem br_f (op : Int) : isa_IsBranch.f op = some (isBr op) := by
 unfold isa_IsBranch.f isBr
 by_cases h : op ≥ 22
 ·rw [if_pos h]; simp [show 22 ≤ op from h]
 ·rw [if_neg h]; simp [show ¬ 22 ≤ op from h]
theorem tgt_f (a b c d e pc : Int) : isa_Target.f a b c d e pc = some (if isBr a then (wrap64 (wrap64 (pc + 1) + e), true) else (0, false)) := by
 unfold isa_Target.f
 rw [br_f]
 show (if isBr a = true then _ else _) = _
 cases isBr a <;> rfl
theorem at_f {code : List Int} (h : Words code) {pc : Int} (h0 : 0 ≤ pc) (h1 : pc < code.length) : xb_at.f code pc = some ((ins code pc).1, (ins code pc).2.1, (ins code pc).2.2.1, (ins code pc).2.2.2.1, (ins code pc).2.2.2.2.1) := by
 unfold xb_at.f
 rw [if_pos h0, if_pos h1]
 unfold isa_Decode.f
 have := h.rd h0 h1
 rw [if_pos this.1, if_pos this.2]
 rfl
theorem dec_f {code : List Int} (h : Words code) {pc : Int} (h0 : 0 ≤ pc) (h1 : pc < code.length) : isa_Decode.f (rd code pc) = some (ins code pc) := by
 unfold isa_Decode.f
 have := h.rd h0 h1
 rw [if_pos this.1, if_pos this.2]
 rfl
/-- The successors of the instruction at an index. -/
def sc (code : List Int) (pc : Int) : List Int :=
 if (ins code pc).1 = 1 then [] else if (ins code pc).1 = 24 then [tgt (ins code pc) pc] else if (ins code pc).1 = 22 ∨ (ins code pc).1 = 23 then [wrap64 (pc + 1), tgt (ins code pc) pc] else [wrap64 (pc + 1)]
theorem sc_f (code : List Int) (pc : Int) : cfg_successors.f (ins code pc).1 (ins code pc).2.1 (ins code pc).2.2.1 (ins code pc).2.2.2.1 (ins code pc).2.2.2.2.1 pc = some (sc code pc) := by
 unfold cfg_successors.f sc tgt
 rw [tgt_f]
 generalize ins code pc = i
 show (if i.1 = 1 then _ else _) = _
 by_cases h1 : i.1 = 1
 ·rw [if_pos h1, if_pos h1]
 rw [if_neg h1, if_neg h1]
 by_cases h2 : i.1 = 24
 ·rw [if_pos h2, if_pos h2]
  have : isBr i.1 = true := by rw [h2]; decide
  rw [this]
  rfl
 rw [if_neg h2, if_neg h2]
 by_cases h3 : i.1 = 22
 ·rw [if_pos h3, if_pos (Or.inl h3)]
  have : isBr i.1 = true := by rw [h3]; decide
  rw [this]
  rfl
 rw [if_neg h3]
 by_cases h4 : i.1 = 23
 ·rw [if_pos h4, if_pos (Or.inr h4)]
  have : isBr i.1 = true := by rw [h4]; decide
  rw [this]
  rfl
 rw [if_neg h4, if_neg (by omega)]
/-- What a part of the code is, once the check is passed. -/
structure Part (code : List Int) (s e : Int) : Prop where
 s0 : 0 ≤ s
 se : s < e
 el : e ≤ code.length
 dec : ∀ pc, s ≤ pc → pc < e → (ins code pc).2.2.2.2.2 = 0
 br : ∀ pc, s ≤ pc → pc < e → isBr (ins code pc).1 = true → s ≤ tgt (ins code pc) pc ∧ tgt (ins code pc) pc < e
/-- All that a passed check says of the code. -/
structure AllPart (code : List Int) (ents : List S39) : Prop where
 part : ∀ j (h : j < ents.length), Part code (ents[j]).f1 (ents[j]).f2
 all : ∀ pc : Int, 0 ≤ pc → pc < code.length → (ins code pc).2.2.2.2.2 = 0
theorem in_f (a b : Int) : ∃ r, linker_in.f a b = some r := by
 unfold linker_in.f
 by_cases h : a ≥ 0
 ·exact ⟨_, if_pos h⟩
 ·exact ⟨_, if_neg h⟩
theorem named_f (a : ByteArray) : ∃ r, linker_named.f a = some r := by
 unfold linker_named.f
 by_cases h : (a.size : Int) ≥ 1
 ·exact ⟨_, if_pos h⟩
 ·exact ⟨_, if_neg h⟩
section
variable (code : List Int) (ents : List S39) (sh lk : Int)
theorem word_evt (hw : Words code) (hc : code.length ≤ 4611686018427387904) (hn : ents.length ≤ 4611686018427387904) (nm : ByteArray) (s e d pc : Int) (h0 : 0 ≤ pc) (h1 : pc < code.length) : ∃ c, Evt (fun k => linker_checkWord.f k code ents sh lk nm s e d pc) c ∧ (c = 0 → (ins code pc).2.2.2.2.2 = 0 ∧ (isBr (ins code pc).1 = true → s ≤ tgt (ins code pc) pc ∧ tgt (ins code pc) pc < e)) := by
 have hj : ∀ x : Bool, ∃ c, Evt (fun k => linker_checkWord.j0 k x code ents sh lk (ins code pc).1 (ins code pc).2.1 (ins code pc).2.2.1 (ins code pc).2.2.2.1 (ins code pc).2.2.2.2.1) c ∧ (c = 0 → x = false) := by
  intro x
  cases x with
  | true => exact ⟨10, Evt.step (fun k => by rw [linker_checkWord.j0]) (Evt.pos rfl (Evt.pure _)), fun h => by cases h⟩
  | false =>
   have hx : ∀ c, c = (0 : Int) → false = false := fun _ _ => rfl
   by_cases a1 : (ins code pc).1 = 28
   ·by_cases a2 : (ins code pc).2.2.2.2.1 ≥ lk
    ·exact ⟨_, Evt.step (fun k => by rw [linker_checkWord.j0]) (Evt.neg (by decide) (Evt.pos a1 (Evt.pos a2 (Evt.pure _)))), hx _⟩
    ·exact ⟨_, Evt.step (fun k => by rw [linker_checkWord.j0]) (Evt.neg (by decide) (Evt.pos a1 (Evt.neg a2 (Evt.pure _)))), hx _⟩
   ·by_cases b1 : (ins code pc).1 = 29
    ·by_cases a2 : (ins code pc).2.2.2.2.1 ≥ lk
     ·exact ⟨_, Evt.step (fun k => by rw [linker_checkWord.j0]) (Evt.neg (by decide) (Evt.neg a1 (Evt.pos b1 (Evt.pos a2 (Evt.pure _))))), hx _⟩
     ·exact ⟨_, Evt.step (fun k => by rw [linker_checkWord.j0]) (Evt.neg (by decide) (Evt.neg a1 (Evt.pos b1 (Evt.neg a2 (Evt.pure _))))), hx _⟩
    ·exact ⟨_, Evt.step (fun k => by rw [linker_checkWord.j0]) (Evt.neg (by decide) (Evt.neg a1 (Evt.neg b1 (Evt.pure _)))), hx _⟩
 have e0 : (fun k => linker_checkWord.f k code ents sh lk nm s e d pc) = fun k => if 0 ≤ pc then (if pc < (code.length : Int) then ((isa_Decode.f (rd code pc)).bind fun bt129 => (if bt129.2.2.2.2.2 = 0 then ((isa_Target.f bt129.1 bt129.2.1 bt129.2.2.1 bt129.2.2.2.1 bt129.2.2.2.2.1 pc).bind fun bt136 => (if bt136.2 = true then (if bt136.1 < s then (linker_checkWord.j0 k true code ents sh lk bt129.1 bt129.2.1 bt129.2.2.1 bt129.2.2.2.1 bt129.2.2.2.2.1) else (linker_checkWord.j0 k (decide (bt136.1 ≥ e)) code ents sh lk bt129.1 bt129.2.1 bt129.2.2.1 bt129.2.2.2.1 bt129.2.2.2.2.1)) else (linker_checkWord.j0 k false code ents sh lk bt129.1 bt129.2.1 bt129.2.2.1 bt129.2.2.2.1 bt129.2.2.2.2.1))) else (some 3))) else (none)) else (none) := rfl
 rw [e0]
 have kd : ∀ F : Nat → Int × Int × Int × Int × Int × Int → Option Int, ∀ c, Evt (fun k => F k (ins code pc)) c → Evt (fun k => (isa_Decode.f (rd code pc)).bind (F k)) c := fun F c h => Evt.bind (Evt.of_eq (fun _ => dec_f hw h0 h1)) h
 by_cases hd : (ins code pc).2.2.2.2.2 = 0
 ·by_cases hb : isBr (ins code pc).1 = true
  ·have kt : isa_Target.f (ins code pc).1 (ins code pc).2.1 (ins code pc).2.2.1 (ins code pc).2.2.2.1 (ins code pc).2.2.2.2.1 pc = some (tgt (ins code pc) pc, true) := by rw [tgt_f, hb]; rfl
   by_cases q1 : tgt (ins code pc) pc < s
   ·obtain ⟨c, k1, k2⟩ := hj true
    exact ⟨c, Evt.pos h0 (Evt.pos h1 (kd _ _ (Evt.pos hd (Evt.bind (Evt.of_eq (fun _ => kt)) (Evt.pos rfl (Evt.pos q1 k1)))))), fun h => absurd (k2 h) (by decide)⟩
   ·obtain ⟨c, k1, k2⟩ := hj (decide (tgt (ins code pc) pc ≥ e))
    exact ⟨c, Evt.pos h0 (Evt.pos h1 (kd _ _ (Evt.pos hd (Evt.bind (Evt.of_eq (fun _ => kt)) (Evt.pos rfl (Evt.neg q1 k1)))))), fun h => ⟨hd, fun _ => ⟨by omega, by have := of_decide_eq_false (k2 h); omega⟩⟩⟩
  ·have hb2 : isBr (ins code pc).1 = false := by simpa using hb
   have kt : isa_Target.f (ins code pc).1 (ins code pc).2.1 (ins code pc).2.2.1 (ins code pc).2.2.2.1 (ins code pc).2.2.2.2.1 pc = some (0, false) := by rw [tgt_f, hb2]; rfl
   obtain ⟨c, k1, k2⟩ := hj false
   exact ⟨c, Evt.pos h0 (Evt.pos h1 (kd _ _ (Evt.pos hd (Evt.bind (Evt.of_eq (fun _ => kt)) (Evt.neg (by decide) k1))))), fun h => ⟨hd, fun h => absurd h hb⟩⟩
 ·exact ⟨3, Evt.pos h0 (Evt.pos h1 (kd _ _ (Evt.neg hd (Evt.pure _)))), fun h => by cases h⟩
/-- Of one task's part: what l4 makes sure of, from pc on. -/
theorem chk_l4 (hw : Words code) (hc : code.length ≤ 4611686018427387904) (hn : ents.length ≤ 4611686018427387904) (i : Nat) (nm : ByteArray) (s e d : Int) (hs : 0 ≤ s) (he : e ≤ code.length) (r3 : Int) (h3 : Evt (fun k => linker_Check.l3 k ents (ents.length : Int) ((i + 1 : Nat) : Int) code ents sh lk) r3) (hi : i < ents.length) : ∀ (m : Nat) (pc : Int), s ≤ pc → pc ≤ e → (e - pc).toNat = m →
  ∃ c, Evt (fun k => linker_Check.l4 k pc ents (ents.length : Int) (i : Int) code ents sh lk nm s e d) c ∧ (c = 0 → r3 = 0 ∧ ∀ q, pc ≤ q → q < e → (ins code q).2.2.2.2.2 = 0 ∧ (isBr (ins code q).1 = true → s ≤ tgt (ins code q) q ∧ tgt (ins code q) q < e)) := by
 intro m
 induction m with
 | zero =>
  intro pc h0 h1 hm
  refine ⟨r3, Evt.step (fun k => by rw [linker_Check.l4]) (Evt.neg (by omega) ?_), fun h => ⟨h, fun q hq1 hq2 => by omega⟩⟩
  rw [evt_succ (n := i + 1) (by omega) (by omega)]
  exact h3
 | succ m ih =>
  intro pc h0 h1 hm
  obtain ⟨c, k1, k2⟩ := word_evt code ents sh lk hw hc hn nm s e d pc (by omega) (by omega)
  by_cases hc0 : c = 0
  ·have hw1 : wrap64 (pc + 1) = pc + 1 := wrap_id (by omega) (by omega)
   obtain ⟨c2, q1, q2⟩ := ih (pc + 1) (by omega) (by omega) (by omega)
   refine ⟨c2, Evt.step (fun k => by rw [linker_Check.l4]) (Evt.pos (by omega) (Evt.bind k1 (Evt.pos hc0 ?_))), fun h => ⟨(q2 h).1, fun q hq1 hq2 => ?_⟩⟩
   ·rw [hw1]; exact q1
   ·by_cases hq : q = pc
    ·subst hq; exact k2 hc0
    ·exact (q2 h).2 q (by omega) hq2
  ·exact ⟨c, Evt.step (fun k => by rw [linker_Check.l4]) (Evt.pos (by omega) (Evt.bind k1 (Evt.neg hc0 (Evt.pure _)))), fun h => absurd h hc0⟩
theorem chk_l3 (hw : Words code) (hc : code.length ≤ 4611686018427387904) (hn : ents.length ≤ 4611686018427387904) (hp : ∀ j (h : j < ents.length), 0 ≤ (ents[j]).f1 ∧ (ents[j]).f1 < (ents[j]).f2 ∧ (ents[j]).f2 ≤ code.length) : ∀ m i, i + m = ents.length →
  ∃ c, Evt (fun k => linker_Check.l3 k ents (ents.length : Int) (i : Int) code ents sh lk) c ∧ (c = 0 → ∀ j (h : j < ents.length), i ≤ j → Part code (ents[j]).f1 (ents[j]).f2) := by
 intro m
 induction m with
 | zero =>
  intro i hi
  exact ⟨0, Evt.step (fun k => by rw [linker_Check.l3]) (Evt.neg (by omega) (Evt.pure _)), fun _ j hj hij => by omega⟩
 | succ m ih =>
  intro i hi
  have hlt : i < ents.length := by omega
  obtain ⟨r3, h3, h4⟩ := ih (i + 1) (by omega)
  obtain ⟨p1, p2, p3⟩ := hp i hlt
  obtain ⟨c, k1, k2⟩ := chk_l4 code ents sh lk hw hc hn i (ents[i]).f0 (ents[i]).f1 (ents[i]).f2 (ents[i]).f3 p1 p3 r3 h3 hlt _ (ents[i]).f1 (Int.le_refl _) (by omega) rfl
  refine ⟨c, Evt.step (fun k => by rw [linker_Check.l3]) (Evt.pos (by omega) (Evt.pos (by omega) (Evt.pos (by omega) ?_))), fun h j hj hij => ?_⟩
  ·rw [rd39 _ _ hlt]; exact k1
  ·by_cases e : j = i
   ·subst e
    exact ⟨p1, p2, p3, fun pc a b => ((k2 h).2 pc a b).1, fun pc a b => ((k2 h).2 pc a b).2⟩
   ·exact h4 (k2 h).1 j hj (by omega)
theorem chk_l2 (hw : Words code) (hc : code.length ≤ 4611686018427387904) (hn : ents.length ≤ 4611686018427387904) : ∀ m i (at_ : Int), i + m = ents.length → 0 ≤ at_ → (∀ j (h : j < ents.length), j < i → 0 ≤ (ents[j]).f1 ∧ (ents[j]).f1 < (ents[j]).f2 ∧ (ents[j]).f2 ≤ at_) → (∀ pc : Int, 0 ≤ pc → pc < at_ → ∃ j, ∃ h : j < ents.length, (ents[j]).f1 ≤ pc ∧ pc < (ents[j]).f2) →
  ∃ c, Evt (fun k => linker_Check.l2 k at_ ents (ents.length : Int) (i : Int) code ents sh lk) c ∧ (c = 0 → AllPart code ents) := by
 intro m
 induction m with
 | zero =>
  intro i at_ hi h0 hp hcov
  by_cases he : at_ = (code.length : Int)
  ·obtain ⟨c, k1, k2⟩ := chk_l3 code ents sh lk hw hc hn (fun j hj => by have := hp j hj (by omega); omega) ents.length 0 (by omega)
   have k1 : Evt (fun k => linker_Check.l3 k ents (ents.length : Int) 0 code ents sh lk) c := k1
   exact ⟨c, Evt.step (fun k => by rw [linker_Check.l2]) (Evt.neg (by omega) (Evt.pos he k1)), fun h => ⟨fun j hj => k2 h j hj (Nat.zero_le _), fun pc p0 p1 => by
    obtain ⟨j, hj, q1, q2⟩ := hcov pc p0 (by omega)
    exact (k2 h j hj (Nat.zero_le _)).dec pc q1 q2⟩⟩
  ·exact ⟨14, Evt.step (fun k => by rw [linker_Check.l2]) (Evt.neg (by omega) (Evt.neg he (Evt.pure _))), fun h => by cases h⟩
 | succ m ih =>
  intro i at_ hi h0 hp hcov
  have hlt : i < ents.length := by omega
  by_cases q1 : (ents[i]).f1 = at_
  ·by_cases q2 : (ents[i]).f2 ≤ (ents[i]).f1
   ·refine ⟨14, Evt.step (fun k => by rw [linker_Check.l2]) (Evt.pos (by omega) (Evt.pos (by omega) (Evt.pos (by omega) (Evt.pos (by rw [rd39 _ _ hlt]; exact q1) (Evt.pos (by rw [rd39 _ _ hlt]; exact q2) (Evt.pure _)))))), fun h => by cases h⟩
   ·obtain ⟨c, k1, k2⟩ := ih (i + 1) (ents[i]).f2 (by omega) (by omega) (fun j hj hji => by
     by_cases e : j = i
     ·subst e; omega
     ·have := hp j hj (by omega); omega) (fun pc p0 p1 => by
     by_cases q : pc < at_
     ·exact hcov pc p0 q
     ·exact ⟨i, hlt, by omega, by omega⟩)
    refine ⟨c, Evt.step (fun k => by rw [linker_Check.l2]) (Evt.pos (by omega) (Evt.pos (by omega) (Evt.pos (by omega) (Evt.pos (by rw [rd39 _ _ hlt]; exact q1) (Evt.neg (by rw [rd39 _ _ hlt]; exact q2) ?_))))), k2⟩
    rw [rd39 _ _ hlt, evt_succ hlt (by omega)]
    exact k1
  ·refine ⟨14, Evt.step (fun k => by rw [linker_Check.l2]) (Evt.pos (by omega) (Evt.pos (by omega) (Evt.pos (by omega) (Evt.neg (by rw [rd39 _ _ hlt]; exact q1) (Evt.pure _))))), fun h => by cases h⟩
theorem chk_l1 (hw : Words code) (hc : code.length ≤ 4611686018427387904) (hn : ents.length ≤ 4611686018427387904) : ∀ m i, i + m = ents.length → ∃ c, Evt (fun k => linker_Check.l1 k ents (ents.length : Int) (i : Int) code ents sh lk) c ∧ (c = 0 → AllPart code ents) := by
 intro m
 induction m with
 | zero =>
  intro i hi
  obtain ⟨c, k1, k2⟩ := chk_l2 code ents sh lk hw hc hn ents.length 0 0 (by omega) (by omega) (fun j hj h => by omega) (fun pc p0 p1 => by omega)
  have k1 : Evt (fun k => linker_Check.l2 k 0 ents (ents.length : Int) 0 code ents sh lk) c := k1
  exact ⟨c, Evt.step (fun k => by rw [linker_Check.l1]) (Evt.neg (by omega) k1), k2⟩
 | succ m ih =>
  intro i hi
  have hlt : i < ents.length := by omega
  obtain ⟨b, hb⟩ := named_f (rd_T39 ents (i : Int)).f0
  cases b with
  | true =>
   obtain ⟨c, k1, k2⟩ := ih (i + 1) (by omega)
   refine ⟨c, Evt.step (fun k => by rw [linker_Check.l1]) (Evt.pos (by omega) (Evt.pos (by omega) (Evt.pos (by omega) (Evt.bind (Evt.of_eq (fun _ => hb)) (Evt.pos rfl ?_))))), k2⟩
   rw [evt_succ hlt (by omega)]
   exact k1
  | false => exact ⟨6, Evt.step (fun k => by rw [linker_Check.l1]) (Evt.pos (by omega) (Evt.pos (by omega) (Evt.pos (by omega) (Evt.bind (Evt.of_eq (fun _ => hb)) (Evt.neg (c := false = true) (by decide) (Evt.pure _)))))), fun h => by cases h⟩
theorem chk_l0 (hw : Words code) (hc : code.length ≤ 4611686018427387904) (hn : ents.length ≤ 4611686018427387904) : ∀ m i (x : Bool), i + m = ents.length → ∃ c, Evt (fun k => linker_Check.l0 k x ents (ents.length : Int) (i : Int) code ents sh lk) c ∧ (c = 0 → x = true ∧ AllPart code ents) := by
 intro m
 induction m with
 | zero =>
  intro i x hi
  cases x with
  | true =>
   obtain ⟨c, k1, k2⟩ := chk_l1 code ents sh lk hw hc hn ents.length 0 (by omega)
   have k1 : Evt (fun k => linker_Check.l1 k ents (ents.length : Int) 0 code ents sh lk) c := k1
   exact ⟨c, Evt.step (fun k => by rw [linker_Check.l0]) (Evt.neg (by omega) (Evt.pos rfl k1)), fun h => ⟨rfl, k2 h⟩⟩
  | false => exact ⟨2, Evt.step (fun k => by rw [linker_Check.l0]) (Evt.neg (by omega) (Evt.neg (by decide) (Evt.pure _))), fun h => by cases h⟩
 | succ m ih =>
  intro i x hi
  have hlt : i < ents.length := by omega
  cases x with
  | true =>
   obtain ⟨b, hb⟩ := in_f (rd_T39 ents (i : Int)).f3 512
   obtain ⟨c, k1, k2⟩ := ih (i + 1) b (by omega)
   refine ⟨c, Evt.step (fun k => by rw [linker_Check.l0]) (Evt.pos (by omega) (Evt.pos (by omega) (Evt.pos (by omega) (Evt.pos rfl (Evt.bind (Evt.of_eq (fun _ => hb)) ?_))))), fun h => ⟨rfl, (k2 h).2⟩⟩
   rw [evt_succ hlt (by omega)]
   exact k1
  | false =>
   obtain ⟨c, k1, k2⟩ := ih (i + 1) false (by omega)
   refine ⟨c, Evt.step (fun k => by rw [linker_Check.l0]) (Evt.pos (by omega) (Evt.pos (by omega) (Evt.pos (by omega) (Evt.neg (by decide) ?_)))), k2⟩
   rw [evt_succ hlt (by omega)]
   exact k1
/-- The check ends; where it answers 0, every task's part is as it should. -/
theorem chk_all (hw : Words code) (hc : code.length ≤ 4611686018427387904) (hn : ents.length ≤ 4611686018427387904) : ∃ c, Evt (fun k => linker_Check.f k code ents sh lk) c ∧ (c = 0 → code.length ≤ 4096 ∧ AllPart code ents) := by
 have e0 : (fun k => linker_Check.f k code ents sh lk) = fun k => if (code.length : Int) ≤ 4096 then (if (ents.length : Int) ≤ 8 then ((linker_in.f sh 64).bind fun t139 => (if t139 = true then ((linker_in.f lk 4).bind fun t140 => (linker_Check.j0 k t140 code ents sh lk)) else (linker_Check.j0 k false code ents sh lk))) else (linker_Check.j0 k false code ents sh lk)) else (linker_Check.j0 k false code ents sh lk) := rfl
 have hj : ∀ x : Bool, ∃ c, Evt (fun k => linker_Check.j0 k x code ents sh lk) c ∧ (c = 0 → x = true ∧ AllPart code ents) := by
  intro x
  obtain ⟨c, k1, k2⟩ := chk_l0 code ents sh lk hw hc hn ents.length 0 x (by omega)
  have k1 : Evt (fun k => linker_Check.l0 k x ents (ents.length : Int) 0 code ents sh lk) c := k1
  exact ⟨c, Evt.step (fun k => by rw [linker_Check.j0]) k1, k2⟩
 rw [e0]
 by_cases c1 : (code.length : Int) ≤ 4096
 ·by_cases c2 : (ents.length : Int) ≤ 8
  ·obtain ⟨a, ha⟩ := in_f sh 64
   obtain ⟨b, hb⟩ := in_f lk 4
   cases a with
   | true =>
    obtain ⟨c, k1, k2⟩ := hj b
    exact ⟨c, Evt.pos c1 (Evt.pos c2 (Evt.bind (Evt.of_eq (fun _ => ha)) (Evt.pos rfl (Evt.bind (Evt.of_eq (fun _ => hb)) k1)))), fun h => ⟨by omega, (k2 h).2⟩⟩
   | false =>
    obtain ⟨c, k1, k2⟩ := hj false
    exact ⟨c, Evt.pos c1 (Evt.pos c2 (Evt.bind (Evt.of_eq (fun _ => ha)) (Evt.neg (c := false = true) (by decide) k1))), fun h => absurd (k2 h).1 (by decide)⟩
  ·obtain ⟨c, k1, k2⟩ := hj false
   exact ⟨c, Evt.pos c1 (Evt.neg c2 k1), fun h => absurd (k2 h).1 (by decide)⟩
 ·obtain ⟨c, k1, k2⟩ := hj false
  exact ⟨c, Evt.neg c1 k1, fun h => absurd (k2 h).1 (by decide)⟩
end
end Go.Proofs.Ytihmfdndiicjgaa.PB
