/- The reference's instructions and what it reaches. -/
import Derived.Test.YtihmfdndiicjgaaPDx
import Derived.Test.YtihmfdndiicjgaaPBx
import Derived.Test.YtihmfdndiicjgaaCx9
import Derived.Test.YtihmfdndiicjgaaCx10
import Derived.Test.YtihmfdndiicjgaaCx14
import Derived.Test.YtihmfdndiicjgaaCx13
set_option linter.unusedVariables false
set_option linter.unusedSimpArgs false
namespace Go.Proofs.Ytihmfdndiicjgaa.PE
open Go.RowKit Go.Proofs.Ytihmfdndiicjgaa.C Go.Proofs.Ytihmfdndiicjgaa.PB Go.Proofs.Ytihmfdndiicjgaa.PD Go.Proofs.HEvt Go.Proofs.YtihmfdndiicjgaaW.PrintWords
theorem rd53 (xs : List S53) (i : Nat) (h : i < xs.length) : rd_T53 xs (i : Int) = xs[i] := by unfold rd_T53; simp [List.getD_eq_getElem?_getD, h]
/-- The reference's instructions tell the same opcodes and immediate operands. -/
def Tells (code : List Int) (L : List S53) : Prop := ∀ i (h : i < L.length), (L[i]).f0 = (ins code (i : Int)).1 ∧ (L[i]).f4 = (ins code (i : Int)).2.2.2.2.1
theorem code_l0 (code : List Int) (ents : List S39) (sh lk : Int) (hw : Words code) (hc : code.length ≤ 4096) (hall : ∀ pc : Int, 0 ≤ pc → pc < code.length → (ins code pc).2.2.2.2.2 = 0) : ∀ m i (L : List S53), i + m = code.length → L.length = i → Tells code L →
  ∃ L', L'.length = code.length ∧ Tells code L' ∧ Evt (fun k => ontimeref24_Code.l0 k L (i : Int) code ents sh lk) L' := by
 intro m
 induction m with
 | zero =>
  intro i L hi hl ht
  refine ⟨L, by omega, ht, ?_⟩
  refine Evt.step (fun k => by rw [ontimeref24_Code.l0]) ?_
  exact Evt.neg (by omega) (Evt.pure _)
 | succ m ih =>
  intro i L hi hl ht
  have hlt : i < code.length := by omega
  have hx := hw.rd (pc := (i : Int)) (by omega) (by omega)
  obtain ⟨n, G⟩ := good (rd code (i : Int)) hx.1 hx.2 (hall i (by omega) (by omega))
  have hd := dec_evt G hx.1 hx.2
  have hI : rI n (rd code (i : Int)) = (ins code (i : Int)).2.2.2.2.1 := G.gI.symm
  have hO : (n : Int) = (ins code (i : Int)).1 := G.g1.symm
  obtain ⟨L', k1, k2, k3⟩ := ih (i + 1) (L ++ [⟨(n : Int), fA (rd code (i : Int)), rB n (rd code (i : Int)), rC n (rd code (i : Int)), rI n (rd code (i : Int))⟩]) (by omega) (by simp [hl]) (by
   intro j hj
   by_cases q : j < L.length
   ·rw [List.getElem_append_left q]
    exact ht j q
   ·have : j = L.length := by simp at hj; omega
    subst this
    rw [List.getElem_append_right (Nat.le_refl _)]
    simp only [Nat.sub_self, List.getElem_cons_zero]
    rw [hl]
    exact ⟨hO, hI⟩)
  refine ⟨L', k1, k2, ?_⟩
  refine Evt.step (fun k => by rw [ontimeref24_Code.l0]) ?_
  refine Evt.pos (by omega) (Evt.pos (by omega) (Evt.bind hd (Evt.pos (by omega) ?_)))
  rw [evt_succ hlt (by omega)]
  exact k3
theorem code_evt (code : List Int) (ents : List S39) (sh lk : Int) (hw : Words code) (hc : code.length ≤ 4096) (hall : ∀ pc : Int, 0 ≤ pc → pc < code.length → (ins code pc).2.2.2.2.2 = 0) :
  ∃ L, L.length = code.length ∧ Tells code L ∧ Evt (fun k => ontimeref24_Code.f k code ents sh lk) L := by
 obtain ⟨L, h1, h2, h3⟩ := code_l0 code ents sh lk hw hc hall code.length 0 [] (by omega) rfl (fun i h => absurd h (by simp))
 exact ⟨L, h1, h2, h3⟩
section
variable {code : List Int} {L : List S53}
theorem after_f (hl : L.length = code.length) (ht : Tells code L) (pc : Int) (h0 : 0 ≤ pc) (h1 : pc < code.length) : ontimeref24_after.f (rd_T53 L pc).f0 (rd_T53 L pc).f1 (rd_T53 L pc).f2 (rd_T53 L pc).f3 (rd_T53 L pc).f4 pc = some (sc code pc) := by
 obtain ⟨i, rfl⟩ := Int.eq_ofNat_of_zero_le h0
 have hi : i < L.length := by omega
 rw [rd53 _ _ hi]
 obtain ⟨e0, e4⟩ := ht i hi
 unfold ontimeref24_after.f sc tgt
 rw [e0, e4]
 by_cases a : (ins code (i : Int)).1 = 1
 ·rw [if_pos a, if_pos a]
 rw [if_neg a, if_neg a]
 by_cases b : (ins code (i : Int)).1 = 24
 ·rw [if_pos b, if_pos b]
 rw [if_neg b, if_neg b]
 by_cases c : (ins code (i : Int)).1 = 22
 ·rw [if_pos c, if_pos (Or.inl c)]
 rw [if_neg c]
 by_cases d : (ins code (i : Int)).1 = 23
 ·rw [if_pos d, if_pos (Or.inr d)]
 rw [if_neg d, if_neg (by omega)]
theorem op_f (hl : L.length = code.length) (ht : Tells code L) (pc : Int) (h0 : 0 ≤ pc) (h1 : pc < code.length) : (rd_T53 L pc).f0 = (ins code pc).1 := by
 obtain ⟨i, rfl⟩ := Int.eq_ofNat_of_zero_le h0
 have hi : i < L.length := by omega
 rw [rd53 _ _ hi]
 exact (ht i hi).1
/-- The marks while the reference looks. -/
structure YInv (code : List Int) (s e : Int) (Y : List Bool) : Prop where
 len : Y.length = code.length
 st : rdOf false Y s = true
 sound : ∀ pc, s ≤ pc → pc < e → rdOf false Y pc = true → Rch code s e pc
def unY (s e : Int) (Y : List Bool) : Nat := cnt s e (fun pc => rdOf false Y pc)
theorem rdB_set (Y : List Bool) (t pc : Int) (h0 : 0 ≤ t) (h1 : t < Y.length) (p0 : 0 ≤ pc) : rdOf false (Y.set t.toNat true) pc = if pc = t then true else rdOf false Y pc := by
 unfold rdOf
 rw [List.getD_eq_getElem?_getD, List.getD_eq_getElem?_getD]
 by_cases q : pc = t
 ·subst q
  rw [if_pos rfl, List.getElem?_set_self (by omega)]
  rfl
 ·rw [if_neg q, List.getElem?_set_ne (by omega)]
/-- One instruction's successors: what is new is marked. -/
theorem rl2 {s e : Int} (hc : code.length ≤ 4096) (P : Part code s e) (pc : Int) (h0 : s ≤ pc) (h1 : pc < e) (hr : Rch code s e pc) : ∀ m j (Y : List Bool) (ag : Bool), j + m = (sc code pc).length → YInv code s e Y →
  ∃ Y' ag', YInv code s e Y' ∧ (∀ x, s ≤ x → x < e → rdOf false Y x = true → rdOf false Y' x = true) ∧ (∀ t ∈ (sc code pc).drop j, s ≤ t → t < e → rdOf false Y' t = true) ∧ ((ag' = ag ∧ Y' = Y) ∨ (ag' = true ∧ unY s e Y' < unY s e Y)) ∧
   ∀ r : List Bool, Evt (fun k => ontimeref24_Reach.l1 k L s e Y' ag' (pc + 1)) r → Evt (fun k => ontimeref24_Reach.l2 k L s e Y ag pc (sc code pc) (j : Int)) r := by
 have hs0 := P.s0
 have hel := P.el
 intro m
 induction m with
 | zero =>
  intro j Y ag hj hY
  refine ⟨Y, ag, hY, fun _ _ _ h => h, fun t ht => ?_, .inl ⟨rfl, rfl⟩, fun r hr' => ?_⟩
  ·rw [List.drop_of_length_le (by omega)] at ht; cases ht
  ·refine Evt.step (fun k => by rw [ontimeref24_Reach.l2]) ?_
   refine Evt.neg (by omega) ?_
   rw [wrap_id (by omega) (by omega)]
   exact hr'
 | succ m ih =>
  intro j Y ag hj hY
  have hlt : j < (sc code pc).length := by omega
  have hwj : wrap64 ((j : Int) + 1) = ((j + 1 : Nat) : Int) := evt_succ hlt (by have := sc_len code pc; omega)
  have hd : (sc code pc).drop j = (sc code pc)[j] :: (sc code pc).drop (j + 1) := List.drop_eq_getElem_cons hlt
  have hmem : (sc code pc)[j] ∈ sc code pc := List.getElem_mem hlt
  have head : ∀ (A : Nat → Option (List Bool)) (r : List Bool), Evt (fun k => if rd (sc code pc) (j : Int) ≥ s then (if rd (sc code pc) (j : Int) < e then (if 0 ≤ rd (sc code pc) (j : Int) then (if rd (sc code pc) (j : Int) < (Y.length : Int) then (if rdOf false Y (rd (sc code pc) (j : Int)) = true then ontimeref24_Reach.l2 k L s e Y ag pc (sc code pc) (wrap64 ((j : Int) + 1)) else ontimeref24_Reach.l2 k L s e (Y.set (rd (sc code pc) (j : Int)).toNat true) true pc (sc code pc) (wrap64 ((j : Int) + 1))) else none) else none) else ontimeref24_Reach.l2 k L s e Y ag pc (sc code pc) (wrap64 ((j : Int) + 1))) else ontimeref24_Reach.l2 k L s e Y ag pc (sc code pc) (wrap64 ((j : Int) + 1))) r →
    Evt (fun k => ontimeref24_Reach.l2 k L s e Y ag pc (sc code pc) (j : Int)) r := by
   intro _ r h
   refine Evt.step (fun k => by rw [ontimeref24_Reach.l2]) ?_
   exact Evt.pos (by omega) (Evt.pos (by omega) h)
  have hrd : rd (sc code pc) (j : Int) = (sc code pc)[j] := rd_nat _ _ hlt
  rw [hrd, hwj] at head
  by_cases q1 : (sc code pc)[j] ≥ s
  ·by_cases q2 : (sc code pc)[j] < e
   ·by_cases q3 : rdOf false Y (sc code pc)[j] = true
    ·obtain ⟨Y', ag', k1, k2, k3, k4, k5⟩ := ih (j + 1) Y ag (by omega) hY
     refine ⟨Y', ag', k1, k2, fun t ht a b => ?_, k4, fun r hr' => ?_⟩
     ·rw [hd] at ht
      rcases List.mem_cons.1 ht with rfl | ht
      ·exact k2 _ a b q3
      ·exact k3 t ht a b
     ·exact head (fun _ => none) r (Evt.pos q1 (Evt.pos q2 (Evt.pos (by omega) (Evt.pos (by rw [hY.len]; omega) (Evt.pos q3 (k5 r hr'))))))
    ·have hYl := hY.len
     have hset : ∀ x, s ≤ x → rdOf false (Y.set (sc code pc)[j].toNat true) x = if x = (sc code pc)[j] then true else rdOf false Y x := fun x hx => rdB_set Y _ x (by omega) (by omega) (by omega)
     have hY2 : YInv code s e (Y.set (sc code pc)[j].toNat true) := by
      refine ⟨by rw [List.length_set]; exact hYl, ?_, fun x a b hx => ?_⟩
      ·rw [hset s (Int.le_refl _)]
       split
       ·rfl
       ·exact hY.st
      ·rw [hset x a] at hx
       by_cases q : x = (sc code pc)[j]
       ·rw [q]; exact .next hr h0 h1 hmem
       ·rw [if_neg q] at hx; exact hY.sound x a b hx
     obtain ⟨Y', ag', k1, k2, k3, k4, k5⟩ := ih (j + 1) (Y.set (sc code pc)[j].toNat true) true (by omega) hY2
     have hun : unY s e (Y.set (sc code pc)[j].toNat true) < unY s e Y := by
      have h3 : (fun x => rdOf false Y x) (sc code pc)[j] = false := by simpa using q3
      have := cnt_upd (s := s) (e := e) (r := fun x => rdOf false Y x) q1 q2 h3
      have e1 : unY s e (Y.set (sc code pc)[j].toNat true) ≤ cnt s e (cfg_explore.upd (fun x => rdOf false Y x) (sc code pc)[j]) := by
       refine (PB.filter_lt _ _ _ (fun i hi h => ?_)).1
       have hx := hset (s + (i : Int)) (by omega)
       have h' : (!rdOf false (Y.set (sc code pc)[j].toNat true) (s + (i : Int))) = true := h
       rw [hx] at h'
       exact h'
      unfold unY at *
      omega
     refine ⟨Y', ag', k1, fun x a b hx => k2 x a b (by
      rw [hset x a]
      split
      ·rfl
      ·exact hx), fun t ht a b => ?_, ?_, fun r hr' => ?_⟩
     ·rw [hd] at ht
      rcases List.mem_cons.1 ht with rfl | ht
      ·exact k2 _ a b (by rw [hset _ a, if_pos rfl])
      ·exact k3 t ht a b
     ·rcases k4 with ⟨c1, c2⟩ | ⟨c1, c2⟩
      ·exact .inr ⟨c1, by rw [c2]; exact hun⟩
      ·exact .inr ⟨c1, by omega⟩
     ·exact head (fun _ => none) r (Evt.pos q1 (Evt.pos q2 (Evt.pos (by omega) (Evt.pos (by rw [hY.len]; omega) (Evt.neg q3 (k5 r hr'))))))
   ·obtain ⟨Y', ag', k1, k2, k3, k4, k5⟩ := ih (j + 1) Y ag (by omega) hY
    refine ⟨Y', ag', k1, k2, fun t ht a b => ?_, k4, fun r hr' => ?_⟩
    ·rw [hd] at ht
     rcases List.mem_cons.1 ht with rfl | ht
     ·exact absurd b q2
     ·exact k3 t ht a b
    ·exact head (fun _ => none) r (Evt.pos q1 (Evt.neg q2 (k5 r hr')))
  ·obtain ⟨Y', ag', k1, k2, k3, k4, k5⟩ := ih (j + 1) Y ag (by omega) hY
   refine ⟨Y', ag', k1, k2, fun t ht a b => ?_, k4, fun r hr' => ?_⟩
   ·rw [hd] at ht
    rcases List.mem_cons.1 ht with rfl | ht
    ·exact absurd a q1
    ·exact k3 t ht a b
   ·exact head (fun _ => none) r (Evt.neg q1 (k5 r hr'))
/-- One pass. -/
theorem rl1 {s e : Int} (hc : code.length ≤ 4096) (P : Part code s e) (hl : L.length = code.length) (ht : Tells code L) : ∀ (d : Nat) (pc : Int) (Y : List Bool) (ag : Bool), s ≤ pc → pc + (d : Int) = e → YInv code s e Y →
  ∃ Y' ag', YInv code s e Y' ∧ (∀ x, s ≤ x → x < e → rdOf false Y x = true → rdOf false Y' x = true) ∧ (Y' = Y → ∀ x, pc ≤ x → x < e → rdOf false Y x = true → ∀ t ∈ sc code x, s ≤ t → t < e → rdOf false Y t = true) ∧ ((ag' = ag ∧ Y' = Y) ∨ (ag' = true ∧ unY s e Y' < unY s e Y)) ∧
   ∀ r : List Bool, Evt (fun k => ontimeref24_Reach.l0 k L s e Y' ag') r → Evt (fun k => ontimeref24_Reach.l1 k L s e Y ag pc) r := by
 have hs0 := P.s0
 have hel := P.el
 intro d
 induction d with
 | zero =>
  intro pc Y ag h0 h1 hY
  refine ⟨Y, ag, hY, fun _ _ _ h => h, fun _ x a b => by omega, .inl ⟨rfl, rfl⟩, fun r hr => ?_⟩
  refine Evt.step (fun k => by rw [ontimeref24_Reach.l1]) ?_
  exact Evt.neg (by omega) hr
 | succ d ih =>
  intro pc Y ag h0 h1 hY
  have hYl := hY.len
  have hw1 : wrap64 (pc + 1) = pc + 1 := wrap_id (by omega) (by omega)
  by_cases q : rdOf false Y pc = true
  ·have hr := hY.sound pc h0 (by omega) q
   obtain ⟨Y1, ag1, a1, a2, a3, a4, a5⟩ := rl2 (L := L) hc P pc h0 (by omega) hr (sc code pc).length 0 Y ag (by omega) hY
   obtain ⟨Y2, ag2, b1, b2, b3, b4, b5⟩ := ih (pc + 1) Y1 ag1 (by omega) (by omega) a1
   refine ⟨Y2, ag2, b1, fun x u v hx => b2 x u v (a2 x u v hx), fun he x u v hx t ht' p1 p2 => ?_, ?_, fun r hr' => ?_⟩
   ·have hun : Y1 = Y := by
     rcases a4 with ⟨_, c⟩ | ⟨_, c⟩
     ·exact c
     ·exfalso
      rcases b4 with ⟨_, c2⟩ | ⟨_, c2⟩
      ·rw [← c2, he] at c; omega
      ·rw [he] at c2; omega
    subst hun
    by_cases q2 : x = pc
    ·subst q2
     exact a3 t (by rw [List.drop_zero]; exact ht') p1 p2
    ·exact b3 he x (by omega) v hx t ht' p1 p2
   ·rcases a4 with ⟨c1, c2⟩ | ⟨c1, c2⟩
    ·rcases b4 with ⟨d1, d2⟩ | ⟨d1, d2⟩
     ·exact .inl ⟨d1.trans c1, d2.trans c2⟩
     ·exact .inr ⟨d1, by rw [← c2]; exact d2⟩
    ·rcases b4 with ⟨d1, d2⟩ | ⟨d1, d2⟩
     ·exact .inr ⟨d1.trans c1, by rw [d2]; exact c2⟩
     ·exact .inr ⟨d1, by omega⟩
   ·refine Evt.step (fun k => by rw [ontimeref24_Reach.l1]) ?_
    exact Evt.pos (by omega) (Evt.pos (by omega) (Evt.pos (by omega) (Evt.pos q (Evt.pos (by omega) (Evt.bind (Evt.of_eq (fun _ => after_f hl ht pc (by omega) (by omega))) (a5 r (b5 r hr')))))))
  ·obtain ⟨Y2, ag2, b1, b2, b3, b4, b5⟩ := ih (pc + 1) Y ag (by omega) (by omega) hY
   refine ⟨Y2, ag2, b1, b2, fun he x u v hx => ?_, b4, fun r hr' => ?_⟩
   ·by_cases q2 : x = pc
    ·subst q2; exact absurd hx q
    ·exact b3 he x (by omega) v hx
   ·refine Evt.step (fun k => by rw [ontimeref24_Reach.l1]) ?_
    refine Evt.pos (by omega) (Evt.pos (by omega) (Evt.pos (by omega) (Evt.neg q ?_)))
    rw [hw1]
    exact b5 r hr'
/-- All passes. -/
theorem rl0 {s e : Int} (hc : code.length ≤ 4096) (P : Part code s e) (hl : L.length = code.length) (ht : Tells code L) : ∀ (m : Nat) (Y : List Bool), YInv code s e Y → unY s e Y ≤ m →
  ∃ Y', YInv code s e Y' ∧ (∀ x, s ≤ x → x < e → rdOf false Y' x = true → ∀ t ∈ sc code x, s ≤ t → t < e → rdOf false Y' t = true) ∧ Evt (fun k => ontimeref24_Reach.l0 k L s e Y true) Y' := by
 have hse := P.se
 intro m
 induction m with
 | zero =>
  intro Y hY hm
  obtain ⟨Y1, ag1, a1, a2, a3, a4, a5⟩ := rl1 hc P hl ht (e - s).toNat s Y false (Int.le_refl _) (by omega) hY
  have hq : ag1 = false ∧ Y1 = Y := by
   rcases a4 with c | ⟨_, c⟩
   ·exact c
   ·omega
  obtain ⟨rfl, rfl⟩ := hq
  refine ⟨Y1, a1, a3 rfl, ?_⟩
  refine Evt.step (fun k => by rw [ontimeref24_Reach.l0]) (Evt.pos rfl (a5 _ ?_))
  exact Evt.step (fun k => by rw [ontimeref24_Reach.l0]) (Evt.neg (by decide) (Evt.pure _))
 | succ m ih =>
  intro Y hY hm
  obtain ⟨Y1, ag1, a1, a2, a3, a4, a5⟩ := rl1 hc P hl ht (e - s).toNat s Y false (Int.le_refl _) (by omega) hY
  rcases a4 with ⟨rfl, rfl⟩ | ⟨rfl, c⟩
  ·refine ⟨Y1, a1, a3 rfl, ?_⟩
   refine Evt.step (fun k => by rw [ontimeref24_Reach.l0]) (Evt.pos rfl (a5 _ ?_))
   exact Evt.step (fun k => by rw [ontimeref24_Reach.l0]) (Evt.neg (by decide) (Evt.pure _))
  ·obtain ⟨Y', b1, b2, b3⟩ := ih Y1 a1 (by omega)
   exact ⟨Y', b1, b2, Evt.step (fun k => by rw [ontimeref24_Reach.l0]) (Evt.pos rfl (a5 _ b3))⟩
/-- What the reference reaches is what can be reached. -/
theorem reachY {s e : Int} (hc : code.length ≤ 4096) (P : Part code s e) (hl : L.length = code.length) (ht : Tells code L) :
  ∃ Y, Y.length = code.length ∧ (∀ pc, s ≤ pc → pc < e → rdOf false Y pc = Rf code s e pc) ∧ Evt (fun k => ontimeref24_Reach.f k L s e) Y := by
 have hs0 := P.s0
 have hse := P.se
 have hel := P.el
 have hset : ∀ x, s ≤ x → rdOf false ((List.replicate L.length false).set s.toNat true) x = if x = s then true else rdOf false (List.replicate L.length false) x := fun x hx => rdB_set _ s x hs0 (by simp; omega) (by omega)
 have hrep : ∀ x, rdOf false (List.replicate L.length false) x = false := by
  intro x
  unfold rdOf
  rw [List.getD_eq_getElem?_getD, List.getElem?_replicate]
  split <;> rfl
 have hY : YInv code s e ((List.replicate L.length false).set s.toNat true) := by
  refine ⟨by simp [hl], by rw [hset s (Int.le_refl _), if_pos rfl], fun pc a b h => ?_⟩
  rw [hset pc a, hrep] at h
  by_cases q : pc = s
  ·rw [q]; exact .start
  ·rw [if_neg q] at h; cases h
 obtain ⟨Y, b1, b2, b3⟩ := rl0 hc P hl ht _ _ hY (Nat.le_refl _)
 refine ⟨Y, b1.len, fun pc a b => bool_ext ?_, ?_⟩
 ·rw [Rf_iff]
  constructor
  ·exact fun h => ⟨b1.sound pc a b h, a, b⟩
  ·rintro ⟨h, _⟩
   have all : ∀ y, Rch code s e y → (s ≤ y ∧ y < e) → rdOf false Y y = true := by
    intro y hy
    induction hy with
    | start => exact fun _ => b1.st
    | next h1 h2 h3 h4 ih => exact fun hin => b2 _ h2 h3 (ih ⟨h2, h3⟩) _ h4 hin.1 hin.2
   exact all pc h ⟨a, b⟩
 ·have e0 : (fun k => ontimeref24_Reach.f k L s e) = fun k => if 0 ≤ (L.length : Int) then (if ((L.length : Int) : Int).toNat ≤ 281474976710656 then ((some (List.replicate ((L.length : Int) : Int).toNat false : List Bool)).bind fun y282 => (if 0 ≤ s then (if s < (y282.length : Int) then (ontimeref24_Reach.l0 k L s e (y282.set (s : Int).toNat true) true) else (none)) else (none))) else (none)) else (none) := rfl
  rw [e0]
  refine Evt.pos (by omega) (Evt.pos (by omega) ?_)
  show Evt (fun k => if 0 ≤ s then (if s < ((List.replicate ((L.length : Int) : Int).toNat false).length : Int) then _ else _) else _) Y
  exact Evt.pos hs0 (Evt.pos (by simp; omega) b3)
end
end Go.Proofs.Ytihmfdndiicjgaa.PE
set_option linter.unusedVariables false
set_option linter.unusedSimpArgs false
namespace Go.Proofs.Ytihmfdndiicjgaa.PE
open Go.RowKit Go.Proofs.Ytihmfdndiicjgaa.C Go.Proofs.Ytihmfdndiicjgaa.PB Go.Proofs.Ytihmfdndiicjgaa.PD Go.Proofs.HEvt Go.Proofs.YtihmfdndiicjgaaW.PrintWords
/-! ### where the code leaves its part -/
noncomputable def leaveS (code : List Int) (s e : Int) (R : Int → Bool) : Nat → Int → Int
 | 0, _ => -1
 | d + 1, pc => if R pc = true then (if PB.Leaves code s e pc then pc else leaveS code s e R d (pc + 1)) else leaveS code s e R d (pc + 1)
theorem scan_leave (code : List Int) (s e : Int) (R L : Int → Bool) : ∀ d pc acc, (∀ p, scan code s e R L d pc acc = .inl p → leaveS code s e R d pc = p ∧ pc ≤ p) ∧ (∀ a, scan code s e R L d pc acc = .inr a → leaveS code s e R d pc = -1) := by
 intro d
 induction d with
 | zero => intro pc acc; exact ⟨fun p h => (by unfold scan at h; cases h), fun a _ => rfl⟩
 | succ d ih =>
  intro pc acc
  unfold scan leaveS
  by_cases q : R pc = true
  ·rw [if_pos q, if_pos q]
   by_cases q2 : PB.Leaves code s e pc
   ·rw [if_pos q2, if_pos q2]
    exact ⟨fun p h => (by have := Sum.inl.inj h; subst this; exact ⟨rfl, Int.le_refl _⟩), fun a h => (by cases h)⟩
   ·rw [if_neg q2, if_neg q2]
    obtain ⟨h1, h2⟩ := ih (pc + 1) (addB L acc pc)
    exact ⟨fun p h => ⟨(h1 p h).1, (by have := (h1 p h).2; omega)⟩, h2⟩
  ·rw [if_neg q, if_neg q]
   obtain ⟨h1, h2⟩ := ih (pc + 1) acc
   exact ⟨fun p h => ⟨(h1 p h).1, (by have := (h1 p h).2; omega)⟩, h2⟩
section
variable {code : List Int} {L : List S53} {s e : Int} {Y : List Bool}
theorem lv_l1 (hc : code.length ≤ 4096) (P : Part code s e) (pc : Int) (h0 : s ≤ pc) (h1 : pc < e) : ∀ m j, j + m = (sc code pc).length →
  ((∃ t ∈ (sc code pc).drop j, t < s ∨ t ≥ e) → Evt (fun k => ontimeref24_Leave.l1 k L s e Y pc (sc code pc) (j : Int)) pc) ∧
  (¬ (∃ t ∈ (sc code pc).drop j, t < s ∨ t ≥ e) → ∀ r : Int, Evt (fun k => ontimeref24_Leave.l0 k L s e Y (pc + 1)) r → Evt (fun k => ontimeref24_Leave.l1 k L s e Y pc (sc code pc) (j : Int)) r) := by
 have hs0 := P.s0
 have hel := P.el
 have hsl := sc_len code pc
 intro m
 induction m with
 | zero =>
  intro j hj
  rw [List.drop_of_length_le (by omega)]
  refine ⟨fun hq => (by obtain ⟨t, ht, _⟩ := hq; cases ht), fun _ r hr => ?_⟩
  refine Evt.step (fun k => by rw [ontimeref24_Leave.l1]) ?_
  refine Evt.neg (by omega) ?_
  rw [wrap_id (by omega) (by omega)]
  exact hr
 | succ m ih =>
  intro j hj
  have hlt : j < (sc code pc).length := by omega
  obtain ⟨k1, k2⟩ := ih (j + 1) (by omega)
  rw [List.drop_eq_getElem_cons hlt]
  have head : ∀ r : Int, Evt (fun k => if (sc code pc)[j] < s then some pc else (if (sc code pc)[j] ≥ e then some pc else ontimeref24_Leave.l1 k L s e Y pc (sc code pc) ((j + 1 : Nat) : Int))) r → Evt (fun k => ontimeref24_Leave.l1 k L s e Y pc (sc code pc) (j : Int)) r := by
   intro r h
   refine Evt.step (fun k => by rw [ontimeref24_Leave.l1]) ?_
   refine Evt.pos (by omega) (Evt.pos (by omega) ?_)
   rw [rd_nat _ _ hlt, evt_succ hlt (by omega)]
   exact h
  by_cases q : (sc code pc)[j] < s ∨ (sc code pc)[j] ≥ e
  ·refine ⟨fun _ => head _ ?_, fun h => absurd ⟨_, List.mem_cons_self, q⟩ h⟩
   by_cases q1 : (sc code pc)[j] < s
   ·exact Evt.pos q1 (Evt.pure _)
   ·exact Evt.neg q1 (Evt.pos (by omega) (Evt.pure _))
  ·refine ⟨fun hq => head _ (Evt.neg (by omega) (Evt.neg (by omega) (k1 ?_))), fun h r hr => head _ (Evt.neg (by omega) (Evt.neg (by omega) (k2 (fun hq => ?_) r hr)))⟩
   ·obtain ⟨t, ht, h⟩ := hq
    rcases List.mem_cons.1 ht with rfl | ht
    ·exact absurd h q
    ·exact ⟨t, ht, h⟩
   ·obtain ⟨t, ht, h'⟩ := hq
    exact h ⟨t, List.mem_cons_of_mem _ ht, h'⟩
theorem lv_l0 (hc : code.length ≤ 4096) (P : Part code s e) (hl : L.length = code.length) (ht : Tells code L) (hyl : Y.length = code.length) (hy : ∀ pc, s ≤ pc → pc < e → rdOf false Y pc = Rf code s e pc) : ∀ (d : Nat) (pc : Int), s ≤ pc → pc + (d : Int) = e →
  Evt (fun k => ontimeref24_Leave.l0 k L s e Y pc) (leaveS code s e (Rf code s e) d pc) := by
 have hs0 := P.s0
 have hel := P.el
 intro d
 induction d with
 | zero =>
  intro pc h0 h1
  refine Evt.step (fun k => by rw [ontimeref24_Leave.l0]) ?_
  exact Evt.neg (by omega) (Evt.pure _)
 | succ d ih =>
  intro pc h0 h1
  have hn := ih (pc + 1) (by omega) (by omega)
  have hw1 : wrap64 (pc + 1) = pc + 1 := wrap_id (by omega) (by omega)
  refine Evt.step (fun k => by rw [ontimeref24_Leave.l0]) ?_
  refine Evt.pos (by omega) (Evt.pos (by omega) (Evt.pos (by omega) ?_))
  rw [hy pc h0 (by omega), hw1]
  unfold leaveS
  by_cases q : Rf code s e pc = true
  ·rw [if_pos q]
   refine Evt.pos q (Evt.pos (by omega) (Evt.bind (Evt.of_eq (fun _ => after_f hl ht pc (by omega) (by omega))) ?_))
   obtain ⟨k1, k2⟩ := lv_l1 (L := L) (Y := Y) hc P pc h0 (by omega) (sc code pc).length 0 (by omega)
   rw [List.drop_zero] at k1 k2
   by_cases q2 : PB.Leaves code s e pc
   ·rw [if_pos q2]; exact k1 q2
   ·rw [if_neg q2]; exact k2 q2 _ hn
  ·rw [if_neg q]
   exact Evt.neg q hn
theorem leave_evt (hc : code.length ≤ 4096) (P : Part code s e) (hl : L.length = code.length) (ht : Tells code L) : Evt (fun k => ontimeref24_Leave.f k L s e) (leaveS code s e (Rf code s e) (e - s).toNat s) := by
 have hse := P.se
 obtain ⟨Y, h1, h2, h3⟩ := reachY hc P hl ht
 have e0 : (fun k => ontimeref24_Leave.f k L s e) = fun k => (ontimeref24_Reach.f k L s e).bind fun t297 => (ontimeref24_Leave.l0 k L s e t297 s) := rfl
 rw [e0]
 exact Evt.bind h3 (lv_l0 hc P hl ht h1 h2 (e - s).toNat s (Int.le_refl _) (by omega))
/-! ### the blocks' shape -/
/-- Reached, but no leader: the instruction ahead runs on into it. -/
theorem nolead (hc : code.length ≤ 4096) (P : Part code s e) (pc : Int) (hr : Rf code s e pc = true) (hl : Lf code s e pc ≠ true) : pc ≠ s ∧ s ≤ pc - 1 ∧ Rf code s e (pc - 1) = true ∧ sc code (pc - 1) = [pc] ∧ (ins code (pc - 1)).1 ≠ 1 ∧ (ins code (pc - 1)).1 ≠ 22 ∧ (ins code (pc - 1)).1 ≠ 23 ∧ (ins code (pc - 1)).1 ≠ 24 ∧ (ins code (pc - 1)).1 ≠ 29 := by
 have hs0 := P.s0
 have hel := P.el
 have hps : pc ≠ s := fun h => hl (Lf_iff.2 (.inl h))
 obtain ⟨h1, h2, h3⟩ := Rf_iff.1 hr
 cases h1 with
 | start => exact absurd rfl hps
 | @next x _ g1 g2 g3 g4 =>
  have hx : Rf code s e x = true := Rf_iff.2 ⟨g1, g2, g3⟩
  have hnl : cfg_explore.lead (ins code x).1 ≠ true := fun h => hl (Lf_iff.2 (.inr (.inr ⟨x, hx, h, g4⟩)))
  unfold cfg_explore.lead at hnl
  simp only [ne_eq, Bool.or_eq_true, Bool.and_eq_true, decide_eq_true_eq] at hnl
  have hw1 : wrap64 (x + 1) = x + 1 := wrap_id (by omega) (by omega)
  by_cases a : (ins code x).1 = 1
  ·unfold sc at g4; rw [if_pos a] at g4; cases g4
  have hsc : sc code x = [x + 1] := by unfold sc; rw [if_neg a, if_neg (by omega), if_neg (by omega), hw1]
  rw [hsc, List.mem_singleton] at g4
  have e1 : pc - 1 = x := by omega
  rw [e1]
  refine ⟨hps, g2, hx, by rw [hsc, g4], a, by omega, by omega, by omega, by omega⟩
/-- The blocks, ahead of pc. -/
structure Shape (code : List Int) (s e pc : Int) (acc : List S51) : Prop where
 ok : ∀ b ∈ acc, BlkIn s e (Rf code s e) b ∧ b.f1 ≤ pc
 ne : acc ≠ [] ∨ pc = s
 ord : acc.Pairwise (fun a b => a.f1 ≤ b.f0)
 has : ∀ x, x < pc → Rf code s e x = true → Lf code s e x = true → ∃ b ∈ acc, b.f0 = x
 fin : ∀ b ∈ acc, b.f1 < pc → Rf code s e b.f1 = true → Lf code s e b.f1 = true
 lst : s < pc → Rf code s e (pc - 1) = true → ∃ a b, acc = a ++ [b] ∧ b.f1 = pc
theorem Shape.start (code : List Int) (s e : Int) : Shape code s e s [] :=
 ⟨fun b hb => (by cases hb), .inr rfl, List.Pairwise.nil, fun x h1 h2 => absurd (Rf_iff.1 h2).2.1 (by omega), fun b hb => (by cases hb), fun h => by omega⟩
theorem Shape.skip {pc : Int} {acc : List S51} (h : Shape code s e pc acc) (hse : s < e) (hr : Rf code s e pc ≠ true) (h0 : s ≤ pc) : Shape code s e (pc + 1) acc := by
 refine ⟨fun b hb => ⟨(h.ok b hb).1, by have := (h.ok b hb).2; omega⟩, .inl ?_, h.ord, fun x h1 h2 h3 => ?_, fun b hb h1 h2 => ?_, fun h1 h2 => ?_⟩
 ·rcases h.ne with q | q
  ·exact q
  ·subst q; exact absurd (Rf_s code hse) hr
 ·by_cases q : x = pc
  ·subst q; exact absurd h2 hr
  ·exact h.has x (by omega) h2 h3
 ·by_cases q : b.f1 = pc
  ·rw [q] at h2; exact absurd h2 hr
  ·exact h.fin b hb (by omega) h2
 ·rw [show pc + 1 - 1 = pc by omega] at h2
  exact absurd h2 hr
theorem Shape.add {pc : Int} {acc : List S51} (hc : code.length ≤ 4096) (P : Part code s e) (h : Shape code s e pc acc) (h0 : s ≤ pc) (h1 : pc < e) (hr : Rf code s e pc = true) : Shape code s e (pc + 1) (addB (Lf code s e) acc pc) := by
 have hse := P.se
 have hacc : Lf code s e pc = true ∨ acc ≠ [] := by
  rcases h.ne with q | q
  ·exact .inr q
  ·exact .inl (q ▸ Lf_s code s e)
 obtain ⟨k1, k2⟩ := addB_ok (L := Lf code s e) h0 h1 hr hacc h.ok
 by_cases q : Lf code s e pc = true
 ·have ha : addB (Lf code s e) acc pc = acc ++ [⟨pc, pc + 1, []⟩] := by unfold addB; rw [if_pos q]
  rw [ha] at k1 k2 ⊢
  refine ⟨k2, .inl k1, ?_, fun x a1 a2 a3 => ?_, fun b hb a1 a2 => ?_, fun a1 a2 => ⟨acc, _, rfl, rfl⟩⟩
  ·rw [List.pairwise_append]
   refine ⟨h.ord, List.pairwise_singleton _ _, fun a ha' b hb => ?_⟩
   rw [List.mem_singleton] at hb
   subst hb
   exact (h.ok a ha').2
  ·by_cases q2 : x = pc
   ·exact ⟨_, List.mem_append.2 (.inr (List.mem_singleton.2 rfl)), q2.symm⟩
   ·obtain ⟨b, hb, hb2⟩ := h.has x (by omega) a2 a3
    exact ⟨b, List.mem_append.2 (.inl hb), hb2⟩
  ·rcases List.mem_append.1 hb with hb | hb
   ·by_cases q2 : b.f1 = pc
    ·rw [q2]; exact q
    ·exact h.fin b hb (by omega) a2
   ·rw [List.mem_singleton] at hb
    subst hb
    have : pc + 1 < pc + 1 := a1
    omega
 ·obtain ⟨n1, n2, n3, _⟩ := nolead hc P pc hr q
  obtain ⟨a, b, rfl, hb1⟩ := h.lst (by omega) n3
  have ha : addB (Lf code s e) (a ++ [b]) pc = a ++ [⟨b.f0, pc + 1, b.f2⟩] := by unfold addB; rw [if_neg q, lastTo_snoc]
  rw [ha] at k1 k2 ⊢
  have hord := h.ord
  rw [List.pairwise_append] at hord
  obtain ⟨o1, o2, o3⟩ := hord
  have hbo := (h.ok b (by simp)).1
  obtain ⟨g1, g2, g3, g4, g5⟩ := hbo
  refine ⟨k2, .inl k1, ?_, fun x a1 a2 a3 => ?_, fun c hc' a1 a2 => ?_, fun a1 a2 => ⟨a, _, rfl, rfl⟩⟩
  ·rw [List.pairwise_append]
   refine ⟨o1, List.pairwise_singleton _ _, fun c hc' d hd => ?_⟩
   rw [List.mem_singleton] at hd
   subst hd
   exact o3 c hc' b (List.mem_singleton.2 rfl)
  ·by_cases q2 : x = pc
   ·subst q2; exact absurd a3 q
   ·obtain ⟨c, hc', hc2⟩ := h.has x (by omega) a2 a3
    rcases List.mem_append.1 hc' with hc' | hc'
    ·exact ⟨c, List.mem_append.2 (.inl hc'), hc2⟩
    ·rw [List.mem_singleton] at hc'
     subst hc'
     exact ⟨_, List.mem_append.2 (.inr (List.mem_singleton.2 rfl)), hc2⟩
  ·rcases List.mem_append.1 hc' with hc' | hc'
   ·have := o3 c hc' b (List.mem_singleton.2 rfl)
    exact h.fin c (List.mem_append.2 (.inl hc')) (by omega) a2
   ·rw [List.mem_singleton] at hc'
    subst hc'
    have : pc + 1 < pc + 1 := a1
    omega
theorem scan_shape (hc : code.length ≤ 4096) (P : Part code s e) : ∀ (d : Nat) (pc : Int) (acc out : List S51), s ≤ pc → pc + (d : Int) = e → Shape code s e pc acc → scan code s e (Rf code s e) (Lf code s e) d pc acc = .inr out → Shape code s e e out ∧ ∀ x, pc ≤ x → x < e → Rf code s e x = true → ¬ PB.Leaves code s e x := by
 intro d
 induction d with
 | zero =>
  intro pc acc out h0 h1 hS h
  have : acc = out := by unfold scan at h; exact Sum.inr.inj h
  subst this
  have : pc = e := by omega
  subst this
  exact ⟨hS, fun x a b => by omega⟩
 | succ d ih =>
  intro pc acc out h0 h1 hS h
  unfold scan at h
  by_cases hr : Rf code s e pc = true
  ·rw [if_pos hr] at h
   by_cases q : PB.Leaves code s e pc
   ·rw [if_pos q] at h; cases h
   ·rw [if_neg q] at h
    obtain ⟨k1, k2⟩ := ih (pc + 1) _ out (by omega) (by omega) (hS.add hc P h0 (by omega) hr) h
    refine ⟨k1, fun x a b hx => ?_⟩
    by_cases q2 : x = pc
    ·subst q2; exact q
    ·exact k2 x (by omega) b hx
  ·rw [if_neg hr] at h
   obtain ⟨k1, k2⟩ := ih (pc + 1) acc out (by omega) (by omega) (hS.skip P.se hr h0) h
   refine ⟨k1, fun x a b hx => ?_⟩
   by_cases q2 : x = pc
   ·subst q2; exact absurd hx hr
   ·exact k2 x (by omega) b hx
end
end Go.Proofs.Ytihmfdndiicjgaa.PE
set_option linter.unusedVariables false
set_option linter.unusedSimpArgs false
namespace Go.Proofs.Ytihmfdndiicjgaa.PE
open Go.RowKit Go.Proofs.Ytihmfdndiicjgaa.C Go.Proofs.Ytihmfdndiicjgaa.PB Go.Proofs.Ytihmfdndiicjgaa.PD Go.Proofs.HEvt Go.Proofs.YtihmfdndiicjgaaW.PrintWords
theorem in_l0 (xs : List Int) (a : Int) (hl : xs.length ≤ 4611686018427387904) : ∀ m i, i + m = xs.length → Evt (fun k => ontimeref24_In.l0 k xs a (i : Int)) (decide (a ∈ xs.drop i)) := by
 intro m
 induction m with
 | zero =>
  intro i hi
  rw [List.drop_of_length_le (by omega)]
  refine Evt.step (fun k => by rw [ontimeref24_In.l0]) ?_
  exact Evt.neg (by omega) ((Evt.pure _).to (by simp))
 | succ m ih =>
  intro i hi
  have hlt : i < xs.length := by omega
  rw [List.drop_eq_getElem_cons hlt]
  refine Evt.step (fun k => by rw [ontimeref24_In.l0]) ?_
  refine Evt.pos (by omega) (Evt.pos (by omega) ?_)
  rw [rd_nat _ _ hlt, evt_succ hlt hl]
  by_cases h : xs[i] = a
  ·exact Evt.pos h ((Evt.pure _).to (by rw [h]; exact (decide_eq_true List.mem_cons_self).symm))
  ·refine Evt.neg h ((ih (i + 1) (by omega)).to (decide_eq_decide.mpr ?_))
   rw [List.mem_cons]
   exact ⟨.inr, fun q => q.resolve_left (fun q => h q.symm)⟩
theorem in_evt (xs : List Int) (a : Int) (hl : xs.length ≤ 4611686018427387904) : Evt (fun k => ontimeref24_In.f k xs a) (decide (a ∈ xs)) := by
 have := in_l0 xs a hl xs.length 0 (by omega)
 exact this
theorem ends_f (op : Int) : ontimeref24_ends.f op = some (decide (op = 1 ∨ op = 24 ∨ op = 22 ∨ op = 23)) := by
 unfold ontimeref24_ends.f
 by_cases a : op = 1
 ·rw [if_pos a]; simp [a]
 rw [if_neg a]
 by_cases b : op = 24
 ·rw [if_pos b]; simp [b]
 rw [if_neg b]
 by_cases c : op = 22
 ·rw [if_pos c]; simp [c]
 rw [if_neg c]
 by_cases d : op = 23
 ·simp [d]
 ·have : (op == 23) = false := beq_eq_false_iff_ne.mpr d
  rw [this]; simp [a, b, c, d]
section
variable {code : List Int} {L : List S53} {s e : Int} {Y : List Bool}
theorem ld_l0 (hc : code.length ≤ 4096) (P : Part code s e) (hl : L.length = code.length) (ht : Tells code L) (hyl : Y.length = code.length) (hy : ∀ pc, s ≤ pc → pc < e → rdOf false Y pc = Rf code s e pc) (x : Int) : ∀ (d : Nat) (k0 : Int), s ≤ k0 → k0 + (d : Int) = e →
  ∃ b, Evt (fun k => ontimeref24_leader.l0 k L Y e x k0) b ∧ (b = true ↔ ∃ p, k0 ≤ p ∧ Rf code s e p = true ∧ cfg_explore.lead (ins code p).1 = true ∧ x ∈ sc code p) := by
 have hs0 := P.s0
 have hel := P.el
 intro d
 induction d with
 | zero =>
  intro k0 h0 h1
  refine ⟨false, ?_, by
   constructor
   ·intro h; cases h
   ·rintro ⟨p, h2, h3, _⟩
    have := (Rf_iff.1 h3).2.2
    omega⟩
  refine Evt.step (fun k => by rw [ontimeref24_leader.l0]) ?_
  exact Evt.neg (by omega) (Evt.pure _)
 | succ d ih =>
  intro k0 h0 h1
  obtain ⟨b, hb, hb2⟩ := ih (k0 + 1) (by omega) (by omega)
  have hw1 : wrap64 (k0 + 1) = k0 + 1 := wrap_id (by omega) (by omega)
  have hop := op_f hl ht k0 (by omega) (by omega)
  have next : (¬ (Rf code s e k0 = true ∧ cfg_explore.lead (ins code k0).1 = true ∧ x ∈ sc code k0)) → (b = true ↔ ∃ p, k0 ≤ p ∧ Rf code s e p = true ∧ cfg_explore.lead (ins code p).1 = true ∧ x ∈ sc code p) := by
   intro hn
   rw [hb2]
   constructor
   ·rintro ⟨p, q1, q2⟩; exact ⟨p, by omega, q2⟩
   ·rintro ⟨p, q1, q2⟩
    by_cases q : p = k0
    ·subst q; exact absurd q2 hn
    ·exact ⟨p, by omega, q2⟩
  have jt : ∀ v : Bool, v = true → Evt (fun k => ontimeref24_leader.j2 k L Y e x k0 v) b := by
   intro v hv
   refine Evt.step (fun k => by rw [ontimeref24_leader.j2]) ?_
   refine Evt.pos hv ?_
   rw [hw1]
   exact hb
  by_cases q : Rf code s e k0 = true
  ·by_cases q2 : x ∈ sc code k0
   ·by_cases q3 : cfg_explore.lead (ins code k0).1 = true
    ·refine ⟨true, ?_, fun _ => ⟨k0, Int.le_refl _, q, q3, q2⟩, fun _ => rfl⟩
     refine Evt.step (fun k => by rw [ontimeref24_leader.l0]) ?_
     refine Evt.pos (by omega) (Evt.pos (by omega) (Evt.pos (by omega) (Evt.pos (by rw [hy k0 h0 (by omega)]; exact q) (Evt.pos (by omega) (Evt.bind (Evt.of_eq (fun _ => after_f hl ht k0 (by omega) (by omega))) (Evt.bind (in_evt (sc code k0) x (by have := sc_len code k0; omega)) ?_))))))
     refine Evt.step (fun k => by rw [ontimeref24_leader.j2]) ?_
     refine Evt.neg (by simp [q2]) (Evt.pos (by omega) (Evt.pos (by omega) (Evt.bind (Evt.of_eq (fun _ => ends_f _)) ?_)))
     rw [hop]
     unfold cfg_explore.lead at q3
     simp only [Bool.or_eq_true, Bool.and_eq_true, decide_eq_true_eq] at q3
     by_cases q4 : (ins code k0).1 = 1 ∨ (ins code k0).1 = 24 ∨ (ins code k0).1 = 22 ∨ (ins code k0).1 = 23
     ·exact Evt.pos (decide_eq_true q4) (Evt.pure _)
     ·exact Evt.neg (by simpa using q4) (Evt.pos (by omega) (Evt.pure _))
    ·refine ⟨b, ?_, next (fun h => q3 h.2.1)⟩
     refine Evt.step (fun k => by rw [ontimeref24_leader.l0]) ?_
     refine Evt.pos (by omega) (Evt.pos (by omega) (Evt.pos (by omega) (Evt.pos (by rw [hy k0 h0 (by omega)]; exact q) (Evt.pos (by omega) (Evt.bind (Evt.of_eq (fun _ => after_f hl ht k0 (by omega) (by omega))) (Evt.bind (in_evt (sc code k0) x (by have := sc_len code k0; omega)) ?_))))))
     refine Evt.step (fun k => by rw [ontimeref24_leader.j2]) ?_
     refine Evt.neg (by simp [q2]) (Evt.pos (by omega) (Evt.pos (by omega) (Evt.bind (Evt.of_eq (fun _ => ends_f _)) ?_)))
     rw [hop, hw1]
     unfold cfg_explore.lead at q3
     simp only [Bool.or_eq_true, Bool.and_eq_true, decide_eq_true_eq] at q3
     have h1' : (ins code k0).1 ≠ 1 := by
      intro h
      unfold sc at q2
      rw [if_pos h] at q2
      cases q2
     exact Evt.neg (by simp; omega) (Evt.neg (by omega) hb)
   ·refine ⟨b, ?_, next (fun h => q2 h.2.2)⟩
    refine Evt.step (fun k => by rw [ontimeref24_leader.l0]) ?_
    exact Evt.pos (by omega) (Evt.pos (by omega) (Evt.pos (by omega) (Evt.pos (by rw [hy k0 h0 (by omega)]; exact q) (Evt.pos (by omega) (Evt.bind (Evt.of_eq (fun _ => after_f hl ht k0 (by omega) (by omega))) (Evt.bind (in_evt (sc code k0) x (by have := sc_len code k0; omega)) (jt _ (by simp [q2]))))))))
  ·refine ⟨b, ?_, next (fun h => q h.1)⟩
   refine Evt.step (fun k => by rw [ontimeref24_leader.l0]) ?_
   exact Evt.pos (by omega) (Evt.pos (by omega) (Evt.pos (by omega) (Evt.neg (by rw [hy k0 h0 (by omega)]; exact q) (jt _ rfl))))
theorem ld_evt (hc : code.length ≤ 4096) (P : Part code s e) (hl : L.length = code.length) (ht : Tells code L) (hyl : Y.length = code.length) (hy : ∀ pc, s ≤ pc → pc < e → rdOf false Y pc = Rf code s e pc) (x : Int) (hx : Rf code s e x = true) : Evt (fun k => ontimeref24_leader.f k L Y s e x) (Lf code s e x) := by
 have hs0 := P.s0
 have hel := P.el
 have hse := P.se
 have hxr := (Rf_iff.1 hx).2
 have e0 : (fun k => ontimeref24_leader.f k L Y s e x) = fun k => if x = s then (ontimeref24_leader.j0 k L Y s e x true) else (if 0 ≤ x then (if x < (L.length : Int) then (ontimeref24_leader.j0 k L Y s e x (((rd_T53 L x).f0) == 28)) else (none)) else (none)) := rfl
 rw [e0]
 have jt : Lf code s e x = true → Evt (fun k => ontimeref24_leader.j0 k L Y s e x true) (Lf code s e x) := by
  intro h
  refine Evt.step (fun k => by rw [ontimeref24_leader.j0]) ?_
  exact Evt.pos rfl ((Evt.pure _).to h.symm)
 by_cases q : x = s
 ·exact Evt.pos q (jt (Lf_iff.2 (.inl q)))
 ·refine Evt.neg q (Evt.pos (by omega) (Evt.pos (by omega) ?_))
  rw [op_f hl ht x (by omega) (by omega)]
  by_cases q2 : (ins code x).1 = 28
  ·have : ((ins code x).1 == 28) = true := beq_iff_eq.mpr q2
   rw [this]
   exact jt (Lf_iff.2 (.inr (.inl ⟨hx, q2⟩)))
  ·have : ((ins code x).1 == 28) = false := beq_eq_false_iff_ne.mpr q2
   rw [this]
   obtain ⟨b, hb, hb2⟩ := ld_l0 hc P hl ht hyl hy x (e - s).toNat s (Int.le_refl _) (by omega)
   refine Evt.step (fun k => by rw [ontimeref24_leader.j0]) ?_
   refine Evt.neg (by decide) (hb.to (bool_ext ?_))
   rw [hb2, Lf_iff]
   constructor
   ·rintro ⟨p, _, h1, h2, h3⟩; exact .inr (.inr ⟨p, h1, h2, h3⟩)
   ·rintro (h | ⟨_, h⟩ | ⟨p, h1, h2, h3⟩)
    ·exact absurd h q
    ·exact absurd h q2
    ·exact ⟨p, (Rf_iff.1 h1).2.1, h1, h2, h3⟩
theorem mid_rd104 (A : List S51) (b : S51) (C : List S51) : rd_T104 ((A ++ b :: C).map cv) (A.length : Int) = cv b := by
 rw [rd104 _ _ (by simp)]
 simp
theorem mid_set104 (A : List S51) (b c : S51) (C : List S51) : ((A ++ b :: C).map cv).set A.length (cv c) = (A ++ c :: C).map cv := by
 rw [List.map_append, List.map_append, List.map_cons, List.map_cons, List.set_append_right _ _ (by simp)]
 simp
/-- The reference's scan. -/
theorem rb_l0 (hc : code.length ≤ 4096) (P : Part code s e) (hl : L.length = code.length) (ht : Tells code L) (hyl : Y.length = code.length) (hy : ∀ pc, s ≤ pc → pc < e → rdOf false Y pc = Rf code s e pc) (out : List S51) (r : List S104) (hr : Evt (fun k => ontimeref24_Build.l1 k L (out.map cv) 0) r) :
  ∀ (d : Nat) (pc : Int) (acc : List S51), s ≤ pc → pc + (d : Int) = e → (acc.length : Int) ≤ pc - s → Shape code s e pc acc → scan code s e (Rf code s e) (Lf code s e) d pc acc = .inr out → Evt (fun k => ontimeref24_Build.l0 k L s e Y (acc.map cv) pc) r := by
 have hs0 := P.s0
 have hel := P.el
 intro d
 induction d with
 | zero =>
  intro pc acc h0 h1 hle hS h
  have : acc = out := by unfold scan at h; exact Sum.inr.inj h
  subst this
  refine Evt.step (fun k => by rw [ontimeref24_Build.l0]) ?_
  exact Evt.neg (by omega) hr
 | succ d ih =>
  intro pc acc h0 h1 hle hS h
  have hw1 : wrap64 (pc + 1) = pc + 1 := wrap_id (by omega) (by omega)
  have hlm : (acc.map cv).length = acc.length := by simp
  unfold scan at h
  by_cases hR : Rf code s e pc = true
  ·rw [if_pos hR] at h
   by_cases q : PB.Leaves code s e pc
   ·rw [if_pos q] at h; cases h
   ·rw [if_neg q] at h
    have hlen : ((addB (Lf code s e) acc pc).length : Int) ≤ pc + 1 - s := by
     unfold addB lastTo
     split
     ·rw [List.length_append, List.length_singleton]; omega
     ·rcases hS.ne with q2 | q2
      ·have : 0 < acc.length := List.length_pos_iff.2 q2
       rw [List.length_append, List.length_dropLast, List.length_singleton]; omega
      ·rename_i h2
       exact absurd (by rw [q2]; exact Lf_s code s e) h2
    have hn := ih (pc + 1) _ (by omega) (by omega) hlen (hS.add hc P h0 (by omega) hR) h
    have hyp : rdOf false Y pc = true := by rw [hy pc h0 (by omega)]; exact hR
    have appd : Lf code s e pc = true → Evt (fun k => ontimeref24_Build.l0 k L s e Y (acc.map cv ++ [(⟨pc, wrap64 (pc + 1), ([] : List Int)⟩ : S104)]) (wrap64 (pc + 1))) r := by
     intro hL
     have ha : addB (Lf code s e) acc pc = acc ++ [⟨pc, pc + 1, []⟩] := by unfold addB; rw [if_pos hL]
     rw [ha, List.map_append] at hn
     rw [hw1]
     exact hn
    rcases List.eq_nil_or_concat acc with rfl | ⟨a, b, rfl⟩
    ·have hps : pc = s := by rcases hS.ne with q2 | q2; exact absurd rfl q2; exact q2
     refine Evt.step (fun k => by rw [ontimeref24_Build.l0]) ?_
     exact Evt.pos (by omega) (Evt.pos (by omega) (Evt.pos (by omega) (Evt.pos hyp (Evt.neg (by simp) (Evt.pos (by simp) (appd (hps ▸ Lf_s code s e)))))))
    ·rw [List.concat_eq_append] at hS hn appd hle hlm hlen ⊢
     have hall : (a ++ [b]).length = a.length + 1 := by simp
     have wl : wrap64 ((((a ++ [b]).map cv).length : Int) - 1) = (a.length : Int) := by rw [hlm, hall]; rw [wrap_id] <;> omega
     have hb : rd_T104 ((a ++ [b]).map cv) (a.length : Int) = cv b := mid_rd104 a b []
     have hf1 : (cv b).f1 = b.f1 := rfl
     refine Evt.step (fun k => by rw [ontimeref24_Build.l0]) ?_
     refine Evt.pos (by omega) (Evt.pos (by omega) (Evt.pos (by omega) (Evt.pos hyp (Evt.pos (by omega) (Evt.pos (by rw [wl]; omega) (Evt.pos (by rw [wl]; omega) ?_))))))
     rw [wl, hb, hf1]
     by_cases q1 : b.f1 = pc
     ·have hbo := (hS.ok b (by simp)).1
      obtain ⟨g1, g2, g3, g4, g5⟩ := hbo
      have hw2 : wrap64 (pc - 1) = pc - 1 := wrap_id (by omega) (by omega)
      refine Evt.pos q1 (Evt.pos (by rw [hw2]; omega) (Evt.pos (by rw [hw2]; omega) (Evt.bind (Evt.of_eq (fun _ => ends_f _)) ?_)))
      rw [hw2, op_f hl ht (pc - 1) (by omega) (by omega)]
      by_cases q2 : (ins code (pc - 1)).1 = 1 ∨ (ins code (pc - 1)).1 = 24 ∨ (ins code (pc - 1)).1 = 22 ∨ (ins code (pc - 1)).1 = 23
      ·have hL : Lf code s e pc = true := by
        by_cases hL : Lf code s e pc = true
        ·exact hL
        ·obtain ⟨_, _, _, _, n5, n6, n7, n8, _⟩ := nolead hc P pc hR hL
         omega
       exact Evt.pos (decide_eq_true q2) (Evt.pos (by omega) (appd hL))
      ·refine Evt.neg (by simpa using q2) (Evt.bind (ld_evt hc P hl ht hyl hy pc hR) ?_)
       by_cases hL : Lf code s e pc = true
       ·exact Evt.pos hL (Evt.pos (by omega) (appd hL))
       ·refine Evt.neg hL ?_
        have ha : addB (Lf code s e) (a ++ [b]) pc = a ++ [⟨b.f0, pc + 1, b.f2⟩] := by unfold addB; rw [if_neg hL, lastTo_snoc]
        rw [ha] at hn
        rw [hw1, Int.toNat_natCast]
        have := mid_set104 a b ⟨b.f0, pc + 1, b.f2⟩ []
        rw [show (⟨(cv b).f0, pc + 1, (cv b).f2⟩ : S104) = cv ⟨b.f0, pc + 1, b.f2⟩ from rfl, this]
        exact hn
     ·have hL : Lf code s e pc = true := by
       by_cases hL : Lf code s e pc = true
       ·exact hL
       ·obtain ⟨n1, n2, n3, _⟩ := nolead hc P pc hR hL
        obtain ⟨a', b', e1, e2⟩ := hS.lst (by omega) n3
        have := List.append_inj' e1 rfl
        have hbb : b = b' := by simpa using this.2
        exact absurd (hbb ▸ e2) q1
      exact Evt.neg q1 (Evt.pos (by omega) (appd hL))
  ·rw [if_neg hR] at h
   refine Evt.step (fun k => by rw [ontimeref24_Build.l0]) ?_
   refine Evt.pos (by omega) (Evt.pos (by omega) (Evt.pos (by omega) (Evt.neg (by rw [hy pc h0 (by omega)]; exact hR) ?_)))
   rw [hw1]
   exact ih (pc + 1) acc (by omega) (by omega) (by omega) (hS.skip P.se hR h0) h
end
end Go.Proofs.Ytihmfdndiicjgaa.PE
set_option linter.unusedVariables false
set_option linter.unusedSimpArgs false
namespace Go.Proofs.Ytihmfdndiicjgaa.PE
open Go.RowKit Go.Proofs.Ytihmfdndiicjgaa.C Go.Proofs.Ytihmfdndiicjgaa.PB Go.Proofs.Ytihmfdndiicjgaa.PD Go.Proofs.HEvt Go.Proofs.YtihmfdndiicjgaaW.PrintWords
def key (b : S51) : Int × Int := (b.f0, b.f1)
theorem go_none (t : Int) : ∀ (l : List S51) (j : Nat) (a : Int), (∀ c ∈ l, c.f0 ≠ t) → numOf.go j l a t = a := by
 intro l
 induction l with
 | nil => intro j a _; rfl
 | cons b l ih =>
  intro j a h
  show numOf.go (j + 1) l (if t = b.f0 then (j : Int) else a) t = a
  rw [if_neg (fun q => h b List.mem_cons_self q.symm)]
  exact ih _ _ (fun c hc => h c (List.mem_cons_of_mem _ hc))
theorem go_mid (t : Int) (b : S51) (C : List S51) (hb : b.f0 = t) (hC : ∀ c ∈ C, c.f0 ≠ t) : ∀ (A : List S51) (j : Nat) (a : Int), numOf.go j (A ++ b :: C) a t = ((j + A.length : Nat) : Int) := by
 intro A
 induction A with
 | nil =>
  intro j a
  show numOf.go (j + 1) C (if t = b.f0 then (j : Int) else a) t = _
  rw [if_pos hb.symm, go_none t C _ _ hC]
  rfl
 | cons x A ih =>
  intro j a
  show numOf.go (j + 1) (A ++ b :: C) (if t = x.f0 then (j : Int) else a) t = _
  rw [ih]
  simp
  omega
theorem numOf_mid (t : Int) (A : List S51) (b : S51) (C : List S51) (hb : b.f0 = t) (hC : ∀ c ∈ C, c.f0 ≠ t) : numOf (A ++ b :: C) t = (A.length : Int) := by
 rw [numOf_eq, go_mid t b C hb hC]
 simp
theorem find_l0 (X : List S51) (t : Int) (hn : X.length ≤ 4096) (j : Nat) (hj : j < X.length) (h1 : (X[j]).f0 ≤ t ∧ t < (X[j]).f1) (hb : ∀ i (h : i < X.length), i < j → (X[i]).f1 ≤ t) : ∀ m i, i + m = j → Evt (fun k => ontimeref24_Find.l0 k (X.map cv) t (i : Int)) (j : Int) := by
 have hlm : (X.map cv).length = X.length := by simp
 intro m
 induction m with
 | zero =>
  intro i hi
  have : i = j := by omega
  subst this
  have e0 : rd_T104 (X.map cv) (i : Int) = cv (X[i]) := by rw [rd104 _ _ (by omega)]; simp
  have f0 : (cv (X[i])).f0 = (X[i]).f0 := rfl
  have f1 : (cv (X[i])).f1 = (X[i]).f1 := rfl
  refine Evt.step (fun k => by rw [ontimeref24_Find.l0]) ?_
  refine Evt.pos (by omega) (Evt.pos (by omega) ?_)
  rw [e0, f0, f1]
  exact Evt.pos (by omega) (Evt.pos (by omega) (Evt.pure _))
 | succ m ih =>
  intro i hi
  have hlt : i < X.length := by omega
  have e0 : rd_T104 (X.map cv) (i : Int) = cv (X[i]) := by rw [rd104 _ _ (by omega)]; simp
  have f0 : (cv (X[i])).f0 = (X[i]).f0 := rfl
  have f1 : (cv (X[i])).f1 = (X[i]).f1 := rfl
  have hbi := hb i hlt (by omega)
  have hnx := ih (i + 1) (by omega)
  have z0 : (i : Int) < ((X.map cv).length : Int) := by rw [hlm]; omega
  have z1 : ¬ t < (X[i]).f1 := by omega
  have z2 : X.length ≤ 4611686018427387904 := by omega
  refine Evt.step (fun k => by rw [ontimeref24_Find.l0]) ?_
  refine Evt.pos z0 (Evt.pos (Int.natCast_nonneg _) ?_)
  rw [e0, f0, f1, evt_succ hlt z2]
  by_cases q : t ≥ (X[i]).f0
  ·exact Evt.pos q (Evt.neg z1 hnx)
  ·exact Evt.neg q hnx
section
variable {code : List Int} {L : List S53} {s e : Int} {Y : List Bool}
/-- Where a block begins: its number, and the reference finds it. -/
theorem find_evt (acc : List S51) (hn : acc.length ≤ 4096) (hS : Shape code s e e acc) (t : Int) (ht : ∃ c ∈ acc, c.f0 = t) (X : List S51) (hX : X.map key = acc.map key) : Evt (fun k => ontimeref24_Find.f k (X.map cv) t) (numOf acc t) := by
 obtain ⟨c, hc, hct⟩ := ht
 obtain ⟨A, C, rfl⟩ := List.append_of_mem hc
 have hord := hS.ord
 rw [List.pairwise_append] at hord
 obtain ⟨o1, o2, o3⟩ := hord
 rw [List.pairwise_cons] at o2
 have hcb := (hS.ok c (by simp)).1
 obtain ⟨g1, g2, g3, g4, g5⟩ := hcb
 have hlen : X.length = (A ++ c :: C).length := by have := congrArg List.length hX; simpa using this
 have hk : ∀ i (h : i < X.length) (h' : i < (A ++ c :: C).length), key X[i] = key (A ++ c :: C)[i] := by
  intro i h h'
  have := congrArg (fun l => l[i]?) hX
  simp only [List.getElem?_map, List.getElem?_eq_getElem h, List.getElem?_eq_getElem h'] at this
  exact Option.some.inj this
 have hjX : A.length < X.length := by rw [hlen]; simp
 rw [numOf_mid t A c C hct (fun d hd h => by have := o2.1 d hd; omega)]
 have hkj := hk A.length hjX (by simp)
 have hm : (A ++ c :: C)[A.length]'(by simp) = c := by simp
 rw [hm] at hkj
 have e0 : (X[A.length]).f0 = c.f0 := congrArg Prod.fst hkj
 have e1 : (X[A.length]).f1 = c.f1 := congrArg Prod.snd hkj
 have := find_l0 X t (by omega) A.length hjX (by omega) (fun i h hi => by
  have h' : i < (A ++ c :: C).length := by omega
  have hki := hk i h h'
  have e2 : (X[i]).f1 = ((A ++ c :: C)[i]).f1 := congrArg Prod.snd hki
  rw [e2, List.getElem_append_left hi]
  have := o3 (A[i]) (List.getElem_mem hi) c List.mem_cons_self
  omega) A.length 0 (by omega)
 exact this
/-- Every successor of a block's last instruction begins a block. -/
theorem starts (hc : code.length ≤ 4096) (P : Part code s e) (acc : List S51) (hS : Shape code s e e acc) (hno : ∀ x, s ≤ x → x < e → Rf code s e x = true → ¬ PB.Leaves code s e x) (b : S51) (hb : b ∈ acc) (t : Int) (ht : t ∈ sc code (b.f1 - 1)) : ∃ c ∈ acc, c.f0 = t := by
 have hs0 := P.s0
 have hel := P.el
 obtain ⟨g1, g2, g3, g4, g5⟩ := (hS.ok b hb).1
 have hlv := hno (b.f1 - 1) (by omega) (by omega) g5
 have hin : s ≤ t ∧ t < e := by
  by_cases q : t < s ∨ t ≥ e
  ·exact absurd ⟨t, ht, q⟩ hlv
  ·omega
 have hrt : Rf code s e t = true := Rf_iff.2 ⟨.next (Rf_iff.1 g5).1 (by omega) (by omega) ht, hin⟩
 have hL : Lf code s e t = true := by
  by_cases q : cfg_explore.lead (ins code (b.f1 - 1)).1 = true
  ·exact Lf_iff.2 (.inr (.inr ⟨b.f1 - 1, g5, q, ht⟩))
  ·unfold cfg_explore.lead at q
   simp only [Bool.or_eq_true, Bool.and_eq_true, decide_eq_true_eq] at q
   have hw1 : wrap64 (b.f1 - 1 + 1) = b.f1 := by rw [wrap_id (by omega) (by omega)]; omega
   by_cases a : (ins code (b.f1 - 1)).1 = 1
   ·unfold sc at ht; rw [if_pos a] at ht; cases ht
   ·unfold sc at ht
    rw [if_neg a, if_neg (by omega), if_neg (by omega), hw1, List.mem_singleton] at ht
    rw [ht] at hrt hin ⊢
    exact hS.fin b hb (by omega) hrt
 exact hS.has t (by omega) hrt hL
theorem r3_evt (acc : List S51) (hn : acc.length ≤ 4096) (hS : Shape code s e e acc) (A C : List S51) (b : S51) (ts : List Int) (hts : ts.length ≤ 2) (hst : ∀ t ∈ ts, ∃ c ∈ acc, c.f0 = t) (hf : (A ++ b :: C).map key = acc.map key) : ∀ m j (cur : List Int), j + m = ts.length → cur.length ≤ j → ∀ r : List S104,
  Evt (fun k => ontimeref24_Build.l1 k L ((A ++ ⟨b.f0, b.f1, once cur ((ts.drop j).map (numOf acc))⟩ :: C).map cv) ((A.length + 1 : Nat) : Int)) r →
  Evt (fun k => ontimeref24_Build.l2 k L ((A ++ ⟨b.f0, b.f1, cur⟩ :: C).map cv) (A.length : Int) ts (j : Int)) r := by
 have hlen : (A ++ b :: C).length = acc.length := by have := congrArg List.length hf; simpa using this
 have hlen2 : ∀ c : S51, ((A ++ c :: C).map cv).length = acc.length := fun c => by rw [← hlen]; simp
 have hA : A.length < acc.length := by rw [← hlen]; simp
 intro m
 induction m with
 | zero =>
  intro j cur hj hc r hr
  rw [List.drop_of_length_le (by omega)] at hr
  refine Evt.step (fun k => by rw [ontimeref24_Build.l2]) ?_
  refine Evt.neg (by omega) ?_
  rw [evt_succ (n := A.length + 1) (by omega) (by omega)]
  exact hr
 | succ m ih =>
  intro j cur hj hc r hr
  have hlt : j < ts.length := by omega
  rw [List.drop_eq_getElem_cons hlt, List.map_cons] at hr
  have hfd := find_evt acc hn hS ts[j] (hst _ (List.getElem_mem hlt)) (A ++ (⟨b.f0, b.f1, cur⟩ : S51) :: C) (by rw [← hf]; simp [key])
  generalize ht : numOf acc (ts[j]) = t at hr hfd
  have q1 : j + 1 + m = ts.length := by omega
  have q2 : cur.length ≤ j + 1 := by omega
  have q3 : cur.length < 17592186044416 := by omega
  have q5 : (cur ++ [t]).length ≤ j + 1 := by rw [List.length_append, List.length_singleton]; omega
  have q6 : cur.length ≤ 4611686018427387904 := by omega
  have hx : rd_T104 ((A ++ (⟨b.f0, b.f1, cur⟩ : S51) :: C).map cv) (A.length : Int) = cv ⟨b.f0, b.f1, cur⟩ := mid_rd104 _ _ _
  have hstep : once cur (t :: (ts.drop (j + 1)).map (numOf acc)) = once (ins1 cur t) ((ts.drop (j + 1)).map (numOf acc)) := rfl
  rw [hstep] at hr
  refine Evt.step (fun k => by rw [ontimeref24_Build.l2]) ?_
  refine Evt.pos (by omega) (Evt.pos (by omega) ?_)
  rw [rd_nat _ _ hlt, evt_succ hlt (show ts.length ≤ 4611686018427387904 by omega)]
  refine Evt.bind hfd (Evt.pos (by omega) (Evt.pos (by rw [hlen2]; omega) ?_))
  rw [hx]
  have hf2 : (cv (⟨b.f0, b.f1, cur⟩ : S51)).f2 = cur := rfl
  rw [hf2]
  refine Evt.bind (in_evt cur t q6) ?_
  by_cases hm : t ∈ cur
  ·have hi : ins1 cur t = cur := by unfold ins1; rw [if_pos hm]
   rw [hi] at hr
   exact Evt.pos (decide_eq_true hm) (ih (j + 1) cur q1 q2 r hr)
  ·have hi : ins1 cur t = cur ++ [t] := by unfold ins1; rw [if_neg hm]
   rw [hi] at hr
   refine Evt.neg (by simp [hm]) (Evt.pos q3 ?_)
   rw [Int.toNat_natCast]
   have hs := mid_set104 A (⟨b.f0, b.f1, cur⟩ : S51) ⟨b.f0, b.f1, cur ++ [t]⟩ C
   rw [show (⟨(cv (⟨b.f0, b.f1, cur⟩ : S51)).f0, (cv (⟨b.f0, b.f1, cur⟩ : S51)).f1, cur ++ [t]⟩ : S104) = cv ⟨b.f0, b.f1, cur ++ [t]⟩ from rfl, hs]
   exact ih (j + 1) (cur ++ [t]) q1 q5 r hr
theorem r2_evt (hc : code.length ≤ 4096) (P : Part code s e) (hl : L.length = code.length) (ht : Tells code L) (acc : List S51) (hn : acc.length ≤ 4096) (hS : Shape code s e e acc) (hno : ∀ x, s ≤ x → x < e → Rf code s e x = true → ¬ PB.Leaves code s e x) : ∀ m i, i + m = acc.length →
  Evt (fun k => ontimeref24_Build.l1 k L (((acc.take i).map (fin1 code acc) ++ acc.drop i).map cv) (i : Int)) ((acc.map (fin1 code acc)).map cv) := by
 have hs0 := P.s0
 have hel := P.el
 intro m
 induction m with
 | zero =>
  intro i hi
  rw [List.take_of_length_le (by omega), List.drop_of_length_le (by omega), List.append_nil]
  refine Evt.step (fun k => by rw [ontimeref24_Build.l1]) ?_
  exact Evt.neg (by simp; omega) (Evt.pure _)
 | succ m ih =>
  intro i hi
  have hlt : i < acc.length := by omega
  have hAl : ((acc.take i).map (fin1 code acc)).length = i := by rw [List.length_map, List.length_take]; omega
  have hall : (((acc.take i).map (fin1 code acc) ++ acc.drop i).map cv).length = acc.length := by rw [List.length_map, List.length_append, hAl, List.length_drop]; omega
  obtain ⟨b1, b2, b3, b4, b5⟩ := (hS.ok _ (List.getElem_mem hlt)).1
  have hd : acc.drop i = acc[i] :: acc.drop (i + 1) := List.drop_eq_getElem_cons hlt
  have hget : rd_T104 (((acc.take i).map (fin1 code acc) ++ acc.drop i).map cv) (i : Int) = cv acc[i] := by
   rw [hd]
   have hm := mid_rd104 ((acc.take i).map (fin1 code acc)) acc[i] (acc.drop (i + 1))
   rw [hAl] at hm
   exact hm
  have hf1 : (cv acc[i]).f1 = acc[i].f1 := rfl
  have hw1 : wrap64 (acc[i].f1 - 1) = acc[i].f1 - 1 := wrap_id (by omega) (by omega)
  have hbe : acc[i] = (⟨acc[i].f0, acc[i].f1, []⟩ : S51) := by
   have := b1
   cases hq : acc[i] with
   | mk x0 x1 x2 => rw [hq] at this; simp at this; rw [this]
  have hfm : ((acc.take i).map (fin1 code acc) ++ acc[i] :: acc.drop (i + 1)).map key = acc.map key := by
   rw [← hd, List.map_append, List.map_map]
   have : (key ∘ fin1 code acc) = key := rfl
   rw [this, ← List.map_append, List.take_append_drop]
  have hnext := ih (i + 1) (by omega)
  have htk : (acc.take (i + 1)).map (fin1 code acc) = (acc.take i).map (fin1 code acc) ++ [fin1 code acc acc[i]] := by
   rw [List.take_succ_eq_append_getElem hlt, List.map_append]; rfl
  rw [htk, List.append_assoc] at hnext
  have hr := r3_evt (L := L) acc hn hS ((acc.take i).map (fin1 code acc)) (acc.drop (i + 1)) acc[i] (sc code (acc[i].f1 - 1)) (sc_len _ _) (fun t h => starts hc P acc hS hno acc[i] (List.getElem_mem hlt) t h) hfm
   (sc code (acc[i].f1 - 1)).length 0 [] (by omega) (Nat.le_refl _) _ (by rw [List.drop_zero, hAl]; exact hnext)
  rw [hAl, ← hbe, ← hd] at hr
  refine Evt.step (fun k => by rw [ontimeref24_Build.l1]) ?_
  refine Evt.pos (by rw [hall]; omega) (Evt.pos (by omega) ?_)
  rw [hget, hf1, hw1]
  exact Evt.pos (by omega) (Evt.pos (by omega) (Evt.bind (Evt.of_eq (fun _ => after_f hl ht (acc[i].f1 - 1) (by omega) (by omega))) hr))
/-- The reference's graph, where nothing leaves the part. -/
theorem rbuild_evt (hc : code.length ≤ 4096) (P : Part code s e) (hl : L.length = code.length) (ht : Tells code L) (acc : List S51) (h : scan0 code s e = .inr acc) (hn : acc.length ≤ 4096) : Evt (fun k => ontimeref24_Build.f k L s e) ((fins code acc).map cv) := by
 have hse := P.se
 obtain ⟨Y, h1, h2, h3⟩ := reachY hc P hl ht
 obtain ⟨hS, hno⟩ := scan_shape hc P (e - s).toNat s [] acc (Int.le_refl _) (by omega) (Shape.start code s e) h
 have e0 : (fun k => ontimeref24_Build.f k L s e) = fun k => (ontimeref24_Reach.f k L s e).bind fun t348 => (ontimeref24_Build.l0 k L s e t348 (([] : List (S104))) s) := rfl
 rw [e0]
 refine Evt.bind h3 ?_
 have hr := r2_evt hc P hl ht acc hn hS hno acc.length 0 (by omega)
 have := rb_l0 hc P hl ht h1 h2 acc ((fins code acc).map cv) hr (e - s).toNat s [] (Int.le_refl _) (by omega) (by simp) (Shape.start code s e) h
 exact this
end
end Go.Proofs.Ytihmfdndiicjgaa.PE
