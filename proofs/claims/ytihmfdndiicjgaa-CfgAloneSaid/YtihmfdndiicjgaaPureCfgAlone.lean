/- CfgAlone's pure statement: where the check passes before and behind the change, the graph of a task is a function of its own part of the code, which the change leaves as it was. -/
import Derived.Test.YtihmfdndiicjgaaSayCfgAlone
import Derived.Test.YtihmfdndiicjgaaPBf
import Derived.Test.YtihmfdndiicjgaaCx9
set_option linter.unusedVariables false
set_option linter.unusedSimpArgs false
namespace Go.Proofs.Ytihmfdndiicjgaa.Pure
open Go.RowKit Go.Proofs.Ytihmfdndiicjgaa.C Go.Proofs.Ytihmfdndiicjgaa.PB Go.Proofs.HEvt Go.Proofs.YtihmfdndiicjgaaW.PrintWords
theorem blocks_l0 (l0 : List S51) (hl : l0.length ≤ 1000000) : ∀ d i (x : List S104), i + d = l0.length → x.length = i → Evt (fun k => ontimelaw24_blocks.l0 k x l0 (l0.length : Int) (i : Int)) (x ++ (l0.drop i).map cv) := by
 intro d
 induction d with
 | zero =>
  intro i x hi hx
  rw [List.drop_of_length_le (by omega)]
  exact Evt.step (fun k => by rw [ontimelaw24_blocks.l0]) (Evt.neg (by omega) ((Evt.pure _).to (by simp)))
 | succ d ih =>
  intro i x hi hx
  have hlt : i < l0.length := by omega
  rw [List.drop_eq_getElem_cons hlt]
  refine Evt.step (fun k => by rw [ontimelaw24_blocks.l0]) (Evt.pos (by omega) (Evt.pos (by omega) (Evt.pos (by omega) (Evt.pos (by omega) ?_))))
  rw [rd51 _ _ hlt, evt_succ hlt (by omega)]
  exact (ih (i + 1) _ (by omega) (by simp [hx])).to (by rw [List.map_cons, List.append_assoc]; rfl)
theorem blocks_evt (l0 : List S51) (l1 : List (List Int)) (hl : l0.length ≤ 1000000) : Evt (fun k => ontimelaw24_blocks.f k l0 l1) (l0.map cv) := by
 have := blocks_l0 l0 hl l0.length 0 [] (by omega) rfl
 exact this
theorem some_bind {α β : Type} {v : α} {F : Nat → α → Option β} {r : β} (h : Evt (fun k => F k v) r) : Evt (fun k => (Option.some v).bind (F k)) r := h
theorem enc_halt : isa_Encode.f 1 0 0 0 0 = some (67108864, 0) := by kernel_rfl
theorem u64_nonneg (x : Int) : 0 ≤ IntKind.u64.wrap x := by
 unfold IntKind.wrap
 simp [IntKind.bits, IntKind.signed]
 omega
theorem words_set {y : List Int} (h : Words y) (i : Nat) (v : Int) (h0 : 0 ≤ v) (h1 : v ≤ 4294967295) : Words (y.set i v) := by
 intro x hx
 rcases List.mem_or_eq_of_mem_set hx with q | rfl
 ·exact h x q
 ·exact ⟨h0, h1⟩
theorem agree_set {y code : List Int} {s e : Int} (hs : 0 ≤ s) (h : Agree y code s e) (i : Nat) (v : Int) (hi : (i : Int) < s ∨ (i : Int) ≥ e) : Agree (y.set i v) code s e := by
 intro pc h0 h1
 rw [← h pc h0 h1]
 unfold rd
 rw [List.getD_eq_getElem?_getD, List.getD_eq_getElem?_getD, List.getElem?_set_ne (by omega)]
theorem blk_len {s e : Int} {code : List Int} {R L : Int → Bool} : ∀ (d : Nat) (pc : Int) (acc out : List S51), scan code s e R L d pc acc = .inr out → out.length ≤ acc.length + d := by
 intro d
 induction d with
 | zero => intro pc acc out h; unfold scan at h; have := Sum.inr.inj h; subst this; omega
 | succ d ih =>
  intro pc acc out h
  unfold scan at h
  split at h
  ·split at h
   ·cases h
   ·have := ih _ _ _ h
    have h2 : (addB L acc pc).length ≤ acc.length + 1 := by
     unfold addB lastTo
     split
     ·simp
     ·rw [List.length_append, List.length_dropLast, List.length_singleton]; omega
    omega
  ·have := ih _ _ _ h; omega
section
variable (code : List Int) (ents : List S39) (sh lk task other : Int)
/-- What follows the change. -/
def rest (y : List Int) (k : Nat) : Option Bool := (linker_Check.f k y ents sh lk).bind fun t514 => (if t514 = 0 then ((cfg_Build.f k code ents sh lk task).bind fun bt515 => ((cfg_Build.f k y ents sh lk task).bind fun bt524 => (if bt515.2.2.2 = bt524.2.2.2 then (if bt515.2.2.1 = bt524.2.2.1 then ((ontimelaw24_blocks.f k bt524.1 bt524.2.1).bind fun t533 => ((ontimelaw24_is.f k bt515.1 bt515.2.1 t533).bind fun t536 => (some t536))) else (some false)) else (some false)))) else (some true))
theorem loop (nm : ByteArray) (s e d : Int) (hs : 0 ≤ s) (hc : code.length ≤ 4096) (hrest : ∀ y : List Int, y.length = code.length → Words y → Agree y code s e → Evt (fun k => rest code ents sh lk task y k) true) :
  ∀ m i (y : List Int), i + m = code.length → y.length = code.length → Words y → Agree y code s e → Evt (fun k => ontimelaw24_CfgAlone.l0 k task other 67108864 (code.length : Int) (i : Int) code ents sh lk nm s e d y ents sh lk) true := by
 intro m
 induction m with
 | zero =>
  intro i y hi hl hw ha
  refine Evt.step (fun k => by rw [ontimelaw24_CfgAlone.l0]) ?_
  exact Evt.neg (by omega) (hrest y hl hw ha)
 | succ m ih =>
  intro i y hi hl hw ha
  have hlt : i < code.length := by omega
  have hkeep := ih (i + 1) y (by omega) hl hw ha
  have hchange : ((i : Int) < s ∨ (i : Int) ≥ e) → Evt (fun k => ontimelaw24_CfgAlone.j2 k task other 67108864 (i : Int) (code.length : Int) (i : Int) true code ents sh lk nm s e d y ents sh lk) true := by
   intro hout
   have a1 := ih (i + 1) (y.set i 67108864) (by omega) (by simp [hl]) (words_set hw i _ (by omega) (by omega)) (agree_set hs ha i _ hout)
   have a2 := ih (i + 1) ((y.set i 67108864).set i 0) (by omega) (by simp [hl]) (words_set (words_set hw i _ (by omega) (by omega)) i _ (by omega) (by omega)) (agree_set hs (agree_set hs ha i _ hout) i _ hout)
   have hw1 : wrap64 ((i : Int) + 1) = ((i + 1 : Nat) : Int) := evt_succ hlt (by omega)
   refine Evt.step (fun k => by rw [ontimelaw24_CfgAlone.j2]) ?_
   refine Evt.pos rfl (Evt.pos (by omega) (Evt.pos (by omega) (some_bind (Evt.pos (u64_nonneg _) ?_))))
   rw [hw1, Int.toNat_natCast]
   by_cases q : Go.bits .and .u32 (shr .u32 other (IntKind.u64.wrap (Int.tmod (i : Int) 32))) 1 = 1
   ·exact Evt.pos q a2
   ·exact Evt.neg q a1
  refine Evt.step (fun k => by rw [ontimelaw24_CfgAlone.l0]) (Evt.pos (by omega) ?_)
  by_cases q1 : (i : Int) < s
  ·exact Evt.pos q1 (hchange (.inl q1))
  ·refine Evt.neg q1 ?_
   by_cases q2 : (i : Int) ≥ e
   ·rw [decide_eq_true q2]
    exact hchange (.inr q2)
   ·rw [decide_eq_false q2]
    refine Evt.step (fun k => by rw [ontimelaw24_CfgAlone.j2]) (Evt.neg (by decide) ?_)
    rw [evt_succ hlt (by omega)]
    exact hkeep
theorem rest_true (hw : Words code) (hc : code.length ≤ 300) (hn : ents.length ≤ 4) (j : Nat) (hj : j < ents.length) (ht : task = (j : Int)) (h0 : Evt (fun k => linker_Check.f k code ents sh lk) 0) (hg : code.length ≤ 4096 ∧ ∀ j (h : j < ents.length), Part code (ents[j]).f1 (ents[j]).f2)
  (y : List Int) (hl : y.length = code.length) (hy : Words y) (ha : Agree y code (ents[j]).f1 (ents[j]).f2) : Evt (fun k => rest code ents sh lk task y k) true := by
 obtain ⟨c, hck, hgood⟩ := chk_evt y ents sh lk hy (by omega) (by omega)
 unfold rest
 refine Evt.bind hck ?_
 by_cases hc0 : c = 0
 ·refine Evt.pos hc0 ?_
  subst hc0
  have b1 := (build_evt code ents sh lk hw (by omega) (by omega) 0 h0 (fun _ => hg) task).2.2 rfl j hj ht
  have b2 := (build_evt y ents sh lk hy (by omega) (by omega) 0 hck hgood task).2.2 rfl j hj ht
  have hP := hg.2 j hj
  rw [ha.bspec hP.se] at b2
  refine Evt.bind b1 (Evt.bind b2 (Evt.pos rfl (Evt.pos rfl ?_)))
  unfold bspec
  cases hq : scan0 code (ents[j]).f1 (ents[j]).f2 with
  | inl p => exact Evt.bind (blocks_evt [] [] (by simp)) (Evt.bind nil_is (Evt.pure _))
  | inr acc =>
   obtain ⟨hne, _⟩ := scan0_ok hP.se hq
   have hlen := blk_len _ _ _ _ hq
   have e1 := hP.s0
   have e2 := hP.el
   have hacc : acc.length ≤ 4096 := by simp at hlen; omega
   refine Evt.bind (blocks_evt (finish code acc).1 _ (by show (fins code acc).length ≤ _; rw [fins_len]; omega)) (Evt.bind (finish_is code acc hne hacc) (Evt.pure _))
 ·exact Evt.neg hc0 (Evt.pure _)
end
theorem CfgAlone : ontimelaw24_CfgAlone.Pure := by
 intro x task other hx ht ho
 obtain ⟨⟨hl0, hc0⟩, ⟨hl1, he0⟩, _, _⟩ := hx
 have hw : Words x.f0 := fun z hz => wf_u32.1 (hc0 z hz)
 have e : (fun k => ontimelaw24_CfgAlone.f k x.f0 x.f1 x.f2 x.f3 task other) = fun k => (ontimelaw24_awake.f k).bind fun t498 => (if t498 = true then ((ontimelaw24_Great.f x.f0 x.f1 x.f2 x.f3).bind fun t499 => (if t499 = 1 then (ontimelaw24_CfgAlone.j0 k task other true x.f0 x.f1 x.f2 x.f3) else (if task < 0 then (ontimelaw24_CfgAlone.j0 k task other true x.f0 x.f1 x.f2 x.f3) else (if task ≥ (x.f1.length : Int) then (ontimelaw24_CfgAlone.j0 k task other true x.f0 x.f1 x.f2 x.f3) else ((linker_Check.f k x.f0 x.f1 x.f2 x.f3).bind fun t500 => (ontimelaw24_CfgAlone.j0 k task other (t500 != 0) x.f0 x.f1 x.f2 x.f3)))))) else (some false)) := rfl
 refine Evt.some (g := fun k => ontimelaw24_CfgAlone.f k x.f0 x.f1 x.f2 x.f3 task other) ?_
 rw [e]
 have out : Evt (fun k => ontimelaw24_CfgAlone.j0 k task other true x.f0 x.f1 x.f2 x.f3) true := Evt.step (fun k => by rw [ontimelaw24_CfgAlone.j0]) (Evt.pos rfl (Evt.pure _))
 refine Evt.bind awake_ends (Evt.pos rfl ?_)
 by_cases g1 : (x.f0.length : Int) > 300
 ·refine Evt.bind (a := 1) (Evt.of_eq (fun _ => by unfold ontimelaw24_Great.f; rw [if_pos g1])) (Evt.pos rfl out)
 by_cases g2 : (x.f1.length : Int) > 4
 ·refine Evt.bind (a := 1) (Evt.of_eq (fun _ => by unfold ontimelaw24_Great.f; rw [if_neg g1, if_pos g2])) (Evt.pos rfl out)
 refine Evt.bind (a := 0) (Evt.of_eq (fun _ => by unfold ontimelaw24_Great.f; rw [if_neg g1, if_neg g2])) (Evt.neg (by decide) ?_)
 by_cases q1 : task < 0
 ·exact Evt.pos q1 out
 refine Evt.neg q1 ?_
 by_cases q2 : task ≥ (x.f1.length : Int)
 ·exact Evt.pos q2 out
 refine Evt.neg q2 ?_
 obtain ⟨c, hck, hgood⟩ := chk_evt x.f0 x.f1 x.f2 x.f3 hw (by omega) (by omega)
 refine Evt.bind hck ?_
 by_cases hcz : c = 0
 ·subst hcz
  obtain ⟨j, rfl⟩ := Int.eq_ofNat_of_zero_le (show 0 ≤ task by omega)
  have hj : j < x.f1.length := by omega
  have hP := (hgood rfl).2 j hj
  refine Evt.step (fun k => by rw [ontimelaw24_CfgAlone.j0]) ?_
  refine Evt.neg (by decide) (Evt.pos (by omega) (Evt.pos (by omega) (some_bind (Evt.pos (by simp; omega) (some_bind (Evt.bind (Evt.of_eq (fun _ => enc_halt)) ?_))))))
  rw [rd39 _ _ hj]
  have := loop x.f0 x.f1 x.f2 x.f3 (j : Int) other (x.f1[j]).f0 (x.f1[j]).f1 (x.f1[j]).f2 (x.f1[j]).f3 hP.s0 (by omega) (fun y a b c => rest_true x.f0 x.f1 x.f2 x.f3 (j : Int) hw (by omega) (by omega) j hj rfl hck (hgood rfl) y a b c) x.f0.length 0 x.f0 (by omega) rfl hw (fun pc _ _ => rfl)
  exact this
 ·have : (c != 0) = true := by simp [hcz]
  rw [this]
  exact out
end Go.Proofs.Ytihmfdndiicjgaa.Pure
