/- CfgBuilds' pure statement: Build answers the reference's graph, or the error that is asked for, for every image of at most 300 instructions and 4 entries. -/
import Derived.Test.YtihmfdndiicjgaaSayCfgBuilds
import Derived.Test.YtihmfdndiicjgaaPEx
set_option linter.unusedVariables false
set_option linter.unusedSimpArgs false
namespace Go.Proofs.Ytihmfdndiicjgaa.Pure
open Go.RowKit Go.Proofs.Ytihmfdndiicjgaa.C Go.Proofs.Ytihmfdndiicjgaa.PB Go.Proofs.Ytihmfdndiicjgaa.PE Go.Proofs.HEvt Go.Proofs.YtihmfdndiicjgaaW.PrintWords
theorem blk_len {s e : Int} {code : List Int} {R L : Int → Bool} : ∀ (d : Nat) (pc : Int) (acc out : List S51), scan code s e R L d pc acc = .inr out → out.length ≤ acc.length + d := by
 intro d
 induction d with
 | zero => intro pc acc out h; unfold scan at h; have := Sum.inr.inj h; subst this; omega
 | succ d ih =>
  intro pc acc out h
  unfold scan at h
  split at h
  ·split at h
   ·cases h
   ·have := ih _ _ _ h
    have h2 : (addB L acc pc).length ≤ acc.length + 1 := by
     unfold addB lastTo
     split
     ·simp
     ·rw [List.length_append, List.length_dropLast, List.length_singleton]; omega
    omega
  ·have := ih _ _ _ h; omega
theorem CfgBuilds : ontimelaw24_CfgBuilds.Pure := by
 intro x task hx ht
 obtain ⟨⟨hl0, hc0⟩, ⟨hl1, he0⟩, _, _⟩ := hx
 have hw : Words x.f0 := fun z hz => wf_u32.1 (hc0 z hz)
 have e : (fun k => ontimelaw24_CfgBuilds.f k x.f0 x.f1 x.f2 x.f3 task) = fun k => (ontimelaw24_awake.f k).bind fun t387 => (if t387 = true then ((ontimelaw24_Great.f x.f0 x.f1 x.f2 x.f3).bind fun t388 => (if t388 = 1 then (some true) else ((cfg_Build.f k x.f0 x.f1 x.f2 x.f3 task).bind fun bt389 => (if (bt389.1.length : Int) = 0 then (ontimelaw24_CfgBuilds.j0 k task bt389.2.2.1 bt389.2.2.2 ((bt389.2.1.length : Int) == 0) x.f0 x.f1 x.f2 x.f3 bt389.1 bt389.2.1) else (ontimelaw24_CfgBuilds.j0 k task bt389.2.2.1 bt389.2.2.2 false x.f0 x.f1 x.f2 x.f3 bt389.1 bt389.2.1))))) else (some false)) := rfl
 refine Evt.some (g := fun k => ontimelaw24_CfgBuilds.f k x.f0 x.f1 x.f2 x.f3 task) ?_
 rw [e]
 refine Evt.bind awake_ends (Evt.pos rfl ?_)
 by_cases g1 : (x.f0.length : Int) > 300
 ·exact Evt.bind (a := 1) (Evt.of_eq (fun _ => by unfold ontimelaw24_Great.f; rw [if_pos g1])) (Evt.pos rfl (Evt.pure _))
 by_cases g2 : (x.f1.length : Int) > 4
 ·exact Evt.bind (a := 1) (Evt.of_eq (fun _ => by unfold ontimelaw24_Great.f; rw [if_neg g1, if_pos g2])) (Evt.pos rfl (Evt.pure _))
 refine Evt.bind (a := 0) (Evt.of_eq (fun _ => by unfold ontimelaw24_Great.f; rw [if_neg g1, if_neg g2])) (Evt.neg (by decide) ?_)
 obtain ⟨c, hck, hall⟩ := chk_all x.f0 x.f1 x.f2 x.f3 hw (by omega) (by omega)
 have hgood : c = 0 → x.f0.length ≤ 4096 ∧ ∀ j (h : j < x.f1.length), Part x.f0 (x.f1[j]).f1 (x.f1[j]).f2 := fun h => ⟨(hall h).1, (hall h).2.part⟩
 obtain ⟨B1, B2, B3⟩ := build_evt x.f0 x.f1 x.f2 x.f3 hw (by omega) (by omega) c hck hgood task
 by_cases hcz : c = 0
 ·by_cases hr : 0 ≤ task ∧ task < x.f1.length
  ·obtain ⟨j, rfl⟩ := Int.eq_ofNat_of_zero_le hr.1
   have hj : j < x.f1.length := by omega
   have hP := (hgood hcz).2 j hj
   have hb := B3 hcz j hj rfl
   obtain ⟨I, hIl, hIt, hIe⟩ := code_evt x.f0 x.f1 x.f2 x.f3 hw (by omega) (hall hcz).2.all
   have hlv := leave_evt (L := I) (by omega) hP hIl hIt
   obtain ⟨s1, s2⟩ := scan_leave x.f0 (x.f1[j]).f1 (x.f1[j]).f2 (Rf x.f0 (x.f1[j]).f1 (x.f1[j]).f2) (Lf x.f0 (x.f1[j]).f1 (x.f1[j]).f2) ((x.f1[j]).f2 - (x.f1[j]).f1).toNat (x.f1[j]).f1 []
   have hs0 := hP.s0
   have hel := hP.el
   refine Evt.bind hb ?_
   -- what follows the range's check
   have tail : ∀ (at_ er : Int) (z : Bool) (bl : List S51) (pv : List (List Int)), Evt (fun k => (ontimeref24_Leave.f k I (x.f1[j]).f1 (x.f1[j]).f2).bind fun t404 => (if t404 ≥ 0 then (if z = true then (if at_ = t404 then (some (er == 10)) else (some false)) else (some false)) else (if at_ = (-1) then (if er = 0 then ((ontimeref24_Build.f k I (x.f1[j]).f1 (x.f1[j]).f2).bind fun t405 => ((ontimelaw24_is.f k bl pv t405).bind fun t408 => (some t408))) else (some false)) else (some false)))) true →
     Evt (fun k => ontimelaw24_CfgBuilds.j0 k (j : Int) at_ er z x.f0 x.f1 x.f2 x.f3 bl pv) true := by
    intro at_ er z bl pv h
    refine Evt.step (fun k => by rw [ontimelaw24_CfgBuilds.j0]) ?_
    refine Evt.bind hck (Evt.pos hcz (Evt.neg (by omega) ?_))
    refine Evt.step (fun k => by rw [ontimelaw24_CfgBuilds.j1]) ?_
    refine Evt.neg (by simp; omega) (Evt.bind hIe (Evt.pos (by omega) (Evt.pos (by omega) ?_)))
    rw [rd39 _ _ hj]
    exact h
   unfold bspec
   cases hq : scan0 x.f0 (x.f1[j]).f1 (x.f1[j]).f2 with
   | inl p =>
    obtain ⟨l1, l2⟩ := s1 p hq
    rw [l1] at hlv
    exact Evt.pos rfl (tail p 10 true [] [] (Evt.bind hlv (Evt.pos (by omega) (Evt.pos rfl (Evt.pos rfl (Evt.pure _))))))
   | inr acc =>
    have l1 := s2 acc hq
    rw [l1] at hlv
    obtain ⟨hne, _⟩ := scan0_ok hP.se hq
    have hlen := blk_len _ _ _ _ hq
    have hacc : acc.length ≤ 4096 := by simp at hlen; omega
    have hpos : 0 < acc.length := List.length_pos_iff.2 hne
    have hfl := fins_len x.f0 acc
    have hrb := rbuild_evt (L := I) (by omega) hP hIl hIt acc hq hacc
    refine Evt.neg (by show ¬ ((fins x.f0 acc).length : Int) = 0; rw [hfl]; omega) (tail (-1) 0 false _ _ ?_)
    exact Evt.bind hlv (Evt.neg (by decide) (Evt.pos rfl (Evt.pos rfl (Evt.bind hrb (Evt.bind (finish_is x.f0 acc hne hacc) (Evt.pure _))))))
  ·have hb := B2 hcz hr
   refine Evt.bind hb (Evt.pos rfl ?_)
   refine Evt.step (fun k => by rw [ontimelaw24_CfgBuilds.j0]) ?_
   refine Evt.bind hck (Evt.pos hcz ?_)
   have jt : ∀ z : Bool, z = true → Evt (fun k => ontimelaw24_CfgBuilds.j1 k task (-1) 2 true z x.f0 x.f1 x.f2 x.f3 [] []) true := by
    intro z hz
    refine Evt.step (fun k => by rw [ontimelaw24_CfgBuilds.j1]) ?_
    exact Evt.pos hz (Evt.pos rfl (Evt.pos rfl (Evt.pure _)))
   by_cases q : task < 0
   ·exact Evt.pos q (jt _ rfl)
   ·exact Evt.neg q (jt _ (decide_eq_true (by omega)))
 ·have hb := B1 hcz
  refine Evt.bind hb (Evt.pos rfl ?_)
  refine Evt.step (fun k => by rw [ontimelaw24_CfgBuilds.j0]) ?_
  exact Evt.bind hck (Evt.neg hcz (Evt.pos rfl (Evt.pos rfl (Evt.pure _))))
end Go.Proofs.Ytihmfdndiicjgaa.Pure
