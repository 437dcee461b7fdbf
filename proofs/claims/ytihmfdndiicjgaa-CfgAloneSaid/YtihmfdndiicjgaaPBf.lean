/- A graph of Build's is what the law's own words say of its blocks. -/
import Derived.Test.YtihmfdndiicjgaaPBe
import Derived.Test.YtihmfdndiicjgaaCx8
import Derived.Test.YtihmfdndiicjgaaCx7
import Derived.Test.YtihmfdndiicjgaaCx6
set_option linter.unusedVariables false
set_option linter.unusedSimpArgs false
namespace Go.Proofs.Ytihmfdndiicjgaa.PB
open Go.RowKit Go.Proofs.Ytihmfdndiicjgaa.C Go.Proofs.HEvt Go.Proofs.YtihmfdndiicjgaaW.PrintWords
theorem awake_ends : Evt (fun k => ontimelaw24_awake.f k) true := Evt.of_mono (fun k => ontimelaw24_awake.mono k) (k := 60) (by kernel_rfl)
theorem rd104 (xs : List S104) (i : Nat) (h : i < xs.length) : rd_T104 xs (i : Int) = xs[i] := by unfold rd_T104; simp [List.getD_eq_getElem?_getD, h]
theorem rdLL (xs : List (List Int)) (i : Nat) (h : i < xs.length) : rd_L11 xs (i : Int) = xs[i] := by unfold rd_L11; simp [List.getD_eq_getElem?_getD, h]
theorem rdLL_any (p : List (List Int)) (t : Int) : rd_L11 p t = p.getD t.toNat [] := rfl
def InR (n : Nat) (ts : List Int) : Prop := ∀ t ∈ ts, 0 ≤ t ∧ t < (n : Int)
def cv (b : S51) : S104 := ⟨b.f0, b.f1, b.f2⟩
theorem ints_l0 (x0 : List Int) (hb : x0.length ≤ 4611686018427387904) : ∀ d i, i + d = x0.length → Evt (fun k => ontimelaw24_ints.l0 k x0 x0 (x0.length : Int) (i : Int)) true := by
 intro d
 induction d with
 | zero =>
  intro i hi
  exact Evt.step (fun k => by rw [ontimelaw24_ints.l0]) (Evt.neg (by omega) (Evt.pure _))
 | succ d ih =>
  intro i hi
  have h0 : i < x0.length := by omega
  refine Evt.step (fun k => by rw [ontimelaw24_ints.l0]) (Evt.pos (by omega) (Evt.pos (by omega) (Evt.pos (by omega) (Evt.pos (by omega) (Evt.pos rfl ?_)))))
  rw [evt_succ h0 hb]
  exact ih (i + 1) (by omega)
theorem ints_evt (x0 : List Int) (hb : x0.length ≤ 4611686018427387904) : Evt (fun k => ontimelaw24_ints.f k x0 x0) true := by
 have e : (fun k => ontimelaw24_ints.f k x0 x0) = fun k => if (x0.length : Int) = (x0.length : Int) then (ontimelaw24_ints.l0 k x0 x0 (x0.length : Int) 0) else (some false) := rfl
 rw [e]
 exact Evt.pos rfl (ints_l0 x0 hb x0.length 0 (by omega))
theorem rp_l1 (l0 : List S51) (i : Nat) (hi : i < l0.length) (hn : l0.length ≤ 1000000) (N : Nat) (hin : InR N (l0[i]).f2) (hts : (l0[i]).f2.length ≤ 10) : ∀ d j (p : List (List Int)) (B : Nat), j + d = (l0[i]).f2.length → p.length = N → (∀ y ∈ p, y.length ≤ B) → B + d ≤ 1000000000 →
  ∀ r, Evt (fun k => ontimeref24_Prev.l0 k (l0.map cv) (puts i p ((l0[i]).f2.drop j)) ((i + 1 : Nat) : Int)) r → Evt (fun k => ontimeref24_Prev.l1 k (l0.map cv) p (i : Int) (j : Int)) r := by
 have hm : i < (l0.map cv).length := by simp; exact hi
 have e0 : rd_T104 (l0.map cv) (i : Int) = cv (l0[i]) := by rw [rd104 _ _ hm]; simp
 have e1 : (cv (l0[i])).f2 = (l0[i]).f2 := rfl
 have hlm : (l0.map cv).length = l0.length := by simp
 intro d
 induction d with
 | zero =>
  intro j p B hj hp hB hd r hr
  rw [List.drop_of_length_le (by omega)] at hr
  refine Evt.step (fun k => by rw [ontimeref24_Prev.l1]) (Evt.pos (by omega) (Evt.pos (by omega) ?_))
  rw [e0, e1]
  refine Evt.neg (by omega) ?_
  rw [evt_succ (n := i + 1) (by omega) (by omega)]
  exact hr
 | succ d ih =>
  intro j p B hj hp hB hd r hr
  have hlt : j < (l0[i]).f2.length := by omega
  rw [List.drop_eq_getElem_cons hlt] at hr
  have h0 := hin _ (List.getElem_mem hlt)
  have hrow : (rd_L11 p ((l0[i]).f2[j])).length < 17592186044416 := by
   rw [rdLL_any, List.getD_eq_getElem?_getD]
   cases hq : p[((l0[i]).f2[j]).toNat]? with
   | none => simp
   | some z => have := hB z (List.mem_of_getElem? hq); simp; omega
  have h1 := ih (j + 1) (put1 i p ((l0[i]).f2[j])) (B + 1) (by omega) (by rw [put1_len, hp]) (put1_row i p _ B hB) (by omega) r hr
  refine Evt.step (fun k => by rw [ontimeref24_Prev.l1]) (Evt.pos (by omega) (Evt.pos (by omega) ?_))
  rw [e0, e1]
  refine Evt.pos (by omega) (Evt.pos (by omega) ?_)
  rw [rd_nat _ _ hlt]
  refine Evt.pos (by omega) (Evt.pos (by omega) (Evt.pos hrow ?_))
  rw [evt_succ hlt (by omega)]
  exact h1
theorem rp_l0 (l0 : List S51) (hn : l0.length ≤ 1000000) (hx : ∀ x ∈ l0, x.f2.length ≤ 10) (N : Nat) (hin : ∀ x ∈ l0, InR N x.f2) : ∀ d i (p : List (List Int)), i + d = l0.length → p.length = N → (∀ y ∈ p, y.length ≤ 10 * i) →
  Evt (fun k => ontimeref24_Prev.l0 k (l0.map cv) p (i : Int)) (prevs i p (l0.drop i)) := by
 have hlm : (l0.map cv).length = l0.length := by simp
 intro d
 induction d with
 | zero =>
  intro i p hi hp hB
  rw [List.drop_of_length_le (by omega)]
  exact Evt.step (fun k => by rw [ontimeref24_Prev.l0]) (Evt.neg (by omega) ((Evt.pure p).to rfl))
 | succ d ih =>
  intro i p hi hp hB
  have hlt : i < l0.length := by omega
  rw [List.drop_eq_getElem_cons hlt]
  have h10 := hx _ (List.getElem_mem hlt)
  have hnext := ih (i + 1) (puts i p l0[i].f2) (by omega) (by rw [puts_len, hp]) (fun y hy => by have := puts_row i _ p _ hB y hy; omega)
  refine Evt.step (fun k => by rw [ontimeref24_Prev.l0]) (Evt.pos (by omega) ?_)
  exact rp_l1 l0 i hlt hn N (hin _ (List.getElem_mem hlt)) h10 l0[i].f2.length 0 p (10 * i) (by omega) hp hB (by omega) _ hnext
theorem rp_evt (l0 : List S51) (hn : l0.length ≤ 1000000) (hx : ∀ x ∈ l0, x.f2.length ≤ 10) (hin : ∀ x ∈ l0, InR l0.length x.f2) : Evt (fun k => ontimeref24_Prev.f k (l0.map cv)) (prevs 0 (List.replicate l0.length []) l0) := by
 have hlm : (l0.map cv).length = l0.length := by simp
 have e : (fun k => ontimeref24_Prev.f k (l0.map cv)) = fun k => if 0 ≤ ((l0.map cv).length : Int) then (if (((l0.map cv).length : Int) : Int).toNat ≤ 11728124029610 then (ontimeref24_Prev.l0 k (l0.map cv) (List.replicate (((l0.map cv).length : Int) : Int).toNat []) 0) else (none)) else (none) := rfl
 rw [e, hlm]
 refine Evt.pos (by omega) (Evt.pos (by omega) ?_)
 have := rp_l0 l0 hn hx l0.length hin l0.length 0 (List.replicate l0.length []) (by omega) (by simp) (fun y hy => by rw [(List.mem_replicate.1 hy).2]; simp)
 exact this
theorem is_l0 (bl : List S51) (pv : List (List Int)) (hn : bl.length ≤ 1000000) (hp : pv.length = bl.length) (hx : ∀ x ∈ bl, x.f2.length ≤ 10) (hr : ∀ y ∈ pv, y.length ≤ 4611686018427387904) : ∀ d i, i + d = bl.length →
  Evt (fun k => ontimelaw24_is.l0 k (bl.map cv) pv bl (bl.length : Int) (i : Int) bl pv) true := by
 have hlm : (bl.map cv).length = bl.length := by simp
 intro d
 induction d with
 | zero =>
  intro i hi
  exact Evt.step (fun k => by rw [ontimelaw24_is.l0]) (Evt.neg (by omega) (Evt.pure _))
 | succ d ih =>
  intro i hi
  have hlt : i < bl.length := by omega
  have hm : i < (bl.map cv).length := by omega
  have hq : i < pv.length := by omega
  have e0 : rd_T104 (bl.map cv) (i : Int) = cv (bl[i]) := by rw [rd104 _ _ hm]; simp
  have f0 : (cv (bl[i])).f0 = (bl[i]).f0 := rfl
  have f1 : (cv (bl[i])).f1 = (bl[i]).f1 := rfl
  have f2 : (cv (bl[i])).f2 = (bl[i]).f2 := rfl
  have h10 := hx _ (List.getElem_mem hlt)
  have hrow := hr _ (List.getElem_mem hq)
  refine Evt.step (fun k => by rw [ontimelaw24_is.l0]) (Evt.pos (by omega) (Evt.pos (by omega) (Evt.pos (by omega) (Evt.pos (by omega) ?_))))
  rw [e0, f0, f1, f2, rd51 _ _ hlt, rdLL _ _ hq]
  refine Evt.pos rfl (Evt.pos rfl (Evt.bind (ints_evt _ (by omega)) (Evt.pos rfl (Evt.pos (by omega) (Evt.pos (by omega) (Evt.bind (ints_evt _ hrow) (Evt.pos rfl ?_)))))))
  rw [evt_succ hlt (by omega)]
  exact ih (i + 1) (by omega)
/-- Blocks with their own predecessors are what they are. -/
theorem is_evt (bl : List S51) (hn : bl.length ≤ 4096) (hx : ∀ x ∈ bl, x.f2.length ≤ 2) (hin : ∀ x ∈ bl, InR bl.length x.f2) : Evt (fun k => ontimelaw24_is.f k bl (prevs 0 (List.replicate bl.length []) bl) (bl.map cv)) true := by
 have hlm : (bl.map cv).length = bl.length := by simp
 have hpl : (prevs 0 (List.replicate bl.length []) bl).length = bl.length := by rw [prevs_len]; simp
 have e : (fun k => ontimelaw24_is.f k bl (prevs 0 (List.replicate bl.length []) bl) (bl.map cv)) = fun k => if (bl.length : Int) = ((bl.map cv).length : Int) then (ontimelaw24_is.j0 k (bl.map cv) (((prevs 0 (List.replicate bl.length []) bl).length : Int) != ((bl.map cv).length : Int)) bl (prevs 0 (List.replicate bl.length []) bl)) else (ontimelaw24_is.j0 k (bl.map cv) true bl (prevs 0 (List.replicate bl.length []) bl)) := rfl
 rw [e, hlm]
 have hrow := prevs_row bl 0 (List.replicate bl.length []) 0 hx (fun y hy => by rw [(List.mem_replicate.1 hy).2]; simp)
 refine Evt.pos rfl (Evt.step (fun k => by rw [ontimelaw24_is.j0]) (Evt.neg (by rw [hpl]; simp) (Evt.bind (rp_evt bl (by omega) (fun x h => by have := hx x h; omega) hin) ?_)))
 exact is_l0 bl _ (by omega) hpl (fun x h => by have := hx x h; omega) (fun y hy => by have := hrow y hy; omega) bl.length 0 (by omega)
theorem once_mem : ∀ (ts cur : List Int) (x : Int), x ∈ once cur ts ↔ x ∈ cur ∨ x ∈ ts := by
 intro ts
 induction ts with
 | nil => intro cur x; simp [once]
 | cons t ts ih =>
  intro cur x
  show x ∈ once (ins1 cur t) ts ↔ _
  rw [ih]
  unfold ins1
  by_cases h : t ∈ cur
  ·rw [if_pos h, List.mem_cons]
   constructor
   ·rintro (q | q)
    ·exact .inl q
    ·exact .inr (.inr q)
   ·rintro (q | q | q)
    ·exact .inl q
    ·exact .inl (q ▸ h)
    ·exact .inr q
  ·rw [if_neg h]
   simp only [List.mem_append, List.mem_cons, List.not_mem_nil, or_false]
   exact or_assoc
theorem fins_len (code : List Int) (acc : List S51) : (fins code acc).length = acc.length := by unfold fins; simp
theorem fins_in (code : List Int) (acc : List S51) (hne : acc ≠ []) : ∀ x ∈ fins code acc, x.f2.length ≤ 2 ∧ InR acc.length x.f2 := by
 intro x hx
 obtain ⟨b, _, rfl⟩ := List.mem_map.1 hx
 refine ⟨fin1_len code acc b, fun t ht => ?_⟩
 rcases (once_mem _ _ _).1 ht with q | q
 ·cases q
 ·obtain ⟨y, _, rfl⟩ := List.mem_map.1 q
  exact numOf_range acc hne y
theorem finish_is (code : List Int) (acc : List S51) (hne : acc ≠ []) (hn : acc.length ≤ 4096) : Evt (fun k => ontimelaw24_is.f k (finish code acc).1 (finish code acc).2.1 ((finish code acc).1.map cv)) true := by
 have h := fins_in code acc hne
 have hl := fins_len code acc
 have := is_evt (fins code acc) (by omega) (fun x hx => (h x hx).1) (fun x hx => by rw [hl]; exact (h x hx).2)
 rw [hl] at this
 exact this
theorem nil_is : Evt (fun k => ontimelaw24_is.f k ([] : List S51) ([] : List (List Int)) (([] : List S51).map cv)) true := is_evt [] (by simp) (fun x hx => by cases hx) (fun x hx => by cases hx)
end Go.Proofs.Ytihmfdndiicjgaa.PB
