/- What a reading of deep data leaves: rows of words of the walk. Whatever was read is there, as the walks ask for it. -/
import Derived.Test.YtihmfdndiicjgaaWMore
import Derived.Deep.Slices
import Derived.ChangeArms
import Derived.WideShapes
set_option linter.unusedVariables false
namespace Go.Proofs.HLift
open Go.RowKit Go.Proofs.YtihmfdndiicjgaaW.PrintWords Go.ChangeShapes Go.WideShapes Go.Deep
section
variable {H : Type} {enc : TypeId × Value → H} {P : Program} {w : World}
def Lf (enc : TypeId × Value → H) (P : Program) (w : World) {α : Type} (d : Kd α) (t : TypeId) (ok : α → Prop) : Prop :=
 ∀ fuel cs x, DataW.trod enc P w 0 (fun _ => true) true fuel t cs = some x → ∃ y, d.K w y cs ∧ ok y
theorem Lf.int {t : TypeId} {k : IntKind} (hu : P.underlying t = some (.int k)) : Lf enc P w (Kd.int k) t (fun z => (Lit.int k z).wf = true) := by
 intro fuel cs x h
 obtain ⟨n, rfl, _, hw⟩ := DataW.trod_int hu h
 exact ⟨n, rfl, hw⟩
theorem Lf.bool {t : TypeId} (hu : P.underlying t = some .bool) : Lf enc P w Kd.bool t (fun _ => True) := by
 intro fuel cs x h
 obtain ⟨b, rfl, _⟩ := DataW.trod_bool hu h
 exact ⟨b, rfl, trivial⟩
theorem Lf.string {t : TypeId} (hu : P.underlying t = some .string) : Lf enc P w Kd.string t (fun s => s.size ≤ maxLen) := by
 intro fuel cs x h
 obtain ⟨s, rfl, _, hs⟩ := DataW.trod_string hu h
 exact ⟨s, rfl, hs⟩
theorem mapM_get {α β : Type} {f : α → Option β} : ∀ {l : List α} {ys : List β}, l.mapM f = some ys → ys.length = l.length ∧ ∀ (i : Nat) (x : α), l[i]? = some x → f x = ys[i]?
 | [], ys, h => by
  simp at h
  subst h
  simp
 | x :: l, ys, h => by
  rw [List.mapM_cons] at h
  cases hx : f x with
  | none => rw [hx] at h; simp at h
  | some y =>
   cases hl : l.mapM f with
   | none => rw [hx, hl] at h; simp at h
   | some zs =>
    rw [hx, hl] at h
    simp at h
    subst h
    obtain ⟨h1, h2⟩ := mapM_get hl
    refine ⟨by simp [h1], fun i z hz => ?_⟩
    cases i with
    | zero => simp at hz ⊢; rw [← hz]; exact hx
    | succ i => simp at hz ⊢; exact h2 i z hz
theorem cells_get {a : Addr} {m : Nat} {cs : List Value} (h : w.cells? 0 a m = some cs) : cs.length = m ∧ ∀ i u, cs[i]? = some u → w.cell? (a.add i) = some u := by
 unfold World.cells? at h
 rw [if_pos (Nat.zero_le _)] at h
 obtain ⟨h1, h2⟩ := mapM_get h
 rw [List.length_range] at h1
 refine ⟨h1, fun i u hu => ?_⟩
 have hi : i < m := by rw [← h1]; exact (List.getElem?_eq_some_iff.1 hu).1
 have := h2 i i (List.getElem?_range hi)
 rw [this, hu]
theorem Lf.slice {α : Type} (z : α) {d : Kd α} {t e : TypeId} {ok : α → Prop} (hu : P.underlying t = some (.slice e)) (hc : P.cellsOf e = d.sz) (h : Lf enc P w d e ok) :
  Lf enc P w (Kd.slice e d) t (fun xs => xs.length ≤ maxLen ∧ ∀ x ∈ xs, ok x) := by
 intro fuel cs x hx
 rcases open_slice hu hx with ⟨rfl, _⟩ | ⟨a, len, cap, m, n, D, Pl, rfl, _, hl, hm, hmm, _, he⟩
 ·refine ⟨[], ⟨none, 0, rfl, Nat.le_refl _, rfl, by simp, fun h => absurd h (by simp)⟩, by simp, by simp⟩
 ·obtain rfl : m = cap := by simpa using hmm
  have h1 : ∀ i, i < len → ∃ y : α, (∃ c, c.length = d.sz ∧ d.K w y c ∧ ∀ j u, c[j]? = some u → w.cell? (a.add (i * d.sz + j)) = some u) ∧ ok y := by
   intro i hi
   obtain ⟨c, hcs, ht⟩ := he i (Nat.lt_of_lt_of_le hi hl)
   obtain ⟨y, hK, hy⟩ := h _ _ _ ht
   obtain ⟨g1, g2⟩ := cells_get hcs
   rw [hc] at g1 g2
   exact ⟨y, ⟨c, g1, hK, fun j u hu_ => by rw [← Go.Deep.add_add]; exact g2 j u hu_⟩, hy⟩
  haveI : Inhabited α := ⟨z⟩
  obtain ⟨f, hf⟩ := choose_lt h1
  have hlen : ((List.range len).map f).length = len := by simp
  have hm' : len ≤ maxLen := Nat.le_trans hl hm
  refine ⟨(List.range len).map f, ⟨some a, m, by rw [hlen], by rw [hlen]; exact hl, ?_⟩, by rw [hlen]; exact hm', ?_⟩
  ·rw [hlen]
   refine ⟨hlen, by unfold maxLen at hm'; omega, fun _ => ⟨a, rfl, fun j p hp => ?_⟩⟩
   have hj : j < len := by
    have := (List.getElem?_eq_some_iff.1 hp).1
    rwa [hlen] at this
   have : p = f j := by
    rw [List.getElem?_map, List.getElem?_range hj] at hp
    exact (Option.some.inj hp).symm
   subst this
   exact (hf j hj).1
  ·intro z hz
   obtain ⟨i, hi, rfl⟩ := List.mem_map.1 hz
   exact (hf i (List.mem_range.1 hi)).2
theorem take_drop_two (cs : List Value) (a b : Nat) (h : cs.length = a + b) : cs = (cs.drop 0).take a ++ (cs.drop a).take b := by
 have h2 : (cs.drop a).take b = cs.drop a := List.take_of_length_le (by rw [List.length_drop]; omega)
 rw [h2, List.drop_zero, List.take_append_drop]
theorem Lf.struct4 {α β γ δ ε : Type} {d0 : Kd α} {d1 : Kd β} {d2 : Kd γ} {d3 : Kd δ} {t : TypeId} {f0 f1 f2 f3 : Field} {ok0 : α → Prop} {ok1 : β → Prop} {ok2 : γ → Prop} {ok3 : δ → Prop} {g : ε → α × β × γ × δ} (mk : α → β → γ → δ → ε) (hg : ∀ a b c e, g (mk a b c e) = (a, b, c, e))
  (hu : P.underlying t = some (.struct #[f0, f1, f2, f3])) (ct : P.cellsOf t = d0.sz + d1.sz + d2.sz + d3.sz) (o : f0.offset = 0 ∧ f1.offset = d0.sz ∧ f2.offset = d0.sz + d1.sz ∧ f3.offset = d0.sz + d1.sz + d2.sz) (c : P.cellsOf f0.type = d0.sz ∧ P.cellsOf f1.type = d1.sz ∧ P.cellsOf f2.type = d2.sz ∧ P.cellsOf f3.type = d3.sz)
  (h0 : Lf enc P w d0 f0.type ok0) (h1 : Lf enc P w d1 f1.type ok1) (h2 : Lf enc P w d2 f2.type ok2) (h3 : Lf enc P w d3 f3.type ok3) : Lf enc P w (Kd.iso (Kd.pair d0 (Kd.pair d1 (Kd.pair d2 d3))) g) t (fun x => ok0 (g x).1 ∧ ok1 (g x).2.1 ∧ ok2 (g x).2.2.1 ∧ ok3 (g x).2.2.2) := by
 intro fuel cs x h
 obtain ⟨xs, n, _, _, hl, hlen, hf⟩ := DataW.trod_struct hu h
 match xs, hlen with
 | [y0, y1, y2, y3], _ =>
  have q0 := hf 0 f0 rfl
  have q1 := hf 1 f1 rfl
  have q2 := hf 2 f2 rfl
  have q3 := hf 3 f3 rfl
  obtain ⟨a, ka, oa⟩ := h0 _ _ _ q0
  obtain ⟨b, kb, ob⟩ := h1 _ _ _ q1
  obtain ⟨e, ke, oe⟩ := h2 _ _ _ q2
  obtain ⟨i, ki, oi⟩ := h3 _ _ _ q3
  rw [o.1, c.1] at ka
  rw [o.2.1, c.2.1] at kb
  rw [o.2.2.1, c.2.2.1] at ke
  rw [o.2.2.2, c.2.2.2] at ki
  refine ⟨mk a b e i, ?_, by show ok0 (g (mk a b e i)).1 ∧ ok1 (g (mk a b e i)).2.1 ∧ ok2 (g (mk a b e i)).2.2.1 ∧ ok3 (g (mk a b e i)).2.2.2; rw [hg]; exact ⟨oa, ob, oe, oi⟩⟩
  show ∃ c0 c1, cs = c0 ++ c1 ∧ d0.K w (g (mk a b e i)).1 c0 ∧ ∃ c2 c3, c1 = c2 ++ c3 ∧ d1.K w (g (mk a b e i)).2.1 c2 ∧ ∃ c4 c5, c3 = c4 ++ c5 ∧ d2.K w (g (mk a b e i)).2.2.1 c4 ∧ d3.K w (g (mk a b e i)).2.2.2 c5
  rw [hg]
  have e1 := take_drop_two cs d0.sz (d1.sz + d2.sz + d3.sz) (by rw [hl, ct]; omega)
  have e3 : ((cs.drop d0.sz).take (d1.sz + d2.sz + d3.sz)) = cs.drop d0.sz := List.take_of_length_le (by rw [List.length_drop, hl, ct]; omega)
  have e2 := take_drop_two (cs.drop d0.sz) d1.sz (d2.sz + d3.sz) (by rw [List.length_drop, hl, ct]; omega)
  have e4 : (((cs.drop d0.sz).drop d1.sz).take (d2.sz + d3.sz)) = cs.drop (d0.sz + d1.sz) := by rw [List.drop_drop]; exact List.take_of_length_le (by rw [List.length_drop, hl, ct]; omega)
  have e5 := take_drop_two (cs.drop (d0.sz + d1.sz)) d2.sz d3.sz (by rw [List.length_drop, hl, ct]; omega)
  rw [List.drop_zero] at e2 e5
  rw [e4] at e2
  rw [List.drop_drop] at e5
  rw [e3] at e1
  exact ⟨_, _, e1, ka, _, _, e2, kb, _, _, e5, ke, ki⟩
end
end Go.Proofs.HLift
