import Derived.Test.YtihmfdndiicjgaaZl
namespace Go.Proofs.Ytihmfdndiicjgaa.C
open Go.RowKit Go.Proofs.YtihmfdndiicjgaaW.PrintWords Go.Proofs.YtihmfdndiicjgaaW.PrintLast Go.Proofs.YtihmfdndiicjgaaW.PrintMore Go.Proofs.HMap Go.Proofs.HLaws
set_option linter.unusedVariables false
set_option linter.unusedSimpArgs false
def NumObj (b : Nat) (om : Obj) (m : Nat) (g : Int → Int) : Prop := ∀ W : World, W.heap[b]? = some om → IntMap Try.prog 3 3 .i64 .i64 W b m g
theorem NumObj.of {W : World} {b m : Nat} {g : Int → Int} (h : IntMap Try.prog 3 3 .i64 .i64 W b m g) : ∃ om, W.heap[b]? = some om ∧ NumObj b om m g :=
 ⟨W.heap[b]'h.lt, Array.getElem?_eq_getElem h.lt, fun W' h' => h.block (h'.trans (Array.getElem?_eq_getElem h.lt).symm)⟩
theorem num_ne_cells {P : Program} {k e' : TypeId} {q r : IntKind} {W : World} {b n g : Nat} {cs : Array Value} {t : TypeId} {x : Nat × Nat} {f : Int → Int} (h : W.heap[g]? = some (.cells cs t x)) (hm : IntMap P k e' q r W b n f) : b ≠ g := by
 rintro rfl
 obtain ⟨D, ⟨es, c, h1, _⟩, _⟩ := hm
 rw [h] at h1
 cases h1
theorem num_ne_R {α : Type} {d : Kd α} {P : Program} {k e e' : TypeId} {q r : IntKind} {W : World} {base b n : Nat} {ok : Nat → Prop} {v : Value} {xs : List α} {g : Int → Int} (h : d.R e W base ok v xs) (hm : IntMap P k e' q r W b n g) : some b ≠ v.ownBlock := by
 intro he
 obtain ⟨cells, hc⟩ := Kd.R_typed h b he.symm
 exact num_ne_cells hc hm rfl
theorem num_ne_S {α : Type} {d : Kd α} {P : Program} {k e e' : TypeId} {q r : IntKind} {W : World} {base b n : Nat} {ok : Nat → Prop} {v : Value} {xs : List α} {g : Int → Int} (h : Kd.S d e W base ok v xs) (hm : IntMap P k e' q r W b n g) : some b ≠ v.ownBlock := num_ne_R (Kd.S_R h) hm
theorem S_num {α : Type} {d : Kd α} {P : Program} {k e e' : TypeId} {q r : IntKind} {W w1 : World} {base b n : Nat} {ok : Nat → Prop} {v : Value} {xs : List α} {g : Int → Int} (h : Kd.S d e W base ok v xs) (hm : IntMap P k e' q r W b n g) (hg : W.grownBy w1 (some b)) : Kd.S d e w1 base ok v xs := by
 have h2 := Kd.S_grown (Kd.S_bound h) hg (fun k hk he => by
  obtain ⟨_, _, _, q, _, cells, hc⟩ := hk
  injection he with he
  subst he
  exact num_ne_cells hc hm rfl)
 exact Kd.S_mono h2 (fun _ hk => hk.1)
theorem R_num {α : Type} {d : Kd α} {P : Program} {k e e' : TypeId} {q r : IntKind} {W w1 : World} {base b n : Nat} {ok : Nat → Prop} {v : Value} {xs : List α} {g : Int → Int} (h : d.R e W base ok v xs) (hE : d.E = []) (hm : IntMap P k e' q r W b n g) (hg : W.grownBy w1 (some b)) : d.R e w1 base ok v xs :=
 Kd.R_grown2 h hE hg (fun k hk => by injection hk with hk; subst hk; exact num_ne_R h hm)
theorem blk_num {P : Program} {k e' : TypeId} {q r : IntKind} {W w1 : World} {b n : Nat} {f : Int → Int} {g : Nat} {cs : Array Value} {t : TypeId} (h : W.heap[g]? = some (.cells cs t (0, 0))) (hm : IntMap P k e' q r W b n f) (hg : W.grownBy w1 (some b)) : w1.heap[g]? = some (.cells cs t (0, 0)) :=
 blk_grown h hg (fun he => num_ne_cells h hm (oI he).symm)
theorem blk_far' {w : World} {g : Nat} {o : Obj} (h : w.heap[g]? = some o) {p : Addr} (hp : g ≠ p.block) (u : Value) : (w.setCell p u).heap[g]? = some o := (Below.heap_setCell w p u g hp).trans h
section
variable {P : Program} {ops : Array Oper} {rest : List Oper} {o : Oper} {a : Act} {Q : Exit → Act → World → Prop}
theorem wp_look_bool' {W : World} {t k e : TypeId} {q : IntKind} {b n : Nat} {g : Int → Bool} (hg : o.guard = none) (m x : Operand) (hop : o.op = Op.lookup t m x false) (h : BoolMap P k e q W b n g) (ht : P.underlying t = some (.map k e)) (hk : P.underlying k = some (.int q)) (he : P.underlying e = some .bool)
  (hz : (zeroValue e).run P W = .ok (.bool false) W) (hm : a.eval m = .map (some b)) (key : Int) (hx : a.eval x = .int q key) (hw : (Lit.int q key).wf = true) (v : Bool) (hv : g key = v)
  (hK : wpList P ops Q rest (a.put o.dst (.bool v)) W) : wpList P ops Q (o :: rest) a W := by
 subst hv
 exact wp_look_bool hg m x hop h ht hk he hz hm key hx hw hK
theorem wp_look_int' {W : World} {t k e : TypeId} {q r : IntKind} {b n : Nat} {g : Int → Int} (hg : o.guard = none) (m x : Operand) (hop : o.op = Op.lookup t m x false) (h : IntMap P k e q r W b n g) (ht : P.underlying t = some (.map k e)) (hk : P.underlying k = some (.int q)) (he : P.underlying e = some (.int r))
  (hz : (zeroValue e).run P W = .ok (.int r 0) W) (hm : a.eval m = .map (some b)) (key : Int) (hx : a.eval x = .int q key) (hw : (Lit.int q key).wf = true) (v : Int) (hv : g key = v)
  (hK : wpList P ops Q rest (a.put o.dst (.int r v)) W) : wpList P ops Q (o :: rest) a W := by
 subst hv
 exact wp_look_int hg m x hop h ht hk he hz hm key hx hw hK
theorem wp_make_map {W : World} (hg : o.guard = none) (t : TypeId) (hop : o.op = Op.makeMap t none)
  (hK : ∀ b W', W.heap.size ≤ b → W'.heap[b]? = some (.map #[] 0) → Below W.heap.size W W' → wpList P ops Q rest (a.put o.dst (.map (some b))) W') : wpList P ops Q (o :: rest) a W := by
 refine wpList_plain hg fun K' hK' => ?_
 unfold Oper.wp
 simp [execOp, hop, run_makeMap, Result.andThen]
 exact hK' _ _ (hK _ _ (Nat.le_refl _) (blk_new _ _) (below_alloc (Below.refl _ _) _))
end
theorem NumObj.empty (b : Nat) : NumObj b (.map #[] 0) 0 (fun _ => 0) := by
 intro W h
 refine IntMap.block (W := { W with heap := (W.heap.extract 0 b).push (.map #[] 0) }) ?_ ?_
 ·have hs : ({ W with heap := W.heap.extract 0 b } : World).heap.size = b := by have := blk_lt h; simp; omega
  have h1 := IntMap.made Try.prog 3 3 .i64 .i64 { W with heap := W.heap.extract 0 b }
  rw [hs] at h1
  exact h1
 ·have := blk_lt h
  rw [h]
  simp [Array.getElem?_push]
  omega
theorem xr_wf {k : Nat} {code : List Int} {s e : Int} {x : (Int → Bool) × (Int → Bool)} (h : xr k code s e = some x) : -9223372036854775808 ≤ s ∧ s ≤ 9223372036854775807 := by
 unfold xr at h
 cases hk : min k 1099511627776 with
 | zero => rw [hk] at h; simp [cfg_explore.l0] at h
 | succ j =>
  rw [hk] at h
  unfold cfg_explore.l0 at h
  rw [if_pos (by simp)] at h
  have e1 : rd [s] ((([s] : List Int).length : Int) - 1) = s := rfl
  rw [e1] at h
  by_cases hh : -9223372036854775808 ≤ s ∧ s ≤ 9223372036854775807
  ·exact hh
  ·rw [if_neg hh] at h; simp at h
theorem xr_some {k : Nat} {code : List Int} {s e t : Int} (h : xb_explored.f k code s e = some t) : ∃ x, xr k code s e = some x := by
 unfold xb_explored.f at h
 obtain ⟨x, hx, _⟩ := bM h
 exact ⟨x, hx⟩
theorem xb_reach_eq {k k' : Nat} {code : List Int} {s e pc : Int} {t : Bool} {r l : Int → Bool} (h : xb_reach.f k code s e pc = some t) (hx : xr k' code s e = some (r, l)) : r pc = t := by
 unfold xb_reach.f at h
 obtain ⟨x, h1, h2⟩ := bM h
 have := xr.same hx h1
 subst this
 exact oI h2
theorem xb_lead_eq {k k' : Nat} {code : List Int} {s e pc : Int} {t : Bool} {r l : Int → Bool} (h : xb_lead.f k code s e pc = some t) (hx : xr k' code s e = some (r, l)) : l pc = t := by
 unfold xb_lead.f at h
 obtain ⟨x, h1, h2⟩ := bM h
 have := xr.same hx h1
 subst this
 exact oI h2
theorem at_call (gb : Nat) (A : Option Addr) (n c : Nat) (nm : ByteArray) (s e d : Int) (br bl : Nat) (code : List Int) (pc : Int) (w : World) (hn : code.length = n)
  (hB : BuilderAt w gb A n c nm s e d br bl) (hC : Kd.C (Kd.int .u32) w A n code) (t1 t2 t3 t4 t5 : Int) (h : xb_at.f code pc = some (t1, t2, t3, t4, t5)) :
  Calls Try.prog 38 #[.pointer (some ⟨gb, 0, none⟩), .int .i64 pc] w fun e w' => e = .returned (.agg #[.int .u8 t1, .int .i64 t2, .int .i64 t3, .int .i64 t4, .int .i64 t5]) ∧ Below w.heap.size w w' := by
 unfold xb_at.f at h
 split at h
 ·rename_i h0
  split at h
  ·rename_i h1
   obtain ⟨⟨i1, i2, i3, i4, i5, i6⟩, hd, h2⟩ := bM h
   simp only [Option.some.injEq, Prod.mk.injEq] at h2
   obtain ⟨rfl, rfl, rfl, rfl, rfl⟩ := h2
   have hb : 0 ≤ rd code pc ∧ rd code pc ≤ 4294967295 := by
    have hd' := hd
    unfold isa_Decode.f at hd'
    split at hd'
    ·rename_i g0
     split at hd'
     ·rename_i g1; exact ⟨g0, g1⟩
     ·simp at hd'
    ·simp at hd'
   exact cfg_builder_at.call gb A n c nm s e d br bl code pc w hB hC h0 (by omega) hb.1 hb.2 _ _ _ _ _ i6 hd
  ·simp at h
 ·simp at h
theorem made3 (wc : World) (o : Obj) (br bl : Nat) (h : (br = wc.heap.size ∧ bl = wc.heap.size + 1) ∨ (br = wc.heap.size + 1 ∧ bl = wc.heap.size)) (W : World) (hW : W.heap = (((wc.alloc (.map #[] 0)).alloc (.map #[] 0)).alloc o).heap) :
  BoolMap Try.prog 3 4 .i64 W br 0 (fun _ => false) ∧ BoolMap Try.prog 3 4 .i64 W bl 0 (fun _ => false) ∧ W.heap[wc.heap.size + 1 + 1]? = some o ∧ br ≠ bl ∧ wc.heap.size ≤ br ∧ wc.heap.size ≤ bl := by
 have h1 : BoolMap Try.prog 3 4 .i64 W wc.heap.size 0 (fun _ => false) := (BoolMap.made Try.prog 3 4 .i64 wc).block (by rw [hW, blk_alloc (blk_alloc (blk_new _ _) _) _, blk_new])
 have s1 : (wc.alloc (.map #[] 0)).heap.size = wc.heap.size + 1 := by simp [World.alloc_eq]
 have s2 : ((wc.alloc (.map #[] 0)).alloc (.map #[] 0)).heap.size = wc.heap.size + 1 + 1 := by simp [World.alloc_eq]
 have h2 : BoolMap Try.prog 3 4 .i64 W (wc.heap.size + 1) 0 (fun _ => false) := by
  have h := (BoolMap.made Try.prog 3 4 .i64 (wc.alloc (.map #[] 0)))
  rw [s1] at h
  exact h.block (by rw [hW]; have h3 := blk_new (wc.alloc (.map #[] 0)) (.map #[] 0); rw [s1] at h3; rw [blk_alloc h3 _, h3])
 have h3 : W.heap[wc.heap.size + 1 + 1]? = some o := by rw [hW]; have h3 := blk_new ((wc.alloc (.map #[] 0)).alloc (.map #[] 0)) o; rw [s2] at h3; exact h3
 rcases h with ⟨rfl, rfl⟩ | ⟨rfl, rfl⟩
 ·exact ⟨h1, h2, h3, by omega, by omega, by omega⟩
 ·exact ⟨h2, h1, h3, by omega, by omega, by omega⟩
end Go.Proofs.Ytihmfdndiicjgaa.C
