/- Laws at single operations, for walks by hand: bytes of a string, a literal's mark. -/
import Derived.Test.YtihmfdndiicjgaaWMore
import Derived.Test.YtihmfdndiicjgaaWNEv
import Derived.Lib.ConvBytes
import Derived.Lib.SlBytesConst
set_option linter.unusedVariables false
namespace Go.Proofs.HLaws
open Go.RowKit Go.Proofs.YtihmfdndiicjgaaW.PrintWords Go.Proofs.YtihmfdndiicjgaaW.PrintLast Go.Proofs.YtihmfdndiicjgaaW.PrintMore
section
variable {P : Program} {ops : Array Oper} {rest : List Oper} {o : Oper} {a : Act} {Q : Exit → Act → World → Prop}
theorem bytes_below (W : World) (e : TypeId) (s : ByteArray) : Below W.heap.size W (Lib.bytesWorld W e s) :=
 ⟨rfl, rfl, rfl, by rw [Lib.bytesWorld_size]; omega, fun i hi => Lib.bytesWorld_at_old W e s i hi⟩
theorem bytes_reads (W : World) (e : TypeId) (s : ByteArray) (hs : s.size ≤ 9223372036854775807) : Kd.C (Kd.int .u8) (Lib.bytesWorld W e s) (some ⟨W.heap.size, 0, none⟩) s.size (bytesOf s) := by
 refine Kd.C_of_reads (d := 0) ?_
 refine ⟨bytesOf_length s, hs, fun _ => ⟨_, rfl, fun j hj => ?_⟩⟩
 rw [add_plain]
 rw [Lib.bytesWorld_cell W e s j hj]
 congr 2
 simp [bytesOf, List.getD_eq_getElem?_getD, List.getElem?_map]
 cases h : s.data[j]? with
 | none => simp at h; have : s.data.size = s.size := rfl; omega
 | some x => simp
theorem blk_put5 {w : World} {g : Nat} {t : TypeId} {a0 a1 a2 a3 a4 : Value} (h : w.heap[g]? = some (.cells #[a0, a1, a2, a3, a4] t (0, 0))) (b0 b1 b2 b3 b4 : Value) :
  (((((w.setCell ⟨g, 0, none⟩ b0).setCell ⟨g, 1, none⟩ b1).setCell ⟨g, 2, none⟩ b2).setCell ⟨g, 3, none⟩ b3).setCell ⟨g, 4, none⟩ b4).heap[g]? = some (.cells #[b0, b1, b2, b3, b4] t (0, 0)) :=
 blk_put (blk_put (blk_put (blk_put (blk_put h 0 b0 rfl) 1 b1 rfl) 2 b2 rfl) 3 b3 rfl) 4 b4 rfl
theorem below_put5 {w0 w : World} {g : Nat} (h : Below w0.heap.size w0 w) (hg : w0.heap.size ≤ g) (b0 b1 b2 b3 b4 : Value) :
  Below w0.heap.size w0 (((((w.setCell ⟨g, 0, none⟩ b0).setCell ⟨g, 1, none⟩ b1).setCell ⟨g, 2, none⟩ b2).setCell ⟨g, 3, none⟩ b3).setCell ⟨g, 4, none⟩ b4) :=
 below_set (below_set (below_set (below_set (below_set h hg) hg) hg) hg) hg
theorem C_cell {w : World} {k : IntKind} {g n : Nat} {xs : List Int} (h : Kd.C (Kd.int k) w (some ⟨g, 0, none⟩) n xs) (j : Nat) (hj : j < n) : w.cell? ⟨g, j, none⟩ = some (.int k (xs.getD j 0)) := by
 obtain ⟨ad, e, hc⟩ := (Kd.reads_of_C (d := 0) h).2.2 (by omega)
 injection e with e
 subst e
 have := hc j hj
 rwa [add_plain] at this
theorem C_setCell {w : World} {k : IntKind} {g n : Nat} {xs : List Int} (h : Kd.C (Kd.int k) w (some ⟨g, 0, none⟩) n xs) {p : Addr} (hne : g ≠ p.block) (u : Value) : Kd.C (Kd.int k) (w.setCell p u) (some ⟨g, 0, none⟩) n xs := by
 refine Kd.C_of_reads (d := 0) ⟨h.1, h.2.1, fun hn => ⟨_, rfl, fun j hj => ?_⟩⟩
 rw [add_plain, cell_far hne]
 exact C_cell h j hj
theorem wp_bytes {W : World} {src dst e : TypeId} (hg : o.guard = none) (x : Operand) (hop : o.op = Op.convert src dst x) (hs : P.underlying src = some .string) (hd : P.underlying dst = some (.slice e)) (he : P.underlying e = some (.int .u8))
  (s : ByteArray) (hx : a.eval x = .string s) (hl : s.size ≤ 9223372036854775807)
  (hK : ∀ g cap W', g = W.heap.size → s.size ≤ cap → Kd.C (Kd.int .u8) W' (some ⟨g, 0, none⟩) s.size (bytesOf s) → Below W.heap.size W W' → W'.heap.size = W.heap.size + 1 → wpList P ops Q rest (a.put o.dst (.slice (some ⟨g, 0, none⟩) s.size cap)) W') : wpList P ops Q (o :: rest) a W := by
 refine wpList_plain hg fun K' hK' => ?_
 unfold Oper.wp
 simp [execOp, hop, hx, Lib.run_convert_string_bytes W src dst e s hs hd he, Result.andThen]
 refine hK' _ _ (hK _ _ _ rfl ?_ (bytes_reads W e s hl) (bytes_below W e s) (Lib.bytesWorld_size W e s))
 unfold grownCap
 simp [Question.cut]
theorem lit_event {W : World} (hgd : o.guard = none) {cs : Array Value} {t : TypeId} {n c : Nat}
  (hrun : (execOp a.eval o).run P W = .ok (.value (.slice (some ⟨W.heap.size, 0, none⟩) n c)) (W.alloc (.cells cs t (0, 0))))
  (h : ∀ g, g = W.heap.size → ∀ w1, w1.heap[g]? = some (.cells cs t (0, 0)) → Below W.heap.size W w1 → wpList P ops Q rest (a.put o.dst (.slice (some ⟨g, 0, none⟩) n c)) w1) : wpList P ops Q (o :: rest) a W :=
 Kd.event_run hgd hrun (h _ rfl _ (blk_new W _) (below_alloc (Below.refl _ _) _))
theorem freeze_at {W : World} {g n : Nat} {C : Array Value} {e : TypeId} (h : W.heap[g]? = some (.cells C e (0, 0))) : (W.freeze ⟨g, n, none⟩ 1).heap[g]? = some (.cells C e (n, n + 1)) := by
 simp [World.freeze, Array.getElem?_modify, h]
theorem freeze_other {W : World} {g n i : Nat} (h : i ≠ g) : (W.freeze ⟨g, n, none⟩ 1).heap[i]? = W.heap[i]? := by
 simp [World.freeze, Array.getElem?_modify, Ne.symm h]
theorem wp_mark {W : World} {t e : TypeId} (hg : o.guard = none) (x : Operand) (hop : o.op = Op.convert t t x) (ht : P.underlying t = some (.slice e)) (he : P.underlying e = some (.int .u8))
  (g n c : Nat) (C : Array Value) (hx : a.eval x = .slice (some ⟨g, 0, none⟩) n c) (hb : W.heap[g]? = some (.cells C e (0, 0)))
  (hK : ∀ W', W'.heap[g]? = some (.cells C e (C.size, C.size + 1)) → W.grownBy W' (some g) → wpList P ops Q rest (a.put o.dst (.slice (some ⟨g, 0, none⟩) n c)) W') : wpList P ops Q (o :: rest) a W := by
 refine wpList_plain hg fun K' hK' => ?_
 have hsh : W.shape? g = some (e, C.size) := by simp [World.shape?, hb]
 have hrun : (convert t t (.slice (some ⟨g, 0, none⟩) n c)).run P W = .ok (.slice (some ⟨g, 0, none⟩) n c) (W.freeze ⟨g, C.size, none⟩ 1) := by
  simp [convert, run_underlying ht, run_underlying he, markStringish, hsh]
 unfold Oper.wp
 simp [execOp, hop, hx, hrun, Result.andThen]
 refine hK' _ _ (hK _ (freeze_at hb) ⟨?_, ?_, ?_, ?_, ?_⟩)
 ·simp [World.freeze]
 ·simp [World.freeze]
 ·simp [World.freeze]
 ·simp [World.freeze]
 ·intro i hi hne
  exact freeze_other (fun h => hne (by rw [h]))
end
end Go.Proofs.HLaws
