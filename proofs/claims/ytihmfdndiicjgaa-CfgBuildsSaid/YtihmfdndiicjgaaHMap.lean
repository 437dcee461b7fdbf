/- Laws on maps keyed by whole numbers that a call makes itself: what a map holds is told as a function. -/
import Derived.Maps.Own
import Derived.Maps.OwnOps
import Derived.Maps.Views
import Derived.WalkKit
import Derived.Below
import Derived.RowKit
set_option linter.unusedVariables false
namespace Go.Proofs.HMap
open Go.Maps Go.RowKit
def BoolMap (P : Program) (k e : TypeId) (q : IntKind) (W : World) (b n : Nat) (g : Int → Bool) : Prop :=
 ∃ D : DataW Unit, W.ownsMap P k (plainElem P e) b n D ∧ IsMap D ∧ ∀ x, (Lit.int q x).wf = true → D.atKey (.int q x) (.lit (.bool false)) = .lit (.bool (g x))
def IntMap (P : Program) (k e : TypeId) (q r : IntKind) (W : World) (b n : Nat) (g : Int → Int) : Prop :=
 ∃ D : DataW Unit, W.ownsMap P k (plainElem P e) b n D ∧ IsMap D ∧ ∀ x, (Lit.int q x).wf = true → D.atKey (.int q x) (.lit (.int r 0)) = .lit (.int r (g x))
theorem BoolMap.lt {P : Program} {k e : TypeId} {q : IntKind} {W : World} {b n : Nat} {g : Int → Bool} (h : BoolMap P k e q W b n g) : b < W.heap.size := by
 obtain ⟨D, h1, _⟩ := h; exact h1.lt
theorem IntMap.lt {P : Program} {k e : TypeId} {q r : IntKind} {W : World} {b n : Nat} {g : Int → Int} (h : IntMap P k e q r W b n g) : b < W.heap.size := by
 obtain ⟨D, h1, _⟩ := h; exact h1.lt
theorem BoolMap.kept {P : Program} {k e : TypeId} {q : IntKind} {W W' : World} {b n : Nat} {g : Int → Bool} (h : BoolMap P k e q W b n g) {row : Option Nat} (hg : W.grownBy W' row) (hne : some b ≠ row) : BoolMap P k e q W' b n g := by
 obtain ⟨D, h1, h2, h3⟩ := h; exact ⟨D, h1.kept hg hne, h2, h3⟩
theorem IntMap.kept {P : Program} {k e : TypeId} {q r : IntKind} {W W' : World} {b n : Nat} {g : Int → Int} (h : IntMap P k e q r W b n g) {row : Option Nat} (hg : W.grownBy W' row) (hne : some b ≠ row) : IntMap P k e q r W' b n g := by
 obtain ⟨D, h1, h2, h3⟩ := h; exact ⟨D, h1.kept hg hne, h2, h3⟩
theorem BoolMap.mono {P : Program} {k e : TypeId} {q : IntKind} {W : World} {b n n' : Nat} {g : Int → Bool} (h : BoolMap P k e q W b n g) (hn : n ≤ n') : BoolMap P k e q W b n' g := by
 obtain ⟨D, h1, h2⟩ := h; exact ⟨D, h1.mono hn, h2⟩
theorem IntMap.mono {P : Program} {k e : TypeId} {q r : IntKind} {W : World} {b n n' : Nat} {g : Int → Int} (h : IntMap P k e q r W b n g) (hn : n ≤ n') : IntMap P k e q r W b n' g := by
 obtain ⟨D, h1, h2⟩ := h; exact ⟨D, h1.mono hn, h2⟩
theorem BoolMap.block {P : Program} {k e : TypeId} {q : IntKind} {W W' : World} {b n : Nat} {g : Int → Bool} (h : BoolMap P k e q W b n g) (hb : W'.heap[b]? = W.heap[b]?) : BoolMap P k e q W' b n g := by
 obtain ⟨D, ⟨es, c, h1, h2⟩, h3⟩ := h; exact ⟨D, ⟨es, c, hb.trans h1, h2⟩, h3⟩
theorem IntMap.block {P : Program} {k e : TypeId} {q r : IntKind} {W W' : World} {b n : Nat} {g : Int → Int} (h : IntMap P k e q r W b n g) (hb : W'.heap[b]? = W.heap[b]?) : IntMap P k e q r W' b n g := by
 obtain ⟨D, ⟨es, c, h1, h2⟩, h3⟩ := h; exact ⟨D, ⟨es, c, hb.trans h1, h2⟩, h3⟩
theorem BoolMap.below {P : Program} {k e : TypeId} {q : IntKind} {W W' : World} {b n : Nat} {g : Int → Bool} (h : BoolMap P k e q W b n g) (hb : Below W.heap.size W W') : BoolMap P k e q W' b n g := h.block (hb.block b h.lt)
theorem IntMap.below {P : Program} {k e : TypeId} {q r : IntKind} {W W' : World} {b n : Nat} {g : Int → Int} (h : IntMap P k e q r W b n g) (hb : Below W.heap.size W W') : IntMap P k e q r W' b n g := h.block (hb.block b h.lt)
theorem BoolMap.made (P : Program) (k e : TypeId) (q : IntKind) (W : World) : BoolMap P k e q (W.alloc (.map #[] 0)) W.heap.size 0 (fun _ => false) :=
 ⟨.map [], World.ownsMap_made _ _ _ _, ⟨[], rfl⟩, fun _ _ => rfl⟩
theorem IntMap.made (P : Program) (k e : TypeId) (q r : IntKind) (W : World) : IntMap P k e q r (W.alloc (.map #[] 0)) W.heap.size 0 (fun _ => 0) :=
 ⟨.map [], World.ownsMap_made _ _ _ _, ⟨[], rfl⟩, fun _ _ => rfl⟩
theorem isKeyLit_int {q : IntKind} {x : Int} (h : (Lit.int q x).wf = true) : WideAt.IsKeyLit (.int q x) := by
 simp [WideAt.IsKeyLit]
theorem BoolMap.look {P : Program} {t k e : TypeId} {q : IntKind} {W : World} {b n : Nat} {g : Int → Bool} (h : BoolMap P k e q W b n g) (ht : P.underlying t = some (.map k e)) (hk : P.underlying k = some (.int q)) (he : P.underlying e = some .bool)
  (hz : (zeroValue e).run P W = .ok (.bool false) W) {x : Int} (hx : (Lit.int q x).wf = true) : (Instr.lookup t (.map (some b)) (.int q x) false).run P W = .ok (.bool (g x)) W := by
 obtain ⟨D, h1, _, h3⟩ := h
 obtain ⟨v, ps, hrun, hv⟩ := h1.lookup (int_keyed hk) ht hz (plainElem_bool he false) (keyOf_int_mk hk hx)
 rw [h3 x hx] at hv
 unfold plainElem at hv
 rw [he] at hv
 cases v <;> simp at hv
 rw [← hv.1]
 exact hrun
theorem IntMap.look {P : Program} {t k e : TypeId} {q r : IntKind} {W : World} {b n : Nat} {g : Int → Int} (h : IntMap P k e q r W b n g) (ht : P.underlying t = some (.map k e)) (hk : P.underlying k = some (.int q)) (he : P.underlying e = some (.int r))
  (hz : (zeroValue e).run P W = .ok (.int r 0) W) {x : Int} (hx : (Lit.int q x).wf = true) : (Instr.lookup t (.map (some b)) (.int q x) false).run P W = .ok (.int r (g x)) W := by
 obtain ⟨D, h1, _, h3⟩ := h
 obtain ⟨c, hrun, hat, _⟩ := h1.lookup_int (int_keyed hk) ht he hz (keyOf_int_mk hk hx)
 rw [h3 x hx] at hat
 injection hat with hat
 injection hat with _ hat
 rw [hat]
 exact hrun
theorem BoolMap.store {P : Program} {t k e : TypeId} {q : IntKind} {W : World} {b n : Nat} {g : Int → Bool} (h : BoolMap P k e q W b n g) (ht : P.underlying t = some (.map k e)) (hk : P.underlying k = some (.int q)) (he : P.underlying e = some .bool)
  (hn : n < maxLen) {x : Int} (hx : (Lit.int q x).wf = true) (v : Bool) : ∃ W', (Instr.mapUpdate t (.map (some b)) (.int q x) (.bool v)).run P W = .ok () W' ∧ BoolMap P k e q W' b (n + 1) (fun y => if y = x then v else g y) ∧ W.grownBy W' (some b) := by
 obtain ⟨D, h1, h2, h3⟩ := h
 obtain ⟨W', hrun, hown, hg⟩ := h1.update (int_keyed hk) ht hn (keyOf_int_mk hk hx) (plainElem_bool he v)
 refine ⟨W', hrun, ⟨_, hown, h2.put _ _, fun y hy => ?_⟩, hg⟩
 by_cases hyx : y = x
 ·subst hyx
  rw [atKey_put_same h2 (isKeyLit_int hx)]; simp
 ·rw [atKey_put_other (by intro hh; injection hh; contradiction), h3 y hy]; simp [hyx]
theorem IntMap.store {P : Program} {t k e : TypeId} {q r : IntKind} {W : World} {b n : Nat} {g : Int → Int} (h : IntMap P k e q r W b n g) (ht : P.underlying t = some (.map k e)) (hk : P.underlying k = some (.int q)) (he : P.underlying e = some (.int r))
  (hn : n < maxLen) {x : Int} (hx : (Lit.int q x).wf = true) {v : Int} (hv : (Lit.int r v).wf = true) : ∃ W', (Instr.mapUpdate t (.map (some b)) (.int q x) (.int r v)).run P W = .ok () W' ∧ IntMap P k e q r W' b (n + 1) (fun y => if y = x then v else g y) ∧ W.grownBy W' (some b) := by
 obtain ⟨D, h1, h2, h3⟩ := h
 obtain ⟨W', hrun, hown, hg⟩ := h1.update (int_keyed hk) ht hn (keyOf_int_mk hk hx) (plainElem_int he hv)
 refine ⟨W', hrun, ⟨_, hown, h2.put _ _, fun y hy => ?_⟩, hg⟩
 by_cases hyx : y = x
 ·subst hyx
  rw [atKey_put_same h2 (isKeyLit_int hx)]; simp
 ·rw [atKey_put_other (by intro hh; injection hh; contradiction), h3 y hy]; simp [hyx]
section
variable {P : Program} {ops : Array Oper} {rest : List Oper} {o : Oper} {a : Act} {Q : Exit → Act → World → Prop}
theorem wp_look_bool {W : World} {t k e : TypeId} {q : IntKind} {b n : Nat} {g : Int → Bool} (hg : o.guard = none) (m x : Operand) (hop : o.op = Op.lookup t m x false) (h : BoolMap P k e q W b n g) (ht : P.underlying t = some (.map k e)) (hk : P.underlying k = some (.int q)) (he : P.underlying e = some .bool)
  (hz : (zeroValue e).run P W = .ok (.bool false) W) (hm : a.eval m = .map (some b)) (key : Int) (hx : a.eval x = .int q key) (hw : (Lit.int q key).wf = true)
  (hK : wpList P ops Q rest (a.put o.dst (.bool (g key))) W) : wpList P ops Q (o :: rest) a W := by
 refine wpList_plain hg fun K' hK' => ?_
 unfold Oper.wp
 simp [execOp, hop, hm, hx, h.look ht hk he hz hw, Result.andThen]
 exact hK' _ _ hK
theorem wp_look_int {W : World} {t k e : TypeId} {q r : IntKind} {b n : Nat} {g : Int → Int} (hg : o.guard = none) (m x : Operand) (hop : o.op = Op.lookup t m x false) (h : IntMap P k e q r W b n g) (ht : P.underlying t = some (.map k e)) (hk : P.underlying k = some (.int q)) (he : P.underlying e = some (.int r))
  (hz : (zeroValue e).run P W = .ok (.int r 0) W) (hm : a.eval m = .map (some b)) (key : Int) (hx : a.eval x = .int q key) (hw : (Lit.int q key).wf = true)
  (hK : wpList P ops Q rest (a.put o.dst (.int r (g key))) W) : wpList P ops Q (o :: rest) a W := by
 refine wpList_plain hg fun K' hK' => ?_
 unfold Oper.wp
 simp [execOp, hop, hm, hx, h.look ht hk he hz hw, Result.andThen]
 exact hK' _ _ hK
theorem wp_store_bool {W : World} {t k e : TypeId} {q : IntKind} {b n : Nat} {g : Int → Bool} (hg : o.guard = none) (m x y : Operand) (hop : o.op = Op.mapUpdate t m x y ∨ o.op = Op.insert t m x y) (h : BoolMap P k e q W b n g) (ht : P.underlying t = some (.map k e)) (hk : P.underlying k = some (.int q)) (he : P.underlying e = some .bool)
  (hn : n < maxLen) (hm : a.eval m = .map (some b)) (key : Int) (v : Bool) (hx : a.eval x = .int q key) (hy : a.eval y = .bool v) (hw : (Lit.int q key).wf = true)
  (hK : ∀ W', BoolMap P k e q W' b (n + 1) (fun z => if z = key then v else g z) → W.grownBy W' (some b) → wpList P ops Q rest (a.put o.dst undef) W') : wpList P ops Q (o :: rest) a W := by
 refine wpList_plain hg fun K' hK' => ?_
 obtain ⟨W', hrun, r1, r2⟩ := h.store ht hk he hn hw v
 unfold Oper.wp
 rcases hop with hop | hop <;> simp [execOp, hop, hm, hx, hy, hrun, Result.andThen] <;> exact hK' _ _ (hK W' r1 r2)
theorem wp_store_int {W : World} {t k e : TypeId} {q r : IntKind} {b n : Nat} {g : Int → Int} (hg : o.guard = none) (m x y : Operand) (hop : o.op = Op.mapUpdate t m x y ∨ o.op = Op.insert t m x y) (h : IntMap P k e q r W b n g) (ht : P.underlying t = some (.map k e)) (hk : P.underlying k = some (.int q)) (he : P.underlying e = some (.int r))
  (hn : n < maxLen) (hm : a.eval m = .map (some b)) (key v : Int) (hx : a.eval x = .int q key) (hy : a.eval y = .int r v) (hw : (Lit.int q key).wf = true) (hv : (Lit.int r v).wf = true)
  (hK : ∀ W', IntMap P k e q r W' b (n + 1) (fun z => if z = key then v else g z) → W.grownBy W' (some b) → wpList P ops Q rest (a.put o.dst undef) W') : wpList P ops Q (o :: rest) a W := by
 refine wpList_plain hg fun K' hK' => ?_
 obtain ⟨W', hrun, r1, r2⟩ := h.store ht hk he hn hw hv
 unfold Oper.wp
 rcases hop with hop | hop <;> simp [execOp, hop, hm, hx, hy, hrun, Result.andThen] <;> exact hK' _ _ (hK W' r1 r2)
end
end Go.Proofs.HMap
