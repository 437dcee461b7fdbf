/- Steps that walks ask for again and again, each said once. -/
import Derived.Test.YtihmfdndiicjgaaWMore
set_option linter.unusedVariables false
namespace Go.Proofs.YtihmfdndiicjgaaW.PrintWords
open Go.RowKit
theorem bc {W : World} {g t : Nat} {cs : Array Value} {v : Value} (i : Nat) (h : W.heap[g]? = some (.cells cs t (0, 0))) (e : cs[i]? = some v := by exact rfl) : W.cell? ⟨g, i, none⟩ = some v := (blk_cell h i).trans e
theorem cB {w w1 w2 : World} {a : Addr} {v : Value} (hb : Below w.heap.size w w1) (h : w.cell? a = some v) (e : w2.cell? a = w1.cell? a := by exact rfl) : w2.cell? a = some v := e.trans ((hb.cell (World.block_lt_of_cell? w _ h)).trans h)
theorem fL {W : World} {a : Addr} {v : Value} {n g : Nat} (h : W.cell? a = some v) (hg : W.heap.size ≤ g) (e : a.block = n := by first | rfl | exact add_block _ _) : n < g := e ▸ Nat.lt_of_lt_of_le (World.block_lt_of_cell? _ _ h) hg
theorem nL {W : World} {a : Addr} {v : Value} {n g : Nat} (h : W.cell? a = some v) (hg : W.heap.size ≤ g) (e : a.block = n := by first | rfl | exact add_block _ _) : n ≠ g := Nat.ne_of_lt (fL h hg e)
theorem oI {α : Type} {a b : α} (h : some a = some b) : a = b := Option.some.inj h
theorem bM {α β : Type} {o : Option α} {f : α → Option β} {b : β} (h : o.bind f = some b) : ∃ a, o = some a ∧ f a = some b := Option.bind_eq_some_iff.mp h
theorem aK {p : Prop} (h : p) : Aside0 p := ⟨h⟩
abbrev T_ : Bool := true
abbrev F_ : Bool := false
theorem pA {α : Type} (xs : List α) (i : Nat) (a : α) : xs.toArray.setIfInBounds i a = (xs.set i a).toArray := by simp
theorem pB {α : Type} {x y : α} {l : List α} : (x :: l).set 0 y = y :: l := rfl
theorem pC {α : Type} {x y : α} {l : List α} {n : Nat} : (x :: l).set (n + 1) y = x :: l.set n y := rfl
theorem tK {q p : Prop} (h : q) (f : q → p := by intro h_; (with_reducible repeat (first | refine blk_drewN ?_ _ | refine blk_drew ?_ | refine blk_alloc ?_ _)); exact h_) : p := f h
theorem tR {q p : Prop} (h : q) (f : q → p := by intro h_; (with_reducible repeat (first | apply Kd.R_alloc | apply Kd.R_drewN | apply Kd.R_drew)); exact h_) : p := f h
theorem tS {q p : Prop} (h : q) (f : q → p := by intro h_; (with_reducible repeat (first | apply Kd.S_alloc | apply Kd.S_drewN | apply Kd.S_drew)); exact h_) : p := f h
theorem tC {q p : Prop} (h : q) (f : q → p := by intro h_; repeat (first | exact h_ | (with_reducible refine Kd.C_alloc ?_ _) | (with_reducible refine Kd.C_drewN ?_ _) | (with_reducible refine Kd.C_drew ?_))) : p := f h
theorem tB0 {q p : Prop} (h : q) (f : q → p := by intro h_; repeat (first | (with_reducible first | exact h_ | apply below_alloc | apply pw_below_drewN | apply below_drew1) | exact h_)) : p := f h
theorem tB1 {q a p : Prop} (h : q) (x : a) (f : q → a → p := by intro h_ a_; repeat (first | (with_reducible first | exact h_ | apply below_alloc | apply pw_below_drewN | apply below_drew1 | refine below_set ?_ a_) | exact h_)) : p := f h x
theorem tB2 {q a b p : Prop} (h : q) (x : a) (y : b) (f : q → a → b → p := by intro h_ a_ b_; repeat (first | (with_reducible first | exact h_ | apply below_alloc | apply pw_below_drewN | apply below_drew1 | refine below_set ?_ a_ | refine below_set ?_ b_) | exact h_)) : p := f h x y
theorem tB3 {q a b c p : Prop} (h : q) (x : a) (y : b) (z : c) (f : q → a → b → c → p := by intro h_ a_ b_ c_; repeat (first | (with_reducible first | exact h_ | apply below_alloc | apply pw_below_drewN | apply below_drew1 | refine below_set ?_ a_ | refine below_set ?_ b_ | refine below_set ?_ c_) | exact h_)) : p := f h x y z
theorem tB4 {q a b c d p : Prop} (h : q) (x : a) (y : b) (z : c) (u : d) (f : q → a → b → c → d → p := by intro h_ a_ b_ c_ d_; repeat (first | (with_reducible first | exact h_ | apply below_alloc | apply pw_below_drewN | apply below_drew1 | refine below_set ?_ a_ | refine below_set ?_ b_ | refine below_set ?_ c_ | refine below_set ?_ d_) | exact h_)) : p := f h x y z u
theorem tD {p : Prop} [Decidable p] (h : decide p = true := by first | (with_reducible assumption) | assumption) : p := of_decide_eq_true h
theorem tF {p : Prop} (h : p := by (try simp only [List.map_toArray, List.map_cons, List.map_nil]); first | done | rfl | (simp only [List.length_drop, List.length_take]; rfl)) : p := h
end Go.Proofs.YtihmfdndiicjgaaW.PrintWords
