/- The reference decodes every word that the program decodes, to the same opcode and the same immediate operand. -/
import Derived.Test.YtihmfdndiicjgaaPBa
import Derived.Test.YtihmfdndiicjgaaCx9
import Derived.Laws.BitsAllLaws
set_option linter.unusedVariables false
set_option linter.unusedSimpArgs false
namespace Go.Proofs.Ytihmfdndiicjgaa.PD
open Go.RowKit Go.Proofs.Ytihmfdndiicjgaa.C Go.Proofs.Ytihmfdndiicjgaa.PB Go.Proofs.HEvt Go.Proofs.YtihmfdndiicjgaaW.PrintWords
/-! ### the formats -/
def regs (n : Nat) : Nat := if n < 2 then 0 else if n < 14 then 3 else if n = 14 then 1 else if n < 22 then 2 else if n < 24 then 1 else if n = 24 then 0 else if n < 28 then 1 else 0
def imm (n : Nat) : Bool := decide (14 ≤ n)
def low (n : Nat) : Int := (isa_rows.L.getD n z108).f2
def high (n : Nat) : Int := (isa_rows.L.getD n z108).f3
def lets (n : Nat) : List Int := ([97, 98, 99] : List Int).take (regs n) ++ (if imm n then [105] else [])
theorem tab1 : (List.range 30).all (fun n => decide (bytesOf (isa_rows.L.getD n z108).f1 = lets n)) = true := by kernel_rfl
theorem tab2 : (List.range 30).all (fun n => match ontimeref04_Format.f 8 (n : Int) with | some (f, lo, hi, ok) => decide (f.size = regs n) && decide (lo = if imm n then low n else 1) && decide (hi = if imm n then high n else 0) && ok | none => false) = true := by kernel_rfl
theorem tab3 : (List.range 30).all (fun n => !imm n || (decide (regs n ≤ 2) && decide (-131072 ≤ low n) && decide (high n ≤ 131071))) = true := by kernel_rfl
theorem regs_le (n : Nat) : regs n ≤ 3 := by unfold regs; split <;> (try split) <;> (try split) <;> (try split) <;> (try split) <;> (try split) <;> (try split) <;> omega
theorem row_lets (n : Nat) (h : n < 30) : bytesOf (isa_find.row (n : Int)).1.f1 = lets n ∧ (isa_find.row (n : Int)).2 = true ∧ (isa_find.row (n : Int)).1.f2 = low n ∧ (isa_find.row (n : Int)).1.f3 = high n := by
 have h1 := List.all_eq_true.1 tab1 n (List.mem_range.2 h)
 unfold isa_find.row
 rw [if_pos (show (n : Int) < 30 by omega), Int.toNat_natCast]
 exact ⟨of_decide_eq_true h1, rfl, rfl, rfl⟩
theorem fmt_evt (n : Nat) (h : n < 30) : ∃ f : ByteArray, f.size = regs n ∧ Evt (fun k => ontimeref04_Format.f k (n : Int)) (f, (if imm n then low n else 1), (if imm n then high n else 0), true) := by
 have h2 := List.all_eq_true.1 tab2 n (List.mem_range.2 h)
 cases hq : ontimeref04_Format.f 8 (n : Int) with
 | none => rw [hq] at h2; cases h2
 | some v =>
  obtain ⟨f, lo, hi, ok⟩ := v
  rw [hq] at h2
  simp only [Bool.and_eq_true, decide_eq_true_eq] at h2
  obtain ⟨⟨⟨a, b⟩, c⟩, d⟩ := h2
  refine ⟨f, a, Evt.of_mono (fun k => ontimeref04_Format.mono _ k) (k := 8) ?_⟩
  rw [hq, b, c, d]
/-! ### the word as a sum -/
theorem or_add (a v p : Int) (q : Nat) (hp : p = ((2 ^ q : Nat) : Int)) (ha : 0 ≤ a) (hv : 0 ≤ v) (hvp : v < p) (hb : a * p + v < 4294967296) : Go.bits .or .u32 (a * p) v = a * p + v := by
 subst hp
 obtain ⟨m, rfl⟩ := Int.eq_ofNat_of_zero_le ha
 obtain ⟨u, rfl⟩ := Int.eq_ofNat_of_zero_le hv
 have e : ((m : Int) * ((2 ^ q : Nat) : Int)) = ((m * 2 ^ q : Nat) : Int) := by push_cast; rfl
 rw [e] at hb ⊢
 have h1 : m * 2 ^ q < 4294967296 := by omega
 have h2 : u < 4294967296 := by omega
 rw [Go.u32_or_nat _ _ h1 h2]
 have h3 : u < 2 ^ q := by omega
 have h4 : (m * 2 ^ q) ||| u = m * 2 ^ q + u := by
  rw [Nat.mul_comm]
  exact (Nat.two_pow_add_eq_or_of_lt h3 m).symm
 rw [h4]
 push_cast
 rfl
theorem and_low (x p : Int) (q : Nat) (hp : p = ((2 ^ q : Nat) : Int)) (h0 : 0 ≤ x) (h1 : x < 4294967296) (hq : p ≤ 4294967296) : Go.bits .and .u32 x (p - 1) = x % p := by
 subst hp
 obtain ⟨m, rfl⟩ := Int.eq_ofNat_of_zero_le h0
 have hpos : 0 < 2 ^ q := Nat.two_pow_pos q
 have e : (((2 ^ q : Nat) : Int) - 1) = ((2 ^ q - 1 : Nat) : Int) := by omega
 rw [e, Go.u32_and_nat _ _ (by omega) (by omega), Nat.and_two_pow_sub_one_eq_mod]
 push_cast
 rfl
end Go.Proofs.Ytihmfdndiicjgaa.PD
set_option linter.unusedVariables false
set_option linter.unusedSimpArgs false
namespace Go.Proofs.Ytihmfdndiicjgaa.PD
open Go.RowKit Go.Proofs.Ytihmfdndiicjgaa.C Go.Proofs.Ytihmfdndiicjgaa.PB Go.Proofs.HEvt Go.Proofs.YtihmfdndiicjgaaW.PrintWords
def fA (x : Int) : Int := x / 4194304 % 16
def fB (x : Int) : Int := x / 262144 % 16
def fC (x : Int) : Int := x / 16384 % 16
def fI (x : Int) : Int := if x % 262144 > 131071 then x % 262144 - 262144 else x % 262144
theorem vA_eq {x : Int} (h0 : 0 ≤ x) (h1 : x ≤ 4294967295) : isa_Decode.vA x = fA x := by
 unfold isa_Decode.vA fA
 rw [show (15 : Int) = 16 - 1 from rfl, and_low (x / 4194304) 16 4 rfl (by omega) (by omega) (by omega), wrap_id] <;> omega
theorem vB_eq {x : Int} (h0 : 0 ≤ x) (h1 : x ≤ 4294967295) : isa_Decode.vB x = fB x := by
 unfold isa_Decode.vB fB
 rw [show (15 : Int) = 16 - 1 from rfl, and_low (x / 262144) 16 4 rfl (by omega) (by omega) (by omega), wrap_id] <;> omega
theorem vC_eq {x : Int} (h0 : 0 ≤ x) (h1 : x ≤ 4294967295) : isa_Decode.vC x = fC x := by
 unfold isa_Decode.vC fC
 rw [show (15 : Int) = 16 - 1 from rfl, and_low (x / 16384) 16 4 rfl (by omega) (by omega) (by omega), wrap_id] <;> omega
theorem vI_eq {x : Int} (h0 : 0 ≤ x) (h1 : x ≤ 4294967295) : isa_Decode.vI x = fI x := by
 unfold isa_Decode.vI fI
 have e1 : x * 16384 % 4294967296 = (x % 262144) * 16384 := by omega
 rw [e1]
 have hr0 : 0 ≤ x % 262144 := by omega
 have hr1 : x % 262144 < 262144 := by omega
 generalize x % 262144 = r at hr0 hr1
 by_cases h : r > 131071
 ·rw [if_pos h]
  have e2 : wrap32 (r * 16384) = (r - 262144) * 16384 := by unfold wrap32; omega
  rw [e2, Int.mul_ediv_cancel _ (by decide), wrap_id] <;> omega
 ·rw [if_neg h]
  have e2 : wrap32 (r * 16384) = r * 16384 := by unfold wrap32; omega
  rw [e2, Int.mul_ediv_cancel _ (by decide), wrap_id] <;> omega
theorem bit_i {x : Int} (h0 : 0 ≤ x) (h1 : x ≤ 4294967295) : Go.bits .and .u32 (fI x % 4294967296) 262143 % 4294967296 = x % 262144 := by
 rw [show (262143 : Int) = 262144 - 1 from rfl, and_low (fI x % 4294967296) 262144 18 rfl (by omega) (by omega) (by omega)]
 unfold fI
 split <;> omega
/-- What is known of a word that the program decodes. -/
structure Good (x : Int) (n : Nat) : Prop where
 n30 : n < 30
 op : x / 67108864 = (n : Int)
 g1 : (isa_Decode.g x).1 = (n : Int)
 gI : (isa_Decode.g x).2.2.2.2.1 = if imm n then fI x else 0
 sum : x = n * 67108864 + (if 0 < regs n then fA x * 4194304 else 0) + (if 1 < regs n then fB x * 262144 else 0) + (if 2 < regs n then fC x * 16384 else 0) + (if imm n then x % 262144 else 0)
 rng : imm n = true → low n ≤ fI x ∧ fI x ≤ high n
theorem lets_case (n : Nat) (h : n < 30) : (imm n = true ∧ regs n ≤ 2 ∧ -131072 ≤ low n ∧ high n ≤ 131071) ∨ imm n = false := by
 have h3 := List.all_eq_true.1 tab3 n (List.mem_range.2 h)
 simp only [Bool.or_eq_true, Bool.and_eq_true, Bool.not_eq_true', decide_eq_true_eq] at h3
 rcases h3 with q | ⟨⟨q1, q2⟩, q3⟩
 ·exact .inr q
 ·cases hi : imm n with
  | true => exact .inl ⟨rfl, q1, q2, q3⟩
  | false => exact .inr rfl
theorem good (x : Int) (h0 : 0 ≤ x) (h1 : x ≤ 4294967295) (hok : (isa_Decode.g x).2.2.2.2.2 = 0) : ∃ n, Good x n := by
 obtain ⟨n, hn⟩ := Int.eq_ofNat_of_zero_le (show 0 ≤ x / 67108864 by omega)
 have hg : isa_Decode.g x = (if (isa_find.row (x / 67108864)).2 then (if (isa_Encode.g (x / 67108864) (isa_Decode.oA x) (isa_Decode.oB x) (isa_Decode.oC x) (isa_Decode.oI x)).1 = x ∧ (isa_Encode.g (x / 67108864) (isa_Decode.oA x) (isa_Decode.oB x) (isa_Decode.oC x) (isa_Decode.oI x)).2 = 0 then (x / 67108864, (isa_Decode.oA x), (isa_Decode.oB x), (isa_Decode.oC x), (isa_Decode.oI x), 0) else (0, 0, 0, 0, 0, 3)) else (0, 0, 0, 0, 0, 3)) := rfl
 have hn30 : n < 30 := by
  by_cases q : n < 30
  ·exact q
  ·have : (isa_find.row (x / 67108864)).2 = false := by unfold isa_find.row; rw [hn, if_neg (by omega)]
   rw [hg, this] at hok
   exact absurd (show (3 : Int) = 0 from hok) (by decide)
 obtain ⟨rl, r2, rlo, rhi⟩ := row_lets n hn30
 rw [hn] at hg
 rw [r2] at hg
 by_cases hE : (isa_Encode.g (n : Int) (isa_Decode.oA x) (isa_Decode.oB x) (isa_Decode.oC x) (isa_Decode.oI x)).1 = x ∧ (isa_Encode.g (n : Int) (isa_Decode.oA x) (isa_Decode.oB x) (isa_Decode.oC x) (isa_Decode.oI x)).2 = 0
 ·rw [if_pos rfl, if_pos hE] at hg
  obtain ⟨hE1, hE2⟩ := hE
  have hv : isa_Valid.g (n : Int) (isa_Decode.oA x) (isa_Decode.oB x) (isa_Decode.oC x) (isa_Decode.oI x) = true := by
   cases hv : isa_Valid.g (n : Int) (isa_Decode.oA x) (isa_Decode.oB x) (isa_Decode.oC x) (isa_Decode.oI x) with
   | true => rfl
   | false => unfold isa_Encode.g at hE2; rw [hv] at hE2; exact absurd (show (3 : Int) = 0 from hE2) (by decide)
  have hwx : isa_Encode.w (n : Int) (isa_Decode.oA x) (isa_Decode.oB x) (isa_Decode.oC x) (isa_Decode.oI x) = x := by
   unfold isa_Encode.g at hE1; rw [hv] at hE1; exact hE1
  have eA : isa_Decode.oA x = if 97 ∈ lets n then fA x else 0 := by unfold isa_Decode.oA isa_Decode.opd; rw [hn, rl, vA_eq h0 h1]
  have eB : isa_Decode.oB x = if 98 ∈ lets n then fB x else 0 := by unfold isa_Decode.oB isa_Decode.opd; rw [hn, rl, vB_eq h0 h1]
  have eC : isa_Decode.oC x = if 99 ∈ lets n then fC x else 0 := by unfold isa_Decode.oC isa_Decode.opd; rw [hn, rl, vC_eq h0 h1]
  have eI : isa_Decode.oI x = if 105 ∈ lets n then fI x else 0 := by unfold isa_Decode.oI isa_Decode.opd; rw [hn, rl, vI_eq h0 h1]
  have hw2 : x = isa_Encode.fold (isa_Decode.oA x) (isa_Decode.oB x) (isa_Decode.oC x) (isa_Decode.oI x) (lets n) ((n : Int) * 67108864) := by
   have : (n : Int) * 67108864 % 4294967296 = (n : Int) * 67108864 := by omega
   unfold isa_Encode.w at hwx
   rw [rl, this] at hwx
   exact hwx.symm
  have hrng : imm n = true → low n ≤ isa_Decode.oI x ∧ isa_Decode.oI x ≤ high n := by
   intro hi
   have hmem : 105 ∈ lets n := by unfold lets; rw [hi]; simp
   unfold isa_Valid.g at hv
   simp only [Bool.and_eq_true] at hv
   have h4 := hv.2.2
   unfold isa_Valid.okc at h4
   have hhas : isa_has.g (isa_find.row (n : Int)).1.f1 105 = true := by unfold isa_has.g; rw [rl]; exact decide_eq_true hmem
   rw [if_pos hhas, if_pos rfl, rlo, rhi] at h4
   simp only [Bool.not_eq_true', Bool.or_eq_false_iff, decide_eq_false_iff_not] at h4
   omega
  have a0 : 0 ≤ fA x ∧ fA x < 16 := by unfold fA; omega
  have b0 : 0 ≤ fB x ∧ fB x < 16 := by unfold fB; omega
  have c0 : 0 ≤ fC x ∧ fC x < 16 := by unfold fC; omega
  have i0 : 0 ≤ x % 262144 ∧ x % 262144 < 262144 := by omega
  have sA : isa_Encode.bit (fA x) 0 0 0 97 = fA x * 4194304 := by unfold isa_Encode.bit; rw [if_pos rfl]; omega
  have bA : ∀ b c i, isa_Encode.bit (fA x) b c i 97 = fA x * 4194304 := fun b c i => by unfold isa_Encode.bit; rw [if_pos rfl]; omega
  have bB : ∀ a c i, isa_Encode.bit a (fB x) c i 98 = fB x * 262144 := fun a c i => by unfold isa_Encode.bit; rw [if_neg (by decide), if_pos rfl]; omega
  have bC : ∀ a b i, isa_Encode.bit a b (fC x) i 99 = fC x * 16384 := fun a b i => by unfold isa_Encode.bit; rw [if_neg (by decide), if_neg (by decide), if_pos rfl]; omega
  have bI : ∀ a b c, isa_Encode.bit a b c (fI x) 105 = x % 262144 := fun a b c => by unfold isa_Encode.bit; rw [if_neg (by decide), if_neg (by decide), if_neg (by decide)]; exact bit_i h0 h1
  have o1 : Go.bits .or .u32 ((n : Int) * 67108864) (fA x * 4194304) = (n : Int) * 67108864 + fA x * 4194304 := or_add n _ 67108864 26 rfl (by omega) (by omega) (by omega) (by omega)
  have oI1 : Go.bits .or .u32 ((n : Int) * 67108864) (x % 262144) = (n : Int) * 67108864 + x % 262144 := or_add n _ 67108864 26 rfl (by omega) (by omega) (by omega) (by omega)
  have o2 : ∀ v, 0 ≤ v → v < 4194304 → Go.bits .or .u32 ((n : Int) * 67108864 + fA x * 4194304) v = (n : Int) * 67108864 + fA x * 4194304 + v := by
   intro v v0 v1
   have e : (n : Int) * 67108864 + fA x * 4194304 = ((n : Int) * 16 + fA x) * 4194304 := by omega
   rw [e]
   exact or_add _ _ 4194304 22 rfl (by omega) (by omega) (by omega) (by omega)
  have o3 : ∀ v, 0 ≤ v → v < 262144 → Go.bits .or .u32 ((n : Int) * 67108864 + fA x * 4194304 + fB x * 262144) v = (n : Int) * 67108864 + fA x * 4194304 + fB x * 262144 + v := by
   intro v v0 v1
   have e : (n : Int) * 67108864 + fA x * 4194304 + fB x * 262144 = ((n : Int) * 256 + fA x * 16 + fB x) * 262144 := by omega
   rw [e]
   exact or_add _ _ 262144 18 rfl (by omega) (by omega) (by omega) (by omega)
  have hgI : (isa_Decode.g x).2.2.2.2.1 = isa_Decode.oI x := by rw [hg]
  have hg1 : (isa_Decode.g x).1 = (n : Int) := by rw [hg]
  have hr3 := regs_le n
  have hcase : regs n = 0 ∨ regs n = 1 ∨ regs n = 2 ∨ regs n = 3 := by omega
  refine ⟨n, hn30, hn, hg1, ?_, ?_, ?_⟩
  ·rw [hgI, eI]
   have : 105 ∈ lets n ↔ imm n = true := by
    unfold lets
    cases hi : imm n with
    | true => simp
    | false => rcases hcase with q | q | q | q <;> rw [q] <;> simp
   by_cases q : imm n = true
   ·rw [if_pos (this.2 q), if_pos q]
   ·rw [if_neg (fun h => q (this.1 h)), if_neg q]
  ·have fold1 : ∀ (a b c i x0 : Int) (ch : Int) (l : List Int), isa_Encode.fold a b c i (ch :: l) x0 = isa_Encode.fold a b c i l (Go.bits .or .u32 x0 (isa_Encode.bit a b c i ch)) := fun _ _ _ _ _ _ _ => rfl
   have fold0 : ∀ (a b c i x0 : Int), isa_Encode.fold a b c i [] x0 = x0 := fun _ _ _ _ _ => rfl
   rcases lets_case n hn30 with ⟨hi, hr2, _, _⟩ | hi
   ·have hI1 : (if imm n = true then x % 262144 else 0) = x % 262144 := by rw [hi]; rfl
    rw [hI1]
    rcases hcase with q | q | q | q
    ·have hl : lets n = [105] := by unfold lets; rw [q, hi]; rfl
     rw [hl] at eA eB eC eI hw2
     have e4 : isa_Decode.oI x = fI x := by rw [eI]; rfl
     rw [e4, fold1, bI, oI1, fold0] at hw2
     rw [q]
     simp only [Nat.lt_irrefl, Nat.not_lt_zero, if_false]
     omega
    ·have hl : lets n = [97, 105] := by unfold lets; rw [q, hi]; rfl
     rw [hl] at eA eB eC eI hw2
     have e1 : isa_Decode.oA x = fA x := by rw [eA]; rfl
     have e4 : isa_Decode.oI x = fI x := by rw [eI]; rfl
     rw [e1, e4, fold1, bA, o1, fold1, bI, o2 _ (by omega) (by omega), fold0] at hw2
     rw [q]
     simp only [show (0 : Nat) < 1 by decide, show ¬ (1 : Nat) < 1 by decide, show ¬ (2 : Nat) < 1 by decide, if_true, if_false]
     omega
    ·have hl : lets n = [97, 98, 105] := by unfold lets; rw [q, hi]; rfl
     rw [hl] at eA eB eC eI hw2
     have e1 : isa_Decode.oA x = fA x := by rw [eA]; rfl
     have e2 : isa_Decode.oB x = fB x := by rw [eB]; rfl
     have e4 : isa_Decode.oI x = fI x := by rw [eI]; rfl
     rw [e1, e2, e4, fold1, bA, o1, fold1, bB, o2 _ (by omega) (by omega), fold1, bI, o3 _ (by omega) (by omega), fold0] at hw2
     rw [q]
     simp only [show (0 : Nat) < 2 by decide, show (1 : Nat) < 2 by decide, show ¬ (2 : Nat) < 2 by decide, if_true, if_false]
     omega
    ·omega
   ·have hI0 : (if imm n = true then x % 262144 else 0) = 0 := by rw [hi]; rfl
    rw [hI0]
    rcases hcase with q | q | q | q
    ·have hl : lets n = [] := by unfold lets; rw [q, hi]; rfl
     rw [hl] at hw2
     rw [fold0] at hw2
     rw [q]
     simp only [Nat.lt_irrefl, Nat.not_lt_zero, if_false]
     omega
    ·have hl : lets n = [97] := by unfold lets; rw [q, hi]; rfl
     rw [hl] at eA eB eC eI hw2
     have e1 : isa_Decode.oA x = fA x := by rw [eA]; rfl
     rw [e1, fold1, bA, o1, fold0] at hw2
     rw [q]
     simp only [show (0 : Nat) < 1 by decide, show ¬ (1 : Nat) < 1 by decide, show ¬ (2 : Nat) < 1 by decide, if_true, if_false]
     omega
    ·have hl : lets n = [97, 98] := by unfold lets; rw [q, hi]; rfl
     rw [hl] at eA eB eC eI hw2
     have e1 : isa_Decode.oA x = fA x := by rw [eA]; rfl
     have e2 : isa_Decode.oB x = fB x := by rw [eB]; rfl
     rw [e1, e2, fold1, bA, o1, fold1, bB, o2 _ (by omega) (by omega), fold0] at hw2
     rw [q]
     simp only [show (0 : Nat) < 2 by decide, show (1 : Nat) < 2 by decide, show ¬ (2 : Nat) < 2 by decide, if_true, if_false]
     omega
    ·have hl : lets n = [97, 98, 99] := by unfold lets; rw [q, hi]; rfl
     rw [hl] at eA eB eC eI hw2
     have e1 : isa_Decode.oA x = fA x := by rw [eA]; rfl
     have e2 : isa_Decode.oB x = fB x := by rw [eB]; rfl
     have e3 : isa_Decode.oC x = fC x := by rw [eC]; rfl
     rw [e1, e2, e3, fold1, bA, o1, fold1, bB, o2 _ (by omega) (by omega), fold1, bC, o3 _ (by omega) (by omega), fold0] at hw2
     rw [q]
     simp only [show (0 : Nat) < 3 by decide, show (1 : Nat) < 3 by decide, show (2 : Nat) < 3 by decide, if_true]
     omega
  ·intro hi
   have := hrng hi
   have hmem : 105 ∈ lets n := by unfold lets; rw [hi]; simp
   rw [eI, if_pos hmem] at this
   exact this
 ·rw [if_pos rfl, if_neg hE] at hg
  rw [hg] at hok
  exact absurd (show (3 : Int) = 0 from hok) (by decide)
end Go.Proofs.Ytihmfdndiicjgaa.PD
set_option linter.unusedVariables false
set_option linter.unusedSimpArgs false
namespace Go.Proofs.Ytihmfdndiicjgaa.PD
open Go.RowKit Go.Proofs.Ytihmfdndiicjgaa.C Go.Proofs.Ytihmfdndiicjgaa.PB Go.Proofs.HEvt Go.Proofs.YtihmfdndiicjgaaW.PrintWords
def rB (n : Nat) (x : Int) : Int := if 1 < regs n then fB x else 0
def rC (n : Nat) (x : Int) : Int := if 2 < regs n then fC x else 0
def rI (n : Nat) (x : Int) : Int := if imm n then fI x else 0
theorem reg_f (a : Int) (b : Bool) (h : if b then 0 ≤ a ∧ a < 16 else a = 0) : ontimeref04_reg.f a b = some true := by
 unfold ontimeref04_reg.f
 cases b with
 | true =>
  have h' : 0 ≤ a ∧ a < 16 := h
  rw [if_pos rfl, if_pos (show a ≥ 0 from h'.1), decide_eq_true h'.2]
 | false =>
  have h' : a = 0 := h
  rw [if_neg (by decide), h']
  rfl
section
variable {x : Int} {n : Nat}
theorem bounds (h0 : 0 ≤ x) (h1 : x ≤ 4294967295) : (0 ≤ fA x ∧ fA x < 16) ∧ (0 ≤ fB x ∧ fB x < 16) ∧ (0 ≤ fC x ∧ fC x < 16) := by unfold fA fB fC; omega
theorem fA_zero (G : Good x n) (h0 : 0 ≤ x) (hr : regs n = 0) : fA x = 0 := by
 have hs := G.sum
 rw [hr] at hs
 simp only [Nat.lt_irrefl, Nat.not_lt_zero, if_false] at hs
 unfold fA
 split at hs <;> omega
theorem fI_rng (h0 : 0 ≤ x) : -131072 ≤ fI x ∧ fI x ≤ 131071 := by unfold fI; split <;> omega
theorem valid_evt (G : Good x n) (h0 : 0 ≤ x) (h1 : x ≤ 4294967295) : Evt (fun k => ontimeref04_Valid.f k (n : Int) (fA x) (rB n x) (rC n x) (rI n x)) true := by
 obtain ⟨f, hf, hfe⟩ := fmt_evt n G.n30
 obtain ⟨ba, bb, bc⟩ := bounds h0 h1
 have e : (fun k => ontimeref04_Valid.f k (n : Int) (fA x) (rB n x) (rC n x) (rI n x)) = fun k => (ontimeref04_Format.f k (n : Int)).bind fun bt231 => (if bt231.2.2.2 = true then ((ontimeref04_reg.f (fA x) (decide ((bt231.1.size : Int) > 0))).bind fun t235 => (if t235 = true then ((ontimeref04_reg.f (rB n x) (decide ((bt231.1.size : Int) > 1))).bind fun t236 => (if t236 = true then ((ontimeref04_reg.f (rC n x) (decide ((bt231.1.size : Int) > 2))).bind fun t237 => (ontimeref04_Valid.j0 k bt231.2.1 bt231.2.2.1 (!t237) (n : Int) (fA x) (rB n x) (rC n x) (rI n x))) else (ontimeref04_Valid.j0 k bt231.2.1 bt231.2.2.1 true (n : Int) (fA x) (rB n x) (rC n x) (rI n x)))) else (ontimeref04_Valid.j0 k bt231.2.1 bt231.2.2.1 true (n : Int) (fA x) (rB n x) (rC n x) (rI n x)))) else (ontimeref04_Valid.j0 k bt231.2.1 bt231.2.2.1 true (n : Int) (fA x) (rB n x) (rC n x) (rI n x))) := rfl
 rw [e]
 have r1 : ontimeref04_reg.f (fA x) (decide ((f.size : Int) > 0)) = some true := by
  apply reg_f
  by_cases q : (f.size : Int) > 0
  ·rw [decide_eq_true q]; exact ba
  ·rw [decide_eq_false q]; exact fA_zero G h0 (by omega)
 have r2 : ontimeref04_reg.f (rB n x) (decide ((f.size : Int) > 1)) = some true := by
  apply reg_f
  unfold rB
  by_cases q : (f.size : Int) > 1
  ·rw [decide_eq_true q, if_pos (show 1 < regs n by omega)]; exact bb
  ·rw [decide_eq_false q, if_neg (show ¬ 1 < regs n by omega)]; rfl
 have r3 : ontimeref04_reg.f (rC n x) (decide ((f.size : Int) > 2)) = some true := by
  apply reg_f
  unfold rC
  by_cases q : (f.size : Int) > 2
  ·rw [decide_eq_true q, if_pos (show 2 < regs n by omega)]; exact bc
  ·rw [decide_eq_false q, if_neg (show ¬ 2 < regs n by omega)]; rfl
 refine Evt.bind hfe (Evt.pos rfl (Evt.bind (Evt.of_eq (fun _ => r1)) (Evt.pos rfl (Evt.bind (Evt.of_eq (fun _ => r2)) (Evt.pos rfl (Evt.bind (Evt.of_eq (fun _ => r3)) ?_))))))
 show Evt (fun k => ontimeref04_Valid.j0 k (if imm n = true then low n else 1) (if imm n = true then high n else 0) false (n : Int) (fA x) (rB n x) (rC n x) (rI n x)) true
 refine Evt.step (fun k => by rw [ontimeref04_Valid.j0]) ?_
 refine Evt.neg (by decide) ?_
 unfold rI
 cases hi : imm n with
 | true =>
  have := G.rng hi
  simp only [if_true]
  exact Evt.neg (by omega) (Evt.pos (by omega) ((Evt.pure _).to (decide_eq_true this.2)))
 | false =>
  simp only [Bool.false_eq_true, if_false]
  exact Evt.pos (by decide) ((Evt.pure _).to (by decide))
theorem enc_evt (G : Good x n) (h0 : 0 ≤ x) (h1 : x ≤ 4294967295) : Evt (fun k => ontimeref04_Encode.f k (n : Int) (fA x) (rB n x) (rC n x) (rI n x)) x := by
 obtain ⟨f, hf, hfe⟩ := fmt_evt n G.n30
 obtain ⟨ba, bb, bc⟩ := bounds h0 h1
 have hs := G.sum
 have hn := G.n30
 have hz : regs n = 0 → fA x = 0 := fun h => fA_zero G h0 h
 have sA : (if 0 < regs n then fA x * 4194304 else 0) = fA x * 4194304 := by
  by_cases q : 0 < regs n
  ·rw [if_pos q]
  ·rw [if_neg q, hz (by omega)]; rfl
 have sB : (if 1 < regs n then fB x * 262144 else 0) = rB n x * 262144 := by
  unfold rB
  by_cases q : 1 < regs n
  ·rw [if_pos q, if_pos q]
  ·rw [if_neg q, if_neg q]; rfl
 have sC : (if 2 < regs n then fC x * 16384 else 0) = rC n x * 16384 := by
  unfold rC
  by_cases q : 2 < regs n
  ·rw [if_pos q, if_pos q]
  ·rw [if_neg q, if_neg q]; rfl
 rw [sA, sB, sC] at hs
 have bB : 0 ≤ rB n x ∧ rB n x < 16 := by unfold rB; split <;> omega
 have bC : 0 ≤ rC n x ∧ rC n x < 16 := by unfold rC; split <;> omega
 have e : (fun k => ontimeref04_Encode.f k (n : Int) (fA x) (rB n x) (rC n x) (rI n x)) = fun k => (ontimeref04_Format.f k (n : Int)).bind fun bt239 => (if bt239.2.1 > bt239.2.2.1 then (some (((((((((((n : Int)) % 4294967296) * 67108864) % 4294967296) + ((((fA x)) % 4294967296) * 4194304) % 4294967296)) % 4294967296) + ((((rB n x)) % 4294967296) * 262144) % 4294967296) % 4294967296 + ((((rC n x)) % 4294967296) * 16384) % 4294967296) % 4294967296)) else (if rI n x < 0 then (some (((((((((((((n : Int)) % 4294967296) * 67108864) % 4294967296) + ((((fA x)) % 4294967296) * 4194304) % 4294967296)) % 4294967296) + ((((rB n x)) % 4294967296) * 262144) % 4294967296) % 4294967296 + ((((rC n x)) % 4294967296) * 16384) % 4294967296) % 4294967296 + ((wrap64 (rI n x + 262144)) % 4294967296)) % 4294967296))) else (some (((((((((((((n : Int)) % 4294967296) * 67108864) % 4294967296) + ((((fA x)) % 4294967296) * 4194304) % 4294967296)) % 4294967296) + ((((rB n x)) % 4294967296) * 262144) % 4294967296) % 4294967296 + ((((rC n x)) % 4294967296) * 16384) % 4294967296) % 4294967296 + (rI n x % 4294967296)) % 4294967296))))) := rfl
 rw [e]
 refine Evt.bind hfe ?_
 show Evt (fun k => if (if imm n = true then low n else 1) > (if imm n = true then high n else 0) then _ else _) x
 have hrI := fI_rng h0
 cases hi : imm n with
 | true =>
  have hr := G.rng hi
  have hI : rI n x = fI x := by unfold rI; rw [hi]; rfl
  rw [hi] at hs
  simp only [if_true] at hs ⊢
  rw [hI]
  refine Evt.neg (by omega) ?_
  by_cases q : fI x < 0
  ·refine Evt.pos q ((Evt.pure _).to ?_)
   have hw : wrap64 (fI x + 262144) = fI x + 262144 := wrap_id (by omega) (by omega)
   rw [hw]
   have hl : fI x + 262144 = x % 262144 := by unfold fI at q ⊢; split at q <;> rename_i h <;> simp [h] <;> omega
   rw [hl]
   omega
  ·refine Evt.neg q ((Evt.pure _).to ?_)
   have hl : fI x = x % 262144 := by unfold fI at q ⊢; split at q <;> rename_i h <;> simp [h] <;> omega
   rw [hl]
   omega
 | false =>
  rw [hi] at hs
  simp only [Bool.false_eq_true, if_false] at hs ⊢
  exact Evt.pos (by decide) ((Evt.pure _).to (by omega))
/-- The reference decodes it. -/
theorem dec_evt (G : Good x n) (h0 : 0 ≤ x) (h1 : x ≤ 4294967295) : Evt (fun k => ontimeref04_Decode.f k x) ((n : Int), fA x, rB n x, rC n x, rI n x, true) := by
 obtain ⟨f, hf, hfe⟩ := fmt_evt n G.n30
 have hn := G.n30
 have hop := G.op
 have d1 : Int.tdiv x 67108864 = (n : Int) := by rw [Int.tdiv_eq_ediv_of_nonneg h0]; exact hop
 have d2 : Int.tdiv x 4194304 % 16 = fA x := by rw [Int.tdiv_eq_ediv_of_nonneg h0]; rfl
 have d3 : Int.tdiv x 262144 % 16 = fB x := by rw [Int.tdiv_eq_ediv_of_nonneg h0]; rfl
 have d4 : Int.tdiv x 16384 % 16 = fC x := by rw [Int.tdiv_eq_ediv_of_nonneg h0]; rfl
 have d5 : Int.tmod x 262144 = x % 262144 := Int.tmod_eq_emod_of_nonneg h0
 have d6 : wrap64 (x % 262144) = x % 262144 := wrap_id (by omega) (by omega)
 have d7 : wrap64 (x % 262144 - 262144) = x % 262144 - 262144 := wrap_id (by omega) (by omega)
 have d8 : (n : Int) % 256 = (n : Int) := by omega
 have j2 : ∀ i, i = rI n x → Evt (fun k => ontimeref04_Decode.j2 k x (n : Int) (fA x) (rB n x) (rC n x) i) ((n : Int), fA x, rB n x, rC n x, rI n x, true) := by
  intro i hi
  subst hi
  refine Evt.step (fun k => by rw [ontimeref04_Decode.j2]) ?_
  exact Evt.bind (valid_evt G h0 h1) (Evt.pos rfl (Evt.bind (enc_evt G h0 h1) (Evt.pos rfl (Evt.pure _))))
 have j1 : Evt (fun k => ontimeref04_Decode.j1 k x (if imm n = true then low n else 1) (if imm n = true then high n else 0) (n : Int) (fA x) (rB n x) (rC n x) 0) ((n : Int), fA x, rB n x, rC n x, rI n x, true) := by
  refine Evt.step (fun k => by rw [ontimeref04_Decode.j1]) ?_
  rw [d5, d6, d7]
  cases hi : imm n with
  | true =>
   have hr := G.rng hi
   simp only [if_true]
   refine Evt.pos (by omega) ?_
   by_cases q : x % 262144 > 131071
   ·exact Evt.pos q (j2 _ (by unfold rI fI; rw [hi, if_pos rfl, if_pos q]))
   ·exact Evt.neg q (j2 _ (by unfold rI fI; rw [hi, if_pos rfl, if_neg q]))
  | false =>
   simp only [Bool.false_eq_true, if_false]
   exact Evt.neg (by decide) (j2 _ (by unfold rI; rw [hi]; rfl))
 have j0 : ∀ b, b = rB n x → Evt (fun k => ontimeref04_Decode.j0 k x f (if imm n = true then low n else 1) (if imm n = true then high n else 0) (n : Int) (fA x) b 0 0) ((n : Int), fA x, rB n x, rC n x, rI n x, true) := by
  intro b hb
  subst hb
  refine Evt.step (fun k => by rw [ontimeref04_Decode.j0]) ?_
  rw [d4]
  by_cases q : (f.size : Int) > 2
  ·have : fC x = rC n x := by unfold rC; rw [if_pos (by omega)]
   rw [this]
   exact Evt.pos q j1
  ·have : rC n x = 0 := by unfold rC; rw [if_neg (by omega)]
   rw [this] at j1
   exact Evt.neg q (by rw [this]; exact j1)
 have e : (fun k => ontimeref04_Decode.f k x) = fun k => if ((Int.tdiv x 67108864) % 4294967296) ≥ 30 then (some (0, 0, 0, 0, 0, false)) else ((ontimeref04_Format.f k (((Int.tdiv x 67108864) % 4294967296) % 256)).bind fun bt244 => (if (bt244.1.size : Int) > 1 then (ontimeref04_Decode.j0 k x bt244.1 bt244.2.1 bt244.2.2.1 ((Int.tdiv x 67108864) % 256) ((Int.tdiv x 4194304) % 16) ((Int.tdiv x 262144) % 16) 0 0) else (ontimeref04_Decode.j0 k x bt244.1 bt244.2.1 bt244.2.2.1 ((Int.tdiv x 67108864) % 256) ((Int.tdiv x 4194304) % 16) 0 0 0))) := rfl
 rw [e, d1, d2, d3, show ((n : Int) % 4294967296) % 256 = (n : Int) by omega, d8]
 refine Evt.neg (by omega) (Evt.bind hfe ?_)
 by_cases q : (f.size : Int) > 1
 ·exact Evt.pos q (j0 _ (by unfold rB; rw [if_pos (by omega)]))
 ·exact Evt.neg q (j0 _ (by unfold rB; rw [if_neg (by omega)]))
end
end Go.Proofs.Ytihmfdndiicjgaa.PD
