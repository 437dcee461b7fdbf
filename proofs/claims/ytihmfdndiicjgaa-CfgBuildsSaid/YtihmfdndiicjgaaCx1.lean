import Derived.Test.YtihmfdndiicjgaaCx0
namespace Go.Proofs.Ytihmfdndiicjgaa.C
open Go.RowKit Go.Proofs.YtihmfdndiicjgaaW.PrintWords Go.Proofs.YtihmfdndiicjgaaW.PrintLast Go.Proofs.YtihmfdndiicjgaaW.PrintMore
attribute [local go_sem] max2_int min2_int max_two min_two max_three min_three max_four min_four   -- for this text's walks alone
set_option linter.unusedVariables false
set_option linter.unusedSimpArgs false
def linker_in.f (a0 : Int) (a1 : Int) : Option (Bool) := if a0 ≥ 0 then (some (decide (a0 ≤ a1))) else (some false)
set_option maxHeartbeats 8000000 in
set_option maxRecDepth 100000 in
theorem linker_in.calls (a0 : Int) (a1 : Int) (r : Bool) (w : World) (h : linker_in.f a0 a1 = some r) :
  Calls Try.prog 40 #[.int .i64 a0, .int .i64 a1] w fun e w' => e = .returned (.bool r) ∧ Drawn0 w w' := by
 have H : (if a0 ≥ 0 then (some (decide (a0 ≤ a1))) else (some false)) = some r := h
 clear h
 by_cases c3 : a0 ≥ 0
 ·rw [if_pos c3] at H
  have c3b0 : decide (0 ≤ a0) = true := decide_eq_true c3
  clear c3
  obtain rfl := oI H
  go_enter Try.func40, Try.ntmps40
  go_wp2
  go_ret
  exact ⟨by first | rfl | (simp; done) | (simp [*]; done), by repeat (first | exact Drawn0.refl _ | apply Drawn0.step)⟩
 ·rw [if_neg c3] at H
  have c3b0 : decide (0 ≤ a0) = false := decide_eq_false c3
  clear c3
  obtain rfl := oI H
  go_enter Try.func40, Try.ntmps40
  go_wp2
  go_ret
  exact ⟨by first | rfl | (simp; done) | (simp [*]; done), by repeat (first | exact Drawn0.refl _ | apply Drawn0.step)⟩
def linker_named.f (a0 : ByteArray) : Option (Bool) := if (a0.size : Int) ≥ 1 then (some (decide ((a0.size : Int) ≤ 12))) else (some false)
set_option maxHeartbeats 8000000 in
set_option maxRecDepth 100000 in
theorem linker_named.calls (a0 : ByteArray) (r : Bool) (w : World) (h : linker_named.f a0 = some r) :
  Calls Try.prog 41 #[.string a0] w fun e w' => e = .returned (.bool r) ∧ Drawn0 w w' := by
 have H : (if (a0.size : Int) ≥ 1 then (some (decide ((a0.size : Int) ≤ 12))) else (some false)) = some r := h
 clear h
 by_cases c2 : (a0.size : Int) ≥ 1
 ·rw [if_pos c2] at H
  have c2b0 : decide (1 ≤ (a0.size : Int)) = true := decide_eq_true c2
  have c2b1 : decide (1 ≤ a0.size) = true := decide_eq_true (by omega)
  clear c2
  obtain rfl := oI H
  go_enter Try.func41, Try.ntmps41
  go_wp2
  go_ret
  exact ⟨by first | rfl | (simp; done) | (simp [*]; done), by repeat (first | exact Drawn0.refl _ | apply Drawn0.step)⟩
 ·rw [if_neg c2] at H
  have c2b0 : decide (1 ≤ (a0.size : Int)) = false := decide_eq_false c2
  have c2b1 : decide (1 ≤ a0.size) = false := decide_eq_false (by omega)
  clear c2
  obtain rfl := oI H
  go_enter Try.func41, Try.ntmps41
  go_wp2
  go_ret
  exact ⟨by first | rfl | (simp; done) | (simp [*]; done), by repeat (first | exact Drawn0.refl _ | apply Drawn0.step)⟩
def isa_rows.l0 : Nat → List (S108) → List ByteArray → Int → Int → Option ((List (S108)))
 | 0, _, _, _, _ => none
 | k + 1, x1, x7, x8, x9 => if x9 < x8 then (if 0 ≤ x9 then (if x9 < (x7.length : Int) then (if x1.length < 1759218604441 then (isa_rows.l0 k (x1 ++ [(⟨rdOf ByteArray.empty x7 x9, (⟨#[97, 98, 99]⟩ : ByteArray), 0, 0, (⟨#[98, 99]⟩ : ByteArray), (⟨#[97]⟩ : ByteArray)⟩ : S108)]) x7 x8 (wrap64 (x9 + 1))) else (none)) else (none)) else (none)) else ((some (([(⟨(⟨#[108, 105]⟩ : ByteArray), (⟨#[97, 105]⟩ : ByteArray), (-131072), 131071, (⟨#[]⟩ : ByteArray), (⟨#[97]⟩ : ByteArray)⟩ : S108), (⟨(⟨#[97, 100, 100, 105]⟩ : ByteArray), (⟨#[97, 98, 105]⟩ : ByteArray), (-131072), 131071, (⟨#[98]⟩ : ByteArray), (⟨#[97]⟩ : ByteArray)⟩ : S108), (⟨(⟨#[115, 104, 108, 105]⟩ : ByteArray), (⟨#[97, 98, 105]⟩ : ByteArray), 0, 31, (⟨#[98]⟩ : ByteArray), (⟨#[97]⟩ : ByteArray)⟩ : S108), (⟨(⟨#[111, 114, 105]⟩ : ByteArray), (⟨#[97, 98, 105]⟩ : ByteArray), 0, 16383, (⟨#[98]⟩ : ByteArray), (⟨#[97]⟩ : ByteArray)⟩ : S108), (⟨(⟨#[108, 100]⟩ : ByteArray), (⟨#[97, 98, 105]⟩ : ByteArray), (-131072), 131071, (⟨#[98]⟩ : ByteArray), (⟨#[97]⟩ : ByteArray)⟩ : S108), (⟨(⟨#[115, 116]⟩ : ByteArray), (⟨#[97, 98, 105]⟩ : ByteArray), (-131072), 131071, (⟨#[97, 98]⟩ : ByteArray), (⟨#[]⟩ : ByteArray)⟩ : S108), (⟨(⟨#[108, 100, 115]⟩ : ByteArray), (⟨#[97, 98, 105]⟩ : ByteArray), (-131072), 131071, (⟨#[98]⟩ : ByteArray), (⟨#[97]⟩ : ByteArray)⟩ : S108), (⟨(⟨#[115, 116, 115]⟩ : ByteArray), (⟨#[97, 98, 105]⟩ : ByteArray), (-131072), 131071, (⟨#[97, 98]⟩ : ByteArray), (⟨#[]⟩ : ByteArray)⟩ : S108), (⟨(⟨#[98, 101, 113, 122]⟩ : ByteArray), (⟨#[97, 105]⟩ : ByteArray), (-131072), 131071, (⟨#[97]⟩ : ByteArray), (⟨#[]⟩ : ByteArray)⟩ : S108), (⟨(⟨#[98, 110, 101, 122]⟩ : ByteArray), (⟨#[97, 105]⟩ : ByteArray), (-131072), 131071, (⟨#[97]⟩ : ByteArray), (⟨#[]⟩ : ByteArray)⟩ : S108), (⟨(⟨#[106, 109, 112]⟩ : ByteArray), (⟨#[105]⟩ : ByteArray), (-131072), 131071, (⟨#[]⟩ : ByteArray), (⟨#[]⟩ : ByteArray)⟩ : S108), (⟨(⟨#[98, 111, 117, 110, 100]⟩ : ByteArray), (⟨#[97, 105]⟩ : ByteArray), 1, 131071, (⟨#[97]⟩ : ByteArray), (⟨#[]⟩ : ByteArray)⟩ : S108), (⟨(⟨#[105, 110]⟩ : ByteArray), (⟨#[97, 105]⟩ : ByteArray), 0, 7, (⟨#[]⟩ : ByteArray), (⟨#[97]⟩ : ByteArray)⟩ : S108), (⟨(⟨#[111, 117, 116]⟩ : ByteArray), (⟨#[97, 105]⟩ : ByteArray), 0, 7, (⟨#[97]⟩ : ByteArray), (⟨#[]⟩ : ByteArray)⟩ : S108), (⟨(⟨#[108, 111, 99, 107]⟩ : ByteArray), (⟨#[105]⟩ : ByteArray), 0, 3, (⟨#[]⟩ : ByteArray), (⟨#[]⟩ : ByteArray)⟩ : S108), (⟨(⟨#[117, 110, 108, 111, 99, 107]⟩ : ByteArray), (⟨#[105]⟩ : ByteArray), 0, 3, (⟨#[]⟩ : ByteArray), (⟨#[]⟩ : ByteArray)⟩ : S108)] : List (S108)) : List (S108))).bind fun y111 => (if x1.length + y111.length < 1759218604441 then (some (x1 ++ y111)) else (none)))
def isa_rows.f (k : Nat)  : Option ((List (S108))) := (some (([(⟨#[97, 100, 100]⟩ : ByteArray), (⟨#[115, 117, 98]⟩ : ByteArray), (⟨#[109, 117, 108]⟩ : ByteArray), (⟨#[100, 105, 118]⟩ : ByteArray), (⟨#[109, 111, 100]⟩ : ByteArray), (⟨#[97, 110, 100]⟩ : ByteArray), (⟨#[111, 114]⟩ : ByteArray), (⟨#[120, 111, 114]⟩ : ByteArray), (⟨#[115, 104, 108]⟩ : ByteArray), (⟨#[115, 104, 114]⟩ : ByteArray), (⟨#[101, 113]⟩ : ByteArray), (⟨#[108, 116]⟩ : ByteArray)] : List ByteArray) : List ByteArray)).bind fun y104 => (isa_rows.l0 k (([(⟨(⟨#[110, 111, 112]⟩ : ByteArray), (⟨#[]⟩ : ByteArray), 0, 0, (⟨#[]⟩ : ByteArray), (⟨#[]⟩ : ByteArray)⟩ : S108), (⟨(⟨#[104, 97, 108, 116]⟩ : ByteArray), (⟨#[]⟩ : ByteArray), 0, 0, (⟨#[]⟩ : ByteArray), (⟨#[]⟩ : ByteArray)⟩ : S108)] : List (S108))) y104 (y104.length : Int) 0)
set_option maxHeartbeats 8000000 in
set_option maxRecDepth 100000 in
theorem isa_rows.calls (k : Nat)  (r : List (S108)) (w : World) (h : isa_rows.f k  = some r) :
  Calls Try.prog 66 #[] w fun e w' => ∃ v0_ : Value, e = .returned (v0_) ∧ Kd.R k108 108 w' w.heap.size (fun _ => True) v0_ r ∧ Below w.heap.size w w' := by
 have hu108 := Try.underlying108
 have HB := aK (Below.refl w.heap.size w)
 have H : ((some (([(⟨#[97, 100, 100]⟩ : ByteArray), (⟨#[115, 117, 98]⟩ : ByteArray), (⟨#[109, 117, 108]⟩ : ByteArray), (⟨#[100, 105, 118]⟩ : ByteArray), (⟨#[109, 111, 100]⟩ : ByteArray), (⟨#[97, 110, 100]⟩ : ByteArray), (⟨#[111, 114]⟩ : ByteArray), (⟨#[120, 111, 114]⟩ : ByteArray), (⟨#[115, 104, 108]⟩ : ByteArray), (⟨#[115, 104, 114]⟩ : ByteArray), (⟨#[101, 113]⟩ : ByteArray), (⟨#[108, 116]⟩ : ByteArray)] : List ByteArray) : List ByteArray)).bind fun y104 => (isa_rows.l0 k (([(⟨(⟨#[110, 111, 112]⟩ : ByteArray), (⟨#[]⟩ : ByteArray), 0, 0, (⟨#[]⟩ : ByteArray), (⟨#[]⟩ : ByteArray)⟩ : S108), (⟨(⟨#[104, 97, 108, 116]⟩ : ByteArray), (⟨#[]⟩ : ByteArray), 0, 0, (⟨#[]⟩ : ByteArray), (⟨#[]⟩ : ByteArray)⟩ : S108)] : List (S108))) y104 (y104.length : Int) 0)) = some r := h
 clear h
 obtain ⟨y101, hy101⟩ : ∃ y_ : List (S108), y_ = (([(⟨(⟨#[110, 111, 112]⟩ : ByteArray), (⟨#[]⟩ : ByteArray), 0, 0, (⟨#[]⟩ : ByteArray), (⟨#[]⟩ : ByteArray)⟩ : S108), (⟨(⟨#[104, 97, 108, 116]⟩ : ByteArray), (⟨#[]⟩ : ByteArray), 0, 0, (⟨#[]⟩ : ByteArray), (⟨#[]⟩ : ByteArray)⟩ : S108)] : List (S108))) := ⟨_, rfl⟩
 replace H : ((some (([(⟨#[97, 100, 100]⟩ : ByteArray), (⟨#[115, 117, 98]⟩ : ByteArray), (⟨#[109, 117, 108]⟩ : ByteArray), (⟨#[100, 105, 118]⟩ : ByteArray), (⟨#[109, 111, 100]⟩ : ByteArray), (⟨#[97, 110, 100]⟩ : ByteArray), (⟨#[111, 114]⟩ : ByteArray), (⟨#[120, 111, 114]⟩ : ByteArray), (⟨#[115, 104, 108]⟩ : ByteArray), (⟨#[115, 104, 114]⟩ : ByteArray), (⟨#[101, 113]⟩ : ByteArray), (⟨#[108, 116]⟩ : ByteArray)] : List ByteArray) : List ByteArray)).bind fun y104 => (isa_rows.l0 k y101 y104 (y104.length : Int) 0)) = some r := by first | (rw [hy101]; with_reducible exact H) | (have H2_ := (Option.bind_some _ _).symm.trans H; rw [hy101]; with_reducible exact H2_) | (have H2_ := (Option.bind_some _ _).symm.trans H; with_reducible exact H2_) | with_reducible exact H | (rw [hy101]; exact H) | exact H
 have Ny101 := aK hy101
 clear hy101
 obtain ⟨y104, hy104⟩ : ∃ y_ : List ByteArray, y_ = (([(⟨#[97, 100, 100]⟩ : ByteArray), (⟨#[115, 117, 98]⟩ : ByteArray), (⟨#[109, 117, 108]⟩ : ByteArray), (⟨#[100, 105, 118]⟩ : ByteArray), (⟨#[109, 111, 100]⟩ : ByteArray), (⟨#[97, 110, 100]⟩ : ByteArray), (⟨#[111, 114]⟩ : ByteArray), (⟨#[120, 111, 114]⟩ : ByteArray), (⟨#[115, 104, 108]⟩ : ByteArray), (⟨#[115, 104, 114]⟩ : ByteArray), (⟨#[101, 113]⟩ : ByteArray), (⟨#[108, 116]⟩ : ByteArray)] : List ByteArray)) := ⟨_, rfl⟩
 replace H : (isa_rows.l0 k y101 y104 (y104.length : Int) 0) = some r := by first | (rw [hy104]; with_reducible exact H) | (have H2_ := (Option.bind_some _ _).symm.trans H; rw [hy104]; with_reducible exact H2_) | (have H2_ := (Option.bind_some _ _).symm.trans H; with_reducible exact H2_) | with_reducible exact H | (rw [hy104]; exact H) | exact H
 have Ny104 := aK hy104
 clear hy104
 have H' := aK H
 clear H
 go_enter Try.func66, Try.ntmps66
 go_wp2_with (first | ((refine gate_dst (N := 6) rfl ?_); refine Kd.R_lit k108 _ 108 ?hg (N := 6) ?hd (xs := ([(⟨(⟨#[110, 111, 112]⟩ : ByteArray), (⟨#[]⟩ : ByteArray), 0, 0, (⟨#[]⟩ : ByteArray), (⟨#[]⟩ : ByteArray)⟩ : S108), (⟨(⟨#[104, 97, 108, 116]⟩ : ByteArray), (⟨#[]⟩ : ByteArray), 0, 0, (⟨#[]⟩ : ByteArray), (⟨#[]⟩ : ByteArray)⟩ : S108)] : List (S108))) (inner := [.string (⟨#[110, 111, 112]⟩ : ByteArray), .string (⟨#[]⟩ : ByteArray), .int .i64 0, .int .i64 0, .string (⟨#[]⟩ : ByteArray), .string (⟨#[]⟩ : ByteArray), .string (⟨#[104, 97, 108, 116]⟩ : ByteArray), .string (⟨#[]⟩ : ByteArray), .int .i64 0, .int .i64 0, .string (⟨#[]⟩ : ByteArray), .string (⟨#[]⟩ : ByteArray)]) (ok := fun _ => True) (okp := fun _ => True) ?hr ?hp (fun _ hk => hk) trivial (Below.refl _ _) (Nat.le_refl _) (by simp) ?_; (case hd => rfl); (case hg => rfl); (case hr => first | (go_simp; done) | (go_simp; rfl)); (case hp => exact (Reps.c6 (show Kd.M k108 _ _ _ (⟨(⟨#[110, 111, 112]⟩ : ByteArray), (⟨#[]⟩ : ByteArray), 0, 0, (⟨#[]⟩ : ByteArray), (⟨#[]⟩ : ByteArray)⟩ : S108) [.string (⟨#[110, 111, 112]⟩ : ByteArray), .string (⟨#[]⟩ : ByteArray), .int .i64 0, .int .i64 0, .string (⟨#[]⟩ : ByteArray), .string (⟨#[]⟩ : ByteArray)] from (k108_mkM _ _ _ (⟨(⟨#[110, 111, 112]⟩ : ByteArray), (⟨#[]⟩ : ByteArray), 0, 0, (⟨#[]⟩ : ByteArray), (⟨#[]⟩ : ByteArray)⟩ : S108) )) (Reps.c6 (show Kd.M k108 _ _ _ (⟨(⟨#[104, 97, 108, 116]⟩ : ByteArray), (⟨#[]⟩ : ByteArray), 0, 0, (⟨#[]⟩ : ByteArray), (⟨#[]⟩ : ByteArray)⟩ : S108) [.string (⟨#[104, 97, 108, 116]⟩ : ByteArray), .string (⟨#[]⟩ : ByteArray), .int .i64 0, .int .i64 0, .string (⟨#[]⟩ : ByteArray), .string (⟨#[]⟩ : ByteArray)] from (k108_mkM _ _ _ (⟨(⟨#[104, 97, 108, 116]⟩ : ByteArray), (⟨#[]⟩ : ByteArray), 0, 0, (⟨#[]⟩ : ByteArray), (⟨#[]⟩ : ByteArray)⟩ : S108) )) (Reps.none _ _)))); intro v102 w1 ho2 hb hg_ hnew_; clear hg_ hnew_; (first | rw [← Ny101.out] at ho2 | (simp only [Int.reduceToNat] at ho2; rw [← Ny101.out] at ho2)); have HO103 := aK (Kd.R_lower ho2 (below_size (tB0 HB.out))); replace HB := aK (below_step (tB0 HB.out) hb); clear hb ho2) | ((refine gate_dst (N := 7) rfl ?_); refine Kd.R_lit Kd.string _ 9 ?hg (N := 7) ?hd (xs := ([(⟨#[97, 100, 100]⟩ : ByteArray), (⟨#[115, 117, 98]⟩ : ByteArray), (⟨#[109, 117, 108]⟩ : ByteArray), (⟨#[100, 105, 118]⟩ : ByteArray), (⟨#[109, 111, 100]⟩ : ByteArray), (⟨#[97, 110, 100]⟩ : ByteArray), (⟨#[111, 114]⟩ : ByteArray), (⟨#[120, 111, 114]⟩ : ByteArray), (⟨#[115, 104, 108]⟩ : ByteArray), (⟨#[115, 104, 114]⟩ : ByteArray), (⟨#[101, 113]⟩ : ByteArray), (⟨#[108, 116]⟩ : ByteArray)] : List ByteArray)) (inner := [.string (⟨#[97, 100, 100]⟩ : ByteArray), .string (⟨#[115, 117, 98]⟩ : ByteArray), .string (⟨#[109, 117, 108]⟩ : ByteArray), .string (⟨#[100, 105, 118]⟩ : ByteArray), .string (⟨#[109, 111, 100]⟩ : ByteArray), .string (⟨#[97, 110, 100]⟩ : ByteArray), .string (⟨#[111, 114]⟩ : ByteArray), .string (⟨#[120, 111, 114]⟩ : ByteArray), .string (⟨#[115, 104, 108]⟩ : ByteArray), .string (⟨#[115, 104, 114]⟩ : ByteArray), .string (⟨#[101, 113]⟩ : ByteArray), .string (⟨#[108, 116]⟩ : ByteArray)]) (ok := fun _ => True) (okp := fun _ => True) ?hr ?hp (fun _ hk => hk) trivial (Below.refl _ _) (Nat.le_refl _) (by simp) ?_; (case hd => rfl); (case hg => rfl); (case hr => first | (go_simp; done) | (go_simp; rfl)); (case hp => exact (Reps.one (show Kd.M Kd.string _ _ _ (⟨#[97, 100, 100]⟩ : ByteArray) [.string (⟨#[97, 100, 100]⟩ : ByteArray)] from rfl) (Reps.one (show Kd.M Kd.string _ _ _ (⟨#[115, 117, 98]⟩ : ByteArray) [.string (⟨#[115, 117, 98]⟩ : ByteArray)] from rfl) (Reps.one (show Kd.M Kd.string _ _ _ (⟨#[109, 117, 108]⟩ : ByteArray) [.string (⟨#[109, 117, 108]⟩ : ByteArray)] from rfl) (Reps.one (show Kd.M Kd.string _ _ _ (⟨#[100, 105, 118]⟩ : ByteArray) [.string (⟨#[100, 105, 118]⟩ : ByteArray)] from rfl) (Reps.one (show Kd.M Kd.string _ _ _ (⟨#[109, 111, 100]⟩ : ByteArray) [.string (⟨#[109, 111, 100]⟩ : ByteArray)] from rfl) (Reps.one (show Kd.M Kd.string _ _ _ (⟨#[97, 110, 100]⟩ : ByteArray) [.string (⟨#[97, 110, 100]⟩ : ByteArray)] from rfl) (Reps.one (show Kd.M Kd.string _ _ _ (⟨#[111, 114]⟩ : ByteArray) [.string (⟨#[111, 114]⟩ : ByteArray)] from rfl) (Reps.one (show Kd.M Kd.string _ _ _ (⟨#[120, 111, 114]⟩ : ByteArray) [.string (⟨#[120, 111, 114]⟩ : ByteArray)] from rfl) (Reps.one (show Kd.M Kd.string _ _ _ (⟨#[115, 104, 108]⟩ : ByteArray) [.string (⟨#[115, 104, 108]⟩ : ByteArray)] from rfl) (Reps.one (show Kd.M Kd.string _ _ _ (⟨#[115, 104, 114]⟩ : ByteArray) [.string (⟨#[115, 104, 114]⟩ : ByteArray)] from rfl) (Reps.one (show Kd.M Kd.string _ _ _ (⟨#[101, 113]⟩ : ByteArray) [.string (⟨#[101, 113]⟩ : ByteArray)] from rfl) (Reps.one (show Kd.M Kd.string _ _ _ (⟨#[108, 116]⟩ : ByteArray) [.string (⟨#[108, 116]⟩ : ByteArray)] from rfl) (Reps.none _ _)))))))))))))); intro v105 w3 ho4 hb hg_ hnew_; clear hg_ hnew_; (first | rw [← Ny104.out] at ho4 | (simp only [Int.reduceToNat] at ho4; rw [← Ny104.out] at ho4)); replace HO103 := aK (Kd.R_below (tR HO103.out) hb); have HO106 := aK (Kd.R_lower ho4 (below_size (tB0 HB.out))); replace HB := aK (below_step (tB0 HB.out) hb); clear hb ho4; obtain ⟨Ao5, co5, eo5⟩ := Kd.R_slice HO106.out; subst eo5))
 go_loopg [1, 9] k (fun kq v1 v9 w' => ∃ (x1_1 : List (S108)) (x9_1 : Int), v9 = .int .i64 x9_1 ∧ Aside0 (isa_rows.l0 kq x1_1 y104 (y104.length : Int) x9_1 = some r) ∧ Aside0 (kq ≤ k) ∧ Aside0 (Kd.R k108 108 w' w.heap.size (fun _ => True) v1 x1_1) ∧ Aside0 (Kd.R Kd.string 9 w' w.heap.size (fun _ => True) (.slice Ao5 y104.length co5) y104) ∧ Aside0 (Below w.heap.size w w'))
 case atStart => exact ⟨(y101), (0), (by first | rfl | (simp; done) | (simp [*]; done)), H', ⟨Nat.le_refl _⟩, ⟨tR HO103.out⟩, ⟨tR HO106.out⟩, ⟨tB0 HB.out⟩⟩
 clear H'
 obtain ⟨x1_1, x9_1, rfl, HA, HK1, HO_1, HO_7, HB⟩ := hrel
 cases gk with
 | zero => exact absurd HA.out (by simp [isa_rows.l0])
 | succ k1 =>
  have H := HA.out
  clear HA
  simp only [isa_rows.l0] at H
  by_cases c6 : x9_1 < (y104.length : Int)
  ·rw [if_pos c6] at H
   have c6b0 : decide (x9_1 < (y104.length : Int)) = true := decide_eq_true c6
   clear c6
   by_cases c7 : 0 ≤ x9_1
   rotate_left
   ·rw [if_neg c7] at H
    exact absurd H (by simp)
   rw [if_pos c7] at H
   have c7b0 : decide (0 ≤ x9_1) = true := decide_eq_true c7
   clear c7
   by_cases c8 : x9_1 < (y104.length : Int)
   rotate_left
   ·rw [if_neg c8] at H
    exact absurd H (by simp)
   rw [if_pos c8] at H
   have c8b0 : decide (x9_1 < (y104.length : Int)) = true := decide_eq_true c8
   clear c8
   by_cases c9 : x1_1.length < 1759218604441
   rotate_left
   ·rw [if_neg c9] at H
    exact absurd H (by simp)
   rw [if_pos c9] at H
   have LMc9 := aK c9
   clear c9
   obtain ⟨y108, hy108⟩ : ∃ y_ : List (S108), y_ = (x1_1 ++ [(⟨rdOf ByteArray.empty y104 x9_1, (⟨#[97, 98, 99]⟩ : ByteArray), 0, 0, (⟨#[98, 99]⟩ : ByteArray), (⟨#[97]⟩ : ByteArray)⟩ : S108)]) := ⟨_, rfl⟩
   replace H : (isa_rows.l0 k1 y108 y104 (y104.length : Int) (wrap64 (x9_1 + 1))) = some r := by first | (rw [hy108]; with_reducible exact H) | (have H2_ := (Option.bind_some _ _).symm.trans H; rw [hy108]; with_reducible exact H2_) | (have H2_ := (Option.bind_some _ _).symm.trans H; with_reducible exact H2_) | with_reducible exact H | (rw [hy108]; exact H) | exact H
   have Ny108 := aK hy108
   clear hy108
   have H' := aK H
   clear H
   have p107 : 0 ≤ (x9_1 : Int) := tD
   have q107 : x9_1 < (y104.length : Int) := tD
   obtain ⟨ad107, e107, hx107_0⟩ := Kd.at_string (Kd.R_reads' HO_7.out).2.2 x9_1 p107 q107
   cases e107
   replace p107 := eq_true p107
   replace q107 := eq_true q107
   go_wp2_with (first | ((refine gate_builtin (b := .append) (xs := #[.tmp 13, .tmp 16]) rfl ?_); at_builtin; refine Kd.R_append k108 (w0 := w) w.heap.size rfl (.tmp 13) (.tmp 16) 128 108 (.agg #[(.string ⟨#[]⟩), (.string ⟨#[]⟩), (.int .i64 0), (.int .i64 0), (.string ⟨#[]⟩), (.string ⟨#[]⟩)]) 80 rfl Try.underlying128 info108 rfl (by decide) (by omega) u1 x1_1 (⟨rdOf ByteArray.empty y104 x9_1, (⟨#[97, 98, 99]⟩ : ByteArray), 0, 0, (⟨#[98, 99]⟩ : ByteArray), (⟨#[97]⟩ : ByteArray)⟩ : S108) [.string (rdOf ByteArray.empty y104 x9_1), .string (⟨#[97, 98, 99]⟩ : ByteArray), .int .i64 0, .int .i64 0, .string (⟨#[98, 99]⟩ : ByteArray), .string (⟨#[97]⟩ : ByteArray)] (fun _ => True) (fun _ => False) rfl rfl ?aP (fun _ hk => hk.elim) ?aF ?aO ?aB ?aS ?aL ?_; (case aP => exact k108_mkM _ _ _ (⟨rdOf ByteArray.empty y104 x9_1, (⟨#[97, 98, 99]⟩ : ByteArray), 0, 0, (⟨#[98, 99]⟩ : ByteArray), (⟨#[97]⟩ : ByteArray)⟩ : S108)); (case aB => exact (tB0 HB.out)); (case aF => exact (fun _ _ => trivial)); (case aO => exact (tR HO_1.out)); (case aS => exact (below_size (tB0 HB.out))); (case aL => have := LMc9.out; omega); intro v109 w10 ho hb hg hat; rw [← Ny108.out] at ho; replace HO_7 := aK (Kd.R_over' (tR HO_7.out) (Kd.R_typed (tR HO_1.out)) (by decide) hg); replace HB := aK (hb); have HO110 := aK (ho); clear HO_1; clear ho hb hg hat))
   go_roundg k1
   case measure => have := HK1.out; omega
   case rel => exact ⟨(y108), (wrap64 (x9_1 + 1)), (by first | rfl | (simp; done) | (simp [*]; done)), H', ⟨by have := HK1.out; omega⟩, ⟨tR HO110.out⟩, ⟨tR HO_7.out⟩, ⟨tB0 HB.out⟩⟩
  ·rw [if_neg c6] at H
   have c6b0 : decide (x9_1 < (y104.length : Int)) = false := decide_eq_false c6
   clear c6
   obtain ⟨y111, hy111⟩ : ∃ y_ : List (S108), y_ = (([(⟨(⟨#[108, 105]⟩ : ByteArray), (⟨#[97, 105]⟩ : ByteArray), (-131072), 131071, (⟨#[]⟩ : ByteArray), (⟨#[97]⟩ : ByteArray)⟩ : S108), (⟨(⟨#[97, 100, 100, 105]⟩ : ByteArray), (⟨#[97, 98, 105]⟩ : ByteArray), (-131072), 131071, (⟨#[98]⟩ : ByteArray), (⟨#[97]⟩ : ByteArray)⟩ : S108), (⟨(⟨#[115, 104, 108, 105]⟩ : ByteArray), (⟨#[97, 98, 105]⟩ : ByteArray), 0, 31, (⟨#[98]⟩ : ByteArray), (⟨#[97]⟩ : ByteArray)⟩ : S108), (⟨(⟨#[111, 114, 105]⟩ : ByteArray), (⟨#[97, 98, 105]⟩ : ByteArray), 0, 16383, (⟨#[98]⟩ : ByteArray), (⟨#[97]⟩ : ByteArray)⟩ : S108), (⟨(⟨#[108, 100]⟩ : ByteArray), (⟨#[97, 98, 105]⟩ : ByteArray), (-131072), 131071, (⟨#[98]⟩ : ByteArray), (⟨#[97]⟩ : ByteArray)⟩ : S108), (⟨(⟨#[115, 116]⟩ : ByteArray), (⟨#[97, 98, 105]⟩ : ByteArray), (-131072), 131071, (⟨#[97, 98]⟩ : ByteArray), (⟨#[]⟩ : ByteArray)⟩ : S108), (⟨(⟨#[108, 100, 115]⟩ : ByteArray), (⟨#[97, 98, 105]⟩ : ByteArray), (-131072), 131071, (⟨#[98]⟩ : ByteArray), (⟨#[97]⟩ : ByteArray)⟩ : S108), (⟨(⟨#[115, 116, 115]⟩ : ByteArray), (⟨#[97, 98, 105]⟩ : ByteArray), (-131072), 131071, (⟨#[97, 98]⟩ : ByteArray), (⟨#[]⟩ : ByteArray)⟩ : S108), (⟨(⟨#[98, 101, 113, 122]⟩ : ByteArray), (⟨#[97, 105]⟩ : ByteArray), (-131072), 131071, (⟨#[97]⟩ : ByteArray), (⟨#[]⟩ : ByteArray)⟩ : S108), (⟨(⟨#[98, 110, 101, 122]⟩ : ByteArray), (⟨#[97, 105]⟩ : ByteArray), (-131072), 131071, (⟨#[97]⟩ : ByteArray), (⟨#[]⟩ : ByteArray)⟩ : S108), (⟨(⟨#[106, 109, 112]⟩ : ByteArray), (⟨#[105]⟩ : ByteArray), (-131072), 131071, (⟨#[]⟩ : ByteArray), (⟨#[]⟩ : ByteArray)⟩ : S108), (⟨(⟨#[98, 111, 117, 110, 100]⟩ : ByteArray), (⟨#[97, 105]⟩ : ByteArray), 1, 131071, (⟨#[97]⟩ : ByteArray), (⟨#[]⟩ : ByteArray)⟩ : S108), (⟨(⟨#[105, 110]⟩ : ByteArray), (⟨#[97, 105]⟩ : ByteArray), 0, 7, (⟨#[]⟩ : ByteArray), (⟨#[97]⟩ : ByteArray)⟩ : S108), (⟨(⟨#[111, 117, 116]⟩ : ByteArray), (⟨#[97, 105]⟩ : ByteArray), 0, 7, (⟨#[97]⟩ : ByteArray), (⟨#[]⟩ : ByteArray)⟩ : S108), (⟨(⟨#[108, 111, 99, 107]⟩ : ByteArray), (⟨#[105]⟩ : ByteArray), 0, 3, (⟨#[]⟩ : ByteArray), (⟨#[]⟩ : ByteArray)⟩ : S108), (⟨(⟨#[117, 110, 108, 111, 99, 107]⟩ : ByteArray), (⟨#[105]⟩ : ByteArray), 0, 3, (⟨#[]⟩ : ByteArray), (⟨#[]⟩ : ByteArray)⟩ : S108)] : List (S108))) := ⟨_, rfl⟩
   replace H : (if x1_1.length + y111.length < 1759218604441 then (some (x1_1 ++ y111)) else (none)) = some r := by first | (rw [hy111]; with_reducible exact H) | (have H2_ := (Option.bind_some _ _).symm.trans H; rw [hy111]; with_reducible exact H2_) | (have H2_ := (Option.bind_some _ _).symm.trans H; with_reducible exact H2_) | with_reducible exact H | (rw [hy111]; exact H) | exact H
   have Ny111 := aK hy111
   clear hy111
   by_cases c11 : x1_1.length + y111.length < 1759218604441
   rotate_left
   ·rw [if_neg c11] at H
    exact absurd H (by simp)
   rw [if_pos c11] at H
   have LMc11 := aK c11
   clear c11
   obtain ⟨y114, hy114⟩ : ∃ y_ : List (S108), y_ = (x1_1 ++ y111) := ⟨_, rfl⟩
   replace H : (some y114) = some r := by first | (rw [hy114]; with_reducible exact H) | (have H2_ := (Option.bind_some _ _).symm.trans H; rw [hy114]; with_reducible exact H2_) | (have H2_ := (Option.bind_some _ _).symm.trans H; with_reducible exact H2_) | with_reducible exact H | (rw [hy114]; exact H) | exact H
   have Ny114 := aK hy114
   clear hy114
   obtain rfl := oI H
   go_wp2_with (first | ((refine gate_dst (N := 36) rfl ?_); refine Kd.R_lit k108 _ 108 ?hg (N := 36) ?hd (xs := ([(⟨(⟨#[108, 105]⟩ : ByteArray), (⟨#[97, 105]⟩ : ByteArray), (-131072), 131071, (⟨#[]⟩ : ByteArray), (⟨#[97]⟩ : ByteArray)⟩ : S108), (⟨(⟨#[97, 100, 100, 105]⟩ : ByteArray), (⟨#[97, 98, 105]⟩ : ByteArray), (-131072), 131071, (⟨#[98]⟩ : ByteArray), (⟨#[97]⟩ : ByteArray)⟩ : S108), (⟨(⟨#[115, 104, 108, 105]⟩ : ByteArray), (⟨#[97, 98, 105]⟩ : ByteArray), 0, 31, (⟨#[98]⟩ : ByteArray), (⟨#[97]⟩ : ByteArray)⟩ : S108), (⟨(⟨#[111, 114, 105]⟩ : ByteArray), (⟨#[97, 98, 105]⟩ : ByteArray), 0, 16383, (⟨#[98]⟩ : ByteArray), (⟨#[97]⟩ : ByteArray)⟩ : S108), (⟨(⟨#[108, 100]⟩ : ByteArray), (⟨#[97, 98, 105]⟩ : ByteArray), (-131072), 131071, (⟨#[98]⟩ : ByteArray), (⟨#[97]⟩ : ByteArray)⟩ : S108), (⟨(⟨#[115, 116]⟩ : ByteArray), (⟨#[97, 98, 105]⟩ : ByteArray), (-131072), 131071, (⟨#[97, 98]⟩ : ByteArray), (⟨#[]⟩ : ByteArray)⟩ : S108), (⟨(⟨#[108, 100, 115]⟩ : ByteArray), (⟨#[97, 98, 105]⟩ : ByteArray), (-131072), 131071, (⟨#[98]⟩ : ByteArray), (⟨#[97]⟩ : ByteArray)⟩ : S108), (⟨(⟨#[115, 116, 115]⟩ : ByteArray), (⟨#[97, 98, 105]⟩ : ByteArray), (-131072), 131071, (⟨#[97, 98]⟩ : ByteArray), (⟨#[]⟩ : ByteArray)⟩ : S108), (⟨(⟨#[98, 101, 113, 122]⟩ : ByteArray), (⟨#[97, 105]⟩ : ByteArray), (-131072), 131071, (⟨#[97]⟩ : ByteArray), (⟨#[]⟩ : ByteArray)⟩ : S108), (⟨(⟨#[98, 110, 101, 122]⟩ : ByteArray), (⟨#[97, 105]⟩ : ByteArray), (-131072), 131071, (⟨#[97]⟩ : ByteArray), (⟨#[]⟩ : ByteArray)⟩ : S108), (⟨(⟨#[106, 109, 112]⟩ : ByteArray), (⟨#[105]⟩ : ByteArray), (-131072), 131071, (⟨#[]⟩ : ByteArray), (⟨#[]⟩ : ByteArray)⟩ : S108), (⟨(⟨#[98, 111, 117, 110, 100]⟩ : ByteArray), (⟨#[97, 105]⟩ : ByteArray), 1, 131071, (⟨#[97]⟩ : ByteArray), (⟨#[]⟩ : ByteArray)⟩ : S108), (⟨(⟨#[105, 110]⟩ : ByteArray), (⟨#[97, 105]⟩ : ByteArray), 0, 7, (⟨#[]⟩ : ByteArray), (⟨#[97]⟩ : ByteArray)⟩ : S108), (⟨(⟨#[111, 117, 116]⟩ : ByteArray), (⟨#[97, 105]⟩ : ByteArray), 0, 7, (⟨#[97]⟩ : ByteArray), (⟨#[]⟩ : ByteArray)⟩ : S108), (⟨(⟨#[108, 111, 99, 107]⟩ : ByteArray), (⟨#[105]⟩ : ByteArray), 0, 3, (⟨#[]⟩ : ByteArray), (⟨#[]⟩ : ByteArray)⟩ : S108), (⟨(⟨#[117, 110, 108, 111, 99, 107]⟩ : ByteArray), (⟨#[105]⟩ : ByteArray), 0, 3, (⟨#[]⟩ : ByteArray), (⟨#[]⟩ : ByteArray)⟩ : S108)] : List (S108))) (inner := [.string (⟨#[108, 105]⟩ : ByteArray), .string (⟨#[97, 105]⟩ : ByteArray), .int .i64 (-131072), .int .i64 131071, .string (⟨#[]⟩ : ByteArray), .string (⟨#[97]⟩ : ByteArray), .string (⟨#[97, 100, 100, 105]⟩ : ByteArray), .string (⟨#[97, 98, 105]⟩ : ByteArray), .int .i64 (-131072), .int .i64 131071, .string (⟨#[98]⟩ : ByteArray), .string (⟨#[97]⟩ : ByteArray), .string (⟨#[115, 104, 108, 105]⟩ : ByteArray), .string (⟨#[97, 98, 105]⟩ : ByteArray), .int .i64 0, .int .i64 31, .string (⟨#[98]⟩ : ByteArray), .string (⟨#[97]⟩ : ByteArray), .string (⟨#[111, 114, 105]⟩ : ByteArray), .string (⟨#[97, 98, 105]⟩ : ByteArray), .int .i64 0, .int .i64 16383, .string (⟨#[98]⟩ : ByteArray), .string (⟨#[97]⟩ : ByteArray), .string (⟨#[108, 100]⟩ : ByteArray), .string (⟨#[97, 98, 105]⟩ : ByteArray), .int .i64 (-131072), .int .i64 131071, .string (⟨#[98]⟩ : ByteArray), .string (⟨#[97]⟩ : ByteArray), .string (⟨#[115, 116]⟩ : ByteArray), .string (⟨#[97, 98, 105]⟩ : ByteArray), .int .i64 (-131072), .int .i64 131071, .string (⟨#[97, 98]⟩ : ByteArray), .string (⟨#[]⟩ : ByteArray), .string (⟨#[108, 100, 115]⟩ : ByteArray), .string (⟨#[97, 98, 105]⟩ : ByteArray), .int .i64 (-131072), .int .i64 131071, .string (⟨#[98]⟩ : ByteArray), .string (⟨#[97]⟩ : ByteArray), .string (⟨#[115, 116, 115]⟩ : ByteArray), .string (⟨#[97, 98, 105]⟩ : ByteArray), .int .i64 (-131072), .int .i64 131071, .string (⟨#[97, 98]⟩ : ByteArray), .string (⟨#[]⟩ : ByteArray), .string (⟨#[98, 101, 113, 122]⟩ : ByteArray), .string (⟨#[97, 105]⟩ : ByteArray), .int .i64 (-131072), .int .i64 131071, .string (⟨#[97]⟩ : ByteArray), .string (⟨#[]⟩ : ByteArray), .string (⟨#[98, 110, 101, 122]⟩ : ByteArray), .string (⟨#[97, 105]⟩ : ByteArray), .int .i64 (-131072), .int .i64 131071, .string (⟨#[97]⟩ : ByteArray), .string (⟨#[]⟩ : ByteArray), .string (⟨#[106, 109, 112]⟩ : ByteArray), .string (⟨#[105]⟩ : ByteArray), .int .i64 (-131072), .int .i64 131071, .string (⟨#[]⟩ : ByteArray), .string (⟨#[]⟩ : ByteArray), .string (⟨#[98, 111, 117, 110, 100]⟩ : ByteArray), .string (⟨#[97, 105]⟩ : ByteArray), .int .i64 1, .int .i64 131071, .string (⟨#[97]⟩ : ByteArray), .string (⟨#[]⟩ : ByteArray), .string (⟨#[105, 110]⟩ : ByteArray), .string (⟨#[97, 105]⟩ : ByteArray), .int .i64 0, .int .i64 7, .string (⟨#[]⟩ : ByteArray), .string (⟨#[97]⟩ : ByteArray), .string (⟨#[111, 117, 116]⟩ : ByteArray), .string (⟨#[97, 105]⟩ : ByteArray), .int .i64 0, .int .i64 7, .string (⟨#[97]⟩ : ByteArray), .string (⟨#[]⟩ : ByteArray), .string (⟨#[108, 111, 99, 107]⟩ : ByteArray), .string (⟨#[105]⟩ : ByteArray), .int .i64 0, .int .i64 3, .string (⟨#[]⟩ : ByteArray), .string (⟨#[]⟩ : ByteArray), .string (⟨#[117, 110, 108, 111, 99, 107]⟩ : ByteArray), .string (⟨#[105]⟩ : ByteArray), .int .i64 0, .int .i64 3, .string (⟨#[]⟩ : ByteArray), .string (⟨#[]⟩ : ByteArray)]) (ok := fun _ => True) (okp := fun _ => True) ?hr ?hp (fun _ hk => hk) trivial (Below.refl _ _) (Nat.le_refl _) (by simp) ?_; (case hd => rfl); (case hg => rfl); (case hr => first | (go_simp; done) | (go_simp; rfl)); (case hp => exact (Reps.c6 (show Kd.M k108 _ _ _ (⟨(⟨#[108, 105]⟩ : ByteArray), (⟨#[97, 105]⟩ : ByteArray), (-131072), 131071, (⟨#[]⟩ : ByteArray), (⟨#[97]⟩ : ByteArray)⟩ : S108) [.string (⟨#[108, 105]⟩ : ByteArray), .string (⟨#[97, 105]⟩ : ByteArray), .int .i64 (-131072), .int .i64 131071, .string (⟨#[]⟩ : ByteArray), .string (⟨#[97]⟩ : ByteArray)] from (k108_mkM _ _ _ (⟨(⟨#[108, 105]⟩ : ByteArray), (⟨#[97, 105]⟩ : ByteArray), (-131072), 131071, (⟨#[]⟩ : ByteArray), (⟨#[97]⟩ : ByteArray)⟩ : S108) )) (Reps.c6 (show Kd.M k108 _ _ _ (⟨(⟨#[97, 100, 100, 105]⟩ : ByteArray), (⟨#[97, 98, 105]⟩ : ByteArray), (-131072), 131071, (⟨#[98]⟩ : ByteArray), (⟨#[97]⟩ : ByteArray)⟩ : S108) [.string (⟨#[97, 100, 100, 105]⟩ : ByteArray), .string (⟨#[97, 98, 105]⟩ : ByteArray), .int .i64 (-131072), .int .i64 131071, .string (⟨#[98]⟩ : ByteArray), .string (⟨#[97]⟩ : ByteArray)] from (k108_mkM _ _ _ (⟨(⟨#[97, 100, 100, 105]⟩ : ByteArray), (⟨#[97, 98, 105]⟩ : ByteArray), (-131072), 131071, (⟨#[98]⟩ : ByteArray), (⟨#[97]⟩ : ByteArray)⟩ : S108) )) (Reps.c6 (show Kd.M k108 _ _ _ (⟨(⟨#[115, 104, 108, 105]⟩ : ByteArray), (⟨#[97, 98, 105]⟩ : ByteArray), 0, 31, (⟨#[98]⟩ : ByteArray), (⟨#[97]⟩ : ByteArray)⟩ : S108) [.string (⟨#[115, 104, 108, 105]⟩ : ByteArray), .string (⟨#[97, 98, 105]⟩ : ByteArray), .int .i64 0, .int .i64 31, .string (⟨#[98]⟩ : ByteArray), .string (⟨#[97]⟩ : ByteArray)] from (k108_mkM _ _ _ (⟨(⟨#[115, 104, 108, 105]⟩ : ByteArray), (⟨#[97, 98, 105]⟩ : ByteArray), 0, 31, (⟨#[98]⟩ : ByteArray), (⟨#[97]⟩ : ByteArray)⟩ : S108) )) (Reps.c6 (show Kd.M k108 _ _ _ (⟨(⟨#[111, 114, 105]⟩ : ByteArray), (⟨#[97, 98, 105]⟩ : ByteArray), 0, 16383, (⟨#[98]⟩ : ByteArray), (⟨#[97]⟩ : ByteArray)⟩ : S108) [.string (⟨#[111, 114, 105]⟩ : ByteArray), .string (⟨#[97, 98, 105]⟩ : ByteArray), .int .i64 0, .int .i64 16383, .string (⟨#[98]⟩ : ByteArray), .string (⟨#[97]⟩ : ByteArray)] from (k108_mkM _ _ _ (⟨(⟨#[111, 114, 105]⟩ : ByteArray), (⟨#[97, 98, 105]⟩ : ByteArray), 0, 16383, (⟨#[98]⟩ : ByteArray), (⟨#[97]⟩ : ByteArray)⟩ : S108) )) (Reps.c6 (show Kd.M k108 _ _ _ (⟨(⟨#[108, 100]⟩ : ByteArray), (⟨#[97, 98, 105]⟩ : ByteArray), (-131072), 131071, (⟨#[98]⟩ : ByteArray), (⟨#[97]⟩ : ByteArray)⟩ : S108) [.string (⟨#[108, 100]⟩ : ByteArray), .string (⟨#[97, 98, 105]⟩ : ByteArray), .int .i64 (-131072), .int .i64 131071, .string (⟨#[98]⟩ : ByteArray), .string (⟨#[97]⟩ : ByteArray)] from (k108_mkM _ _ _ (⟨(⟨#[108, 100]⟩ : ByteArray), (⟨#[97, 98, 105]⟩ : ByteArray), (-131072), 131071, (⟨#[98]⟩ : ByteArray), (⟨#[97]⟩ : ByteArray)⟩ : S108) )) (Reps.c6 (show Kd.M k108 _ _ _ (⟨(⟨#[115, 116]⟩ : ByteArray), (⟨#[97, 98, 105]⟩ : ByteArray), (-131072), 131071, (⟨#[97, 98]⟩ : ByteArray), (⟨#[]⟩ : ByteArray)⟩ : S108) [.string (⟨#[115, 116]⟩ : ByteArray), .string (⟨#[97, 98, 105]⟩ : ByteArray), .int .i64 (-131072), .int .i64 131071, .string (⟨#[97, 98]⟩ : ByteArray), .string (⟨#[]⟩ : ByteArray)] from (k108_mkM _ _ _ (⟨(⟨#[115, 116]⟩ : ByteArray), (⟨#[97, 98, 105]⟩ : ByteArray), (-131072), 131071, (⟨#[97, 98]⟩ : ByteArray), (⟨#[]⟩ : ByteArray)⟩ : S108) )) (Reps.c6 (show Kd.M k108 _ _ _ (⟨(⟨#[108, 100, 115]⟩ : ByteArray), (⟨#[97, 98, 105]⟩ : ByteArray), (-131072), 131071, (⟨#[98]⟩ : ByteArray), (⟨#[97]⟩ : ByteArray)⟩ : S108) [.string (⟨#[108, 100, 115]⟩ : ByteArray), .string (⟨#[97, 98, 105]⟩ : ByteArray), .int .i64 (-131072), .int .i64 131071, .string (⟨#[98]⟩ : ByteArray), .string (⟨#[97]⟩ : ByteArray)] from (k108_mkM _ _ _ (⟨(⟨#[108, 100, 115]⟩ : ByteArray), (⟨#[97, 98, 105]⟩ : ByteArray), (-131072), 131071, (⟨#[98]⟩ : ByteArray), (⟨#[97]⟩ : ByteArray)⟩ : S108) )) (Reps.c6 (show Kd.M k108 _ _ _ (⟨(⟨#[115, 116, 115]⟩ : ByteArray), (⟨#[97, 98, 105]⟩ : ByteArray), (-131072), 131071, (⟨#[97, 98]⟩ : ByteArray), (⟨#[]⟩ : ByteArray)⟩ : S108) [.string (⟨#[115, 116, 115]⟩ : ByteArray), .string (⟨#[97, 98, 105]⟩ : ByteArray), .int .i64 (-131072), .int .i64 131071, .string (⟨#[97, 98]⟩ : ByteArray), .string (⟨#[]⟩ : ByteArray)] from (k108_mkM _ _ _ (⟨(⟨#[115, 116, 115]⟩ : ByteArray), (⟨#[97, 98, 105]⟩ : ByteArray), (-131072), 131071, (⟨#[97, 98]⟩ : ByteArray), (⟨#[]⟩ : ByteArray)⟩ : S108) )) (Reps.c6 (show Kd.M k108 _ _ _ (⟨(⟨#[98, 101, 113, 122]⟩ : ByteArray), (⟨#[97, 105]⟩ : ByteArray), (-131072), 131071, (⟨#[97]⟩ : ByteArray), (⟨#[]⟩ : ByteArray)⟩ : S108) [.string (⟨#[98, 101, 113, 122]⟩ : ByteArray), .string (⟨#[97, 105]⟩ : ByteArray), .int .i64 (-131072), .int .i64 131071, .string (⟨#[97]⟩ : ByteArray), .string (⟨#[]⟩ : ByteArray)] from (k108_mkM _ _ _ (⟨(⟨#[98, 101, 113, 122]⟩ : ByteArray), (⟨#[97, 105]⟩ : ByteArray), (-131072), 131071, (⟨#[97]⟩ : ByteArray), (⟨#[]⟩ : ByteArray)⟩ : S108) )) (Reps.c6 (show Kd.M k108 _ _ _ (⟨(⟨#[98, 110, 101, 122]⟩ : ByteArray), (⟨#[97, 105]⟩ : ByteArray), (-131072), 131071, (⟨#[97]⟩ : ByteArray), (⟨#[]⟩ : ByteArray)⟩ : S108) [.string (⟨#[98, 110, 101, 122]⟩ : ByteArray), .string (⟨#[97, 105]⟩ : ByteArray), .int .i64 (-131072), .int .i64 131071, .string (⟨#[97]⟩ : ByteArray), .string (⟨#[]⟩ : ByteArray)] from (k108_mkM _ _ _ (⟨(⟨#[98, 110, 101, 122]⟩ : ByteArray), (⟨#[97, 105]⟩ : ByteArray), (-131072), 131071, (⟨#[97]⟩ : ByteArray), (⟨#[]⟩ : ByteArray)⟩ : S108) )) (Reps.c6 (show Kd.M k108 _ _ _ (⟨(⟨#[106, 109, 112]⟩ : ByteArray), (⟨#[105]⟩ : ByteArray), (-131072), 131071, (⟨#[]⟩ : ByteArray), (⟨#[]⟩ : ByteArray)⟩ : S108) [.string (⟨#[106, 109, 112]⟩ : ByteArray), .string (⟨#[105]⟩ : ByteArray), .int .i64 (-131072), .int .i64 131071, .string (⟨#[]⟩ : ByteArray), .string (⟨#[]⟩ : ByteArray)] from (k108_mkM _ _ _ (⟨(⟨#[106, 109, 112]⟩ : ByteArray), (⟨#[105]⟩ : ByteArray), (-131072), 131071, (⟨#[]⟩ : ByteArray), (⟨#[]⟩ : ByteArray)⟩ : S108) )) (Reps.c6 (show Kd.M k108 _ _ _ (⟨(⟨#[98, 111, 117, 110, 100]⟩ : ByteArray), (⟨#[97, 105]⟩ : ByteArray), 1, 131071, (⟨#[97]⟩ : ByteArray), (⟨#[]⟩ : ByteArray)⟩ : S108) [.string (⟨#[98, 111, 117, 110, 100]⟩ : ByteArray), .string (⟨#[97, 105]⟩ : ByteArray), .int .i64 1, .int .i64 131071, .string (⟨#[97]⟩ : ByteArray), .string (⟨#[]⟩ : ByteArray)] from (k108_mkM _ _ _ (⟨(⟨#[98, 111, 117, 110, 100]⟩ : ByteArray), (⟨#[97, 105]⟩ : ByteArray), 1, 131071, (⟨#[97]⟩ : ByteArray), (⟨#[]⟩ : ByteArray)⟩ : S108) )) (Reps.c6 (show Kd.M k108 _ _ _ (⟨(⟨#[105, 110]⟩ : ByteArray), (⟨#[97, 105]⟩ : ByteArray), 0, 7, (⟨#[]⟩ : ByteArray), (⟨#[97]⟩ : ByteArray)⟩ : S108) [.string (⟨#[105, 110]⟩ : ByteArray), .string (⟨#[97, 105]⟩ : ByteArray), .int .i64 0, .int .i64 7, .string (⟨#[]⟩ : ByteArray), .string (⟨#[97]⟩ : ByteArray)] from (k108_mkM _ _ _ (⟨(⟨#[105, 110]⟩ : ByteArray), (⟨#[97, 105]⟩ : ByteArray), 0, 7, (⟨#[]⟩ : ByteArray), (⟨#[97]⟩ : ByteArray)⟩ : S108) )) (Reps.c6 (show Kd.M k108 _ _ _ (⟨(⟨#[111, 117, 116]⟩ : ByteArray), (⟨#[97, 105]⟩ : ByteArray), 0, 7, (⟨#[97]⟩ : ByteArray), (⟨#[]⟩ : ByteArray)⟩ : S108) [.string (⟨#[111, 117, 116]⟩ : ByteArray), .string (⟨#[97, 105]⟩ : ByteArray), .int .i64 0, .int .i64 7, .string (⟨#[97]⟩ : ByteArray), .string (⟨#[]⟩ : ByteArray)] from (k108_mkM _ _ _ (⟨(⟨#[111, 117, 116]⟩ : ByteArray), (⟨#[97, 105]⟩ : ByteArray), 0, 7, (⟨#[97]⟩ : ByteArray), (⟨#[]⟩ : ByteArray)⟩ : S108) )) (Reps.c6 (show Kd.M k108 _ _ _ (⟨(⟨#[108, 111, 99, 107]⟩ : ByteArray), (⟨#[105]⟩ : ByteArray), 0, 3, (⟨#[]⟩ : ByteArray), (⟨#[]⟩ : ByteArray)⟩ : S108) [.string (⟨#[108, 111, 99, 107]⟩ : ByteArray), .string (⟨#[105]⟩ : ByteArray), .int .i64 0, .int .i64 3, .string (⟨#[]⟩ : ByteArray), .string (⟨#[]⟩ : ByteArray)] from (k108_mkM _ _ _ (⟨(⟨#[108, 111, 99, 107]⟩ : ByteArray), (⟨#[105]⟩ : ByteArray), 0, 3, (⟨#[]⟩ : ByteArray), (⟨#[]⟩ : ByteArray)⟩ : S108) )) (Reps.c6 (show Kd.M k108 _ _ _ (⟨(⟨#[117, 110, 108, 111, 99, 107]⟩ : ByteArray), (⟨#[105]⟩ : ByteArray), 0, 3, (⟨#[]⟩ : ByteArray), (⟨#[]⟩ : ByteArray)⟩ : S108) [.string (⟨#[117, 110, 108, 111, 99, 107]⟩ : ByteArray), .string (⟨#[105]⟩ : ByteArray), .int .i64 0, .int .i64 3, .string (⟨#[]⟩ : ByteArray), .string (⟨#[]⟩ : ByteArray)] from (k108_mkM _ _ _ (⟨(⟨#[117, 110, 108, 111, 99, 107]⟩ : ByteArray), (⟨#[105]⟩ : ByteArray), 0, 3, (⟨#[]⟩ : ByteArray), (⟨#[]⟩ : ByteArray)⟩ : S108) )) (Reps.none _ _)))))))))))))))))); intro v112 w12 ho13 hb hg_ hnew_; clear hg_ hnew_; (first | rw [← Ny111.out] at ho13 | (simp only [Int.reduceToNat] at ho13; rw [← Ny111.out] at ho13)); replace HO_7 := aK (Kd.R_below (tR HO_7.out) hb); have HO113 := aK (Kd.R_lower (Kd.R_new' ho13 (Kd.R_lt (tR HO_1.out))) (below_size (tB0 HB.out))); replace HO_1 := aK (Kd.R_elder' (tR HO_1.out) (Kd.R_base ho13) hb); replace HB := aK (below_step (tB0 HB.out) hb); clear hb ho13; obtain ⟨Ao15, co15, eo15⟩ := Kd.R_slice HO113.out; subst eo15) | ((refine gate_builtin (b := .append) (xs := #[.tmp 19, .tmp 36]) rfl ?_); at_builtin; refine Kd.R_append_rows k108 (w0 := w) w.heap.size rfl (.tmp 19) (.tmp 36) 128 108 (.agg #[(.string ⟨#[]⟩), (.string ⟨#[]⟩), (.int .i64 0), (.int .i64 0), (.string ⟨#[]⟩), (.string ⟨#[]⟩)]) 80 rfl Try.underlying128 info108 rfl (by decide) (by omega) u1 x1_1 y111 _ _ _ (fun k_ => some k_ ≠ (.slice Ao15 y111.length co15 : Value).ownBlock) (fun _ => False) rfl rfl ?aO ?aR (fun _ _ h => h) (fun _ h => h.elim) ?aF ?aB ?aS ?aL ?_; (case aR => repeat (first | exact (Kd.R_reads' HO113.out).2.2 | (with_reducible refine Kd.C_alloc ?_ _) | (with_reducible refine Kd.C_drewN ?_ _) | (with_reducible refine Kd.C_drew ?_))); (case aB => exact (tB0 HB.out)); (case aF => exact (fun k_ hk => Kd.fresh' (Kd.R_lt (tR HO113.out)) k_ hk)); (case aO => exact (by (with_reducible repeat (first | apply Kd.R_alloc | apply Kd.R_drewN | apply Kd.R_drew)); exact Kd.R_mono HO_1.out (fun _ hk => hk.2))); (case aS => exact (below_size (tB0 HB.out))); (case aL => have := LMc11.out; omega); intro v115 w14 ho hb hg hat; rw [← Ny114.out] at ho; replace HO_7 := aK (Kd.R_over' (tR HO_7.out) (Kd.R_typed (tR HO_1.out)) (by decide) hg); replace HO113 := aK (Kd.R_after (ok := (fun _ => True)) (tR HO113.out) hg hat); replace HB := aK (hb); have HO116 := aK (ho); clear HO_1; clear ho hb hg hat))
   go_ret
   exact ⟨_, by first | rfl | (simp [errW_none, errW_some] <;> rfl) | (simp [*, errW_none, errW_some] <;> rfl), by (with_reducible repeat (first | apply Kd.R_alloc | apply Kd.R_drewN | apply Kd.R_drew)); exact Kd.R_mono HO116.out (fun _ hk => trivial), by repeat (first | (with_reducible first | exact HB.out | apply below_alloc | apply pw_below_drewN | apply below_drew1) | exact HB.out)⟩
def isa_find.f (k : Nat) (a0 : Int) : Option (ByteArray × ByteArray × Int × Int × ByteArray × ByteArray × Bool) := (isa_rows.f k).bind fun t118 => (if (wrap64 (a0)) ≥ (t118.length : Int) then (some ((⟨#[]⟩ : ByteArray), (⟨#[]⟩ : ByteArray), 0, 0, (⟨#[]⟩ : ByteArray), (⟨#[]⟩ : ByteArray), false)) else (if 0 ≤ a0 then (if a0 < (t118.length : Int) then (some ((rd_T108 t118 a0).f0, (rd_T108 t118 a0).f1, (rd_T108 t118 a0).f2, (rd_T108 t118 a0).f3, (rd_T108 t118 a0).f4, (rd_T108 t118 a0).f5, true)) else (none)) else (none)))
set_option maxHeartbeats 8000000 in
set_option maxRecDepth 100000 in
theorem isa_find.calls (k : Nat) (a0 : Int) (r1 : ByteArray) (r2 : ByteArray) (r3 : Int) (r4 : Int) (r5 : ByteArray) (r6 : ByteArray) (r7 : Bool) (w : World) (h : isa_find.f k a0 = some (r1, r2, r3, r4, r5, r6, r7)) :
  Calls Try.prog 54 #[.int .u8 a0] w fun e w' => e = .returned (.tuple #[.agg #[.string r1, .string r2, .int .i64 r3, .int .i64 r4, .string r5, .string r6], .bool r7]) ∧ Below w.heap.size w w' := by
 have hu108 := Try.underlying108
 have HB := aK (Below.refl w.heap.size w)
 have H : ((isa_rows.f k).bind fun t118 => (if (wrap64 (a0)) ≥ (t118.length : Int) then (some ((⟨#[]⟩ : ByteArray), (⟨#[]⟩ : ByteArray), 0, 0, (⟨#[]⟩ : ByteArray), (⟨#[]⟩ : ByteArray), false)) else (if 0 ≤ a0 then (if a0 < (t118.length : Int) then (some ((rd_T108 t118 a0).f0, (rd_T108 t118 a0).f1, (rd_T108 t118 a0).f2, (rd_T108 t118 a0).f3, (rd_T108 t118 a0).f4, (rd_T108 t118 a0).f5, true)) else (none)) else (none)))) = some (r1, r2, r3, r4, r5, r6, r7) := h
 clear h
 replace H := bM H
 obtain ⟨t118, A20, H⟩ := H
 (try dsimp only at H)
 have A2 := aK A20
 clear A20
 by_cases c3 : (wrap64 (a0)) ≥ (t118.length : Int)
 ·rw [if_pos c3] at H
  have c3b0 : decide ((t118.length : Int) ≤ (wrap64 (a0))) = true := decide_eq_true c3
  clear c3
  simp only [Option.some.injEq, Prod.mk.injEq] at H
  obtain ⟨rfl, rfl, rfl, rfl, rfl, rfl, rfl⟩ := H
  go_enter Try.func54, Try.ntmps54
  go_wp2_with (first | ((refine gate_dst (N := 2) rfl ?_); refine box_event ?hg (N := 2) ?hd (cs := #[.string (⟨#[]⟩ : ByteArray), .string (⟨#[]⟩ : ByteArray), .int .i64 0, .int .i64 0, .string (⟨#[]⟩ : ByteArray), .string (⟨#[]⟩ : ByteArray)]) (t := 108) ?hr ?_; (case hd => rfl); (case hg => rfl); (case hr => first | (go_simp; done) | (go_simp; rfl)); intro gb117 hg w4 hbox hb; have BK117 := aK (hbox); have GW117 := aK ((by rw [hg]; exact (below_size (tB0 HB.out)) : w.heap.size ≤ gb117)); have GE117 := GW117; replace HB := aK (below_step (tB0 HB.out) hb); clear hb hbox hg) | ((refine gate_callee (f := 66) rfl ?_); refine goesL_ (some 5) rfl rfl Try.func66 (by kernel_rfl) rfl #[] rfl tF ?_; (with_reducible refine (isa_rows.calls k  t118 _ A2.out).mono ?_); rintro e w5 ⟨v119, rfl, ho0, hb⟩; refine ⟨_, rfl, ?_⟩; have HO120 := aK (Kd.R_lower (Kd.R_newB ho0 (g := gb117) (o := .cells #[.string (⟨#[]⟩ : ByteArray), .string (⟨#[]⟩ : ByteArray), .int .i64 0, .int .i64 0, .string (⟨#[]⟩ : ByteArray), .string (⟨#[]⟩ : ByteArray)] 108 (0, 0)) (tK BK117.out)) (below_size (tB1 HB.out GE117.out))); replace BK117 := aK (blk_below (g := gb117) (tK BK117.out) hb); replace HB := aK (below_step (tB1 HB.out GE117.out) hb); obtain ⟨Ao6, co6, eo6⟩ := Kd.R_slice HO120.out; subst eo6; have hcz7_0 := bc 0 BK117.out; have hcz7_1 := bc 1 BK117.out; have hcz7_2 := bc 2 BK117.out; have hcz7_3 := bc 3 BK117.out; have hcz7_4 := bc 4 BK117.out; have hcz7_5 := bc 5 BK117.out; have hfz7_0 := blk_frozen BK117.out 0; have hfz7_1 := blk_frozen BK117.out 1; have hfz7_2 := blk_frozen BK117.out 2; have hfz7_3 := blk_frozen BK117.out 3; have hfz7_4 := blk_frozen BK117.out 4; have hfz7_5 := blk_frozen BK117.out 5))
  refine bodyPost_ret (results_ct rfl _ _ gb117 108 #[.string (⟨#[]⟩ : ByteArray), .string (⟨#[]⟩ : ByteArray), .int .i64 0, .int .i64 0, .string (⟨#[]⟩ : ByteArray), .string (⟨#[]⟩ : ByteArray)] (0, 0) _ rfl (by refine tK ?_; refine blk_put (cs := #[.string (⟨#[]⟩ : ByteArray), .string (⟨#[]⟩ : ByteArray), .int .i64 0, .int .i64 0, .string (⟨#[]⟩ : ByteArray), .string (⟨#[]⟩ : ByteArray)]) ?_ 5 _ rfl; refine tK ?_; refine blk_put (cs := #[.string (⟨#[]⟩ : ByteArray), .string (⟨#[]⟩ : ByteArray), .int .i64 0, .int .i64 0, .string (⟨#[]⟩ : ByteArray), .string (⟨#[]⟩ : ByteArray)]) ?_ 4 _ rfl; refine tK ?_; refine blk_put (cs := #[.string (⟨#[]⟩ : ByteArray), .string (⟨#[]⟩ : ByteArray), .int .i64 0, .int .i64 0, .string (⟨#[]⟩ : ByteArray), .string (⟨#[]⟩ : ByteArray)]) ?_ 3 _ rfl; refine tK ?_; refine blk_put (cs := #[.string (⟨#[]⟩ : ByteArray), .string (⟨#[]⟩ : ByteArray), .int .i64 0, .int .i64 0, .string (⟨#[]⟩ : ByteArray), .string (⟨#[]⟩ : ByteArray)]) ?_ 2 _ rfl; refine tK ?_; refine blk_put (cs := #[.string (⟨#[]⟩ : ByteArray), .string (⟨#[]⟩ : ByteArray), .int .i64 0, .int .i64 0, .string (⟨#[]⟩ : ByteArray), .string (⟨#[]⟩ : ByteArray)]) ?_ 1 _ rfl; refine tK ?_; refine blk_put (cs := #[.string (⟨#[]⟩ : ByteArray), .string (⟨#[]⟩ : ByteArray), .int .i64 0, .int .i64 0, .string (⟨#[]⟩ : ByteArray), .string (⟨#[]⟩ : ByteArray)]) ?_ 0 _ rfl; refine tK ?_; exact BK117.out) Try.underlying108 rfl (by kernel_rfl)) rfl ?_
  exact ⟨by first | rfl | (simp [errW_none, errW_some] <;> rfl) | (simp [*, errW_none, errW_some] <;> rfl), by repeat (first | (with_reducible first | exact HB.out | apply below_alloc | apply pw_below_drewN | apply below_drew1 | refine below_set ?_ GE117.out) | exact HB.out)⟩
 rw [if_neg c3] at H
 have c3b0 : decide ((t118.length : Int) ≤ (wrap64 (a0))) = false := decide_eq_false c3
 clear c3
 by_cases c8 : 0 ≤ a0
 rotate_left
 ·rw [if_neg c8] at H
  exact absurd H (by simp)
 rw [if_pos c8] at H
 have c8b0 : decide (0 ≤ a0) = true := decide_eq_true c8
 clear c8
 by_cases c9 : a0 < (t118.length : Int)
 rotate_left
 ·rw [if_neg c9] at H
  exact absurd H (by simp)
 rw [if_pos c9] at H
 have c9b0 : decide (a0 < (t118.length : Int)) = true := decide_eq_true c9
 clear c9
 simp only [Option.some.injEq, Prod.mk.injEq] at H
 obtain ⟨rfl, rfl, rfl, rfl, rfl, rfl, rfl⟩ := H
 go_enter Try.func54, Try.ntmps54
 go_wp2_with (first | ((refine gate_dst (N := 2) rfl ?_); refine box_event ?hg (N := 2) ?hd (cs := #[.string (⟨#[]⟩ : ByteArray), .string (⟨#[]⟩ : ByteArray), .int .i64 0, .int .i64 0, .string (⟨#[]⟩ : ByteArray), .string (⟨#[]⟩ : ByteArray)]) (t := 108) ?hr ?_; (case hd => rfl); (case hg => rfl); (case hr => first | (go_simp; done) | (go_simp; rfl)); intro gb117 hg w10 hbox hb; have BK117 := aK (hbox); have GW117 := aK ((by rw [hg]; exact (below_size (tB0 HB.out)) : w.heap.size ≤ gb117)); have GE117 := GW117; replace HB := aK (below_step (tB0 HB.out) hb); clear hb hbox hg) | ((refine gate_callee (f := 66) rfl ?_); refine goesL_ (some 5) rfl rfl Try.func66 (by kernel_rfl) rfl #[] rfl tF ?_; (with_reducible refine (isa_rows.calls k  t118 _ A2.out).mono ?_); rintro e w11 ⟨v119, rfl, ho0, hb⟩; refine ⟨_, rfl, ?_⟩; have HO120 := aK (Kd.R_lower (Kd.R_newB ho0 (g := gb117) (o := .cells #[.string (⟨#[]⟩ : ByteArray), .string (⟨#[]⟩ : ByteArray), .int .i64 0, .int .i64 0, .string (⟨#[]⟩ : ByteArray), .string (⟨#[]⟩ : ByteArray)] 108 (0, 0)) (tK BK117.out)) (below_size (tB1 HB.out GE117.out))); replace BK117 := aK (blk_below (g := gb117) (tK BK117.out) hb); replace HB := aK (below_step (tB1 HB.out GE117.out) hb); obtain ⟨Ao12, co12, eo12⟩ := Kd.R_slice HO120.out; subst eo12; have p121 : 0 ≤ (a0 : Int) := tD; have q121 : a0 < (t118.length : Int) := tD; obtain ⟨ad121, e121, hx121_0, hx121_1, hx121_2, hx121_3, hx121_4, hx121_5⟩ := at_T108 (Kd.R_reads' HO120.out).2.2 a0 p121 q121; cases e121; replace p121 := eq_true p121; replace q121 := eq_true q121; have hcz13_0 := bc 0 BK117.out; have hcz13_1 := bc 1 BK117.out; have hcz13_2 := bc 2 BK117.out; have hcz13_3 := bc 3 BK117.out; have hcz13_4 := bc 4 BK117.out; have hcz13_5 := bc 5 BK117.out; have hfz13_0 := blk_frozen BK117.out 0; have hfz13_1 := blk_frozen BK117.out 1; have hfz13_2 := blk_frozen BK117.out 2; have hfz13_3 := blk_frozen BK117.out 3; have hfz13_4 := blk_frozen BK117.out 4; have hfz13_5 := blk_frozen BK117.out 5))
 refine bodyPost_ret (results_ct rfl _ _ gb117 108 #[.string ((rd_T108 t118 a0).f0), .string ((rd_T108 t118 a0).f1), .int .i64 ((rd_T108 t118 a0).f2), .int .i64 ((rd_T108 t118 a0).f3), .string ((rd_T108 t118 a0).f4), .string ((rd_T108 t118 a0).f5)] (0, 0) _ rfl (by refine tK ?_; refine blk_put (cs := #[.string ((rd_T108 t118 a0).f0), .string ((rd_T108 t118 a0).f1), .int .i64 ((rd_T108 t118 a0).f2), .int .i64 ((rd_T108 t118 a0).f3), .string ((rd_T108 t118 a0).f4), .string (⟨#[]⟩ : ByteArray)]) ?_ 5 _ rfl; refine tK ?_; refine blk_put (cs := #[.string ((rd_T108 t118 a0).f0), .string ((rd_T108 t118 a0).f1), .int .i64 ((rd_T108 t118 a0).f2), .int .i64 ((rd_T108 t118 a0).f3), .string (⟨#[]⟩ : ByteArray), .string (⟨#[]⟩ : ByteArray)]) ?_ 4 _ rfl; refine tK ?_; refine blk_put (cs := #[.string ((rd_T108 t118 a0).f0), .string ((rd_T108 t118 a0).f1), .int .i64 ((rd_T108 t118 a0).f2), .int .i64 0, .string (⟨#[]⟩ : ByteArray), .string (⟨#[]⟩ : ByteArray)]) ?_ 3 _ rfl; refine tK ?_; refine blk_put (cs := #[.string ((rd_T108 t118 a0).f0), .string ((rd_T108 t118 a0).f1), .int .i64 0, .int .i64 0, .string (⟨#[]⟩ : ByteArray), .string (⟨#[]⟩ : ByteArray)]) ?_ 2 _ rfl; refine tK ?_; refine blk_put (cs := #[.string ((rd_T108 t118 a0).f0), .string (⟨#[]⟩ : ByteArray), .int .i64 0, .int .i64 0, .string (⟨#[]⟩ : ByteArray), .string (⟨#[]⟩ : ByteArray)]) ?_ 1 _ rfl; refine tK ?_; refine blk_put (cs := #[.string (⟨#[]⟩ : ByteArray), .string (⟨#[]⟩ : ByteArray), .int .i64 0, .int .i64 0, .string (⟨#[]⟩ : ByteArray), .string (⟨#[]⟩ : ByteArray)]) ?_ 0 _ rfl; refine tK ?_; exact BK117.out) Try.underlying108 rfl (by kernel_rfl)) rfl ?_
 exact ⟨by first | rfl | (simp [errW_none, errW_some] <;> rfl) | (simp [*, errW_none, errW_some] <;> rfl), by repeat (first | (with_reducible first | exact HB.out | apply below_alloc | apply pw_below_drewN | apply below_drew1 | refine below_set ?_ GE117.out) | exact HB.out)⟩
open Go.Proofs.HMap Go.Proofs.HLaws
def isa_position.g (c : Int) : Int := if c = 99 then 14 else if c = 98 then 18 else if c = 97 then 22 else 0
theorem zero3 (w : World) : (zeroValue 3).run Try.prog w = .ok (.int .i64 0) w := by kernel_rfl
theorem isa_position.calls (c : Int) (h0 : 0 ≤ c) (h1 : c ≤ 255) (w : World) : Calls Try.prog 55 #[.int .u8 c] w fun e w' => e = .returned (.int .i64 (isa_position.g c)) ∧ Below w.heap.size w w' := by
 have hmm := @run_makeMap Try.prog
 have hwf : (Lit.int .u8 c).wf = true := by go_wf
 have HM := aK (IntMap.made Try.prog 5 3 .u8 .i64 w)
 go_enter Try.func55, Try.ntmps55
 go_wp2_with (first
  | ((refine gate_ (.insert 130 (.tmp 3) (.const (.int .u8 97)) (.const (.int .i64 22))) rfl ?_); refine wp_store_int rfl _ _ _ (.inr rfl) HM.out Try.underlying130 Try.underlying5 Try.underlying3 (by decide) rfl _ _ rfl rfl (by decide) (by decide) ?_; intro w1 hm1 hg1; have HM1 := aK hm1; have HG1 := aK hg1; clear hm1 hg1)
  | ((refine gate_ (.insert 130 (.tmp 3) (.const (.int .u8 98)) (.const (.int .i64 18))) rfl ?_); refine wp_store_int rfl _ _ _ (.inr rfl) HM1.out Try.underlying130 Try.underlying5 Try.underlying3 (by decide) rfl _ _ rfl rfl (by decide) (by decide) ?_; intro w2 hm2 hg2; have HM2 := aK hm2; have HG2 := aK hg2; clear hm2 hg2)
  | ((refine gate_ (.insert 130 (.tmp 3) (.const (.int .u8 99)) (.const (.int .i64 14))) rfl ?_); refine wp_store_int rfl _ _ _ (.inr rfl) HM2.out Try.underlying130 Try.underlying5 Try.underlying3 (by decide) rfl _ _ rfl rfl (by decide) (by decide) ?_; intro w3 hm3 hg3; have HM3 := aK hm3; have HG3 := aK hg3; clear hm3 hg3)
  | ((refine gate_ (.lookup 130 (.tmp 4) (.tmp 5) false) rfl ?_); refine wp_look_int rfl _ _ rfl HM3.out Try.underlying130 Try.underlying5 Try.underlying3 (zero3 _) rfl _ rfl hwf ?_))
 all_goals
  have hB : Below w.heap.size w w3 := pw_below_grown (pw_below_grown (pw_below_grown (below_alloc (Below.refl _ _) _) _ (by simp) HG1.out (by simp)) _ (by have := HG1.out.size; simp at this; omega) HG2.out (by simp)) _ (by have := HG1.out.size; have := HG2.out.size; simp at *; omega) HG3.out (by simp)
  go_ret
  exact ⟨by first | rfl | simp [isa_position.g, *], hB⟩
theorem isa_field.call97 (b off : Nat) (w : World) : Calls Try.prog 56 #[.pointer (some ⟨b, off, none⟩), .int .u8 97] w fun e w' => e = .returned (.pointer (some ⟨b, off + 1, none⟩)) ∧ Drawn0 w w' := by
 go_enter Try.func56, Try.ntmps56
 go_wp2
 go_ret
 exact ⟨rfl, Drawn0.refl _⟩
theorem isa_field.call98 (b off : Nat) (w : World) : Calls Try.prog 56 #[.pointer (some ⟨b, off, none⟩), .int .u8 98] w fun e w' => e = .returned (.pointer (some ⟨b, off + 2, none⟩)) ∧ Drawn0 w w' := by
 go_enter Try.func56, Try.ntmps56
 go_wp2
 go_ret
 exact ⟨rfl, Drawn0.refl _⟩
theorem isa_field.call99 (b off : Nat) (w : World) : Calls Try.prog 56 #[.pointer (some ⟨b, off, none⟩), .int .u8 99] w fun e w' => e = .returned (.pointer (some ⟨b, off + 3, none⟩)) ∧ Drawn0 w w' := by
 go_enter Try.func56, Try.ntmps56
 go_wp2
 go_ret
 exact ⟨rfl, Drawn0.refl _⟩
theorem isa_field.call105 (b off : Nat) (w : World) : Calls Try.prog 56 #[.pointer (some ⟨b, off, none⟩), .int .u8 105] w fun e w' => e = .returned (.pointer (some ⟨b, off + 4, none⟩)) ∧ Drawn0 w w' := by
 go_enter Try.func56, Try.ntmps56
 go_wp2
 go_ret
 exact ⟨rfl, Drawn0.refl _⟩
def slices_Index_byte_byte.l0 : Nat → List Int → Int → Int → Int → Option (Int)
 | 0, _, _, _, _ => none
 | k + 1, x0, x1, x7, x8 => if x8 < x7 then (if 0 ≤ x8 then (if x8 < (x0.length : Int) then (if x1 = (rd x0 x8) then (some x8) else (slices_Index_byte_byte.l0 k x0 x1 x7 (wrap64 (x8 + 1)))) else (none)) else (none)) else (some (-1))
def slices_Index_byte_byte.f (k : Nat) (l0 : List Int) (a1 : Int) : Option (Int) := slices_Index_byte_byte.l0 k l0 a1 (l0.length : Int) 0
set_option maxHeartbeats 8000000 in
set_option maxRecDepth 100000 in
theorem slices_Index_byte_byte.calls (k : Nat) (A0 : Option Addr) (c0 : Nat) (l0 : List Int) (a1 : Int) (r : Int) (w : World) (hr0 : Kd.C (Kd.int .u8) w A0 l0.length l0) (hc0 : l0.length ≤ c0) (h : slices_Index_byte_byte.f k l0 a1 = some r) :
  Calls Try.prog 82 #[.slice A0 l0.length c0, .int .u8 a1] w fun e w' => e = .returned (.int .i64 r) ∧ Drawn0 w w' := by
 have HR0 := aK hr0
 have HC0 := aK hc0
 clear hr0 hc0
 have H : (slices_Index_byte_byte.l0 k l0 a1 (l0.length : Int) 0) = some r := h
 clear h
 have H' := aK H
 clear H
 go_enter Try.func82, Try.ntmps82
 go_wp2
 go_loopg [8] k (fun kq v8 w' => ∃ (x8_1 : Int), v8 = .int .i64 x8_1 ∧ Aside0 (slices_Index_byte_byte.l0 kq l0 a1 (l0.length : Int) x8_1 = some r) ∧ Aside0 (kq ≤ k) ∧ Drawn0 w w')
 case atStart => exact ⟨(0), (by first | rfl | (simp; done) | (simp [*]; done)), H', ⟨Nat.le_refl _⟩, by repeat (first | exact Drawn0.refl _ | apply Drawn0.step)⟩
 clear H'
 obtain ⟨x8_1, rfl, HA, HK1, ⟨m1, rfl⟩⟩ := hrel
 cases gk with
 | zero => exact absurd HA.out (by simp [slices_Index_byte_byte.l0])
 | succ k1 =>
  have H := HA.out
  clear HA
  simp only [slices_Index_byte_byte.l0] at H
  by_cases c3 : x8_1 < (l0.length : Int)
  rotate_left
  ·rw [if_neg c3] at H
   have c3b0 : decide (x8_1 < (l0.length : Int)) = false := decide_eq_false c3
   clear c3
   obtain rfl := oI H
   go_wp2
   go_ret
   exact ⟨by first | rfl | (simp; done) | (simp [*]; done), by repeat (first | exact Drawn0.refl _ | apply Drawn0.step)⟩
  rw [if_pos c3] at H
  have c3b0 : decide (x8_1 < (l0.length : Int)) = true := decide_eq_true c3
  clear c3
  by_cases c4 : 0 ≤ x8_1
  rotate_left
  ·rw [if_neg c4] at H
   exact absurd H (by simp)
  rw [if_pos c4] at H
  have c4b0 : decide (0 ≤ x8_1) = true := decide_eq_true c4
  clear c4
  by_cases c5 : x8_1 < (l0.length : Int)
  rotate_left
  ·rw [if_neg c5] at H
   exact absurd H (by simp)
  rw [if_pos c5] at H
  have c5b0 : decide (x8_1 < (l0.length : Int)) = true := decide_eq_true c5
  clear c5
  by_cases c6 : a1 = (rd l0 x8_1)
  ·rw [if_pos c6] at H
   have c6b0 : (a1 == (rd l0 x8_1)) = true := beq_iff_eq.mpr c6
   have c6b1 : (a1 != (rd l0 x8_1)) = false := bne_eq_false_iff_eq.mpr c6
   clear c6
   obtain rfl := oI H
   have p122 : 0 ≤ (x8_1 : Int) := tD
   have q122 : x8_1 < (l0.length : Int) := tD
   obtain ⟨ad122, e122, hx122_0⟩ := Kd.at_int HR0.out x8_1 p122 q122
   cases e122
   replace p122 := eq_true p122
   replace q122 := eq_true q122
   go_wp2
   go_ret
   exact ⟨by first | rfl | (simp; done) | (simp [*]; done), by repeat (first | exact Drawn0.refl _ | apply Drawn0.step)⟩
  ·rw [if_neg c6] at H
   have c6b0 : (a1 == (rd l0 x8_1)) = false := beq_eq_false_iff_ne.mpr c6
   have c6b1 : (a1 != (rd l0 x8_1)) = true := bne_iff_ne.mpr c6
   have H' := aK H
   clear H
   have p122 : 0 ≤ (x8_1 : Int) := tD
   have q122 : x8_1 < (l0.length : Int) := tD
   obtain ⟨ad122, e122, hx122_0⟩ := Kd.at_int HR0.out x8_1 p122 q122
   cases e122
   replace p122 := eq_true p122
   replace q122 := eq_true q122
   go_wp2
   go_roundg k1
   case measure => have := HK1.out; omega
   case rel => exact ⟨(wrap64 (x8_1 + 1)), (by first | rfl | (simp; done) | (simp [*]; done)), H', ⟨by have := HK1.out; omega⟩, by repeat (first | exact Drawn0.refl _ | apply Drawn0.step)⟩
def slices_Contains_byte_byte.f (k : Nat) (l0 : List Int) (a1 : Int) : Option (Bool) := (slices_Index_byte_byte.f k l0 a1).bind fun t123 => (some (decide (t123 ≥ 0)))
set_option maxHeartbeats 8000000 in
set_option maxRecDepth 100000 in
theorem slices_Contains_byte_byte.calls (k : Nat) (A0 : Option Addr) (c0 : Nat) (l0 : List Int) (a1 : Int) (r : Bool) (w : World) (hr0 : Kd.C (Kd.int .u8) w A0 l0.length l0) (hc0 : l0.length ≤ c0) (h : slices_Contains_byte_byte.f k l0 a1 = some r) :
  Calls Try.prog 78 #[.slice A0 l0.length c0, .int .u8 a1] w fun e w' => e = .returned (.bool r) ∧ Drawn0 w w' := by
 have HR0 := aK hr0
 have HC0 := aK hc0
 clear hr0 hc0
 have H : ((slices_Index_byte_byte.f k l0 a1).bind fun t123 => (some (decide (t123 ≥ 0)))) = some r := h
 clear h
 replace H := bM H
 obtain ⟨t123, A30, H⟩ := H
 (try dsimp only at H)
 have A3 := aK A30
 clear A30
 obtain rfl := oI H
 go_enter Try.func78, Try.ntmps78
 go_wp2_with (first | ((refine gate_callee (f := 82) rfl ?_); refine goesL_ (some 7) rfl rfl Try.func82 (by kernel_rfl) rfl #[.slice A0 l0.length c0, .int .u8 a1] rfl tF ?_; (with_reducible refine (slices_Index_byte_byte.calls k _ _ l0 a1 t123 _ ?side1 ?side2 A3.out).mono ?_); (case side1 => exact tC HR0.out); (case side2 => exact HC0.out); rintro e w' ⟨rfl, ⟨nd, rfl⟩⟩; refine ⟨_, rfl, ?_⟩))
 go_ret
 exact ⟨by first | rfl | (simp; done) | (simp [*]; done), by repeat (first | exact Drawn0.refl _ | apply Drawn0.step)⟩
open Go.Proofs.HMap Go.Proofs.HLaws
theorem wrap_succ {i : Int} {n : Nat} (h0 : 0 ≤ i) (h : i < (n : Int)) (hn : n ≤ 9223372036854775807) : wrap64 (i + 1) = i + 1 := by
 unfold wrap64; omega
theorem index_byte (l : List Int) (x : Int) (hl : l.length ≤ 9223372036854775807) (d : Nat) : ∀ (k : Nat) (i : Int), 0 ≤ i → i ≤ l.length → (l.length : Int) - i = d → d < k →
  ∃ r, slices_Index_byte_byte.l0 k l x l.length i = some r ∧ (0 ≤ r ↔ x ∈ l.drop i.toNat) := by
 induction d with
 | zero =>
  intro k i h0 h1 hd hk
  obtain ⟨k, rfl⟩ : ∃ m, k = m + 1 := ⟨k - 1, by omega⟩
  refine ⟨-1, by simp only [slices_Index_byte_byte.l0]; rw [if_neg (by omega)], ?_⟩
  rw [List.drop_of_length_le (by omega)]; simp
 | succ d ih =>
  intro k i h0 h1 hd hk
  obtain ⟨k, rfl⟩ : ∃ m, k = m + 1 := ⟨k - 1, by omega⟩
  have hlt : i < (l.length : Int) := by omega
  have hdr : l.drop i.toNat = rd l i :: l.drop (i + 1).toNat := by
   rw [show (i + 1).toNat = i.toNat + 1 by omega, List.drop_eq_getElem_cons (h := by omega)]
   simp [rd, List.getD_eq_getElem?_getD, List.getElem?_eq_getElem (show i.toNat < l.length by omega)]
  simp only [slices_Index_byte_byte.l0]
  rw [if_pos hlt, if_pos h0, if_pos hlt, hdr]
  by_cases e : x = rd l i
  ·rw [if_pos e]; exact ⟨i, rfl, by simp [e, h0]⟩
  rw [if_neg e, wrap_succ h0 hlt hl]
  obtain ⟨r, hr, hi⟩ := ih k (i + 1) (by omega) (by omega) (by omega) (by omega)
  exact ⟨r, hr, by rw [hi]; simp [e]⟩
theorem contains_byte (l : List Int) (x : Int) (hl : l.length ≤ 9223372036854775807) : slices_Contains_byte_byte.f (l.length + 1) l x = some (decide (x ∈ l)) := by
 obtain ⟨r, hr, hi⟩ := index_byte l x hl l.length (l.length + 1) 0 (by omega) (by omega) (by omega) (by omega)
 unfold slices_Contains_byte_byte.f slices_Index_byte_byte.f
 rw [hr]
 simp at hi ⊢
 exact hi
def isa_has.g (s : ByteArray) (c : Int) : Bool := decide (c ∈ bytesOf s)
theorem isa_has.calls (s : ByteArray) (c : Int) (hs : s.size ≤ 9223372036854775807) (w : World) : Calls Try.prog 67 #[.string s, .int .u8 c] w fun e w' => e = .returned (.bool (isa_has.g s c)) ∧ Below w.heap.size w w' := by
 have hf := contains_byte (bytesOf s) c (by rw [bytesOf_length]; exact hs)
 have HF := aK hf
 clear hf
 go_enter Try.func67, Try.ntmps67
 go_wp2_with (first
  | ((refine gate_ (.convert 9 111 (.tmp 5)) rfl ?_); refine wp_bytes rfl _ rfl Try.underlying9 Try.underlying111 Try.underlying5 s rfl hs ?_; intro g cap w1 hg hcap hc hb hsz; rw [← bytesOf_length s] at hcap; rw [← bytesOf_length s] at hc; have HC := aK hc; have HCAP := aK hcap; have HB := aK hb; rw [← bytesOf_length s]; clear hc hcap hb hg hsz)
  | (go_at_call 78; (with_reducible refine (slices_Contains_byte_byte.calls _ _ _ _ _ _ _ HC.out HCAP.out HF.out).mono ?_); rintro e w' ⟨rfl, ⟨nd, rfl⟩⟩))
 go_ret
 exact ⟨rfl, pw_below_drewN HB.out _⟩
open Go.Proofs.HMap Go.Proofs.HLaws
def isa_rows.L : List S108 := (isa_rows.f 14).getD []
theorem isa_rows.val : isa_rows.f 14 = some isa_rows.L := by kernel_rfl
theorem isa_rows.len : isa_rows.L.length = 30 := by kernel_rfl
def isa_find.row (op : Int) : S108 × Bool := if op < 30 then (isa_rows.L.getD op.toNat z108, true) else (z108, false)
theorem isa_find.all (op : Int) (h0 : 0 ≤ op) (h1 : op ≤ 255) : isa_find.f 14 op = some ((isa_find.row op).1.f0, (isa_find.row op).1.f1, (isa_find.row op).1.f2, (isa_find.row op).1.f3, (isa_find.row op).1.f4, (isa_find.row op).1.f5, (isa_find.row op).2) := by
 unfold isa_find.f isa_find.row
 rw [isa_rows.val, Option.bind_some, isa_rows.len, show wrap64 op = op by unfold wrap64; omega]
 by_cases h : op < 30
 ·rw [if_neg (by omega), if_pos h0, if_pos h, if_pos (by omega)]; rfl
 ·rw [if_pos (by omega), if_neg h]; rfl
theorem isa_find.call (op : Int) (h0 : 0 ≤ op) (h1 : op ≤ 255) (w : World) : Calls Try.prog 54 #[.int .u8 op] w fun e w' => e = .returned (.tuple #[.agg #[.string (isa_find.row op).1.f0, .string (isa_find.row op).1.f1, .int .i64 (isa_find.row op).1.f2, .int .i64 (isa_find.row op).1.f3, .string (isa_find.row op).1.f4, .string (isa_find.row op).1.f5], .bool (isa_find.row op).2]) ∧ Below w.heap.size w w' := by
 exact isa_find.calls _ _ _ _ _ _ _ _ _ _ (isa_find.all op h0 h1)
def isa_Valid.okc (r : S108) (ch x : Int) : Bool :=
 if isa_has.g r.f1 ch then (if ch = 105 then !(decide (x < r.f2) || decide (x > r.f3)) else !(decide (x < 0) || decide (x > 15))) else !(decide (x < 0) || decide (x > 0))
def isa_Valid.g (op a b c i : Int) : Bool :=
 (isa_find.row op).2 && (isa_Valid.okc (isa_find.row op).1 97 a && isa_Valid.okc (isa_find.row op).1 98 b && isa_Valid.okc (isa_find.row op).1 99 c && isa_Valid.okc (isa_find.row op).1 105 i)
theorem isa_find.ops_size (op : Int) (h0 : 0 ≤ op) (h1 : op ≤ 255) : (isa_find.row op).1.f1.size ≤ 3 := by
 unfold isa_find.row
 split
 ·obtain ⟨n, rfl⟩ := Int.eq_ofNat_of_zero_le h0
  have : ∀ m : Fin 30, (isa_rows.L.getD (m : Nat) z108).f1.size ≤ 3 := by decide +kernel
  exact this ⟨n, by omega⟩
 ·decide
theorem isa_Valid.no (op a b c i : Int) (h0 : 0 ≤ op) (h1 : op ≤ 255) (w : World) (hr : (isa_find.row op).2 = false) : Calls Try.prog 57 #[.agg #[.int .u8 op, .int .i64 a, .int .i64 b, .int .i64 c, .int .i64 i]] w fun e w' => e = .returned (.bool false) ∧ Below w.heap.size w w' := by
 have HR := aK hr
 clear hr
 go_enter Try.func57, Try.ntmps57
 go_wp2_with (go_at_call 54; (with_reducible refine (isa_find.call _ h0 h1 _).mono ?_); rw [HR.out]; rintro e w1 ⟨rfl, hb⟩; have HB := aK hb; clear hb)
 go_ret
 exact ⟨rfl, by
  refine below_alloc ?_ _
  exact below_then (below_alloc (Below.refl _ _) _) (by simp) HB.out⟩
def isa_Valid.pre (R : S108) (a b c i : Int) : Nat → Bool
 | 0 => true
 | 1 => isa_Valid.okc R 97 a
 | 2 => isa_Valid.okc R 97 a && isa_Valid.okc R 98 b
 | 3 => isa_Valid.okc R 97 a && isa_Valid.okc R 98 b && isa_Valid.okc R 99 c
 | _ => isa_Valid.okc R 97 a && isa_Valid.okc R 98 b && isa_Valid.okc R 99 c && isa_Valid.okc R 105 i
set_option maxHeartbeats 8000000 in
set_option maxRecDepth 100000 in
theorem isa_Valid.yes (op a b c i : Int) (h0 : 0 ≤ op) (h1 : op ≤ 255) (w : World) (hr : (isa_find.row op).2 = true) : Calls Try.prog 57 #[.agg #[.int .u8 op, .int .i64 a, .int .i64 b, .int .i64 c, .int .i64 i]] w fun e w' => e = .returned (.bool (isa_Valid.g op a b c i)) ∧ Below w.heap.size w w' := by
 have HR := aK hr
 have HS := aK (isa_find.ops_size op h0 h1)
 have HG := aK (show isa_Valid.g op a b c i = (isa_Valid.okc (isa_find.row op).1 97 a && isa_Valid.okc (isa_find.row op).1 98 b && isa_Valid.okc (isa_find.row op).1 99 c && isa_Valid.okc (isa_find.row op).1 105 i) by unfold isa_Valid.g; rw [hr]; simp only [Bool.true_and, Bool.and_assoc])
 have HF := aK (isa_find.call op h0 h1)
 clear hr
 generalize (isa_find.row op).1 = R at *
 generalize hG : isa_Valid.g op a b c i = G at *
 clear hG
 go_enter Try.func57, Try.ntmps57
 go_wp2_with (first
  | ((refine gate_dst (N := 1) rfl ?_); refine box_event rfl rfl (cs := #[.int .u8 op, .int .i64 a, .int .i64 b, .int .i64 c, .int .i64 i]) (t := 53) ?hr ?_; (case hr => first | (go_simp; done) | (go_simp; rfl)); intro gi hgi w1 hbox hb; have BI := aK hbox; have HB := aK hb; have hci0 := (blk_cell hbox 0).trans rfl; clear hbox hb hgi)
  | (go_at_call 54; (with_reducible refine (HF.out _).mono ?_); rw [HR.out]; rintro e w2 ⟨rfl, hb⟩; have BI2 := aK (blk_below BI.out hb); have HB2 := aK (below_step HB.out hb); clear hb hci0)
  | ((refine gate_dst (N := 18) rfl ?_); refine lit_event rfl (cs := #[.int .u8 97, .int .u8 98, .int .u8 99, .int .u8 105]) (t := 5) (n := 4) (c := 4) ?hr ?_; (case hr => first | (go_simp; done) | (go_simp; rfl)); intro gs hgs w4 hbox hb; have BS4 := aK hbox; have BI4 := aK (blk_below (blk_alloc BI2.out _) hb); have BR4 := aK (blk_below (blk_new w2 _) hb); have HB4 := aK (below_step (below_alloc HB2.out _) hb); have GS := aK (show w2.heap.size < gs by have h_ := hgs; simp at h_; omega); have GI := aK (blk_lt BI2.out); have GW := aK (below_size HB2.out); clear hbox hb hgs)
  | ((refine gate_ (.convert 111 111 (.tmp 18)) rfl ?_); refine wp_mark rfl _ rfl Try.underlying111 Try.underlying5 gs 4 4 _ rfl BS4.out ?_; intro w5 hbs hg; have BS5 := aK hbs; have BI5 := aK (blk_grown BI4.out hg (by have := GI.out; have := GS.out; simp; omega)); have BR5 := aK (blk_grown BR4.out hg (by have := GS.out; simp; omega)); have HB5 := aK (pw_below_grown HB4.out _ (below_size HB4.out) hg (by intro k hk; have := GS.out; have := GW.out; simp at hk; omega)); clear hbs hg))
 go_loopw [21] (fun v wr => ∃ j : Nat, j ≤ 4 ∧ v = .int .i64 j ∧ Aside0 (wr.heap[gi]? = some (.cells #[.int .u8 op, .int .i64 a, .int .i64 b, .int .i64 c, .int .i64 i] 53 (0, 0))) ∧ Aside0 (wr.heap[w2.heap.size]? = some (.cells #[.string R.f0, .string R.f1, .int .i64 R.f2, .int .i64 R.f3, .string R.f4, .string R.f5] 108 (0, 0))) ∧ Aside0 (wr.heap[gs]? = some (.cells #[.int .u8 97, .int .u8 98, .int .u8 99, .int .u8 105] 5 (4, 5))) ∧ Aside0 (Below w.heap.size w wr) ∧ Aside0 (isa_Valid.pre R a b c i j = true)) (fun v _ => 4 - (intOf v).toNat)
 case atStart => exact ⟨0, by omega, rfl, BI5, BR5, BS5, HB5, ⟨rfl⟩⟩
 clear BI BI2 BI4 BI5 BR4 BR5 BS4 BS5 HB HB2 HB4 HB5
 obtain ⟨j, hj, rfl, BI, BR, BS, HB, HA⟩ := hrel
 obtain rfl | rfl | rfl | rfl | rfl : j = 0 ∨ j = 1 ∨ j = 2 ∨ j = 3 ∨ j = 4 := by omega
 ·-- letter 97
  have hs0 : wr.cell? ⟨gs, 0, none⟩ = some (.int .u8 97) := (cell_of_row wr gs 0 _ _ _ BS.out).trans rfl
  have hi0 : wr.cell? ⟨gi, 1, none⟩ = some (.int .i64 a) := (blk_cell BI.out 1).trans rfl
  have hr0 : wr.cell? ⟨w2.heap.size, 1, none⟩ = some (.string R.f1) := (blk_cell BR.out 1).trans rfl
  have HH := aK (isa_has.calls R.f1 97 (by have := HS.out; omega))
  cases hh : isa_has.g R.f1 97 with
  | false =>
   have HX := aK (show isa_Valid.okc R 97 a = !(decide (a < 0) || decide (a > 0)) by unfold isa_Valid.okc; rw [hh]; rfl)
   rw [hh] at HH
   clear hh
   by_cases hl : a < 0
   ·replace HX : Aside0 (G = false) := ⟨by rw [HG.out, HX.out]; simp [hl]⟩
    have hl' : decide (a < 0) = true := by simp [hl]
    clear hl
    go_wp2_with (first | (go_at_call 56; (with_reducible refine (isa_field.call97 _ _ _).mono ?_); rintro e w' ⟨rfl, ⟨nd, rfl⟩⟩) | (go_at_call 67; (with_reducible refine (HH.out _).mono ?_); rintro e w6 ⟨rfl, hb6⟩; have BI6 := aK (blk_below (blk_drewN BI.out nd) hb6); have BR6 := aK (blk_below (blk_drewN BR.out nd) hb6); have BS6 := aK (blk_below (blk_drewN BS.out nd) hb6); have HB6 := aK (below_step (pw_below_drewN HB.out nd) hb6); clear hb6; have hr2 := (blk_cell BR6.out 2).trans rfl; have hr3 := (blk_cell BR6.out 3).trans rfl))
    go_ret
    exact ⟨by rw [HX.out]; rfl, by repeat (first | exact HB6.out | apply pw_below_drewN | apply below_drew1)⟩
   by_cases hu : a > 0
   ·replace HX : Aside0 (G = false) := ⟨by rw [HG.out, HX.out]; simp [hu]⟩
    have hl' : decide (a < 0) = false := by simp [hl]
    clear hl
    have hu' : decide (0 < a) = true := by simp at hu ⊢; exact hu
    clear hu
    go_wp2_with (first | (go_at_call 56; (with_reducible refine (isa_field.call97 _ _ _).mono ?_); rintro e w' ⟨rfl, ⟨nd, rfl⟩⟩) | (go_at_call 67; (with_reducible refine (HH.out _).mono ?_); rintro e w6 ⟨rfl, hb6⟩; have BI6 := aK (blk_below (blk_drewN BI.out nd) hb6); have BR6 := aK (blk_below (blk_drewN BR.out nd) hb6); have BS6 := aK (blk_below (blk_drewN BS.out nd) hb6); have HB6 := aK (below_step (pw_below_drewN HB.out nd) hb6); clear hb6; have hr2 := (blk_cell BR6.out 2).trans rfl; have hr3 := (blk_cell BR6.out 3).trans rfl))
    go_ret
    exact ⟨by rw [HX.out]; rfl, by repeat (first | exact HB6.out | apply pw_below_drewN | apply below_drew1)⟩
   replace HX : Aside0 (isa_Valid.okc R 97 a = true) := ⟨by rw [HX.out]; simp [hl, hu]⟩
   have hl' : decide (a < 0) = false := by simp [hl]
   clear hl
   have hu' : decide (0 < a) = false := by simp at hu ⊢; exact hu
   clear hu
   go_wp2_with (first | (go_at_call 56; (with_reducible refine (isa_field.call97 _ _ _).mono ?_); rintro e w' ⟨rfl, ⟨nd, rfl⟩⟩) | (go_at_call 67; (with_reducible refine (HH.out _).mono ?_); rintro e w6 ⟨rfl, hb6⟩; have BI6 := aK (blk_below (blk_drewN BI.out nd) hb6); have BR6 := aK (blk_below (blk_drewN BR.out nd) hb6); have BS6 := aK (blk_below (blk_drewN BS.out nd) hb6); have HB6 := aK (below_step (pw_below_drewN HB.out nd) hb6); clear hb6; have hr2 := (blk_cell BR6.out 2).trans rfl; have hr3 := (blk_cell BR6.out 3).trans rfl))
   go_roundw
   case rel => exact ⟨1, by omega, by go_num, ⟨by repeat (first | exact BI6.out | apply blk_drewN | apply blk_drew)⟩, ⟨by repeat (first | exact BR6.out | apply blk_drewN | apply blk_drew)⟩, ⟨by repeat (first | exact BS6.out | apply blk_drewN | apply blk_drew)⟩, ⟨by repeat (first | exact HB6.out | apply pw_below_drewN | apply below_drew1)⟩, ⟨by have h1_ := HA.out; have h2_ := HX.out; simp_all [isa_Valid.pre]⟩⟩
   case measure => simp [intOf]
  | true =>
   have HX := aK (show isa_Valid.okc R 97 a = !(decide (a < 0) || decide (a > 15)) by unfold isa_Valid.okc; rw [hh]; rfl)
   rw [hh] at HH
   clear hh
   by_cases hl : a < 0
   ·replace HX : Aside0 (G = false) := ⟨by rw [HG.out, HX.out]; simp [hl]⟩
    have hl' : decide (a < 0) = true := by simp [hl]
    clear hl
    go_wp2_with (first | (go_at_call 56; (with_reducible refine (isa_field.call97 _ _ _).mono ?_); rintro e w' ⟨rfl, ⟨nd, rfl⟩⟩) | (go_at_call 67; (with_reducible refine (HH.out _).mono ?_); rintro e w6 ⟨rfl, hb6⟩; have BI6 := aK (blk_below (blk_drewN BI.out nd) hb6); have BR6 := aK (blk_below (blk_drewN BR.out nd) hb6); have BS6 := aK (blk_below (blk_drewN BS.out nd) hb6); have HB6 := aK (below_step (pw_below_drewN HB.out nd) hb6); clear hb6; have hr2 := (blk_cell BR6.out 2).trans rfl; have hr3 := (blk_cell BR6.out 3).trans rfl))
    go_ret
    exact ⟨by rw [HX.out]; rfl, by repeat (first | exact HB6.out | apply pw_below_drewN | apply below_drew1)⟩
   by_cases hu : a > 15
   ·replace HX : Aside0 (G = false) := ⟨by rw [HG.out, HX.out]; simp [hu]⟩
    have hl' : decide (a < 0) = false := by simp [hl]
    clear hl
    have hu' : decide (15 < a) = true := by simp at hu ⊢; exact hu
    clear hu
    go_wp2_with (first | (go_at_call 56; (with_reducible refine (isa_field.call97 _ _ _).mono ?_); rintro e w' ⟨rfl, ⟨nd, rfl⟩⟩) | (go_at_call 67; (with_reducible refine (HH.out _).mono ?_); rintro e w6 ⟨rfl, hb6⟩; have BI6 := aK (blk_below (blk_drewN BI.out nd) hb6); have BR6 := aK (blk_below (blk_drewN BR.out nd) hb6); have BS6 := aK (blk_below (blk_drewN BS.out nd) hb6); have HB6 := aK (below_step (pw_below_drewN HB.out nd) hb6); clear hb6; have hr2 := (blk_cell BR6.out 2).trans rfl; have hr3 := (blk_cell BR6.out 3).trans rfl))
    go_ret
    exact ⟨by rw [HX.out]; rfl, by repeat (first | exact HB6.out | apply pw_below_drewN | apply below_drew1)⟩
   replace HX : Aside0 (isa_Valid.okc R 97 a = true) := ⟨by rw [HX.out]; simp [hl, hu]⟩
   have hl' : decide (a < 0) = false := by simp [hl]
   clear hl
   have hu' : decide (15 < a) = false := by simp at hu ⊢; exact hu
   clear hu
   go_wp2_with (first | (go_at_call 56; (with_reducible refine (isa_field.call97 _ _ _).mono ?_); rintro e w' ⟨rfl, ⟨nd, rfl⟩⟩) | (go_at_call 67; (with_reducible refine (HH.out _).mono ?_); rintro e w6 ⟨rfl, hb6⟩; have BI6 := aK (blk_below (blk_drewN BI.out nd) hb6); have BR6 := aK (blk_below (blk_drewN BR.out nd) hb6); have BS6 := aK (blk_below (blk_drewN BS.out nd) hb6); have HB6 := aK (below_step (pw_below_drewN HB.out nd) hb6); clear hb6; have hr2 := (blk_cell BR6.out 2).trans rfl; have hr3 := (blk_cell BR6.out 3).trans rfl))
   go_roundw
   case rel => exact ⟨1, by omega, by go_num, ⟨by repeat (first | exact BI6.out | apply blk_drewN | apply blk_drew)⟩, ⟨by repeat (first | exact BR6.out | apply blk_drewN | apply blk_drew)⟩, ⟨by repeat (first | exact BS6.out | apply blk_drewN | apply blk_drew)⟩, ⟨by repeat (first | exact HB6.out | apply pw_below_drewN | apply below_drew1)⟩, ⟨by have h1_ := HA.out; have h2_ := HX.out; simp_all [isa_Valid.pre]⟩⟩
   case measure => simp [intOf]
 ·-- letter 98
  have hs0 : wr.cell? ⟨gs, 1, none⟩ = some (.int .u8 98) := (cell_of_row wr gs 1 _ _ _ BS.out).trans rfl
  have hi0 : wr.cell? ⟨gi, 2, none⟩ = some (.int .i64 b) := (blk_cell BI.out 2).trans rfl
  have hr0 : wr.cell? ⟨w2.heap.size, 1, none⟩ = some (.string R.f1) := (blk_cell BR.out 1).trans rfl
  have HH := aK (isa_has.calls R.f1 98 (by have := HS.out; omega))
  cases hh : isa_has.g R.f1 98 with
  | false =>
   have HX := aK (show isa_Valid.okc R 98 b = !(decide (b < 0) || decide (b > 0)) by unfold isa_Valid.okc; rw [hh]; rfl)
   rw [hh] at HH
   clear hh
   by_cases hl : b < 0
   ·replace HX : Aside0 (G = false) := ⟨by rw [HG.out, HX.out]; simp [hl]⟩
    have hl' : decide (b < 0) = true := by simp [hl]
    clear hl
    go_wp2_with (first | (go_at_call 56; (with_reducible refine (isa_field.call98 _ _ _).mono ?_); rintro e w' ⟨rfl, ⟨nd, rfl⟩⟩) | (go_at_call 67; (with_reducible refine (HH.out _).mono ?_); rintro e w6 ⟨rfl, hb6⟩; have BI6 := aK (blk_below (blk_drewN BI.out nd) hb6); have BR6 := aK (blk_below (blk_drewN BR.out nd) hb6); have BS6 := aK (blk_below (blk_drewN BS.out nd) hb6); have HB6 := aK (below_step (pw_below_drewN HB.out nd) hb6); clear hb6; have hr2 := (blk_cell BR6.out 2).trans rfl; have hr3 := (blk_cell BR6.out 3).trans rfl))
    go_ret
    exact ⟨by rw [HX.out]; rfl, by repeat (first | exact HB6.out | apply pw_below_drewN | apply below_drew1)⟩
   by_cases hu : b > 0
   ·replace HX : Aside0 (G = false) := ⟨by rw [HG.out, HX.out]; simp [hu]⟩
    have hl' : decide (b < 0) = false := by simp [hl]
    clear hl
    have hu' : decide (0 < b) = true := by simp at hu ⊢; exact hu
    clear hu
    go_wp2_with (first | (go_at_call 56; (with_reducible refine (isa_field.call98 _ _ _).mono ?_); rintro e w' ⟨rfl, ⟨nd, rfl⟩⟩) | (go_at_call 67; (with_reducible refine (HH.out _).mono ?_); rintro e w6 ⟨rfl, hb6⟩; have BI6 := aK (blk_below (blk_drewN BI.out nd) hb6); have BR6 := aK (blk_below (blk_drewN BR.out nd) hb6); have BS6 := aK (blk_below (blk_drewN BS.out nd) hb6); have HB6 := aK (below_step (pw_below_drewN HB.out nd) hb6); clear hb6; have hr2 := (blk_cell BR6.out 2).trans rfl; have hr3 := (blk_cell BR6.out 3).trans rfl))
    go_ret
    exact ⟨by rw [HX.out]; rfl, by repeat (first | exact HB6.out | apply pw_below_drewN | apply below_drew1)⟩
   replace HX : Aside0 (isa_Valid.okc R 98 b = true) := ⟨by rw [HX.out]; simp [hl, hu]⟩
   have hl' : decide (b < 0) = false := by simp [hl]
   clear hl
   have hu' : decide (0 < b) = false := by simp at hu ⊢; exact hu
   clear hu
   go_wp2_with (first | (go_at_call 56; (with_reducible refine (isa_field.call98 _ _ _).mono ?_); rintro e w' ⟨rfl, ⟨nd, rfl⟩⟩) | (go_at_call 67; (with_reducible refine (HH.out _).mono ?_); rintro e w6 ⟨rfl, hb6⟩; have BI6 := aK (blk_below (blk_drewN BI.out nd) hb6); have BR6 := aK (blk_below (blk_drewN BR.out nd) hb6); have BS6 := aK (blk_below (blk_drewN BS.out nd) hb6); have HB6 := aK (below_step (pw_below_drewN HB.out nd) hb6); clear hb6; have hr2 := (blk_cell BR6.out 2).trans rfl; have hr3 := (blk_cell BR6.out 3).trans rfl))
   go_roundw
   case rel => exact ⟨2, by omega, by go_num, ⟨by repeat (first | exact BI6.out | apply blk_drewN | apply blk_drew)⟩, ⟨by repeat (first | exact BR6.out | apply blk_drewN | apply blk_drew)⟩, ⟨by repeat (first | exact BS6.out | apply blk_drewN | apply blk_drew)⟩, ⟨by repeat (first | exact HB6.out | apply pw_below_drewN | apply below_drew1)⟩, ⟨by have h1_ := HA.out; have h2_ := HX.out; simp_all [isa_Valid.pre]⟩⟩
   case measure => simp [intOf]
  | true =>
   have HX := aK (show isa_Valid.okc R 98 b = !(decide (b < 0) || decide (b > 15)) by unfold isa_Valid.okc; rw [hh]; rfl)
   rw [hh] at HH
   clear hh
   by_cases hl : b < 0
   ·replace HX : Aside0 (G = false) := ⟨by rw [HG.out, HX.out]; simp [hl]⟩
    have hl' : decide (b < 0) = true := by simp [hl]
    clear hl
    go_wp2_with (first | (go_at_call 56; (with_reducible refine (isa_field.call98 _ _ _).mono ?_); rintro e w' ⟨rfl, ⟨nd, rfl⟩⟩) | (go_at_call 67; (with_reducible refine (HH.out _).mono ?_); rintro e w6 ⟨rfl, hb6⟩; have BI6 := aK (blk_below (blk_drewN BI.out nd) hb6); have BR6 := aK (blk_below (blk_drewN BR.out nd) hb6); have BS6 := aK (blk_below (blk_drewN BS.out nd) hb6); have HB6 := aK (below_step (pw_below_drewN HB.out nd) hb6); clear hb6; have hr2 := (blk_cell BR6.out 2).trans rfl; have hr3 := (blk_cell BR6.out 3).trans rfl))
    go_ret
    exact ⟨by rw [HX.out]; rfl, by repeat (first | exact HB6.out | apply pw_below_drewN | apply below_drew1)⟩
   by_cases hu : b > 15
   ·replace HX : Aside0 (G = false) := ⟨by rw [HG.out, HX.out]; simp [hu]⟩
    have hl' : decide (b < 0) = false := by simp [hl]
    clear hl
    have hu' : decide (15 < b) = true := by simp at hu ⊢; exact hu
    clear hu
    go_wp2_with (first | (go_at_call 56; (with_reducible refine (isa_field.call98 _ _ _).mono ?_); rintro e w' ⟨rfl, ⟨nd, rfl⟩⟩) | (go_at_call 67; (with_reducible refine (HH.out _).mono ?_); rintro e w6 ⟨rfl, hb6⟩; have BI6 := aK (blk_below (blk_drewN BI.out nd) hb6); have BR6 := aK (blk_below (blk_drewN BR.out nd) hb6); have BS6 := aK (blk_below (blk_drewN BS.out nd) hb6); have HB6 := aK (below_step (pw_below_drewN HB.out nd) hb6); clear hb6; have hr2 := (blk_cell BR6.out 2).trans rfl; have hr3 := (blk_cell BR6.out 3).trans rfl))
    go_ret
    exact ⟨by rw [HX.out]; rfl, by repeat (first | exact HB6.out | apply pw_below_drewN | apply below_drew1)⟩
   replace HX : Aside0 (isa_Valid.okc R 98 b = true) := ⟨by rw [HX.out]; simp [hl, hu]⟩
   have hl' : decide (b < 0) = false := by simp [hl]
   clear hl
   have hu' : decide (15 < b) = false := by simp at hu ⊢; exact hu
   clear hu
   go_wp2_with (first | (go_at_call 56; (with_reducible refine (isa_field.call98 _ _ _).mono ?_); rintro e w' ⟨rfl, ⟨nd, rfl⟩⟩) | (go_at_call 67; (with_reducible refine (HH.out _).mono ?_); rintro e w6 ⟨rfl, hb6⟩; have BI6 := aK (blk_below (blk_drewN BI.out nd) hb6); have BR6 := aK (blk_below (blk_drewN BR.out nd) hb6); have BS6 := aK (blk_below (blk_drewN BS.out nd) hb6); have HB6 := aK (below_step (pw_below_drewN HB.out nd) hb6); clear hb6; have hr2 := (blk_cell BR6.out 2).trans rfl; have hr3 := (blk_cell BR6.out 3).trans rfl))
   go_roundw
   case rel => exact ⟨2, by omega, by go_num, ⟨by repeat (first | exact BI6.out | apply blk_drewN | apply blk_drew)⟩, ⟨by repeat (first | exact BR6.out | apply blk_drewN | apply blk_drew)⟩, ⟨by repeat (first | exact BS6.out | apply blk_drewN | apply blk_drew)⟩, ⟨by repeat (first | exact HB6.out | apply pw_below_drewN | apply below_drew1)⟩, ⟨by have h1_ := HA.out; have h2_ := HX.out; simp_all [isa_Valid.pre]⟩⟩
   case measure => simp [intOf]
 ·-- letter 99
  have hs0 : wr.cell? ⟨gs, 2, none⟩ = some (.int .u8 99) := (cell_of_row wr gs 2 _ _ _ BS.out).trans rfl
  have hi0 : wr.cell? ⟨gi, 3, none⟩ = some (.int .i64 c) := (blk_cell BI.out 3).trans rfl
  have hr0 : wr.cell? ⟨w2.heap.size, 1, none⟩ = some (.string R.f1) := (blk_cell BR.out 1).trans rfl
  have HH := aK (isa_has.calls R.f1 99 (by have := HS.out; omega))
  cases hh : isa_has.g R.f1 99 with
  | false =>
   have HX := aK (show isa_Valid.okc R 99 c = !(decide (c < 0) || decide (c > 0)) by unfold isa_Valid.okc; rw [hh]; rfl)
   rw [hh] at HH
   clear hh
   by_cases hl : c < 0
   ·replace HX : Aside0 (G = false) := ⟨by rw [HG.out, HX.out]; simp [hl]⟩
    have hl' : decide (c < 0) = true := by simp [hl]
    clear hl
    go_wp2_with (first | (go_at_call 56; (with_reducible refine (isa_field.call99 _ _ _).mono ?_); rintro e w' ⟨rfl, ⟨nd, rfl⟩⟩) | (go_at_call 67; (with_reducible refine (HH.out _).mono ?_); rintro e w6 ⟨rfl, hb6⟩; have BI6 := aK (blk_below (blk_drewN BI.out nd) hb6); have BR6 := aK (blk_below (blk_drewN BR.out nd) hb6); have BS6 := aK (blk_below (blk_drewN BS.out nd) hb6); have HB6 := aK (below_step (pw_below_drewN HB.out nd) hb6); clear hb6; have hr2 := (blk_cell BR6.out 2).trans rfl; have hr3 := (blk_cell BR6.out 3).trans rfl))
    go_ret
    exact ⟨by rw [HX.out]; rfl, by repeat (first | exact HB6.out | apply pw_below_drewN | apply below_drew1)⟩
   by_cases hu : c > 0
   ·replace HX : Aside0 (G = false) := ⟨by rw [HG.out, HX.out]; simp [hu]⟩
    have hl' : decide (c < 0) = false := by simp [hl]
    clear hl
    have hu' : decide (0 < c) = true := by simp at hu ⊢; exact hu
    clear hu
    go_wp2_with (first | (go_at_call 56; (with_reducible refine (isa_field.call99 _ _ _).mono ?_); rintro e w' ⟨rfl, ⟨nd, rfl⟩⟩) | (go_at_call 67; (with_reducible refine (HH.out _).mono ?_); rintro e w6 ⟨rfl, hb6⟩; have BI6 := aK (blk_below (blk_drewN BI.out nd) hb6); have BR6 := aK (blk_below (blk_drewN BR.out nd) hb6); have BS6 := aK (blk_below (blk_drewN BS.out nd) hb6); have HB6 := aK (below_step (pw_below_drewN HB.out nd) hb6); clear hb6; have hr2 := (blk_cell BR6.out 2).trans rfl; have hr3 := (blk_cell BR6.out 3).trans rfl))
    go_ret
    exact ⟨by rw [HX.out]; rfl, by repeat (first | exact HB6.out | apply pw_below_drewN | apply below_drew1)⟩
   replace HX : Aside0 (isa_Valid.okc R 99 c = true) := ⟨by rw [HX.out]; simp [hl, hu]⟩
   have hl' : decide (c < 0) = false := by simp [hl]
   clear hl
   have hu' : decide (0 < c) = false := by simp at hu ⊢; exact hu
   clear hu
   go_wp2_with (first | (go_at_call 56; (with_reducible refine (isa_field.call99 _ _ _).mono ?_); rintro e w' ⟨rfl, ⟨nd, rfl⟩⟩) | (go_at_call 67; (with_reducible refine (HH.out _).mono ?_); rintro e w6 ⟨rfl, hb6⟩; have BI6 := aK (blk_below (blk_drewN BI.out nd) hb6); have BR6 := aK (blk_below (blk_drewN BR.out nd) hb6); have BS6 := aK (blk_below (blk_drewN BS.out nd) hb6); have HB6 := aK (below_step (pw_below_drewN HB.out nd) hb6); clear hb6; have hr2 := (blk_cell BR6.out 2).trans rfl; have hr3 := (blk_cell BR6.out 3).trans rfl))
   go_roundw
   case rel => exact ⟨3, by omega, by go_num, ⟨by repeat (first | exact BI6.out | apply blk_drewN | apply blk_drew)⟩, ⟨by repeat (first | exact BR6.out | apply blk_drewN | apply blk_drew)⟩, ⟨by repeat (first | exact BS6.out | apply blk_drewN | apply blk_drew)⟩, ⟨by repeat (first | exact HB6.out | apply pw_below_drewN | apply below_drew1)⟩, ⟨by have h1_ := HA.out; have h2_ := HX.out; simp_all [isa_Valid.pre]⟩⟩
   case measure => simp [intOf]
  | true =>
   have HX := aK (show isa_Valid.okc R 99 c = !(decide (c < 0) || decide (c > 15)) by unfold isa_Valid.okc; rw [hh]; rfl)
   rw [hh] at HH
   clear hh
   by_cases hl : c < 0
   ·replace HX : Aside0 (G = false) := ⟨by rw [HG.out, HX.out]; simp [hl]⟩
    have hl' : decide (c < 0) = true := by simp [hl]
    clear hl
    go_wp2_with (first | (go_at_call 56; (with_reducible refine (isa_field.call99 _ _ _).mono ?_); rintro e w' ⟨rfl, ⟨nd, rfl⟩⟩) | (go_at_call 67; (with_reducible refine (HH.out _).mono ?_); rintro e w6 ⟨rfl, hb6⟩; have BI6 := aK (blk_below (blk_drewN BI.out nd) hb6); have BR6 := aK (blk_below (blk_drewN BR.out nd) hb6); have BS6 := aK (blk_below (blk_drewN BS.out nd) hb6); have HB6 := aK (below_step (pw_below_drewN HB.out nd) hb6); clear hb6; have hr2 := (blk_cell BR6.out 2).trans rfl; have hr3 := (blk_cell BR6.out 3).trans rfl))
    go_ret
    exact ⟨by rw [HX.out]; rfl, by repeat (first | exact HB6.out | apply pw_below_drewN | apply below_drew1)⟩
   by_cases hu : c > 15
   ·replace HX : Aside0 (G = false) := ⟨by rw [HG.out, HX.out]; simp [hu]⟩
    have hl' : decide (c < 0) = false := by simp [hl]
    clear hl
    have hu' : decide (15 < c) = true := by simp at hu ⊢; exact hu
    clear hu
    go_wp2_with (first | (go_at_call 56; (with_reducible refine (isa_field.call99 _ _ _).mono ?_); rintro e w' ⟨rfl, ⟨nd, rfl⟩⟩) | (go_at_call 67; (with_reducible refine (HH.out _).mono ?_); rintro e w6 ⟨rfl, hb6⟩; have BI6 := aK (blk_below (blk_drewN BI.out nd) hb6); have BR6 := aK (blk_below (blk_drewN BR.out nd) hb6); have BS6 := aK (blk_below (blk_drewN BS.out nd) hb6); have HB6 := aK (below_step (pw_below_drewN HB.out nd) hb6); clear hb6; have hr2 := (blk_cell BR6.out 2).trans rfl; have hr3 := (blk_cell BR6.out 3).trans rfl))
    go_ret
    exact ⟨by rw [HX.out]; rfl, by repeat (first | exact HB6.out | apply pw_below_drewN | apply below_drew1)⟩
   replace HX : Aside0 (isa_Valid.okc R 99 c = true) := ⟨by rw [HX.out]; simp [hl, hu]⟩
   have hl' : decide (c < 0) = false := by simp [hl]
   clear hl
   have hu' : decide (15 < c) = false := by simp at hu ⊢; exact hu
   clear hu
   go_wp2_with (first | (go_at_call 56; (with_reducible refine (isa_field.call99 _ _ _).mono ?_); rintro e w' ⟨rfl, ⟨nd, rfl⟩⟩) | (go_at_call 67; (with_reducible refine (HH.out _).mono ?_); rintro e w6 ⟨rfl, hb6⟩; have BI6 := aK (blk_below (blk_drewN BI.out nd) hb6); have BR6 := aK (blk_below (blk_drewN BR.out nd) hb6); have BS6 := aK (blk_below (blk_drewN BS.out nd) hb6); have HB6 := aK (below_step (pw_below_drewN HB.out nd) hb6); clear hb6; have hr2 := (blk_cell BR6.out 2).trans rfl; have hr3 := (blk_cell BR6.out 3).trans rfl))
   go_roundw
   case rel => exact ⟨3, by omega, by go_num, ⟨by repeat (first | exact BI6.out | apply blk_drewN | apply blk_drew)⟩, ⟨by repeat (first | exact BR6.out | apply blk_drewN | apply blk_drew)⟩, ⟨by repeat (first | exact BS6.out | apply blk_drewN | apply blk_drew)⟩, ⟨by repeat (first | exact HB6.out | apply pw_below_drewN | apply below_drew1)⟩, ⟨by have h1_ := HA.out; have h2_ := HX.out; simp_all [isa_Valid.pre]⟩⟩
   case measure => simp [intOf]
 ·-- letter 105
  have hs0 : wr.cell? ⟨gs, 3, none⟩ = some (.int .u8 105) := (cell_of_row wr gs 3 _ _ _ BS.out).trans rfl
  have hi0 : wr.cell? ⟨gi, 4, none⟩ = some (.int .i64 i) := (blk_cell BI.out 4).trans rfl
  have hr0 : wr.cell? ⟨w2.heap.size, 1, none⟩ = some (.string R.f1) := (blk_cell BR.out 1).trans rfl
  have HH := aK (isa_has.calls R.f1 105 (by have := HS.out; omega))
  cases hh : isa_has.g R.f1 105 with
  | false =>
   have HX := aK (show isa_Valid.okc R 105 i = !(decide (i < 0) || decide (i > 0)) by unfold isa_Valid.okc; rw [hh]; rfl)
   rw [hh] at HH
   clear hh
   by_cases hl : i < 0
   ·replace HX : Aside0 (G = false) := ⟨by rw [HG.out, HX.out]; simp [hl]⟩
    have hl' : decide (i < 0) = true := by simp [hl]
    clear hl
    go_wp2_with (first | (go_at_call 56; (with_reducible refine (isa_field.call105 _ _ _).mono ?_); rintro e w' ⟨rfl, ⟨nd, rfl⟩⟩) | (go_at_call 67; (with_reducible refine (HH.out _).mono ?_); rintro e w6 ⟨rfl, hb6⟩; have BI6 := aK (blk_below (blk_drewN BI.out nd) hb6); have BR6 := aK (blk_below (blk_drewN BR.out nd) hb6); have BS6 := aK (blk_below (blk_drewN BS.out nd) hb6); have HB6 := aK (below_step (pw_below_drewN HB.out nd) hb6); clear hb6; have hr2 := (blk_cell BR6.out 2).trans rfl; have hr3 := (blk_cell BR6.out 3).trans rfl))
    go_ret
    exact ⟨by rw [HX.out]; rfl, by repeat (first | exact HB6.out | apply pw_below_drewN | apply below_drew1)⟩
   by_cases hu : i > 0
   ·replace HX : Aside0 (G = false) := ⟨by rw [HG.out, HX.out]; simp [hu]⟩
    have hl' : decide (i < 0) = false := by simp [hl]
    clear hl
    have hu' : decide (0 < i) = true := by simp at hu ⊢; exact hu
    clear hu
    go_wp2_with (first | (go_at_call 56; (with_reducible refine (isa_field.call105 _ _ _).mono ?_); rintro e w' ⟨rfl, ⟨nd, rfl⟩⟩) | (go_at_call 67; (with_reducible refine (HH.out _).mono ?_); rintro e w6 ⟨rfl, hb6⟩; have BI6 := aK (blk_below (blk_drewN BI.out nd) hb6); have BR6 := aK (blk_below (blk_drewN BR.out nd) hb6); have BS6 := aK (blk_below (blk_drewN BS.out nd) hb6); have HB6 := aK (below_step (pw_below_drewN HB.out nd) hb6); clear hb6; have hr2 := (blk_cell BR6.out 2).trans rfl; have hr3 := (blk_cell BR6.out 3).trans rfl))
    go_ret
    exact ⟨by rw [HX.out]; rfl, by repeat (first | exact HB6.out | apply pw_below_drewN | apply below_drew1)⟩
   replace HX : Aside0 (isa_Valid.okc R 105 i = true) := ⟨by rw [HX.out]; simp [hl, hu]⟩
   have hl' : decide (i < 0) = false := by simp [hl]
   clear hl
   have hu' : decide (0 < i) = false := by simp at hu ⊢; exact hu
   clear hu
   go_wp2_with (first | (go_at_call 56; (with_reducible refine (isa_field.call105 _ _ _).mono ?_); rintro e w' ⟨rfl, ⟨nd, rfl⟩⟩) | (go_at_call 67; (with_reducible refine (HH.out _).mono ?_); rintro e w6 ⟨rfl, hb6⟩; have BI6 := aK (blk_below (blk_drewN BI.out nd) hb6); have BR6 := aK (blk_below (blk_drewN BR.out nd) hb6); have BS6 := aK (blk_below (blk_drewN BS.out nd) hb6); have HB6 := aK (below_step (pw_below_drewN HB.out nd) hb6); clear hb6; have hr2 := (blk_cell BR6.out 2).trans rfl; have hr3 := (blk_cell BR6.out 3).trans rfl))
   go_roundw
   case rel => exact ⟨4, by omega, by go_num, ⟨by repeat (first | exact BI6.out | apply blk_drewN | apply blk_drew)⟩, ⟨by repeat (first | exact BR6.out | apply blk_drewN | apply blk_drew)⟩, ⟨by repeat (first | exact BS6.out | apply blk_drewN | apply blk_drew)⟩, ⟨by repeat (first | exact HB6.out | apply pw_below_drewN | apply below_drew1)⟩, ⟨by have h1_ := HA.out; have h2_ := HX.out; simp_all [isa_Valid.pre]⟩⟩
   case measure => simp [intOf]
  | true =>
   have HX := aK (show isa_Valid.okc R 105 i = !(decide (i < R.f2) || decide (i > R.f3)) by unfold isa_Valid.okc; rw [hh]; rfl)
   rw [hh] at HH
   clear hh
   by_cases hl : i < R.f2
   ·replace HX : Aside0 (G = false) := ⟨by rw [HG.out, HX.out]; simp [hl]⟩
    have hl' : decide (i < R.f2) = true := by simp [hl]
    clear hl
    go_wp2_with (first | (go_at_call 56; (with_reducible refine (isa_field.call105 _ _ _).mono ?_); rintro e w' ⟨rfl, ⟨nd, rfl⟩⟩) | (go_at_call 67; (with_reducible refine (HH.out _).mono ?_); rintro e w6 ⟨rfl, hb6⟩; have BI6 := aK (blk_below (blk_drewN BI.out nd) hb6); have BR6 := aK (blk_below (blk_drewN BR.out nd) hb6); have BS6 := aK (blk_below (blk_drewN BS.out nd) hb6); have HB6 := aK (below_step (pw_below_drewN HB.out nd) hb6); clear hb6; have hr2 := (blk_cell BR6.out 2).trans rfl; have hr3 := (blk_cell BR6.out 3).trans rfl))
    go_quiet (fail)
    go_wp2
    go_ret
    exact ⟨by rw [HX.out]; rfl, by repeat (first | exact HB6.out | apply pw_below_drewN | apply below_drew1)⟩
   by_cases hu : i > R.f3
   ·replace HX : Aside0 (G = false) := ⟨by rw [HG.out, HX.out]; simp [hu]⟩
    have hl' : decide (i < R.f2) = false := by simp [hl]
    clear hl
    have hu' : decide (R.f3 < i) = true := by simp at hu ⊢; exact hu
    clear hu
    go_wp2_with (first | (go_at_call 56; (with_reducible refine (isa_field.call105 _ _ _).mono ?_); rintro e w' ⟨rfl, ⟨nd, rfl⟩⟩) | (go_at_call 67; (with_reducible refine (HH.out _).mono ?_); rintro e w6 ⟨rfl, hb6⟩; have BI6 := aK (blk_below (blk_drewN BI.out nd) hb6); have BR6 := aK (blk_below (blk_drewN BR.out nd) hb6); have BS6 := aK (blk_below (blk_drewN BS.out nd) hb6); have HB6 := aK (below_step (pw_below_drewN HB.out nd) hb6); clear hb6; have hr2 := (blk_cell BR6.out 2).trans rfl; have hr3 := (blk_cell BR6.out 3).trans rfl))
    go_quiet (fail)
    go_wp2
    go_ret
    exact ⟨by rw [HX.out]; rfl, by repeat (first | exact HB6.out | apply pw_below_drewN | apply below_drew1)⟩
   replace HX : Aside0 (isa_Valid.okc R 105 i = true) := ⟨by rw [HX.out]; simp [hl, hu]⟩
   have hl' : decide (i < R.f2) = false := by simp [hl]
   clear hl
   have hu' : decide (R.f3 < i) = false := by simp at hu ⊢; exact hu
   clear hu
   go_wp2_with (first | (go_at_call 56; (with_reducible refine (isa_field.call105 _ _ _).mono ?_); rintro e w' ⟨rfl, ⟨nd, rfl⟩⟩) | (go_at_call 67; (with_reducible refine (HH.out _).mono ?_); rintro e w6 ⟨rfl, hb6⟩; have BI6 := aK (blk_below (blk_drewN BI.out nd) hb6); have BR6 := aK (blk_below (blk_drewN BR.out nd) hb6); have BS6 := aK (blk_below (blk_drewN BS.out nd) hb6); have HB6 := aK (below_step (pw_below_drewN HB.out nd) hb6); clear hb6; have hr2 := (blk_cell BR6.out 2).trans rfl; have hr3 := (blk_cell BR6.out 3).trans rfl))
   go_quiet (fail)
   go_wp2
   go_roundw
   case rel => exact ⟨4, by omega, by go_num, ⟨by repeat (first | exact BI6.out | apply blk_drewN | apply blk_drew)⟩, ⟨by repeat (first | exact BR6.out | apply blk_drewN | apply blk_drew)⟩, ⟨by repeat (first | exact BS6.out | apply blk_drewN | apply blk_drew)⟩, ⟨by repeat (first | exact HB6.out | apply pw_below_drewN | apply below_drew1)⟩, ⟨by have h1_ := HA.out; have h2_ := HX.out; simp_all [isa_Valid.pre]⟩⟩
   case measure => simp [intOf]
 ·go_wp2
  go_ret
  exact ⟨by rw [show G = true from HG.out.trans HA.out]; rfl, HB.out⟩
theorem isa_Valid.call (op a b c i : Int) (h0 : 0 ≤ op) (h1 : op ≤ 255) (w : World) : Calls Try.prog 57 #[.agg #[.int .u8 op, .int .i64 a, .int .i64 b, .int .i64 c, .int .i64 i]] w fun e w' => e = .returned (.bool (isa_Valid.g op a b c i)) ∧ Below w.heap.size w w' := by
 cases hr : (isa_find.row op).2 with
 | true => exact isa_Valid.yes op a b c i h0 h1 w hr
 | false =>
  have : isa_Valid.g op a b c i = false := by unfold isa_Valid.g; rw [hr]; rfl
  rw [this]; exact isa_Valid.no op a b c i h0 h1 w hr
def isa_Valid.f (a b c d e : Int) : Option Bool := if 0 ≤ a then (if a ≤ 255 then some (isa_Valid.g a b c d e) else none) else none
end Go.Proofs.Ytihmfdndiicjgaa.C
